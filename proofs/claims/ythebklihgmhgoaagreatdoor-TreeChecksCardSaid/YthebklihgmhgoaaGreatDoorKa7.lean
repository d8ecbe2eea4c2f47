/- TreeChecks: of every list of nodes the function of this law returns true and never panics. Conditions: none. -/
import Derived.Test.YthebklihgmhgoaaGreatDoorKa6
import Derived.Lib.SlicesCompact
import Derived.Test.YthebklihgmhgoaaGreatDoorCards
import Derived.Test.YthebklihgmhgoaaGreatDoorTie
import Derived.WalkKit
import Derived.ProofKit
import Derived.OpenShut
import Derived.Deep.DeepHandedRow
import Derived.Deep.DeepWitnessRowRef
import Derived.Lib.LaidTab
import Derived.Carry
set_option linter.unusedVariables false
set_option linter.unusedSectionVars false
set_option linter.unusedSimpArgs false
section
namespace Go.VL
theorem strLt_iff : ∀ a b : Str, strLt a b = true ↔ a < b
  | [], [] => by simp [strLt]
  | a :: x, [] => by simp [strLt]
  | [], b :: y => by simp [strLt]
  | a :: x, b :: y => by
    rw [strLt, List.cons_lt_cons_iff, Bool.or_eq_true, Bool.and_eq_true, decide_eq_true_eq, beq_iff_eq, strLt_iff x y]
theorem tri (a b : Str) : a < b ∨ a = b ∨ b < a := by
  rcases List.le_total a b with h | h
  · by_cases e : a = b
    · exact .inr (.inl e)
    · by_cases h2 : a < b
      · exact .inl h2
      · exact absurd (List.le_antisymm h (List.not_lt.1 h2)) e
  · by_cases e : a = b
    · exact .inr (.inl e)
    · by_cases h2 : b < a
      · exact .inr (.inr h2)
      · exact absurd (List.le_antisymm (List.not_lt.1 h2) h) e
def putS (s : Str) : List Str → List Str
  | [] => [s]
  | x :: l => if strLt x s = true then x :: putS s l else if x = s then x :: l else s :: x :: l
def setS (l : List Str) : List Str := l.foldl (fun a s => putS s a) []
theorem mem_putS {s y : Str} : ∀ {l : List Str}, y ∈ putS s l ↔ y = s ∨ y ∈ l
  | [] => by simp [putS]
  | x :: l => by
    rw [putS]
    split
    · simp only [List.mem_cons, mem_putS (l := l)]
      constructor
      · rintro (h | h | h) <;> simp [h]
      · rintro (h | h | h) <;> simp [h]
    · split
      · rename_i h; subst h; simp
      · simp
theorem asc_putS {s : Str} : ∀ {l : List Str}, l.Pairwise (· < ·) → (putS s l).Pairwise (· < ·)
  | [], _ => by simp [putS]
  | x :: l, h => by
    rw [putS]
    obtain ⟨h1, h2⟩ := List.pairwise_cons.1 h
    split
    · rename_i hx
      refine List.pairwise_cons.2 ⟨fun y hy => ?_, asc_putS h2⟩
      rcases mem_putS.1 hy with rfl | hy
      · exact (strLt_iff _ _).1 hx
      · exact h1 y hy
    · rename_i hx
      split
      · exact h
      · rename_i hne
        have hlt : s < x := by
          rcases tri s x with h | h | h
          · exact h
          · exact absurd h.symm hne
          · exact absurd ((strLt_iff _ _).2 h) hx
        refine List.pairwise_cons.2 ⟨fun y hy => ?_, h⟩
        rcases List.mem_cons.1 hy with rfl | hy
        · exact hlt
        · exact List.lt_trans hlt (h1 y hy)
theorem setS_acc : ∀ (l a : List Str), a.Pairwise (· < ·) → (l.foldl (fun a s => putS s a) a).Pairwise (· < ·) ∧ ∀ y, y ∈ l.foldl (fun a s => putS s a) a ↔ y ∈ l ∨ y ∈ a
  | [], a, h => ⟨h, fun y => by simp⟩
  | s :: l, a, h => by
    obtain ⟨h1, h2⟩ := setS_acc l (putS s a) (asc_putS h)
    refine ⟨h1, fun y => ?_⟩
    rw [List.foldl_cons, h2 y, mem_putS, List.mem_cons]
    constructor
    · rintro (h | h | h) <;> simp [h]
    · rintro ((h | h) | h) <;> simp [h]
theorem setS_asc (l : List Str) : (setS l).Pairwise (· < ·) := (setS_acc l [] List.Pairwise.nil).1
theorem setS_mem {l : List Str} {y : Str} : y ∈ setS l ↔ y ∈ l := by rw [setS, (setS_acc l [] List.Pairwise.nil).2 y]; simp
theorem asc_uniq {l m : List Str} (hl : l.Pairwise (· < ·)) (hm : m.Pairwise (· < ·)) (h : ∀ y, y ∈ l ↔ y ∈ m) : l = m := by
  have nd : ∀ {l : List Str}, l.Pairwise (· < ·) → l.Nodup := fun h => h.imp (S := fun a b => a ≠ b) fun {a b} hab e => List.lt_irrefl a (by rw [← e] at hab; exact hab)
  have hp : l.Perm m := (List.perm_ext_iff_of_nodup (nd hl) (nd hm)).2 h
  exact List.Perm.eq_of_pairwise (le := (· < ·)) (fun a b _ _ h1 h2 => absurd (List.lt_trans h1 h2) (List.lt_irrefl a)) hl hm hp
theorem compactUpTo_spec (d : Array Str) (hd : ∀ i j, i < j → j < d.size → d[i]! ≤ d[j]!) : ∀ m, m ≤ d.size → (Lib.compactUpTo d m).Pairwise (· < ·) ∧ (∀ x ∈ Lib.compactUpTo d m, ∃ j, j < m ∧ x = d[j]!) ∧ (∀ j, j < m → d[j]! ∈ Lib.compactUpTo d m)
  | 0, _ => ⟨List.Pairwise.nil, fun x h => (by simp [Lib.compactUpTo] at h), fun j h => absurd h (Nat.not_lt_zero _)⟩
  | m + 1, hm => by
    obtain ⟨h1, h2, h3⟩ := compactUpTo_spec d hd m (by omega)
    rw [Lib.compactUpTo_succ]
    cases hk : Lib.keeps d m with
    | true =>
      rw [if_pos rfl]
      refine ⟨List.pairwise_append.2 ⟨h1, List.pairwise_singleton _ _, fun a ha b hb => ?_⟩, fun x hx => ?_, fun j hj => ?_⟩
      · rw [List.mem_singleton] at hb
        subst hb
        obtain ⟨j, hj, rfl⟩ := h2 a ha
        have hne : d[m]! ≠ d[m - 1]! := by
          unfold Lib.keeps at hk
          rw [decide_eq_true_eq] at hk
          rcases hk with h | h
          · omega
          · exact h
        have h4 : d[j]! ≤ d[m - 1]! := by
          by_cases e : j = m - 1
          · rw [e]; exact List.le_refl _
          · exact hd j (m - 1) (by omega) (by omega)
        have h5 : d[m - 1]! ≤ d[m]! := hd (m - 1) m (by omega) (by omega)
        have h6 : d[m - 1]! < d[m]! := by
          rcases tri d[m - 1]! d[m]! with h | h | h
          · exact h
          · exact absurd h.symm hne
          · exact absurd (List.le_antisymm h5 (List.le_of_lt h)).symm hne
        rcases tri d[j]! d[m]! with h | h | h
        · exact h
        · rw [h] at h4
          exact absurd (List.le_antisymm h4 h5) hne
        · have h7 := List.lt_trans h6 h
          exact absurd (List.le_antisymm h4 (List.le_of_lt h7)) (fun e => List.lt_irrefl _ (e ▸ h7))
      · rcases List.mem_append.1 hx with hx | hx
        · obtain ⟨j, hj, e⟩ := h2 x hx; exact ⟨j, by omega, e⟩
        · rw [List.mem_singleton] at hx; exact ⟨m, Nat.lt_succ_self _, hx⟩
      · by_cases e : j = m
        · subst e; exact List.mem_append_right _ (List.mem_singleton.2 rfl)
        · exact List.mem_append_left _ (h3 j (by omega))
    | false =>
      rw [if_neg (by simp), List.append_nil]
      refine ⟨h1, fun x hx => ?_, fun j hj => ?_⟩
      · obtain ⟨j, hj, e⟩ := h2 x hx; exact ⟨j, by omega, e⟩
      · by_cases e : j = m
        · subst e
          unfold Lib.keeps at hk
          rw [decide_eq_false_iff_not, not_or, Decidable.not_not] at hk
          rw [hk.2]
          exact h3 (j - 1) (by omega)
        · exact h3 j (by omega)
theorem compact_sort (l : List Str) : Lib.compact (l.mergeSort fun x y => decide (x ≤ y)) = setS l := by
  have tr : ∀ a b c : Str, decide (a ≤ b) = true → decide (b ≤ c) = true → decide (a ≤ c) = true := fun a b c h1 h2 => by simp only [decide_eq_true_eq] at *; exact List.le_trans h1 h2
  have tot : ∀ a b : Str, (decide (a ≤ b) || decide (b ≤ a)) = true := fun a b => by simp only [Bool.or_eq_true, decide_eq_true_eq]; exact List.le_total a b
  have hs := List.pairwise_mergeSort (le := fun x y : Str => decide (x ≤ y)) tr tot l
  have hp := List.mergeSort_perm l (fun x y : Str => decide (x ≤ y))
  generalize (l.mergeSort fun x y => decide (x ≤ y)) = m at hs hp
  have hd : ∀ i j, i < j → j < m.toArray.size → m.toArray[i]! ≤ m.toArray[j]! := fun i j hij hj => by
    have hj' : j < m.length := by simpa using hj
    have := List.pairwise_iff_getElem.1 hs i j (by omega) hj' hij
    rw [decide_eq_true_eq] at this
    simp [hj', show i < m.length by omega]
    exact this
  obtain ⟨h1, h2, h3⟩ := compactUpTo_spec m.toArray hd m.length (by simp)
  refine asc_uniq h1 (setS_asc l) fun y => ?_
  rw [setS_mem, ← hp.mem_iff]
  constructor
  · intro h
    obtain ⟨j, hj, rfl⟩ := h2 y h
    simp [hj]
  · intro h
    obtain ⟨j, hj, rfl⟩ := List.getElem_of_mem h
    have := h3 j hj
    unfold Lib.compact
    simpa [hj] using this
end Go.VL
end
section
set_option maxRecDepth 8000
namespace Go.VL
open Go.Proofs
def t_free (k : Nat) (e : List Nd) : Option (List Str) :=
  Option.bind (walkF (freeStep k e) e k (IntKind.wrap .i64 ((e.length : Int) - 1)) [] []) fun out => if out.length < 4611686018427387904 then some (setS out) else none
theorem t_free_c (k : Nat) (e : List Nd) {c : Ck} {r : List Str} (h : t_free k e = some r) : PCall Tryz.prog 68 [.isl (e.map Nd.cells) c] (.isl (r.map strL) .unk) := by
  refine PCall.wk (args := [exprPV e]) ?_ (.isl .nil)
  refine PCall.of_empty (PuL.mem (.cons (pu_sl Nd.pu _) .nil)) (MCall_of_W ok68 (by simp) (W_start ?_)) (pu_sl pu_strL _)
  unfold t_free at h
  cases e1 : walkF (freeStep k e) e k (IntKind.wrap .i64 ((e.length : Int) - 1)) [] [] with
  | none => rw [bind_N e1] at h; cases h
  | some out =>
  rw [bind_S e1] at h
  by_cases e2 : out.length < 4611686018427387904
  case neg => rw [if_neg e2] at h; cases h
  rw [if_pos e2] at h
  have h := Option.some.inj h; subst h
  unfold ac68
  simp -implicitDefEqProofs only [go_sem, ↓reduceIte, Nat.reduceEqDiff, Nat.reduceAdd, List.length_map]
  have hS : FreeS e (AH.empty.next) (AH.empty.next + 1) [] ((AH.empty.new [exprPV e]).new [.isl [] .nil]) := by
    refine ⟨(show 0 < 2 by omega), (show 1 < 2 by omega), by decide, rfl, .isl [] .nil, [], rfl, RowN.nil, List.not_mem_nil, List.not_mem_nil⟩
  refine MCall.mono (MCall.wk (walk70 (free_visit k e _ _) e k _ [] [] out _ hS e1) (.same (.same (.isl (.same .nil))))) fun r H1 hS1 => ?_
  obtain ⟨h1, h2, h3, h4, v, ids, h5, h6, h7, h8⟩ := hS1
  simp -implicitDefEqProofs only [go_sem, ↓reduceIte, Nat.reduceEqDiff, h5]
  refine MCall.mono (sort66 h6 e2) fun r2 H2 ⟨g1, g2, g3⟩ => ?_
  have h5' : H2.obj (AH.empty.next + 1) = some [v] := (g2.2 _ h2 h8).trans h5
  simp -implicitDefEqProofs only [go_sem, ↓reduceIte, Nat.reduceEqDiff, h5']
  refine MCall.mono (compact119 g1 (by rw [show (sortS out).length = out.length from List.length_mergeSort _]; exact e2)) fun r3 H3 ⟨f1, f2, f3⟩ => ?_
  simp -implicitDefEqProofs only [go_sem, ↓reduceIte, Nat.reduceEqDiff]
  have hc : Lib.compact (sortS out) = setS out := compact_sort out
  rw [← hc]
  exact f1.fz pu_strL
end Go.VL
end
section
namespace Go.VL
open Go.Proofs
def noS2 {α β : Type} (a : α) (b : β) : Option Str := none
def noS3 {α β γ : Type} (a : α) (b : β) (c : γ) : Option Str := none
theorem no2_c {α β : Type} (a : α) (b : β) {f : FuncId} {r : Str} {args : List PV} (h : noS2 a b = some r) : PCall Tryz.prog f args (.str r) := by cases h
theorem no3_c {α β γ : Type} (a : α) (b : β) (c : γ) {f : FuncId} {r : Str} {args : List PV} (h : noS3 a b c = some r) : PCall Tryz.prog f args (.str r) := by cases h
end Go.VL
end
section
set_option maxRecDepth 8000
set_option maxHeartbeats 4000000
namespace Go.VL
open Go.Proofs
def t_operator (k : Nat) (p_0 : Printer) (at_1 : Int) : Option (Operator × Bool) :=
  if 0 ≤ at_1 then Option.bind (p_0.e[at_1.toNat]?) fun x2 => cond (x2.kind != 3) (some ((Operator.mk [] 0 0 0 false 0 0), false)) (Option.bind (t_operatorOf k x2.text) fun p6 => some (p6.1, p6.2)) else none
theorem t_operator_u (k : Nat) (p_0 : Printer) (at_1 : Int) {r : Operator × Bool} (h : t_operator k p_0 at_1 = some r) : PCall Tryz.prog 100 [(.agg (Printer.cells p_0)), (.int .i64 at_1)] (.tup [(.agg (Operator.cells r.1)), (.bool r.2)]) := by
  refine PCall.of_empty (PuL.mem (.cons (.agg _ (Printer.pu _)) (.cons (.int _ _) .nil))) (MCall_of_W ok100 (by simp) (W_start ?_)) (.tup _ (PuL.mem (.cons (.agg _ (Operator.pu _)) (.cons (.bool _) .nil))))
  unfold t_operator at h
  unfold ac100
  obtain ⟨e1, h⟩ := if_E h
  obtain ⟨x2, e3, h⟩ := bind_E h
  rcases cond_E h with ⟨e4, h⟩ | ⟨e4, h⟩
  ·obtain rfl := som_E h
   simp -implicitDefEqProofs only [go_sem, WO_store, e1, e3, e4]
   exact (fz_tup (.cons (fz_agg (.cons (.pure _ (.str _)) (.cons (.pure _ (.int _ _)) (.cons (.pure _ (.int _ _)) (.cons (.pure _ (.int _ _)) (.cons (.pure _ (.bool _)) (.cons (.pure _ (.int _ _)) (.cons (.pure _ (.int _ _)) .nil)))))))) (.cons (.pure _ (.bool _)) .nil)))
  ·obtain ⟨p6, e5, h⟩ := bind_E h
   simp -implicitDefEqProofs only [go_sem, e1, e3, e4]
   refine mcall_pure (t_operatorOf_c k x2.text e5) ?_
   obtain rfl := som_E h
   simp -implicitDefEqProofs only [go_sem, WO_store]
   exact (fz_tup (.cons (fz_agg (.cons (.pure _ (.str _)) (.cons (.pure _ (.int _ _)) (.cons (.pure _ (.int _ _)) (.cons (.pure _ (.int _ _)) (.cons (.pure _ (.bool _)) (.cons (.pure _ (.int _ _)) (.cons (.pure _ (.int _ _)) .nil)))))))) (.cons (.pure _ (.bool _)) .nil)))
theorem t_operator_c (k : Nat) (p_0 : Printer) (at_1 : Int) {r : Operator × Bool} (h : t_operator k p_0 at_1 = some r) : PCall Tryz.prog 100 [(.agg (Printer.cells p_0)), (.int .i64 at_1)] (.tup [(.agg (Operator.cells r.1)), (.bool r.2)]) := t_operator_u k p_0 at_1 h
def t_OperatorOf (k : Nat) (text_0 : Str) : Option (Operator × Int) :=
  Option.bind (t_operatorOf k text_0) fun p2 => Option.bind (t_wrong (!p2.2) 10) fun p4 => some (p2.1, p4)
theorem t_OperatorOf_u (k : Nat) (text_0 : Str) {r : Operator × Int} (h : t_OperatorOf k text_0 = some r) : PCall Tryz.prog 26 [(.str text_0)] (.tup [(.agg (Operator.cells r.1)), (.int .i64 r.2)]) := by
  refine PCall.of_empty (PuL.mem (.cons (.str _) .nil)) (MCall_of_W ok26 (by simp) (W_start ?_)) (.tup _ (PuL.mem (.cons (.agg _ (Operator.pu _)) (.cons (.int _ _) .nil))))
  unfold t_OperatorOf at h
  unfold ac26
  obtain ⟨p2, e1, h⟩ := bind_E h
  simp -implicitDefEqProofs only [go_sem]
  refine mcall_pure (t_operatorOf_c k text_0 e1) ?_
  simp -implicitDefEqProofs only [go_sem, WO_store]
  refine WS_parS ?_
  obtain ⟨p4, e3, h⟩ := bind_E h
  simp -implicitDefEqProofs only [go_sem]
  refine PC.mk (t_wrong_c (!p2.2) 10 e3) ?_
  obtain rfl := som_E h
  simp -implicitDefEqProofs only [go_sem, WO_store]
  exact (fz_tup (.cons (fz_agg (.cons (.pure _ (.str _)) (.cons (.pure _ (.int _ _)) (.cons (.pure _ (.int _ _)) (.cons (.pure _ (.int _ _)) (.cons (.pure _ (.bool _)) (.cons (.pure _ (.int _ _)) (.cons (.pure _ (.int _ _)) .nil)))))))) (.cons (.pure _ (.int _ _)) .nil)))
theorem t_OperatorOf_c (k : Nat) (text_0 : Str) {r : Operator × Int} (h : t_OperatorOf k text_0 = some r) : PCall Tryz.prog 26 [(.str text_0)] (.tup [(.agg (Operator.cells r.1)), (.int .i64 r.2)]) := t_OperatorOf_u k text_0 h
def t_text_p0 (k : Nat) (at_1 : Int) (p_3_0 : List Nd) (t_10 : Bool) : Option Bool :=
  cond t_10 (if 0 ≤ at_1 then Option.bind (p_3_0[at_1.toNat]?) fun x3 => Option.bind (t_isOpen k x3.kind) fun p6 => some (p6) else none) (some (false))
def t_text_p0l : List Nat := [11, 12, 13, 14, 15, 16, 17, 18]
theorem t_text_p0_W (k : Nat) : ∀ (o_p_3 : Nat) (at_1 : Int) (p_3_0 : List Nd) (t_10 : Bool) (σ0 σ : Nat → PV) (H : AH) (f0 : Fr t_text_p0l σ0 σ) (sl : σ 1 = (.int .i64 at_1) ∧ σ 3 = (.ref (o_p_3) 0) ∧ σ 10 = (.bool t_10) ∧ H.obj o_p_3 = some [(.isl (p_3_0.map Nd.cells) .unk)]) (l_o_p_3 : o_p_3 < H.next) (o : Bool) (h : t_text_p0 k at_1 p_3_0 t_10 = some o) (Q : Post) (q0 : ∀ (p : Bool) (σ' : Nat → PV), o = p → Fr t_text_p0l σ0 σ' → (σ' 18 = (.bool p)) → Q .normal σ' H) , WOps Tryz.prog ac59_p0 (Q .normal) σ H := by
  intro o_p_3 at_1 p_3_0 t_10 σ0 σ H f0 sl l_o_p_3 o h Q q0
  obtain ⟨s1, s3, s10, g_o_p_3⟩ := sl
  have n_o_p_3 := ne_next l_o_p_3
  have m_o_p_3 := ne_add l_o_p_3
  unfold t_text_p0 at h
  refine WO_start ?_
  unfold ac59_p0
  rcases cond_E h with ⟨e1, h⟩ | ⟨e1, h⟩
  ·obtain ⟨e2, h⟩ := if_E h
   obtain ⟨x3, e4, h⟩ := bind_E h
   obtain ⟨p6, e5, h⟩ := bind_E h
   simp -implicitDefEqProofs only [go_sem, s1, s3, s10, g_o_p_3, e1, e2, e4]
   refine mcall_pure (t_isOpen_c k x3.kind e5) ?_
   obtain rfl := som_E h
   simp -implicitDefEqProofs only [go_sem, s10, e1]
   exact q0 _ _ rfl (by repeat (first | exact f0 | refine Fr.upd (by decide) ?_)) (by simp -implicitDefEqProofs only [go_sem])
  ·obtain rfl := som_E h
   simp -implicitDefEqProofs only [go_sem, s10, e1]
   exact q0 _ _ rfl (by repeat (first | exact f0 | refine Fr.upd (by decide) ?_)) (by simp -implicitDefEqProofs only [go_sem])
def t_applied_p0 (o_6_0 : Str) (o_6_1 : Int) (o_6_2 : Int) (o_6_3 : Int) (o_6_4 : Bool) (o_6_5 : Int) (o_6_6 : Int) (x_12_0 : Str) (x_12_1 : Int) (x_12_2 : Int) (x_12_3 : Int) (x_12_4 : Bool) (x_12_5 : Int) (x_12_6 : Int) (t_70 : Bool) : Option Bool :=
  cond t_70 (cond (x_12_1 == 0) (cond (decide (x_12_2 < o_6_2)) (some (true)) (cond (x_12_1 != 0) (cond (decide (x_12_2 ≤ o_6_3)) (some (true)) (cond (x_12_0 == ([45, 46] : Str)) (some ((o_6_0 == ([45, 46] : Str)))) (some (false)))) (cond (x_12_0 == ([45, 46] : Str)) (some ((o_6_0 == ([45, 46] : Str)))) (some (false))))) (cond (x_12_1 != 0) (cond (decide (x_12_2 ≤ o_6_3)) (some (true)) (cond (x_12_0 == ([45, 46] : Str)) (some ((o_6_0 == ([45, 46] : Str)))) (some (false)))) (cond (x_12_0 == ([45, 46] : Str)) (some ((o_6_0 == ([45, 46] : Str)))) (some (false))))) (some (false))
def t_applied_p0l : List Nat := [71, 72, 73, 74, 75, 76, 77, 78, 79, 80, 81, 82, 83, 84, 85, 86, 87, 88, 89, 90, 91, 92, 93, 94, 95, 96, 97, 98, 99, 100, 101, 102, 103]
theorem t_applied_p0_W : ∀ (o_o_6 : Nat) (o_x_12 : Nat) (o_6_0 : Str) (o_6_1 : Int) (o_6_2 : Int) (o_6_3 : Int) (o_6_4 : Bool) (o_6_5 : Int) (o_6_6 : Int) (x_12_0 : Str) (x_12_1 : Int) (x_12_2 : Int) (x_12_3 : Int) (x_12_4 : Bool) (x_12_5 : Int) (x_12_6 : Int) (t_70 : Bool) (σ0 σ : Nat → PV) (H : AH) (f0 : Fr t_applied_p0l σ0 σ) (sl : σ 6 = (.ref (o_o_6) 0) ∧ σ 12 = (.ref (o_x_12) 0) ∧ σ 70 = (.bool t_70) ∧ H.obj o_o_6 = some [(.str o_6_0), (.int .i64 o_6_1), (.int .i64 o_6_2), (.int .i64 o_6_3), (.bool o_6_4), (.int .i64 o_6_5), (.int .i64 o_6_6)] ∧ H.obj o_x_12 = some [(.str x_12_0), (.int .i64 x_12_1), (.int .i64 x_12_2), (.int .i64 x_12_3), (.bool x_12_4), (.int .i64 x_12_5), (.int .i64 x_12_6)]) (l_o_o_6 : o_o_6 < H.next) (l_o_x_12 : o_x_12 < H.next) (d_o_o_6_o_x_12 : o_o_6 ≠ o_x_12) (o : Bool) (h : t_applied_p0 o_6_0 o_6_1 o_6_2 o_6_3 o_6_4 o_6_5 o_6_6 x_12_0 x_12_1 x_12_2 x_12_3 x_12_4 x_12_5 x_12_6 t_70 = some o) (Q : Post) (q0 : ∀ (p : Bool) (σ' : Nat → PV), o = p → Fr t_applied_p0l σ0 σ' → (σ' 103 = (.bool p)) → Q .normal σ' H) , WOps Tryz.prog ac101_p0 (Q .normal) σ H := by
  intro o_o_6 o_x_12 o_6_0 o_6_1 o_6_2 o_6_3 o_6_4 o_6_5 o_6_6 x_12_0 x_12_1 x_12_2 x_12_3 x_12_4 x_12_5 x_12_6 t_70 σ0 σ H f0 sl l_o_o_6 l_o_x_12 d_o_o_6_o_x_12 o h Q q0
  obtain ⟨s6, s12, s70, g_o_o_6, g_o_x_12⟩ := sl
  have n_o_o_6 := ne_next l_o_o_6
  have m_o_o_6 := ne_add l_o_o_6
  have n_o_x_12 := ne_next l_o_x_12
  have m_o_x_12 := ne_add l_o_x_12
  have e_o_o_6_o_x_12 := eq_false d_o_o_6_o_x_12
  have r_o_o_6_o_x_12 := eq_false (Ne.symm d_o_o_6_o_x_12)
  unfold t_applied_p0 at h
  refine WO_start ?_
  unfold ac101_p0
  rcases cond_E h with ⟨e21, h⟩ | ⟨e21, h⟩
  ·rcases cond_E h with ⟨e22, h⟩ | ⟨e22, h⟩
   ·rcases cond_E h with ⟨e23, h⟩ | ⟨e23, h⟩
    ·obtain rfl := som_E h
     simp -implicitDefEqProofs only [go_sem, s6, s12, s70, g_o_o_6, g_o_x_12, e21, e22, e23]
     exact q0 _ _ rfl (by repeat (first | exact f0 | refine Fr.upd (by decide) ?_)) (by simp -implicitDefEqProofs only [go_sem])
    ·rcases cond_E h with ⟨e24, h⟩ | ⟨e24, h⟩
     ·rcases cond_E h with ⟨e25, h⟩ | ⟨e25, h⟩
      ·obtain rfl := som_E h
       simp -implicitDefEqProofs only [go_sem, s6, s12, s70, g_o_o_6, g_o_x_12, e21, e22, e23, e24, e25]
       exact q0 _ _ rfl (by repeat (first | exact f0 | refine Fr.upd (by decide) ?_)) (by simp -implicitDefEqProofs only [go_sem])
      ·rcases cond_E h with ⟨e26, h⟩ | ⟨e26, h⟩
       ·obtain rfl := som_E h
        simp -implicitDefEqProofs only [go_sem, s6, s12, s70, g_o_o_6, g_o_x_12, e21, e22, e23, e24, e25, e26]
        exact q0 _ _ rfl (by repeat (first | exact f0 | refine Fr.upd (by decide) ?_)) (by simp -implicitDefEqProofs only [go_sem])
       ·obtain rfl := som_E h
        simp -implicitDefEqProofs only [go_sem, s6, s12, s70, g_o_o_6, g_o_x_12, e21, e22, e23, e24, e25, e26]
        exact q0 _ _ rfl (by repeat (first | exact f0 | refine Fr.upd (by decide) ?_)) (by simp -implicitDefEqProofs only [go_sem])
     ·rcases cond_E h with ⟨e27, h⟩ | ⟨e27, h⟩
      ·obtain rfl := som_E h
       simp -implicitDefEqProofs only [go_sem, s6, s12, s70, g_o_o_6, g_o_x_12, e21, e22, e23, e24, e27]
       exact q0 _ _ rfl (by repeat (first | exact f0 | refine Fr.upd (by decide) ?_)) (by simp -implicitDefEqProofs only [go_sem])
      ·obtain rfl := som_E h
       simp -implicitDefEqProofs only [go_sem, s6, s12, s70, g_o_o_6, g_o_x_12, e21, e22, e23, e24, e27]
       exact q0 _ _ rfl (by repeat (first | exact f0 | refine Fr.upd (by decide) ?_)) (by simp -implicitDefEqProofs only [go_sem])
   ·rcases cond_E h with ⟨e28, h⟩ | ⟨e28, h⟩
    ·rcases cond_E h with ⟨e29, h⟩ | ⟨e29, h⟩
     ·obtain rfl := som_E h
      simp -implicitDefEqProofs only [go_sem, s6, s12, s70, g_o_o_6, g_o_x_12, e21, e22, e28, e29]
      exact q0 _ _ rfl (by repeat (first | exact f0 | refine Fr.upd (by decide) ?_)) (by simp -implicitDefEqProofs only [go_sem])
     ·rcases cond_E h with ⟨e30, h⟩ | ⟨e30, h⟩
      ·obtain rfl := som_E h
       simp -implicitDefEqProofs only [go_sem, s6, s12, s70, g_o_o_6, g_o_x_12, e21, e22, e28, e29, e30]
       exact q0 _ _ rfl (by repeat (first | exact f0 | refine Fr.upd (by decide) ?_)) (by simp -implicitDefEqProofs only [go_sem])
      ·obtain rfl := som_E h
       simp -implicitDefEqProofs only [go_sem, s6, s12, s70, g_o_o_6, g_o_x_12, e21, e22, e28, e29, e30]
       exact q0 _ _ rfl (by repeat (first | exact f0 | refine Fr.upd (by decide) ?_)) (by simp -implicitDefEqProofs only [go_sem])
    ·rcases cond_E h with ⟨e31, h⟩ | ⟨e31, h⟩
     ·obtain rfl := som_E h
      simp -implicitDefEqProofs only [go_sem, s6, s12, s70, g_o_o_6, g_o_x_12, e21, e22, e28, e31]
      exact q0 _ _ rfl (by repeat (first | exact f0 | refine Fr.upd (by decide) ?_)) (by simp -implicitDefEqProofs only [go_sem])
     ·obtain rfl := som_E h
      simp -implicitDefEqProofs only [go_sem, s12, s70, g_o_x_12, e21, e22, e28, e31]
      exact q0 _ _ rfl (by repeat (first | exact f0 | refine Fr.upd (by decide) ?_)) (by simp -implicitDefEqProofs only [go_sem])
  ·obtain rfl := som_E h
   simp -implicitDefEqProofs only [go_sem, s70, e21]
   exact q0 _ _ rfl (by repeat (first | exact f0 | refine Fr.upd (by decide) ?_)) (by simp -implicitDefEqProofs only [go_sem])
def t_applied_p1 (o_6_0 : Str) (o_6_1 : Int) (o_6_2 : Int) (o_6_3 : Int) (o_6_4 : Bool) (o_6_5 : Int) (o_6_6 : Int) (t_115 : Bool) : Option Bool :=
  cond t_115 (Option.bind (o_6_0[0]?) fun x47 => some ((decide ((x47.toNat : Int) ≤ 90)))) (some (false))
def t_applied_p1l : List Nat := [116, 117, 118, 119, 120]
theorem t_applied_p1_W : ∀ (o_o_6 : Nat) (o_6_0 : Str) (o_6_1 : Int) (o_6_2 : Int) (o_6_3 : Int) (o_6_4 : Bool) (o_6_5 : Int) (o_6_6 : Int) (t_115 : Bool) (σ0 σ : Nat → PV) (H : AH) (f0 : Fr t_applied_p1l σ0 σ) (sl : σ 6 = (.ref (o_o_6) 0) ∧ σ 115 = (.bool t_115) ∧ H.obj o_o_6 = some [(.str o_6_0), (.int .i64 o_6_1), (.int .i64 o_6_2), (.int .i64 o_6_3), (.bool o_6_4), (.int .i64 o_6_5), (.int .i64 o_6_6)]) (l_o_o_6 : o_o_6 < H.next) (o : Bool) (h : t_applied_p1 o_6_0 o_6_1 o_6_2 o_6_3 o_6_4 o_6_5 o_6_6 t_115 = some o) (Q : Post) (q0 : ∀ (p : Bool) (σ' : Nat → PV), o = p → Fr t_applied_p1l σ0 σ' → (σ' 120 = (.bool p)) → Q .normal σ' H) , WOps Tryz.prog ac101_p1 (Q .normal) σ H := by
  intro o_o_6 o_6_0 o_6_1 o_6_2 o_6_3 o_6_4 o_6_5 o_6_6 t_115 σ0 σ H f0 sl l_o_o_6 o h Q q0
  obtain ⟨s6, s115, g_o_o_6⟩ := sl
  have n_o_o_6 := ne_next l_o_o_6
  have m_o_o_6 := ne_add l_o_o_6
  unfold t_applied_p1 at h
  refine WO_start ?_
  unfold ac101_p1
  rcases cond_E h with ⟨e46, h⟩ | ⟨e46, h⟩
  ·obtain ⟨x47, e48, h⟩ := bind_E h
   obtain rfl := som_E h
   simp -implicitDefEqProofs only [go_sem, s6, s115, g_o_o_6, e46, e48]
   exact q0 _ _ rfl (by repeat (first | exact f0 | refine Fr.upd (by decide) ?_)) (by simp -implicitDefEqProofs only [go_sem])
  ·obtain rfl := som_E h
   simp -implicitDefEqProofs only [go_sem, s115, e46]
   exact q0 _ _ rfl (by repeat (first | exact f0 | refine Fr.upd (by decide) ?_)) (by simp -implicitDefEqProofs only [go_sem])
def t_applied_j2 (o_6_0 : Str) (o_6_1 : Int) (o_6_2 : Int) (o_6_3 : Int) (o_6_4 : Bool) (o_6_5 : Int) (o_6_6 : Int) (word_15 : Str) : Option Str :=
  cond (o_6_0 == ([45, 46] : Str)) (some (([45] : Str))) (Option.bind (o_6_0[0]?) fun x44 => Option.bind (t_applied_p1 o_6_0 o_6_1 o_6_2 o_6_3 o_6_4 o_6_5 o_6_6 (decide ((x44.toNat : Int) ≥ 65))) (fun p51 => cond p51 (if word_15.length + ([32] : Str).length ≤ 4611686018427387904 then some ((word_15 ++ ([32] : Str))) else none) (some (word_15))))
def t_applied_j2l : List Nat := [15, 106, 107, 108, 109, 110, 111, 112, 113, 114, 115, 116, 117, 118, 119, 120, 121, 122]
theorem t_applied_j2_W : ∀ (o_o_6 : Nat) (o_6_0 : Str) (o_6_1 : Int) (o_6_2 : Int) (o_6_3 : Int) (o_6_4 : Bool) (o_6_5 : Int) (o_6_6 : Int) (word_15 : Str) (σ0 σ : Nat → PV) (H : AH) (f0 : Fr t_applied_j2l σ0 σ) (sl : σ 6 = (.ref (o_o_6) 0) ∧ σ 15 = (.str word_15) ∧ H.obj o_o_6 = some [(.str o_6_0), (.int .i64 o_6_1), (.int .i64 o_6_2), (.int .i64 o_6_3), (.bool o_6_4), (.int .i64 o_6_5), (.int .i64 o_6_6)]) (l_o_o_6 : o_o_6 < H.next) (o : Str) (h : t_applied_j2 o_6_0 o_6_1 o_6_2 o_6_3 o_6_4 o_6_5 o_6_6 word_15 = some o) (Q : Post) (q0 : ∀ (p : Str) (σ' : Nat → PV), o = p → Fr t_applied_j2l σ0 σ' → (σ' 15 = (.str p)) → Q .normal σ' H) , W Tryz.prog ac101_j2 Q σ H := by
  intro o_o_6 o_6_0 o_6_1 o_6_2 o_6_3 o_6_4 o_6_5 o_6_6 word_15 σ0 σ H f0 sl l_o_o_6 o h Q q0
  obtain ⟨s6, s15, g_o_o_6⟩ := sl
  have n_o_o_6 := ne_next l_o_o_6
  have m_o_o_6 := ne_add l_o_o_6
  unfold t_applied_j2 at h
  refine W_start ?_
  unfold ac101_j2
  rcases cond_E h with ⟨e43, h⟩ | ⟨e43, h⟩
  ·obtain rfl := som_E h
   simp -implicitDefEqProofs only [go_sem, s6, g_o_o_6, e43]
   exact q0 _ _ rfl (by repeat (first | exact f0 | refine Fr.upd (by decide) ?_)) (by simp -implicitDefEqProofs only [go_sem])
  ·obtain ⟨x44, e45, h⟩ := bind_E h
   simp -implicitDefEqProofs only [go_sem, s6, g_o_o_6, e43, e45]
   obtain ⟨o49, h50, h⟩ := bind_E h
   refine t_applied_p1_W (o_o_6) o_6_0 o_6_1 o_6_2 o_6_3 o_6_4 o_6_5 o_6_6 (decide ((x44.toNat : Int) ≥ 65)) _ _ _ (Fr.refl _ _) (by simp -implicitDefEqProofs only [go_sem, s6, g_o_o_6, and_self]) (by first | omega | (simp only [AH.new_next, AH.put_next, AH.tok_next, AH.use_next]; omega)) _ h50 _ ?_
   ·rintro p51 σ' eo fr52 s55
    rw [eo] at h
    have s56 : σ' 15 = (.str word_15) := (fr52 15 (by decide)).trans (by simp -implicitDefEqProofs only [go_sem, s15])
    rcases cond_E h with ⟨e57, h⟩ | ⟨e57, h⟩
    ·obtain ⟨e58, h⟩ := if_E h
     simp -implicitDefEqProofs only [go_sem, s55, s56, e57]
     refine WR_cat (by (try simp only [List.length_cons, List.length_nil] at e58 ⊢); omega) ?_
     obtain rfl := som_E h
     simp -implicitDefEqProofs only [go_sem]
     exact q0 _ _ rfl (by repeat (first | exact f0 | refine Fr.upd (by decide) ?_ | refine Fr.via fr52 (by decide) ?_)) (by simp -implicitDefEqProofs only [go_sem])
    ·obtain rfl := som_E h
     simp -implicitDefEqProofs only [go_sem, s55, e57]
     exact q0 _ _ rfl (by repeat (first | exact f0 | refine Fr.upd (by decide) ?_ | refine Fr.via fr52 (by decide) ?_)) (by simp -implicitDefEqProofs only [go_sem, s56])
def t_applied_p3 (o_6_0 : Str) (o_6_1 : Int) (o_6_2 : Int) (o_6_3 : Int) (o_6_4 : Bool) (o_6_5 : Int) (o_6_6 : Int) (k_18 : Int) (x_20_0 : Str) (x_20_1 : Int) (x_20_2 : Int) (x_20_3 : Int) (x_20_4 : Bool) (x_20_5 : Int) (x_20_6 : Int) (t_152 : Bool) : Option Bool :=
  cond t_152 (cond (decide (x_20_2 ≤ o_6_3)) (cond (k_18 == 0) (cond (x_20_0 == o_6_0) (some ((!o_6_4))) (some (true))) (some (true))) (some (false))) (some (false))
def t_applied_p3l : List Nat := [153, 154, 155, 156, 157, 158, 159, 160, 161, 162, 163, 164, 165, 166, 167, 168, 169, 170, 171, 172, 173, 174]
theorem t_applied_p3_W : ∀ (o_o_6 : Nat) (o_x_20 : Nat) (o_6_0 : Str) (o_6_1 : Int) (o_6_2 : Int) (o_6_3 : Int) (o_6_4 : Bool) (o_6_5 : Int) (o_6_6 : Int) (k_18 : Int) (x_20_0 : Str) (x_20_1 : Int) (x_20_2 : Int) (x_20_3 : Int) (x_20_4 : Bool) (x_20_5 : Int) (x_20_6 : Int) (t_152 : Bool) (σ0 σ : Nat → PV) (H : AH) (f0 : Fr t_applied_p3l σ0 σ) (sl : σ 6 = (.ref (o_o_6) 0) ∧ σ 18 = (.int .i64 k_18) ∧ σ 20 = (.ref (o_x_20) 0) ∧ σ 152 = (.bool t_152) ∧ H.obj o_o_6 = some [(.str o_6_0), (.int .i64 o_6_1), (.int .i64 o_6_2), (.int .i64 o_6_3), (.bool o_6_4), (.int .i64 o_6_5), (.int .i64 o_6_6)] ∧ H.obj o_x_20 = some [(.str x_20_0), (.int .i64 x_20_1), (.int .i64 x_20_2), (.int .i64 x_20_3), (.bool x_20_4), (.int .i64 x_20_5), (.int .i64 x_20_6)]) (l_o_o_6 : o_o_6 < H.next) (l_o_x_20 : o_x_20 < H.next) (d_o_o_6_o_x_20 : o_o_6 ≠ o_x_20) (o : Bool) (h : t_applied_p3 o_6_0 o_6_1 o_6_2 o_6_3 o_6_4 o_6_5 o_6_6 k_18 x_20_0 x_20_1 x_20_2 x_20_3 x_20_4 x_20_5 x_20_6 t_152 = some o) (Q : Post) (q0 : ∀ (p : Bool) (σ' : Nat → PV), o = p → Fr t_applied_p3l σ0 σ' → (σ' 174 = (.bool p)) → Q .normal σ' H) , WOps Tryz.prog ac101_p3 (Q .normal) σ H := by
  intro o_o_6 o_x_20 o_6_0 o_6_1 o_6_2 o_6_3 o_6_4 o_6_5 o_6_6 k_18 x_20_0 x_20_1 x_20_2 x_20_3 x_20_4 x_20_5 x_20_6 t_152 σ0 σ H f0 sl l_o_o_6 l_o_x_20 d_o_o_6_o_x_20 o h Q q0
  obtain ⟨s6, s18, s20, s152, g_o_o_6, g_o_x_20⟩ := sl
  have n_o_o_6 := ne_next l_o_o_6
  have m_o_o_6 := ne_add l_o_o_6
  have n_o_x_20 := ne_next l_o_x_20
  have m_o_x_20 := ne_add l_o_x_20
  have e_o_o_6_o_x_20 := eq_false d_o_o_6_o_x_20
  have r_o_o_6_o_x_20 := eq_false (Ne.symm d_o_o_6_o_x_20)
  unfold t_applied_p3 at h
  refine WO_start ?_
  unfold ac101_p3
  rcases cond_E h with ⟨e79, h⟩ | ⟨e79, h⟩
  ·rcases cond_E h with ⟨e80, h⟩ | ⟨e80, h⟩
   ·rcases cond_E h with ⟨e81, h⟩ | ⟨e81, h⟩
    ·rcases cond_E h with ⟨e82, h⟩ | ⟨e82, h⟩
     ·obtain rfl := som_E h
      simp -implicitDefEqProofs only [go_sem, s6, s18, s20, s152, g_o_o_6, g_o_x_20, e79, e80, e81, e82]
      exact q0 _ _ rfl (by repeat (first | exact f0 | refine Fr.upd (by decide) ?_)) (by simp -implicitDefEqProofs only [go_sem])
     ·obtain rfl := som_E h
      simp -implicitDefEqProofs only [go_sem, s6, s18, s20, s152, g_o_o_6, g_o_x_20, e79, e80, e81, e82]
      exact q0 _ _ rfl (by repeat (first | exact f0 | refine Fr.upd (by decide) ?_)) (by simp -implicitDefEqProofs only [go_sem])
    ·obtain rfl := som_E h
     simp -implicitDefEqProofs only [go_sem, s6, s18, s20, s152, g_o_o_6, g_o_x_20, e79, e80, e81]
     exact q0 _ _ rfl (by repeat (first | exact f0 | refine Fr.upd (by decide) ?_)) (by simp -implicitDefEqProofs only [go_sem])
   ·obtain rfl := som_E h
    simp -implicitDefEqProofs only [go_sem, s6, s20, s152, g_o_o_6, g_o_x_20, e79, e80]
    exact q0 _ _ rfl (by repeat (first | exact f0 | refine Fr.upd (by decide) ?_)) (by simp -implicitDefEqProofs only [go_sem])
  ·obtain rfl := som_E h
   simp -implicitDefEqProofs only [go_sem, s152, e79]
   exact q0 _ _ rfl (by repeat (first | exact f0 | refine Fr.upd (by decide) ?_)) (by simp -implicitDefEqProofs only [go_sem])
def t_applied_b0l : List Nat := [16, 18, 19, 20, 21, 22, 140, 141, 142, 143, 144, 145, 146, 147, 148, 149, 150, 151, 152, 153, 154, 155, 156, 157, 158, 159, 160, 161, 162, 163, 164, 165, 166, 167, 168, 169, 170, 171, 172, 173, 174, 175, 176, 177, 178, 179, 180, 181, 182, 183, 184, 185, 186, 187, 188]
mutual
def t_text : Nat → Printer → Int → Bool → Option Str
  | 0, _, _, _ => none
  | k + 1, p_0, at_1, follows_2 =>
    Option.bind (t_text_p0 k at_1 p_0.e follows_2) (fun p9 => cond p9 (Option.bind (t_closed k p_0 at_1) fun p19 => some p19) (Option.bind (t_operator k p_0 at_1) fun p21 => cond p21.2 (Option.bind (t_applied k p_0 at_1 p21.1 follows_2) fun p24 => some p24) (Option.bind (t_form k p_0 at_1) fun p26 => some p26)))
def t_closed : Nat → Printer → Int → Option Str
  | 0, _, _ => none
  | k + 1, p_0, at_1 =>
    Option.bind (t_text k p_0 at_1 false) fun p2 => if ([40] : Str).length + p2.length ≤ 4611686018427387904 then if (40 :: p2).length + ([41] : Str).length ≤ 4611686018427387904 then some (40 :: (p2 ++ ([41] : Str))) else none else none
def t_operand : Nat → Printer → Int → Bool → Bool → Option Str
  | 0, _, _, _, _ => none
  | k + 1, p_0, at_1, must_2, follows_3 =>
    cond must_2 (Option.bind (t_closed k p_0 at_1) fun p3 => some p3) (Option.bind (t_text k p_0 at_1 follows_3) fun p5 => some p5)
def t_applied_b0 : Nat → Bool → (List Nd) → Str → Int → Int → Int → Bool → Int → Int → (List Str) → Int → (List Int) → Int → Int → Option (List Str)
  | 0, _, _, _, _, _, _, _, _, _, _, _, _, _, _ => none
  | k + 1, follows_3, p_4_0, o_6_0, o_6_1, o_6_2, o_6_3, o_6_4, o_6_5, o_6_6, out_16, last_17, t_138, t_139, t_140 =>
    cond (decide (t_140 < t_139)) (if 0 ≤ t_140 then Option.bind (t_138[t_140.toNat]?) fun x75 => Option.bind (t_operator k (Printer.mk p_4_0) x75) fun p78 => Option.bind (t_applied_p3 o_6_0 o_6_1 o_6_2 o_6_3 o_6_4 o_6_5 o_6_6 t_140 p78.1.text p78.1.fix p78.1.low p78.1.high p78.1.left p78.1.least p78.1.most p78.2) (fun p85 => cond (decide (t_140 < last_17)) (Option.bind (t_operand k (Printer.mk p_4_0) x75 p85 true) fun p102 => if (out_16.length + 1) * 16 ≤ 1099511627776 then t_applied_b0 k follows_3 p_4_0 o_6_0 o_6_1 o_6_2 o_6_3 o_6_4 o_6_5 o_6_6 (out_16 ++ [p102]) last_17 t_138 t_139 (IntKind.wrap .i64 (t_140 + 1)) else none) (Option.bind (t_operand k (Printer.mk p_4_0) x75 p85 follows_3) fun p111 => if (out_16.length + 1) * 16 ≤ 1099511627776 then t_applied_b0 k follows_3 p_4_0 o_6_0 o_6_1 o_6_2 o_6_3 o_6_4 o_6_5 o_6_6 (out_16 ++ [p111]) last_17 t_138 t_139 (IntKind.wrap .i64 (t_140 + 1)) else none)) else none) (some (out_16))
def t_applied : Nat → Printer → Int → Operator → Bool → Option Str
  | 0, _, _, _, _ => none
  | k + 1, p_0, at_1, o_2, follows_3 =>
    if 0 ≤ at_1 then Option.bind (p_0.e[at_1.toNat]?) fun x2 => cond (o_2.fix == 2) (Option.bind (x2.args[0]?) fun x5 => Option.bind (t_operator k p_0 x5) fun p8 => cond p8.2 (Option.bind (t_operand k p_0 x5 (!(p8.1.text == o_2.text)) true) fun p11 => if p11.length + o_2.text.length ≤ 4611686018427387904 then some (p11 ++ o_2.text) else none) (Option.bind (t_operand k p_0 x5 false true) fun p14 => if p14.length + o_2.text.length ≤ 4611686018427387904 then some (p14 ++ o_2.text) else none)) (cond (o_2.fix == 0) (Option.bind (x2.args[0]?) fun x17 => Option.bind (t_operator k p_0 x17) fun p20 => Option.bind (t_applied_p0 o_2.text o_2.fix o_2.low o_2.high o_2.left o_2.least o_2.most p20.1.text p20.1.fix p20.1.low p20.1.high p20.1.left p20.1.least p20.1.most p20.2) (fun p34 => Option.bind (t_applied_j2 o_2.text o_2.fix o_2.low o_2.high o_2.left o_2.least o_2.most o_2.text) (fun p61 => Option.bind (t_operand k p_0 x17 p34 follows_3) fun p71 => if p61.length + p71.length ≤ 4611686018427387904 then some (p61 ++ p71) else none))) (Option.bind (t_applied_b0 k follows_3 p_0.e o_2.text o_2.fix o_2.low o_2.high o_2.left o_2.least o_2.most ([] : List Str) (IntKind.wrap .i64 ((x2.args.length : Int) - 1)) x2.args (x2.args.length : Int) 0) (fun p133 => if ([32] : Str).length + o_2.text.length ≤ 4611686018427387904 then if (32 :: o_2.text).length + ([32] : Str).length ≤ 4611686018427387904 then if p133.length ≤ 1099511627776 then if (Lib.join p133 (32 :: (o_2.text ++ ([32] : Str)))).length ≤ 140737488355328 then some (Lib.join p133 (32 :: (o_2.text ++ ([32] : Str)))) else none else none else none else none))) else none
def t_form : Nat → Printer → Int → Option Str
  | 0, _, _ => none
  | k + 1, p_0, at_1 =>
    if 0 ≤ at_1 then Option.bind (p_0.e[at_1.toNat]?) fun x2 => cond (x2.kind == 0) (if 0 ≤ x2.n ∧ x2.n < 100 then some (Lib.decDigits (Int.toNat x2.n)) else none) (cond (x2.kind == 1) (if ([34] : Str).length + x2.text.length ≤ 4611686018427387904 then if (34 :: x2.text).length + ([34] : Str).length ≤ 4611686018427387904 then some (34 :: (x2.text ++ ([34] : Str))) else none else none) (cond (x2.kind == 2) (some x2.text) (cond (x2.kind == 3) (if x2.text.length + ([40] : Str).length ≤ 4611686018427387904 then Option.bind (noS2 p_0 x2.args) fun p13 => if (x2.text ++ ([40] : Str)).length + p13.length ≤ 4611686018427387904 then if (x2.text ++ (40 :: p13)).length + ([41] : Str).length ≤ 4611686018427387904 then some (x2.text ++ (40 :: (p13 ++ ([41] : Str)))) else none else none else none) (cond (x2.kind == 4) (Option.bind (noS2 p_0 x2.args) fun p18 => if ([60, 60] : Str).length + p18.length ≤ 4611686018427387904 then if (60 :: 60 :: p18).length + ([62, 62] : Str).length ≤ 4611686018427387904 then some (60 :: 60 :: (p18 ++ ([62, 62] : Str))) else none else none) (cond (x2.kind == 5) (Option.bind (noS2 p_0 x2.args) fun p23 => if ([123] : Str).length + p23.length ≤ 4611686018427387904 then if (123 :: p23).length + ([125] : Str).length ≤ 4611686018427387904 then some (123 :: (p23 ++ ([125] : Str))) else none else none) (cond (x2.kind == 6) (Option.bind (noS2 p_0 x2) fun p28 => if ([123] : Str).length + p28.length ≤ 4611686018427387904 then if (123 :: p28).length + ([32, 58, 32] : Str).length ≤ 4611686018427387904 then Option.bind (x2.args[1]?) fun x31 => Option.bind (t_text k p_0 x31 false) fun p34 => if (123 :: (p28 ++ ([32, 58, 32] : Str))).length + p34.length ≤ 4611686018427387904 then if (123 :: (p28 ++ (32 :: 58 :: 32 :: p34))).length + ([125] : Str).length ≤ 4611686018427387904 then some (123 :: (p28 ++ (32 :: 58 :: 32 :: (p34 ++ ([125] : Str))))) else none else none else none else none) (cond (x2.kind == 7) (if 0 ≤ (IntKind.wrap .i64 ((x2.args.length : Int) - 1)) then Option.bind (x2.args[(IntKind.wrap .i64 ((x2.args.length : Int) - 1)).toNat]?) fun x39 => Option.bind (noS2 p_0 x39) fun p42 => if ([123] : Str).length + p42.length ≤ 4611686018427387904 then if (123 :: p42).length + ([32, 58, 32] : Str).length ≤ 4611686018427387904 then Option.bind (noS2 p_0 x2) fun p46 => if (123 :: (p42 ++ ([32, 58, 32] : Str))).length + p46.length ≤ 4611686018427387904 then if (123 :: (p42 ++ (32 :: 58 :: 32 :: p46))).length + ([125] : Str).length ≤ 4611686018427387904 then some (123 :: (p42 ++ (32 :: 58 :: 32 :: (p46 ++ ([125] : Str))))) else none else none else none else none else none) (cond (x2.kind == 13) (Option.bind (noS2 p_0 x2) fun p51 => if ([91] : Str).length + p51.length ≤ 4611686018427387904 then if (91 :: p51).length + ([32, 124, 45, 62, 32] : Str).length ≤ 4611686018427387904 then if 0 ≤ (IntKind.wrap .i64 ((x2.args.length : Int) - 1)) then Option.bind (x2.args[(IntKind.wrap .i64 ((x2.args.length : Int) - 1)).toNat]?) fun x55 => Option.bind (t_text k p_0 x55 false) fun p58 => if (91 :: (p51 ++ ([32, 124, 45, 62, 32] : Str))).length + p58.length ≤ 4611686018427387904 then if (91 :: (p51 ++ (32 :: 124 :: 45 :: 62 :: 32 :: p58))).length + ([93] : Str).length ≤ 4611686018427387904 then some (91 :: (p51 ++ (32 :: 124 :: 45 :: 62 :: 32 :: (p58 ++ ([93] : Str))))) else none else none else none else none else none) (cond (x2.kind == 14) (Option.bind (x2.args[0]?) fun x62 => Option.bind (noS2 p_0 x62) fun p65 => if p65.length + ([91] : Str).length ≤ 4611686018427387904 then if 1 ≤ x2.args.length then Option.bind (noS2 p_0 (x2.args.drop 1)) fun p69 => if (p65 ++ ([91] : Str)).length + p69.length ≤ 4611686018427387904 then if (p65 ++ (91 :: p69)).length + ([93] : Str).length ≤ 4611686018427387904 then some (p65 ++ (91 :: (p69 ++ ([93] : Str)))) else none else none else none else none) (cond (x2.kind == 15) (Option.bind (x2.args[0]?) fun x73 => Option.bind (t_text k p_0 x73 false) fun p76 => if ([91] : Str).length + p76.length ≤ 4611686018427387904 then if (91 :: p76).length + ([32, 45, 62, 32] : Str).length ≤ 4611686018427387904 then Option.bind (x2.args[1]?) fun x79 => Option.bind (t_text k p_0 x79 false) fun p82 => if (91 :: (p76 ++ ([32, 45, 62, 32] : Str))).length + p82.length ≤ 4611686018427387904 then if (91 :: (p76 ++ (32 :: 45 :: 62 :: 32 :: p82))).length + ([93] : Str).length ≤ 4611686018427387904 then some (91 :: (p76 ++ (32 :: 45 :: 62 :: 32 :: (p82 ++ ([93] : Str))))) else none else none else none else none) (cond (x2.kind == 16) (Option.bind (noS3 p_0 x2 ([32, 124, 45, 62, 32] : Str)) fun p87 => if ([91] : Str).length + p87.length ≤ 4611686018427387904 then if (91 :: p87).length + ([93] : Str).length ≤ 4611686018427387904 then some (91 :: (p87 ++ ([93] : Str))) else none else none) (cond (x2.kind == 17) (Option.bind (noS3 p_0 x2 ([32, 58, 32] : Str)) fun p92 => if ([91] : Str).length + p92.length ≤ 4611686018427387904 then if (91 :: p92).length + ([93] : Str).length ≤ 4611686018427387904 then some (91 :: (p92 ++ ([93] : Str))) else none else none) (cond (x2.kind == 18) (Option.bind (x2.args[0]?) fun x96 => Option.bind (noS2 p_0 x96) fun p99 => if p99.length + ([46] : Str).length ≤ 4611686018427387904 then if (p99 ++ ([46] : Str)).length + x2.text.length ≤ 4611686018427387904 then some (p99 ++ (46 :: x2.text)) else none else none) (cond (x2.kind == 19) (Option.bind (x2.args[0]?) fun x103 => Option.bind (t_text k p_0 x103 false) fun p106 => if ([91] : Str).length + p106.length ≤ 4611686018427387904 then if (91 :: p106).length + ([32, 69, 88, 67, 69, 80, 84, 32, 33, 91] : Str).length ≤ 4611686018427387904 then Option.bind (x2.args[1]?) fun x109 => Option.bind (t_text k p_0 x109 false) fun p112 => if (91 :: (p106 ++ ([32, 69, 88, 67, 69, 80, 84, 32, 33, 91] : Str))).length + p112.length ≤ 4611686018427387904 then if (91 :: (p106 ++ (32 :: 69 :: 88 :: 67 :: 69 :: 80 :: 84 :: 32 :: 33 :: 91 :: p112))).length + ([93, 32, 61, 32] : Str).length ≤ 4611686018427387904 then Option.bind (x2.args[2]?) fun x115 => Option.bind (t_text k p_0 x115 false) fun p118 => if (91 :: (p106 ++ (32 :: 69 :: 88 :: 67 :: 69 :: 80 :: 84 :: 32 :: 33 :: 91 :: (p112 ++ ([93, 32, 61, 32] : Str))))).length + p118.length ≤ 4611686018427387904 then if (91 :: (p106 ++ (32 :: 69 :: 88 :: 67 :: 69 :: 80 :: 84 :: 32 :: 33 :: 91 :: (p112 ++ (93 :: 32 :: 61 :: 32 :: p118))))).length + ([93] : Str).length ≤ 4611686018427387904 then some (91 :: (p106 ++ (32 :: 69 :: 88 :: 67 :: 69 :: 80 :: 84 :: 32 :: 33 :: 91 :: (p112 ++ (93 :: 32 :: 61 :: 32 :: (p118 ++ ([93] : Str))))))) else none else none else none else none else none else none) (cond (x2.kind == 20) (some ([64] : Str)) (cond (x2.kind == 25) (Option.bind (x2.args[0]?) fun x123 => Option.bind (t_text k p_0 x123 false) fun p126 => if ([91] : Str).length + p126.length ≤ 4611686018427387904 then if (91 :: p126).length + ([93, 95] : Str).length ≤ 4611686018427387904 then Option.bind (x2.args[1]?) fun x129 => Option.bind (noS2 p_0 x129) fun p132 => if (91 :: (p126 ++ ([93, 95] : Str))).length + p132.length ≤ 4611686018427387904 then some (91 :: (p126 ++ (93 :: 95 :: p132))) else none else none else none) (cond (x2.kind == 26) (Option.bind (x2.args[0]?) fun x135 => Option.bind (t_text k p_0 x135 false) fun p138 => if ([60, 60] : Str).length + p138.length ≤ 4611686018427387904 then if (60 :: 60 :: p138).length + ([62, 62, 95] : Str).length ≤ 4611686018427387904 then Option.bind (x2.args[1]?) fun x141 => Option.bind (noS2 p_0 x141) fun p144 => if (60 :: 60 :: (p138 ++ ([62, 62, 95] : Str))).length + p144.length ≤ 4611686018427387904 then some (60 :: 60 :: (p138 ++ (62 :: 62 :: 95 :: p144))) else none else none else none) (cond (x2.kind == 27) (Option.bind (x2.args[1]?) fun x147 => Option.bind (noS2 p_0 x147) fun p150 => if ([87, 70, 95] : Str).length + p150.length ≤ 4611686018427387904 then if (87 :: 70 :: 95 :: p150).length + ([40] : Str).length ≤ 4611686018427387904 then Option.bind (x2.args[0]?) fun x153 => Option.bind (t_text k p_0 x153 false) fun p156 => if (87 :: 70 :: 95 :: (p150 ++ ([40] : Str))).length + p156.length ≤ 4611686018427387904 then if (87 :: 70 :: 95 :: (p150 ++ (40 :: p156))).length + ([41] : Str).length ≤ 4611686018427387904 then some (87 :: 70 :: 95 :: (p150 ++ (40 :: (p156 ++ ([41] : Str))))) else none else none else none else none) (cond (x2.kind == 28) (Option.bind (x2.args[1]?) fun x160 => Option.bind (noS2 p_0 x160) fun p163 => if ([83, 70, 95] : Str).length + p163.length ≤ 4611686018427387904 then if (83 :: 70 :: 95 :: p163).length + ([40] : Str).length ≤ 4611686018427387904 then Option.bind (x2.args[0]?) fun x166 => Option.bind (t_text k p_0 x166 false) fun p169 => if (83 :: 70 :: 95 :: (p163 ++ ([40] : Str))).length + p169.length ≤ 4611686018427387904 then if (83 :: 70 :: 95 :: (p163 ++ (40 :: p169))).length + ([41] : Str).length ≤ 4611686018427387904 then some (83 :: 70 :: 95 :: (p163 ++ (40 :: (p169 ++ ([41] : Str))))) else none else none else none else none) (Option.bind (noS2 p_0 x2) fun p173 => some p173)))))))))))))))))))) else none
end
mutual
theorem t_text_u (k : Nat) : ∀ (p_0 : Printer) (at_1 : Int) (follows_2 : Bool) (r : Str) (h : t_text k p_0 at_1 follows_2 = some r), PCall Tryz.prog 59 [(.agg (Printer.cells p_0)), (.int .i64 at_1), (.bool follows_2)] (.str r) := by
  match k with
  | 0 => intro p_0 at_1 follows_2 r h; rw [t_text] at h; cases h
  | k + 1 =>
    intro p_0 at_1 follows_2 r h
    refine PCall.of_empty (PuL.mem (.cons (.agg _ (Printer.pu _)) (.cons (.int _ _) (.cons (.bool _) .nil)))) (MCall_of_W ok59 (by simp) (W_start ?_)) (.str _)
    rw [t_text] at h
    unfold ac59
    simp -implicitDefEqProofs only [go_sem]
    obtain ⟨o7, h8, h⟩ := bind_E h
    refine t_text_p0_W k (AH.empty.next) at_1 p_0.e follows_2 _ _ _ (Fr.refl _ _) (by simp -implicitDefEqProofs only [go_sem, and_self]) (by first | omega | (simp only [AH.new_next]; omega)) _ h8 _ ?_
    ·rintro p9 σ' eo fr10 s13
     rw [eo] at h
     have s14 : σ' 1 = (.int .i64 at_1) := (fr10 1 (by decide)).trans (by simp -implicitDefEqProofs only [go_sem])
     have s15 : σ' 2 = (.bool follows_2) := (fr10 2 (by decide)).trans (by simp -implicitDefEqProofs only [go_sem])
     have s16 : σ' 3 = (.ref (AH.empty.next) 0) := (fr10 3 (by decide)).trans (by simp -implicitDefEqProofs only [go_sem])
     rcases cond_E h with ⟨e17, h⟩ | ⟨e17, h⟩
     ·obtain ⟨p19, e18, h⟩ := bind_E h
      simp -implicitDefEqProofs only [go_sem, s13, s14, s16, e17]
      refine mcall_pure ((t_closed_u k p_0 at_1 _ e18).wk (.same (.same .nil))) ?_
      obtain rfl := som_E h
      simp -implicitDefEqProofs only [go_sem]
      exact (.pure _ (.str _))
     ·obtain ⟨p21, e20, h⟩ := bind_E h
      simp -implicitDefEqProofs only [go_sem, s13, s14, s16, e17]
      refine mcall_pure (t_operator_c k p_0 at_1 e20) ?_
      rcases cond_E h with ⟨e22, h⟩ | ⟨e22, h⟩
      ·obtain ⟨p24, e23, h⟩ := bind_E h
       simp -implicitDefEqProofs only [go_sem, WO_store, s14, s15, s16, e22]
       refine mcall_pure ((t_applied_u k p_0 at_1 p21.1 follows_2 _ e23).wk (.same (.same (.same (.same .nil))))) ?_
       obtain rfl := som_E h
       simp -implicitDefEqProofs only [go_sem]
       exact (.pure _ (.str _))
      ·obtain ⟨p26, e25, h⟩ := bind_E h
       simp -implicitDefEqProofs only [go_sem, WO_store, s14, s16, e22]
       refine mcall_pure ((t_form_u k p_0 at_1 _ e25).wk (.same (.same .nil))) ?_
       obtain rfl := som_E h
       simp -implicitDefEqProofs only [go_sem]
       exact (.pure _ (.str _))
theorem t_closed_u (k : Nat) : ∀ (p_0 : Printer) (at_1 : Int) (r : Str) (h : t_closed k p_0 at_1 = some r), PCall Tryz.prog 99 [(.agg (Printer.cells p_0)), (.int .i64 at_1)] (.str r) := by
  match k with
  | 0 => intro p_0 at_1 r h; rw [t_closed] at h; cases h
  | k + 1 =>
    intro p_0 at_1 r h
    refine PCall.of_empty (PuL.mem (.cons (.agg _ (Printer.pu _)) (.cons (.int _ _) .nil))) (MCall_of_W ok99 (by simp) (W_start ?_)) (.str _)
    rw [t_closed] at h
    unfold ac99
    obtain ⟨p2, e1, h⟩ := bind_E h
    simp -implicitDefEqProofs only [go_sem]
    refine mcall_pure ((t_text_u k p_0 at_1 false _ e1).wk (.same (.same (.same .nil)))) ?_
    obtain ⟨e3, h⟩ := if_E h
    simp -implicitDefEqProofs only [go_sem]
    refine WR_cat (by (try simp only [List.length_cons, List.length_nil] at e3 ⊢); omega) ?_
    obtain ⟨e4, h⟩ := if_E h
    simp -implicitDefEqProofs only [go_sem]
    refine WR_cat (by (try simp only [List.length_cons, List.length_nil] at e4 ⊢); omega) ?_
    obtain rfl := som_E h
    simp -implicitDefEqProofs only [go_sem]
    exact (.pure _ (.str _))
theorem t_operand_u (k : Nat) : ∀ (p_0 : Printer) (at_1 : Int) (must_2 : Bool) (follows_3 : Bool) (r : Str) (h : t_operand k p_0 at_1 must_2 follows_3 = some r), PCall Tryz.prog 150 [(.agg (Printer.cells p_0)), (.int .i64 at_1), (.bool must_2), (.bool follows_3)] (.str r) := by
  match k with
  | 0 => intro p_0 at_1 must_2 follows_3 r h; rw [t_operand] at h; cases h
  | k + 1 =>
    intro p_0 at_1 must_2 follows_3 r h
    refine PCall.of_empty (PuL.mem (.cons (.agg _ (Printer.pu _)) (.cons (.int _ _) (.cons (.bool _) (.cons (.bool _) .nil))))) (MCall_of_W ok150 (by simp) (W_start ?_)) (.str _)
    rw [t_operand] at h
    unfold ac150
    rcases cond_E h with ⟨e1, h⟩ | ⟨e1, h⟩
    ·obtain ⟨p3, e2, h⟩ := bind_E h
     simp -implicitDefEqProofs only [go_sem, e1]
     refine mcall_pure ((t_closed_u k p_0 at_1 _ e2).wk (.same (.same .nil))) ?_
     obtain rfl := som_E h
     simp -implicitDefEqProofs only [go_sem]
     exact (.pure _ (.str _))
    ·obtain ⟨p5, e4, h⟩ := bind_E h
     simp -implicitDefEqProofs only [go_sem, e1]
     refine mcall_pure ((t_text_u k p_0 at_1 follows_3 _ e4).wk (.same (.same (.same .nil)))) ?_
     obtain rfl := som_E h
     simp -implicitDefEqProofs only [go_sem]
     exact (.pure _ (.str _))
theorem t_applied_b0_W (k : Nat) : ∀ (o_p_4 : Nat) (o_o_6 : Nat) (follows_3 : Bool) (p_4_0 : List Nd) (o_6_0 : Str) (o_6_1 : Int) (o_6_2 : Int) (o_6_3 : Int) (o_6_4 : Bool) (o_6_5 : Int) (o_6_6 : Int) (out_16 : List Str) (last_17 : Int) (t_138 : List Int) (t_139 : Int) (t_140 : Int) (c_out_16_b0 : Ck) (σ0 σ : Nat → PV) (H0 H : AH) (f0 : Fr t_applied_b0l σ0 σ) (hf0 : HF [] H0 H) (sl : σ 3 = (.bool follows_3) ∧ σ 4 = (.ref (o_p_4) 0) ∧ σ 6 = (.ref (o_o_6) 0) ∧ σ 16 = (.isl (out_16.map strL) c_out_16_b0) ∧ σ 17 = (.int .i64 last_17) ∧ σ 138 = (.isl (t_138.map intL) .unk) ∧ σ 139 = (.int .i64 t_139) ∧ σ 140 = (.int .i64 t_140) ∧ H.obj o_p_4 = some [(.isl (p_4_0.map Nd.cells) .unk)] ∧ H.obj o_o_6 = some [(.str o_6_0), (.int .i64 o_6_1), (.int .i64 o_6_2), (.int .i64 o_6_3), (.bool o_6_4), (.int .i64 o_6_5), (.int .i64 o_6_6)]) (l_o_p_4 : o_p_4 < H.next) (l_o_o_6 : o_o_6 < H.next) (d_o_p_4_o_o_6 : o_p_4 ≠ o_o_6) (ok_out_16 : okc H c_out_16_b0) (o : List Str) (h : t_applied_b0 k follows_3 p_4_0 o_6_0 o_6_1 o_6_2 o_6_3 o_6_4 o_6_5 o_6_6 out_16 last_17 t_138 t_139 t_140 = some o) (Q : Post) (q0 : ∀ (p : List Str) (c0 : Ck) (σ' : Nat → PV) (H' : AH), o = p → Fr t_applied_b0l σ0 σ' → HF [] H0 H' → (σ' 16 = (.isl (p.map strL) c0)) → Q (.exit 2) σ' H') , W Tryz.prog (.loop ac101_b0) Q σ H := by
  match k with
  | 0 => intro o_p_4 o_o_6 follows_3 p_4_0 o_6_0 o_6_1 o_6_2 o_6_3 o_6_4 o_6_5 o_6_6 out_16 last_17 t_138 t_139 t_140 c_out_16_b0 σ0 σ H0 H f0 hf0 sl l_o_p_4 l_o_o_6 d_o_p_4_o_o_6 ok_out_16 o h Q q0; rw [t_applied_b0] at h; cases h
  | k + 1 =>
    have ih := t_applied_b0_W k
    intro o_p_4 o_o_6 follows_3 p_4_0 o_6_0 o_6_1 o_6_2 o_6_3 o_6_4 o_6_5 o_6_6 out_16 last_17 t_138 t_139 t_140 c_out_16_b0 σ0 σ H0 H f0 hf0 sl l_o_p_4 l_o_o_6 d_o_p_4_o_o_6 ok_out_16 o h Q q0
    obtain ⟨s3, s4, s6, s16, s17, s138, s139, s140, g_o_p_4, g_o_o_6⟩ := sl
    have n_o_p_4 := ne_next l_o_p_4
    have m_o_p_4 := ne_add l_o_p_4
    have n_o_o_6 := ne_next l_o_o_6
    have m_o_o_6 := ne_add l_o_o_6
    have e_o_p_4_o_o_6 := eq_false d_o_p_4_o_o_6
    have r_o_p_4_o_o_6 := eq_false (Ne.symm d_o_p_4_o_o_6)
    have hle0 := hf0.1
    rw [t_applied_b0] at h
    refine W_loopK (fun K hK => W_start ?_)
    unfold ac101_b0
    rcases cond_E h with ⟨e73, h⟩ | ⟨e73, h⟩
    ·obtain ⟨e74, h⟩ := if_E h
     obtain ⟨x75, e76, h⟩ := bind_E h
     obtain ⟨p78, e77, h⟩ := bind_E h
     simp -implicitDefEqProofs only [go_sem, s4, s138, s139, s140, g_o_p_4, e73, e74, e76]
     refine mcall_pure (t_operator_c k (Printer.mk p_4_0) x75 e77) ?_
     simp -implicitDefEqProofs only [go_sem, WO_store]
     obtain ⟨o83, h84, h⟩ := bind_E h
     refine t_applied_p3_W (o_o_6) (H.next) o_6_0 o_6_1 o_6_2 o_6_3 o_6_4 o_6_5 o_6_6 t_140 p78.1.text p78.1.fix p78.1.low p78.1.high p78.1.left p78.1.least p78.1.most p78.2 _ _ _ (Fr.refl _ _) (by simp -implicitDefEqProofs only [go_sem, s6, g_o_o_6, n_o_o_6, and_self]) (by first | omega | (simp only [AH.new_next, AH.put_next]; omega)) (by first | omega | (simp only [AH.new_next, AH.put_next]; omega)) (by first | omega | (simp only [AH.new_next, AH.put_next, AH.tok_next, AH.use_next]; omega)) _ h84 _ ?_
     ·rintro p85 σ' eo fr86 s89
      rw [eo] at h
      have s90 : σ' 3 = (.bool follows_3) := (fr86 3 (by decide)).trans (by simp -implicitDefEqProofs only [go_sem, s3])
      have s91 : σ' 4 = (.ref (o_p_4) 0) := (fr86 4 (by decide)).trans (by simp -implicitDefEqProofs only [go_sem, s4])
      have s92 : σ' 6 = (.ref (o_o_6) 0) := (fr86 6 (by decide)).trans (by simp -implicitDefEqProofs only [go_sem, s6])
      have s93 : σ' 16 = (.isl (out_16.map strL) c_out_16_b0) := (fr86 16 (by decide)).trans (by simp -implicitDefEqProofs only [go_sem, s16])
      have s94 : σ' 17 = (.int .i64 last_17) := (fr86 17 (by decide)).trans (by simp -implicitDefEqProofs only [go_sem, s17])
      have s95 : σ' 18 = (.int .i64 t_140) := (fr86 18 (by decide)).trans (by simp -implicitDefEqProofs only [go_sem])
      have s96 : σ' 19 = (.int .i64 x75) := (fr86 19 (by decide)).trans (by simp -implicitDefEqProofs only [go_sem])
      have s97 : σ' 138 = (.isl (t_138.map intL) .unk) := (fr86 138 (by decide)).trans (by simp -implicitDefEqProofs only [go_sem, s138])
      have s98 : σ' 139 = (.int .i64 t_139) := (fr86 139 (by decide)).trans (by simp -implicitDefEqProofs only [go_sem, s139])
      have s99 : σ' 140 = (.int .i64 t_140) := (fr86 140 (by decide)).trans (by simp -implicitDefEqProofs only [go_sem, s140])
      rcases cond_E h with ⟨e100, h⟩ | ⟨e100, h⟩
      ·obtain ⟨p102, e101, h⟩ := bind_E h
       simp -implicitDefEqProofs only [go_sem, g_o_p_4, n_o_p_4, s89, s91, s93, s94, s95, s96, e100]
       refine mcall_pure ((t_operand_u k (Printer.mk p_4_0) x75 p85 true _ e101).wk (.same (.same (.same (.same .nil))))) ?_
       obtain ⟨e107, h⟩ := if_E h
       simp -implicitDefEqProofs only [go_sem]
       refine WO_app (f := strL) row_str out_16 ([p102] : List Str) c_out_16_b0 .exact (by simp -implicitDefEqProofs only [go_sem]) (by simp -implicitDefEqProofs only [go_sem]) (by repeat (first | assumption | exact okc.nil | exact okc.exact | apply okc.new | apply okc.put)) (by first | exact e107 | (simp only [List.length_cons, List.length_nil] ; exact e107)) (fun c103 H104 ok105 le ob108 rl106 => ?_)
       have hf109 : HF [] _ H104 := ⟨le, fun i _ _ => ob108 i⟩
       simp only [AH.new_next, AH.put_next] at le
       have n119 := ne_next (show o_p_4 < H104.next by first | omega | (simp only [AH.new_next, AH.put_next, AH.tok_next, AH.use_next]; omega))
       have m120 := ne_add (show o_p_4 < H104.next by first | omega | (simp only [AH.new_next, AH.put_next, AH.tok_next, AH.use_next]; omega))
       have n121 := ne_next (show o_o_6 < H104.next by first | omega | (simp only [AH.new_next, AH.put_next, AH.tok_next, AH.use_next]; omega))
       have m122 := ne_add (show o_o_6 < H104.next by first | omega | (simp only [AH.new_next, AH.put_next, AH.tok_next, AH.use_next]; omega))
       have n123 := ne_next (show H.next < H104.next by first | omega | (simp only [AH.new_next, AH.put_next, AH.tok_next, AH.use_next]; omega))
       have m124 := ne_add (show H.next < H104.next by first | omega | (simp only [AH.new_next, AH.put_next, AH.tok_next, AH.use_next]; omega))
       simp -implicitDefEqProofs only [go_sem, s99]
       refine hK _ _ ?_
       exact ih o_p_4 o_o_6 follows_3 p_4_0 o_6_0 o_6_1 o_6_2 o_6_3 o_6_4 o_6_5 o_6_6 (out_16 ++ [p102]) last_17 t_138 t_139 (IntKind.wrap .i64 (t_140 + 1)) c103 _ _ _ _ (by repeat (first | exact f0 | refine Fr.upd (by decide) ?_ | refine Fr.via fr86 (by decide) ?_)) (by repeat (first | exact hf0 | refine HF.new ?_ | refine HF.tokd ?_ | refine HF.used ?_ | refine HF.put (by first | (right; omega) | (left; simp only [List.mem_cons, true_or, or_true])) ?_ | refine HF.via hf109 (by first | exact fun i hi => absurd hi List.not_mem_nil | (intro i hi; simp only [List.mem_cons, List.not_mem_nil, or_false] at hi ⊢; first | exact .inl hi | omega)) ?_)) (by simp -implicitDefEqProofs only [go_sem, g_o_p_4, g_o_o_6, n_o_p_4, n_o_o_6, s90, s91, s92, s94, s97, s98, ob108, and_self]) (by first | omega | (simp only [AH.new_next, AH.put_next, AH.tok_next, AH.use_next]; omega)) (by first | omega | (simp only [AH.new_next, AH.put_next, AH.tok_next, AH.use_next]; omega)) (by first | omega | (simp only [AH.new_next, AH.put_next, AH.tok_next, AH.use_next]; omega)) (by repeat (first | assumption | exact okc.nil | exact okc.exact | apply okc.new | apply okc.put)) _ h _ q0
      ·obtain ⟨p111, e110, h⟩ := bind_E h
       simp -implicitDefEqProofs only [go_sem, g_o_p_4, n_o_p_4, s89, s90, s91, s93, s94, s95, s96, e100]
       refine mcall_pure ((t_operand_u k (Printer.mk p_4_0) x75 p85 follows_3 _ e110).wk (.same (.same (.same (.same .nil))))) ?_
       obtain ⟨e116, h⟩ := if_E h
       simp -implicitDefEqProofs only [go_sem]
       refine WO_app (f := strL) row_str out_16 ([p111] : List Str) c_out_16_b0 .exact (by simp -implicitDefEqProofs only [go_sem]) (by simp -implicitDefEqProofs only [go_sem]) (by repeat (first | assumption | exact okc.nil | exact okc.exact | apply okc.new | apply okc.put)) (by first | exact e116 | (simp only [List.length_cons, List.length_nil] ; exact e116)) (fun c112 H113 ok114 le ob117 rl115 => ?_)
       have hf118 : HF [] _ H113 := ⟨le, fun i _ _ => ob117 i⟩
       simp only [AH.new_next, AH.put_next] at le
       have n125 := ne_next (show o_p_4 < H113.next by first | omega | (simp only [AH.new_next, AH.put_next, AH.tok_next, AH.use_next]; omega))
       have m126 := ne_add (show o_p_4 < H113.next by first | omega | (simp only [AH.new_next, AH.put_next, AH.tok_next, AH.use_next]; omega))
       have n127 := ne_next (show o_o_6 < H113.next by first | omega | (simp only [AH.new_next, AH.put_next, AH.tok_next, AH.use_next]; omega))
       have m128 := ne_add (show o_o_6 < H113.next by first | omega | (simp only [AH.new_next, AH.put_next, AH.tok_next, AH.use_next]; omega))
       have n129 := ne_next (show H.next < H113.next by first | omega | (simp only [AH.new_next, AH.put_next, AH.tok_next, AH.use_next]; omega))
       have m130 := ne_add (show H.next < H113.next by first | omega | (simp only [AH.new_next, AH.put_next, AH.tok_next, AH.use_next]; omega))
       simp -implicitDefEqProofs only [go_sem, s99]
       refine hK _ _ ?_
       exact ih o_p_4 o_o_6 follows_3 p_4_0 o_6_0 o_6_1 o_6_2 o_6_3 o_6_4 o_6_5 o_6_6 (out_16 ++ [p111]) last_17 t_138 t_139 (IntKind.wrap .i64 (t_140 + 1)) c112 _ _ _ _ (by repeat (first | exact f0 | refine Fr.upd (by decide) ?_ | refine Fr.via fr86 (by decide) ?_)) (by repeat (first | exact hf0 | refine HF.new ?_ | refine HF.tokd ?_ | refine HF.used ?_ | refine HF.put (by first | (right; omega) | (left; simp only [List.mem_cons, true_or, or_true])) ?_ | refine HF.via hf118 (by first | exact fun i hi => absurd hi List.not_mem_nil | (intro i hi; simp only [List.mem_cons, List.not_mem_nil, or_false] at hi ⊢; first | exact .inl hi | omega)) ?_)) (by simp -implicitDefEqProofs only [go_sem, g_o_p_4, g_o_o_6, n_o_p_4, n_o_o_6, s90, s91, s92, s94, s97, s98, ob117, and_self]) (by first | omega | (simp only [AH.new_next, AH.put_next, AH.tok_next, AH.use_next]; omega)) (by first | omega | (simp only [AH.new_next, AH.put_next, AH.tok_next, AH.use_next]; omega)) (by first | omega | (simp only [AH.new_next, AH.put_next, AH.tok_next, AH.use_next]; omega)) (by repeat (first | assumption | exact okc.nil | exact okc.exact | apply okc.new | apply okc.put)) _ h _ q0
    ·obtain rfl := som_E h
     simp -implicitDefEqProofs only [go_sem, s139, s140, e73]
     exact q0 _ c_out_16_b0 _ _ rfl (by repeat (first | exact f0 | refine Fr.upd (by decide) ?_)) (by repeat (first | exact hf0 | refine HF.new ?_ | refine HF.tokd ?_ | refine HF.used ?_ | refine HF.put (by first | (right; omega) | (left; simp only [List.mem_cons, true_or, or_true])) ?_)) (by simp -implicitDefEqProofs only [go_sem, s16])
theorem t_applied_u (k : Nat) : ∀ (p_0 : Printer) (at_1 : Int) (o_2 : Operator) (follows_3 : Bool) (r : Str) (h : t_applied k p_0 at_1 o_2 follows_3 = some r), PCall Tryz.prog 101 [(.agg (Printer.cells p_0)), (.int .i64 at_1), (.agg (Operator.cells o_2)), (.bool follows_3)] (.str r) := by
  match k with
  | 0 => intro p_0 at_1 o_2 follows_3 r h; rw [t_applied] at h; cases h
  | k + 1 =>
    intro p_0 at_1 o_2 follows_3 r h
    refine PCall.of_empty (PuL.mem (.cons (.agg _ (Printer.pu _)) (.cons (.int _ _) (.cons (.agg _ (Operator.pu _)) (.cons (.bool _) .nil))))) (MCall_of_W ok101 (by simp) (W_start ?_)) (.str _)
    rw [t_applied] at h
    unfold ac101
    obtain ⟨e1, h⟩ := if_E h
    obtain ⟨x2, e3, h⟩ := bind_E h
    rcases cond_E h with ⟨e4, h⟩ | ⟨e4, h⟩
    ·try simp -implicitDefEqProofs only [go_sem, WO_store, e1, e3, e4]
     refine WS_parT (AH.empty.next + 3) ?_
     obtain ⟨x5, e6, h⟩ := bind_E h
     obtain ⟨p8, e7, h⟩ := bind_E h
     simp -implicitDefEqProofs only [go_sem, e6]
     refine PC.mk (t_operator_c k p_0 x5 e7) ?_
     simp -implicitDefEqProofs only [go_sem]
     refine WS_parS ?_
     rcases cond_E h with ⟨e9, h⟩ | ⟨e9, h⟩
     ·obtain ⟨p11, e10, h⟩ := bind_E h
      simp -implicitDefEqProofs only [go_sem, e6, e9]
      refine PC.mk ((t_operand_u k p_0 x5 (!(p8.1.text == o_2.text)) true _ e10).wk (.same (.same (.same (.same .nil))))) ?_
      obtain ⟨e12, h⟩ := if_E h
      simp -implicitDefEqProofs only [go_sem]
      refine WR_cat (by (try simp only [List.length_append, List.length_cons, List.length_nil] at e12 ⊢); omega) ?_
      obtain rfl := som_E h
      simp -implicitDefEqProofs only [go_sem]
      exact (.pure _ (.str _))
     ·obtain ⟨p14, e13, h⟩ := bind_E h
      simp -implicitDefEqProofs only [go_sem, e6, e9]
      refine PC.mk ((t_operand_u k p_0 x5 false true _ e13).wk (.same (.same (.same (.same .nil))))) ?_
      obtain ⟨e15, h⟩ := if_E h
      simp -implicitDefEqProofs only [go_sem]
      refine WR_cat (by (try simp only [List.length_append, List.length_cons, List.length_nil] at e15 ⊢); omega) ?_
      obtain rfl := som_E h
      simp -implicitDefEqProofs only [go_sem]
      exact (.pure _ (.str _))
    ·rcases cond_E h with ⟨e16, h⟩ | ⟨e16, h⟩
     ·try simp -implicitDefEqProofs only [go_sem, WO_store, e1, e3, e4, e16]
      refine WS_parT (AH.empty.next + 3) ?_
      obtain ⟨x17, e18, h⟩ := bind_E h
      obtain ⟨p20, e19, h⟩ := bind_E h
      simp -implicitDefEqProofs only [go_sem, e18]
      refine PC.mk (t_operator_c k p_0 x17 e19) ?_
      simp -implicitDefEqProofs only [go_sem]
      obtain ⟨o32, h33, h⟩ := bind_E h
      refine t_applied_p0_W (AH.empty.next + 1) (AH.empty.next + 3) o_2.text o_2.fix o_2.low o_2.high o_2.left o_2.least o_2.most p20.1.text p20.1.fix p20.1.low p20.1.high p20.1.left p20.1.least p20.1.most p20.2 _ _ _ (Fr.refl _ _) (by simp -implicitDefEqProofs only [go_sem, and_self]) (by first | omega | (simp only [AH.new_next, AH.put_next]; omega)) (by first | omega | (simp only [AH.new_next, AH.put_next]; omega)) (by first | omega | (simp only [AH.new_next, AH.put_next, AH.tok_next, AH.use_next]; omega)) _ h33 _ ?_
      ·rintro p34 σ' eo fr35 s38
       rw [eo] at h
       have s39 : σ' 3 = (.bool follows_3) := (fr35 3 (by decide)).trans (by simp -implicitDefEqProofs only [go_sem])
       have s40 : σ' 4 = (.ref (AH.empty.next) 0) := (fr35 4 (by decide)).trans (by simp -implicitDefEqProofs only [go_sem])
       have s41 : σ' 6 = (.ref (AH.empty.next + 1) 0) := (fr35 6 (by decide)).trans (by simp -implicitDefEqProofs only [go_sem])
       have s42 : σ' 9 = (.ref (AH.empty.next + 2) 0) := (fr35 9 (by decide)).trans (by simp -implicitDefEqProofs only [go_sem])
       simp -implicitDefEqProofs only [go_sem, s38, s41]
       obtain ⟨o59, h60, h⟩ := bind_E h
       refine t_applied_j2_W (AH.empty.next + 1) o_2.text o_2.fix o_2.low o_2.high o_2.left o_2.least o_2.most o_2.text _ _ _ (Fr.refl _ _) (by simp -implicitDefEqProofs only [go_sem, s41, and_self]) (by first | omega | (simp only [AH.new_next, AH.put_next]; omega)) _ h60 _ ?_
       ·rintro p61 σ' eo fr62 s65
        rw [eo] at h
        have s66 : σ' 3 = (.bool follows_3) := (fr62 3 (by decide)).trans (by simp -implicitDefEqProofs only [go_sem, s39])
        have s67 : σ' 4 = (.ref (AH.empty.next) 0) := (fr62 4 (by decide)).trans (by simp -implicitDefEqProofs only [go_sem, s40])
        have s68 : σ' 9 = (.ref (AH.empty.next + 2) 0) := (fr62 9 (by decide)).trans (by simp -implicitDefEqProofs only [go_sem, s42])
        have s69 : σ' 14 = (.bool p34) := (fr62 14 (by decide)).trans (by simp -implicitDefEqProofs only [go_sem])
        simp -implicitDefEqProofs only [go_sem]
        refine WS_parS ?_
        obtain ⟨p71, e70, h⟩ := bind_E h
        simp -implicitDefEqProofs only [go_sem, e18, s65, s66, s67, s68, s69]
        refine PC.mk ((t_operand_u k p_0 x17 p34 follows_3 _ e70).wk (.same (.same (.same (.same .nil))))) ?_
        obtain ⟨e72, h⟩ := if_E h
        simp -implicitDefEqProofs only [go_sem]
        refine WR_cat (by (try simp only [List.length_append, List.length_cons, List.length_nil] at e72 ⊢); omega) ?_
        obtain rfl := som_E h
        simp -implicitDefEqProofs only [go_sem]
        exact (.pure _ (.str _))
     ·try simp -implicitDefEqProofs only [go_sem, WO_store, e1, e3, e4, e16]
      obtain ⟨o131, h132, h⟩ := bind_E h
      refine t_applied_b0_W k (AH.empty.next) (AH.empty.next + 1) follows_3 p_0.e o_2.text o_2.fix o_2.low o_2.high o_2.left o_2.least o_2.most ([] : List Str) (IntKind.wrap .i64 ((x2.args.length : Int) - 1)) x2.args (x2.args.length : Int) 0 .nil _ _ _ _ (Fr.refl _ _) (HF.refl _ _) (by simp -implicitDefEqProofs only [go_sem, and_self]) (by first | omega | (simp only [AH.new_next, AH.put_next]; omega)) (by first | omega | (simp only [AH.new_next, AH.put_next]; omega)) (by first | omega | (simp only [AH.new_next, AH.put_next, AH.tok_next, AH.use_next]; omega)) (by repeat (first | assumption | exact okc.nil | exact okc.exact | apply okc.new | apply okc.put)) _ h132 _ ?_
      ·rintro p133 c137 σ' H136 eo fr134 hf135 s138
       rw [eo] at h
       have s139 : σ' 6 = (.ref (AH.empty.next + 1) 0) := (fr134 6 (by decide)).trans (by simp -implicitDefEqProofs only [go_sem])
       have le := hf135.1
       simp only [AH.new_next, AH.put_next] at le
       have g140 : H136.obj (AH.empty.next + 1) = some [(.str o_2.text), (.int .i64 o_2.fix), (.int .i64 o_2.low), (.int .i64 o_2.high), (.bool o_2.left), (.int .i64 o_2.least), (.int .i64 o_2.most)] := (hf135.2 _ (by first | omega | (simp only [AH.new_next, AH.put_next]; omega)) (by first | exact List.not_mem_nil | (simp only [List.mem_cons, List.not_mem_nil, or_false, not_or]; omega))).trans (by simp -implicitDefEqProofs only [go_sem])
       have n141 := ne_next (show AH.empty.next + 1 < H136.next by first | omega | (simp only [AH.new_next, AH.put_next, AH.tok_next, AH.use_next]; omega))
       have m142 := ne_add (show AH.empty.next + 1 < H136.next by first | omega | (simp only [AH.new_next, AH.put_next, AH.tok_next, AH.use_next]; omega))
       obtain ⟨e143, h⟩ := if_E h
       simp -implicitDefEqProofs only [go_sem, s138, s139, g140]
       refine WR_cat (by (try simp only [List.length_cons, List.length_nil] at e143 ⊢); omega) ?_
       obtain ⟨e144, h⟩ := if_E h
       simp -implicitDefEqProofs only [go_sem]
       refine WR_cat (by (try simp only [List.length_cons, List.length_nil] at e144 ⊢); omega) ?_
       obtain ⟨e145, h⟩ := if_E h
       obtain ⟨e146, h⟩ := if_E h
       simp -implicitDefEqProofs only [go_sem]
       refine mcall_pure (join_c p133 (32 :: (o_2.text ++ ([32] : Str))) (by assumption) (by assumption)) ?_
       obtain rfl := som_E h
       simp -implicitDefEqProofs only [go_sem]
       exact (.pure _ (.str _))
theorem t_form_u (k : Nat) : ∀ (p_0 : Printer) (at_1 : Int) (r : Str) (h : t_form k p_0 at_1 = some r), PCall Tryz.prog 102 [(.agg (Printer.cells p_0)), (.int .i64 at_1)] (.str r) := by
  match k with
  | 0 => intro p_0 at_1 r h; rw [t_form] at h; cases h
  | k + 1 =>
    intro p_0 at_1 r h
    refine PCall.of_empty (PuL.mem (.cons (.agg _ (Printer.pu _)) (.cons (.int _ _) .nil))) (MCall_of_W ok102 (by simp) (W_start ?_)) (.str _)
    rw [t_form] at h
    unfold ac102
    obtain ⟨e1, h⟩ := if_E h
    obtain ⟨x2, e3, h⟩ := bind_E h
    rcases cond_E h with ⟨e4, h⟩ | ⟨e4, h⟩
    ·obtain ⟨e5, h⟩ := if_E h
     simp -implicitDefEqProofs only [go_sem, WO_store, e1, e3, e4]
     refine mcall_pure (itoa_small_c x2.n (by assumption)) ?_
     obtain rfl := som_E h
     simp -implicitDefEqProofs only [go_sem]
     exact (.pure _ (.str _))
    ·rcases cond_E h with ⟨e6, h⟩ | ⟨e6, h⟩
     ·obtain ⟨e7, h⟩ := if_E h
      simp -implicitDefEqProofs only [go_sem, WO_store, e1, e3, e4, e6]
      refine WR_cat (by (try simp only [List.length_cons, List.length_nil] at e7 ⊢); omega) ?_
      obtain ⟨e8, h⟩ := if_E h
      simp -implicitDefEqProofs only [go_sem]
      refine WR_cat (by (try simp only [List.length_cons, List.length_nil] at e8 ⊢); omega) ?_
      obtain rfl := som_E h
      simp -implicitDefEqProofs only [go_sem]
      exact (.pure _ (.str _))
     ·rcases cond_E h with ⟨e9, h⟩ | ⟨e9, h⟩
      ·obtain rfl := som_E h
       simp -implicitDefEqProofs only [go_sem, WO_store, e1, e3, e4, e6, e9]
       exact (.pure _ (.str _))
      ·rcases cond_E h with ⟨e10, h⟩ | ⟨e10, h⟩
       ·try simp -implicitDefEqProofs only [go_sem, WO_store, e1, e3, e4, e6, e9, e10]
        refine WS_parS ?_
        obtain ⟨e11, h⟩ := if_E h
        simp -implicitDefEqProofs only [go_sem]
        refine WPR_cat (by (try simp only [List.length_cons, List.length_nil] at e11 ⊢); omega) ?_
        obtain ⟨p13, e12, h⟩ := bind_E h
        simp -implicitDefEqProofs only [go_sem]
        refine PC.mk (no2_c p_0 x2.args e12) ?_
        obtain ⟨e14, h⟩ := if_E h
        simp -implicitDefEqProofs only [go_sem]
        refine WR_cat (by (try simp only [List.length_append, List.length_cons, List.length_nil] at e14 ⊢); omega) ?_
        obtain ⟨e15, h⟩ := if_E h
        simp -implicitDefEqProofs only [go_sem]
        refine WR_cat (by (try simp only [List.length_append, List.length_cons, List.length_nil] at e15 ⊢); omega) ?_
        obtain rfl := som_E h
        simp -implicitDefEqProofs only [go_sem]
        exact (.pure _ (.str _))
       ·rcases cond_E h with ⟨e16, h⟩ | ⟨e16, h⟩
        ·obtain ⟨p18, e17, h⟩ := bind_E h
         simp -implicitDefEqProofs only [go_sem, WO_store, e1, e3, e4, e6, e9, e10, e16]
         refine mcall_pure (no2_c p_0 x2.args e17) ?_
         obtain ⟨e19, h⟩ := if_E h
         simp -implicitDefEqProofs only [go_sem]
         refine WR_cat (by (try simp only [List.length_cons, List.length_nil] at e19 ⊢); omega) ?_
         obtain ⟨e20, h⟩ := if_E h
         simp -implicitDefEqProofs only [go_sem]
         refine WR_cat (by (try simp only [List.length_cons, List.length_nil] at e20 ⊢); omega) ?_
         obtain rfl := som_E h
         simp -implicitDefEqProofs only [go_sem]
         exact (.pure _ (.str _))
        ·rcases cond_E h with ⟨e21, h⟩ | ⟨e21, h⟩
         ·obtain ⟨p23, e22, h⟩ := bind_E h
          simp -implicitDefEqProofs only [go_sem, WO_store, e1, e3, e4, e6, e9, e10, e16, e21]
          refine mcall_pure (no2_c p_0 x2.args e22) ?_
          obtain ⟨e24, h⟩ := if_E h
          simp -implicitDefEqProofs only [go_sem]
          refine WR_cat (by (try simp only [List.length_cons, List.length_nil] at e24 ⊢); omega) ?_
          obtain ⟨e25, h⟩ := if_E h
          simp -implicitDefEqProofs only [go_sem]
          refine WR_cat (by (try simp only [List.length_cons, List.length_nil] at e25 ⊢); omega) ?_
          obtain rfl := som_E h
          simp -implicitDefEqProofs only [go_sem]
          exact (.pure _ (.str _))
         ·rcases cond_E h with ⟨e26, h⟩ | ⟨e26, h⟩
          ·try simp -implicitDefEqProofs only [go_sem, WO_store, e1, e3, e4, e6, e9, e10, e16, e21, e26]
           refine WS_parS ?_
           obtain ⟨p28, e27, h⟩ := bind_E h
           simp -implicitDefEqProofs only [go_sem]
           refine PC.mk (no2_c p_0 x2 e27) ?_
           obtain ⟨e29, h⟩ := if_E h
           simp -implicitDefEqProofs only [go_sem]
           refine WPR_cat (by (try simp only [List.length_cons, List.length_nil] at e29 ⊢); omega) ?_
           obtain ⟨e30, h⟩ := if_E h
           simp -implicitDefEqProofs only [go_sem]
           refine WPR_cat (by (try simp only [List.length_cons, List.length_nil] at e30 ⊢); omega) ?_
           obtain ⟨x31, e32, h⟩ := bind_E h
           obtain ⟨p34, e33, h⟩ := bind_E h
           simp -implicitDefEqProofs only [go_sem, e32]
           refine PC.mk ((t_text_u k p_0 x31 false _ e33).wk (.same (.same (.same .nil)))) ?_
           obtain ⟨e35, h⟩ := if_E h
           simp -implicitDefEqProofs only [go_sem]
           refine WR_cat (by (try simp only [List.length_append, List.length_cons, List.length_nil] at e35 ⊢); omega) ?_
           obtain ⟨e36, h⟩ := if_E h
           simp -implicitDefEqProofs only [go_sem]
           refine WR_cat (by (try simp only [List.length_append, List.length_cons, List.length_nil] at e36 ⊢); omega) ?_
           obtain rfl := som_E h
           simp -implicitDefEqProofs only [go_sem]
           exact (.pure _ (.str _))
          ·rcases cond_E h with ⟨e37, h⟩ | ⟨e37, h⟩
           ·try simp -implicitDefEqProofs only [go_sem, WO_store, e1, e3, e4, e6, e9, e10, e16, e21, e26, e37]
            refine WS_parS ?_
            obtain ⟨e38, h⟩ := if_E h
            obtain ⟨x39, e40, h⟩ := bind_E h
            obtain ⟨p42, e41, h⟩ := bind_E h
            simp -implicitDefEqProofs only [go_sem, e38, e40]
            refine PC.mk (no2_c p_0 x39 e41) ?_
            obtain ⟨e43, h⟩ := if_E h
            simp -implicitDefEqProofs only [go_sem]
            refine WPR_cat (by (try simp only [List.length_cons, List.length_nil] at e43 ⊢); omega) ?_
            obtain ⟨e44, h⟩ := if_E h
            simp -implicitDefEqProofs only [go_sem]
            refine WPR_cat (by (try simp only [List.length_cons, List.length_nil] at e44 ⊢); omega) ?_
            obtain ⟨p46, e45, h⟩ := bind_E h
            simp -implicitDefEqProofs only [go_sem]
            refine PC.mk (no2_c p_0 x2 e45) ?_
            obtain ⟨e47, h⟩ := if_E h
            simp -implicitDefEqProofs only [go_sem]
            refine WR_cat (by (try simp only [List.length_append, List.length_cons, List.length_nil] at e47 ⊢); omega) ?_
            obtain ⟨e48, h⟩ := if_E h
            simp -implicitDefEqProofs only [go_sem]
            refine WR_cat (by (try simp only [List.length_append, List.length_cons, List.length_nil] at e48 ⊢); omega) ?_
            obtain rfl := som_E h
            simp -implicitDefEqProofs only [go_sem]
            exact (.pure _ (.str _))
           ·rcases cond_E h with ⟨e49, h⟩ | ⟨e49, h⟩
            ·try simp -implicitDefEqProofs only [go_sem, WO_store, e1, e3, e4, e6, e9, e10, e16, e21, e26, e37, e49]
             refine WS_parS ?_
             obtain ⟨p51, e50, h⟩ := bind_E h
             simp -implicitDefEqProofs only [go_sem]
             refine PC.mk (no2_c p_0 x2 e50) ?_
             obtain ⟨e52, h⟩ := if_E h
             simp -implicitDefEqProofs only [go_sem]
             refine WPR_cat (by (try simp only [List.length_cons, List.length_nil] at e52 ⊢); omega) ?_
             obtain ⟨e53, h⟩ := if_E h
             simp -implicitDefEqProofs only [go_sem]
             refine WPR_cat (by (try simp only [List.length_cons, List.length_nil] at e53 ⊢); omega) ?_
             obtain ⟨e54, h⟩ := if_E h
             obtain ⟨x55, e56, h⟩ := bind_E h
             obtain ⟨p58, e57, h⟩ := bind_E h
             simp -implicitDefEqProofs only [go_sem, e54, e56]
             refine PC.mk ((t_text_u k p_0 x55 false _ e57).wk (.same (.same (.same .nil)))) ?_
             obtain ⟨e59, h⟩ := if_E h
             simp -implicitDefEqProofs only [go_sem]
             refine WR_cat (by (try simp only [List.length_append, List.length_cons, List.length_nil] at e59 ⊢); omega) ?_
             obtain ⟨e60, h⟩ := if_E h
             simp -implicitDefEqProofs only [go_sem]
             refine WR_cat (by (try simp only [List.length_append, List.length_cons, List.length_nil] at e60 ⊢); omega) ?_
             obtain rfl := som_E h
             simp -implicitDefEqProofs only [go_sem]
             exact (.pure _ (.str _))
            ·rcases cond_E h with ⟨e61, h⟩ | ⟨e61, h⟩
             ·try simp -implicitDefEqProofs only [go_sem, WO_store, e1, e3, e4, e6, e9, e10, e16, e21, e26, e37, e49, e61]
              refine WS_parS ?_
              obtain ⟨x62, e63, h⟩ := bind_E h
              obtain ⟨p65, e64, h⟩ := bind_E h
              simp -implicitDefEqProofs only [go_sem, e63]
              refine PC.mk (no2_c p_0 x62 e64) ?_
              obtain ⟨e66, h⟩ := if_E h
              simp -implicitDefEqProofs only [go_sem]
              refine WPR_cat (by (try simp only [List.length_cons, List.length_nil] at e66 ⊢); omega) ?_
              obtain ⟨e67, h⟩ := if_E h
              obtain ⟨p69, e68, h⟩ := bind_E h
              simp -implicitDefEqProofs only [go_sem, e67]
              refine PC.mk (no2_c p_0 (x2.args.drop 1) e68) ?_
              obtain ⟨e70, h⟩ := if_E h
              simp -implicitDefEqProofs only [go_sem]
              refine WR_cat (by (try simp only [List.length_append, List.length_cons, List.length_nil] at e70 ⊢); omega) ?_
              obtain ⟨e71, h⟩ := if_E h
              simp -implicitDefEqProofs only [go_sem]
              refine WR_cat (by (try simp only [List.length_append, List.length_cons, List.length_nil] at e71 ⊢); omega) ?_
              obtain rfl := som_E h
              simp -implicitDefEqProofs only [go_sem]
              exact (.pure _ (.str _))
             ·rcases cond_E h with ⟨e72, h⟩ | ⟨e72, h⟩
              ·try simp -implicitDefEqProofs only [go_sem, WO_store, e1, e3, e4, e6, e9, e10, e16, e21, e26, e37, e49, e61, e72]
               refine WS_parS ?_
               obtain ⟨x73, e74, h⟩ := bind_E h
               obtain ⟨p76, e75, h⟩ := bind_E h
               simp -implicitDefEqProofs only [go_sem, e74]
               refine PC.mk ((t_text_u k p_0 x73 false _ e75).wk (.same (.same (.same .nil)))) ?_
               obtain ⟨e77, h⟩ := if_E h
               simp -implicitDefEqProofs only [go_sem]
               refine WPR_cat (by (try simp only [List.length_cons, List.length_nil] at e77 ⊢); omega) ?_
               obtain ⟨e78, h⟩ := if_E h
               simp -implicitDefEqProofs only [go_sem]
               refine WPR_cat (by (try simp only [List.length_cons, List.length_nil] at e78 ⊢); omega) ?_
               obtain ⟨x79, e80, h⟩ := bind_E h
               obtain ⟨p82, e81, h⟩ := bind_E h
               simp -implicitDefEqProofs only [go_sem, e80]
               refine PC.mk ((t_text_u k p_0 x79 false _ e81).wk (.same (.same (.same .nil)))) ?_
               obtain ⟨e83, h⟩ := if_E h
               simp -implicitDefEqProofs only [go_sem]
               refine WR_cat (by (try simp only [List.length_append, List.length_cons, List.length_nil] at e83 ⊢); omega) ?_
               obtain ⟨e84, h⟩ := if_E h
               simp -implicitDefEqProofs only [go_sem]
               refine WR_cat (by (try simp only [List.length_append, List.length_cons, List.length_nil] at e84 ⊢); omega) ?_
               obtain rfl := som_E h
               simp -implicitDefEqProofs only [go_sem]
               exact (.pure _ (.str _))
              ·rcases cond_E h with ⟨e85, h⟩ | ⟨e85, h⟩
               ·obtain ⟨p87, e86, h⟩ := bind_E h
                simp -implicitDefEqProofs only [go_sem, WO_store, e1, e3, e4, e6, e9, e10, e16, e21, e26, e37, e49, e61, e72, e85]
                refine mcall_pure (no3_c p_0 x2 ([32, 124, 45, 62, 32] : Str) e86) ?_
                obtain ⟨e88, h⟩ := if_E h
                simp -implicitDefEqProofs only [go_sem]
                refine WR_cat (by (try simp only [List.length_cons, List.length_nil] at e88 ⊢); omega) ?_
                obtain ⟨e89, h⟩ := if_E h
                simp -implicitDefEqProofs only [go_sem]
                refine WR_cat (by (try simp only [List.length_cons, List.length_nil] at e89 ⊢); omega) ?_
                obtain rfl := som_E h
                simp -implicitDefEqProofs only [go_sem]
                exact (.pure _ (.str _))
               ·rcases cond_E h with ⟨e90, h⟩ | ⟨e90, h⟩
                ·obtain ⟨p92, e91, h⟩ := bind_E h
                 simp -implicitDefEqProofs only [go_sem, WO_store, e1, e3, e4, e6, e9, e10, e16, e21, e26, e37, e49, e61, e72, e85, e90]
                 refine mcall_pure (no3_c p_0 x2 ([32, 58, 32] : Str) e91) ?_
                 obtain ⟨e93, h⟩ := if_E h
                 simp -implicitDefEqProofs only [go_sem]
                 refine WR_cat (by (try simp only [List.length_cons, List.length_nil] at e93 ⊢); omega) ?_
                 obtain ⟨e94, h⟩ := if_E h
                 simp -implicitDefEqProofs only [go_sem]
                 refine WR_cat (by (try simp only [List.length_cons, List.length_nil] at e94 ⊢); omega) ?_
                 obtain rfl := som_E h
                 simp -implicitDefEqProofs only [go_sem]
                 exact (.pure _ (.str _))
                ·rcases cond_E h with ⟨e95, h⟩ | ⟨e95, h⟩
                 ·try simp -implicitDefEqProofs only [go_sem, WO_store, e1, e3, e4, e6, e9, e10, e16, e21, e26, e37, e49, e61, e72, e85, e90, e95]
                  refine WS_parS ?_
                  obtain ⟨x96, e97, h⟩ := bind_E h
                  obtain ⟨p99, e98, h⟩ := bind_E h
                  simp -implicitDefEqProofs only [go_sem, e97]
                  refine PC.mk (no2_c p_0 x96 e98) ?_
                  obtain ⟨e100, h⟩ := if_E h
                  simp -implicitDefEqProofs only [go_sem]
                  refine WPR_cat (by (try simp only [List.length_cons, List.length_nil] at e100 ⊢); omega) ?_
                  obtain ⟨e101, h⟩ := if_E h
                  simp -implicitDefEqProofs only [go_sem]
                  refine WR_cat (by (try simp only [List.length_append, List.length_cons, List.length_nil] at e101 ⊢); omega) ?_
                  obtain rfl := som_E h
                  simp -implicitDefEqProofs only [go_sem]
                  exact (.pure _ (.str _))
                 ·rcases cond_E h with ⟨e102, h⟩ | ⟨e102, h⟩
                  ·try simp -implicitDefEqProofs only [go_sem, WO_store, e1, e3, e4, e6, e9, e10, e16, e21, e26, e37, e49, e61, e72, e85, e90, e95, e102]
                   refine WS_parS ?_
                   obtain ⟨x103, e104, h⟩ := bind_E h
                   obtain ⟨p106, e105, h⟩ := bind_E h
                   simp -implicitDefEqProofs only [go_sem, e104]
                   refine PC.mk ((t_text_u k p_0 x103 false _ e105).wk (.same (.same (.same .nil)))) ?_
                   obtain ⟨e107, h⟩ := if_E h
                   simp -implicitDefEqProofs only [go_sem]
                   refine WPR_cat (by (try simp only [List.length_cons, List.length_nil] at e107 ⊢); omega) ?_
                   obtain ⟨e108, h⟩ := if_E h
                   simp -implicitDefEqProofs only [go_sem]
                   refine WPR_cat (by (try simp only [List.length_cons, List.length_nil] at e108 ⊢); omega) ?_
                   obtain ⟨x109, e110, h⟩ := bind_E h
                   obtain ⟨p112, e111, h⟩ := bind_E h
                   simp -implicitDefEqProofs only [go_sem, e110]
                   refine PC.mk ((t_text_u k p_0 x109 false _ e111).wk (.same (.same (.same .nil)))) ?_
                   obtain ⟨e113, h⟩ := if_E h
                   simp -implicitDefEqProofs only [go_sem]
                   refine WPR_cat (by (try simp only [List.length_append, List.length_cons, List.length_nil] at e113 ⊢); omega) ?_
                   obtain ⟨e114, h⟩ := if_E h
                   simp -implicitDefEqProofs only [go_sem]
                   refine WPR_cat (by (try simp only [List.length_append, List.length_cons, List.length_nil] at e114 ⊢); omega) ?_
                   obtain ⟨x115, e116, h⟩ := bind_E h
                   obtain ⟨p118, e117, h⟩ := bind_E h
                   simp -implicitDefEqProofs only [go_sem, e116]
                   refine PC.mk ((t_text_u k p_0 x115 false _ e117).wk (.same (.same (.same .nil)))) ?_
                   obtain ⟨e119, h⟩ := if_E h
                   simp -implicitDefEqProofs only [go_sem]
                   refine WR_cat (by (try simp only [List.length_append, List.length_cons, List.length_nil] at e119 ⊢); omega) ?_
                   obtain ⟨e120, h⟩ := if_E h
                   simp -implicitDefEqProofs only [go_sem]
                   refine WR_cat (by (try simp only [List.length_append, List.length_cons, List.length_nil] at e120 ⊢); omega) ?_
                   obtain rfl := som_E h
                   simp -implicitDefEqProofs only [go_sem]
                   exact (.pure _ (.str _))
                  ·rcases cond_E h with ⟨e121, h⟩ | ⟨e121, h⟩
                   ·obtain rfl := som_E h
                    simp -implicitDefEqProofs only [go_sem, WO_store, e1, e3, e4, e6, e9, e10, e16, e21, e26, e37, e49, e61, e72, e85, e90, e95, e102, e121]
                    exact (.pure _ (.str _))
                   ·rcases cond_E h with ⟨e122, h⟩ | ⟨e122, h⟩
                    ·try simp -implicitDefEqProofs only [go_sem, WO_store, e1, e3, e4, e6, e9, e10, e16, e21, e26, e37, e49, e61, e72, e85, e90, e95, e102, e121, e122]
                     refine WS_parS ?_
                     obtain ⟨x123, e124, h⟩ := bind_E h
                     obtain ⟨p126, e125, h⟩ := bind_E h
                     simp -implicitDefEqProofs only [go_sem, e124]
                     refine PC.mk ((t_text_u k p_0 x123 false _ e125).wk (.same (.same (.same .nil)))) ?_
                     obtain ⟨e127, h⟩ := if_E h
                     simp -implicitDefEqProofs only [go_sem]
                     refine WPR_cat (by (try simp only [List.length_cons, List.length_nil] at e127 ⊢); omega) ?_
                     obtain ⟨e128, h⟩ := if_E h
                     simp -implicitDefEqProofs only [go_sem]
                     refine WPR_cat (by (try simp only [List.length_cons, List.length_nil] at e128 ⊢); omega) ?_
                     obtain ⟨x129, e130, h⟩ := bind_E h
                     obtain ⟨p132, e131, h⟩ := bind_E h
                     simp -implicitDefEqProofs only [go_sem, e130]
                     refine PC.mk (no2_c p_0 x129 e131) ?_
                     obtain ⟨e133, h⟩ := if_E h
                     simp -implicitDefEqProofs only [go_sem]
                     refine WR_cat (by (try simp only [List.length_append, List.length_cons, List.length_nil] at e133 ⊢); omega) ?_
                     obtain rfl := som_E h
                     simp -implicitDefEqProofs only [go_sem]
                     exact (.pure _ (.str _))
                    ·rcases cond_E h with ⟨e134, h⟩ | ⟨e134, h⟩
                     ·try simp -implicitDefEqProofs only [go_sem, WO_store, e1, e3, e4, e6, e9, e10, e16, e21, e26, e37, e49, e61, e72, e85, e90, e95, e102, e121, e122, e134]
                      refine WS_parS ?_
                      obtain ⟨x135, e136, h⟩ := bind_E h
                      obtain ⟨p138, e137, h⟩ := bind_E h
                      simp -implicitDefEqProofs only [go_sem, e136]
                      refine PC.mk ((t_text_u k p_0 x135 false _ e137).wk (.same (.same (.same .nil)))) ?_
                      obtain ⟨e139, h⟩ := if_E h
                      simp -implicitDefEqProofs only [go_sem]
                      refine WPR_cat (by (try simp only [List.length_cons, List.length_nil] at e139 ⊢); omega) ?_
                      obtain ⟨e140, h⟩ := if_E h
                      simp -implicitDefEqProofs only [go_sem]
                      refine WPR_cat (by (try simp only [List.length_cons, List.length_nil] at e140 ⊢); omega) ?_
                      obtain ⟨x141, e142, h⟩ := bind_E h
                      obtain ⟨p144, e143, h⟩ := bind_E h
                      simp -implicitDefEqProofs only [go_sem, e142]
                      refine PC.mk (no2_c p_0 x141 e143) ?_
                      obtain ⟨e145, h⟩ := if_E h
                      simp -implicitDefEqProofs only [go_sem]
                      refine WR_cat (by (try simp only [List.length_append, List.length_cons, List.length_nil] at e145 ⊢); omega) ?_
                      obtain rfl := som_E h
                      simp -implicitDefEqProofs only [go_sem]
                      exact (.pure _ (.str _))
                     ·rcases cond_E h with ⟨e146, h⟩ | ⟨e146, h⟩
                      ·try simp -implicitDefEqProofs only [go_sem, WO_store, e1, e3, e4, e6, e9, e10, e16, e21, e26, e37, e49, e61, e72, e85, e90, e95, e102, e121, e122, e134, e146]
                       refine WS_parS ?_
                       obtain ⟨x147, e148, h⟩ := bind_E h
                       obtain ⟨p150, e149, h⟩ := bind_E h
                       simp -implicitDefEqProofs only [go_sem, e148]
                       refine PC.mk (no2_c p_0 x147 e149) ?_
                       obtain ⟨e151, h⟩ := if_E h
                       simp -implicitDefEqProofs only [go_sem]
                       refine WPR_cat (by (try simp only [List.length_cons, List.length_nil] at e151 ⊢); omega) ?_
                       obtain ⟨e152, h⟩ := if_E h
                       simp -implicitDefEqProofs only [go_sem]
                       refine WPR_cat (by (try simp only [List.length_cons, List.length_nil] at e152 ⊢); omega) ?_
                       obtain ⟨x153, e154, h⟩ := bind_E h
                       obtain ⟨p156, e155, h⟩ := bind_E h
                       simp -implicitDefEqProofs only [go_sem, e154]
                       refine PC.mk ((t_text_u k p_0 x153 false _ e155).wk (.same (.same (.same .nil)))) ?_
                       obtain ⟨e157, h⟩ := if_E h
                       simp -implicitDefEqProofs only [go_sem]
                       refine WR_cat (by (try simp only [List.length_append, List.length_cons, List.length_nil] at e157 ⊢); omega) ?_
                       obtain ⟨e158, h⟩ := if_E h
                       simp -implicitDefEqProofs only [go_sem]
                       refine WR_cat (by (try simp only [List.length_append, List.length_cons, List.length_nil] at e158 ⊢); omega) ?_
                       obtain rfl := som_E h
                       simp -implicitDefEqProofs only [go_sem]
                       exact (.pure _ (.str _))
                      ·rcases cond_E h with ⟨e159, h⟩ | ⟨e159, h⟩
                       ·try simp -implicitDefEqProofs only [go_sem, WO_store, e1, e3, e4, e6, e9, e10, e16, e21, e26, e37, e49, e61, e72, e85, e90, e95, e102, e121, e122, e134, e146, e159]
                        refine WS_parS ?_
                        obtain ⟨x160, e161, h⟩ := bind_E h
                        obtain ⟨p163, e162, h⟩ := bind_E h
                        simp -implicitDefEqProofs only [go_sem, e161]
                        refine PC.mk (no2_c p_0 x160 e162) ?_
                        obtain ⟨e164, h⟩ := if_E h
                        simp -implicitDefEqProofs only [go_sem]
                        refine WPR_cat (by (try simp only [List.length_cons, List.length_nil] at e164 ⊢); omega) ?_
                        obtain ⟨e165, h⟩ := if_E h
                        simp -implicitDefEqProofs only [go_sem]
                        refine WPR_cat (by (try simp only [List.length_cons, List.length_nil] at e165 ⊢); omega) ?_
                        obtain ⟨x166, e167, h⟩ := bind_E h
                        obtain ⟨p169, e168, h⟩ := bind_E h
                        simp -implicitDefEqProofs only [go_sem, e167]
                        refine PC.mk ((t_text_u k p_0 x166 false _ e168).wk (.same (.same (.same .nil)))) ?_
                        obtain ⟨e170, h⟩ := if_E h
                        simp -implicitDefEqProofs only [go_sem]
                        refine WR_cat (by (try simp only [List.length_append, List.length_cons, List.length_nil] at e170 ⊢); omega) ?_
                        obtain ⟨e171, h⟩ := if_E h
                        simp -implicitDefEqProofs only [go_sem]
                        refine WR_cat (by (try simp only [List.length_append, List.length_cons, List.length_nil] at e171 ⊢); omega) ?_
                        obtain rfl := som_E h
                        simp -implicitDefEqProofs only [go_sem]
                        exact (.pure _ (.str _))
                       ·obtain ⟨p173, e172, h⟩ := bind_E h
                        simp -implicitDefEqProofs only [go_sem, WO_store, e1, e3, e4, e6, e9, e10, e16, e21, e26, e37, e49, e61, e72, e85, e90, e95, e102, e121, e122, e134, e146, e159]
                        refine mcall_pure (no2_c p_0 x2 e172) ?_
                        obtain rfl := som_E h
                        simp -implicitDefEqProofs only [go_sem]
                        exact (.pure _ (.str _))
end
theorem t_text_c (k : Nat) (p_0 : Printer) (at_1 : Int) (follows_2 : Bool) {r : Str} (h : t_text k p_0 at_1 follows_2 = some r) : PCall Tryz.prog 59 [(.agg (Printer.cells p_0)), (.int .i64 at_1), (.bool follows_2)] (.str r) := t_text_u k p_0 at_1 follows_2 r h
def t_FormatExpr (k : Nat) (e_0 : List Nd) : Option (Str × Int) :=
  Option.bind (t_exprErr k e_0) fun p2 => cond (p2 != 0) (some ([], p2)) (Option.bind (t_text k (Printer.mk e_0) (IntKind.wrap .i64 ((e_0.length : Int) - 1)) false) fun p5 => cond (decide ((p5.length : Int) > 20000)) (some ([], 2)) (some (p5, 0)))
theorem t_FormatExpr_u (k : Nat) (e_0 : List Nd) {r : Str × Int} (h : t_FormatExpr k e_0 = some r) : PCall Tryz.prog 17 [(.isl (e_0.map Nd.cells) .unk)] (.tup [(.str r.1), (.int .i64 r.2)]) := by
  refine PCall.of_empty (PuL.mem (.cons (pu_sl Nd.pu _) .nil)) (MCall_of_W ok17 (by simp) (W_start ?_)) (.tup _ (PuL.mem (.cons (.str _) (.cons (.int _ _) .nil))))
  unfold t_FormatExpr at h
  unfold ac17
  obtain ⟨p2, e1, h⟩ := bind_E h
  simp -implicitDefEqProofs only [go_sem]
  refine mcall_pure (t_exprErr_c k e_0 e1) ?_
  rcases cond_E h with ⟨e3, h⟩ | ⟨e3, h⟩
  ·obtain rfl := som_E h
   simp -implicitDefEqProofs only [go_sem, e3]
   exact (fz_tup (.cons (.pure _ (.str _)) (.cons (.pure _ (.int _ _)) .nil)))
  ·obtain ⟨p5, e4, h⟩ := bind_E h
   simp -implicitDefEqProofs only [go_sem, e3]
   refine mcall_pure (t_text_c k (Printer.mk e_0) (IntKind.wrap .i64 ((e_0.length : Int) - 1)) false e4) ?_
   rcases cond_E h with ⟨e6, h⟩ | ⟨e6, h⟩
   ·obtain rfl := som_E h
    simp -implicitDefEqProofs only [go_sem, e6]
    exact (fz_tup (.cons (.pure _ (.str _)) (.cons (.pure _ (.int _ _)) .nil)))
   ·obtain rfl := som_E h
    simp -implicitDefEqProofs only [go_sem, e6]
    exact (fz_tup (.cons (.pure _ (.str _)) (.cons (.pure _ (.int _ _)) .nil)))
theorem t_FormatExpr_c (k : Nat) (e_0 : List Nd) {c0 : Ck} {r : Str × Int} (h : t_FormatExpr k e_0 = some r) : PCall Tryz.prog 17 [(.isl (e_0.map Nd.cells) c0)] (.tup [(.str r.1), (.int .i64 r.2)]) := (t_FormatExpr_u k e_0 h).wk (.isl .nil)
end Go.VL
end
section
set_option maxRecDepth 8000
set_option maxHeartbeats 4000000
namespace Go.VL
open Go.Proofs
def t_FreeIn (k : Nat) (e_0 : List Nd) : Option ((List Str) × Int) :=
  Option.bind (t_exprErr k e_0) fun p2 => cond (p2 != 0) (some ([], p2)) (Option.bind (t_free k e_0) fun p5 => some (p5, 0))
theorem t_FreeIn_u (k : Nat) (e_0 : List Nd) {r : (List Str) × Int} (h : t_FreeIn k e_0 = some r) : PCall Tryz.prog 32 [(.isl (e_0.map Nd.cells) .unk)] (.tup [(.isl (r.1.map strL) .unk), (.int .i64 r.2)]) := by
  refine PCall.of_empty (PuL.mem (.cons (pu_sl Nd.pu _) .nil)) (MCall_of_W ok32 (by simp) (W_start ?_)) (.tup _ (PuL.mem (.cons (pu_sl pu_strL _) (.cons (.int _ _) .nil))))
  unfold t_FreeIn at h
  unfold ac32
  obtain ⟨p2, e1, h⟩ := bind_E h
  simp -implicitDefEqProofs only [go_sem]
  refine mcall_pure (t_exprErr_c k e_0 e1) ?_
  rcases cond_E h with ⟨e3, h⟩ | ⟨e3, h⟩
  ·obtain rfl := som_E h
   simp -implicitDefEqProofs only [go_sem, e3]
   exact (fz_tup (.cons (fz_sl pu_strL [] _) (.cons (.pure _ (.int _ _)) .nil)))
  ·obtain ⟨p5, e4, h⟩ := bind_E h
   simp -implicitDefEqProofs only [go_sem, e3]
   refine mcall_pure (t_free_c k e_0 e4) ?_
   obtain rfl := som_E h
   simp -implicitDefEqProofs only [go_sem]
   exact (fz_tup (.cons (fz_sl pu_strL p5 _) (.cons (.pure _ (.int _ _)) .nil)))
theorem t_FreeIn_c (k : Nat) (e_0 : List Nd) {c0 : Ck} {r : (List Str) × Int} (h : t_FreeIn k e_0 = some r) : PCall Tryz.prog 32 [(.isl (e_0.map Nd.cells) c0)] (.tup [(.isl (r.1.map strL) .unk), (.int .i64 r.2)]) := (t_FreeIn_u k e_0 h).wk (.isl .nil)
def l_awake (k : Nat) : Option Bool :=
  Option.bind (l_Sum k ) fun p2 => Option.bind (t_FormatExpr k p2) fun p4 => Option.bind (t_FreeIn k p2) fun p8 => Option.bind (t_OperatorOf k ([92, 99, 100, 111, 116] : Str)) fun p10 => Option.bind (t_CheckExpr k [(Nd.mk 20 0 [] [] [])]) fun p12 => cond (p4.2 == 0) (cond (p4.1 == ([97, 32, 43, 32, 98, 32, 42, 32, 99] : Str)) (cond (p8.2 == 0) (Option.bind (b_EqualTexts k p8.1 [([97] : Str), ([98] : Str), ([99] : Str)]) fun p17 => cond p17 (cond (p10.2 == 0) (cond (p10.1.high == 14) (cond p10.1.left (cond (p12.2 == 30) (some (p12.1 == 0)) (some false)) (some false)) (some false)) (some false)) (some false)) (some false)) (some false)) (some false)
theorem l_awake_u (k : Nat) {r : Bool} (h : l_awake k = some r) : PCall Tryz.prog 12 [] (.bool r) := by
  refine PCall.of_empty (PuL.mem .nil) (MCall_of_W ok12 (by simp) (W_start ?_)) (.bool _)
  unfold l_awake at h
  unfold ac12
  obtain ⟨p2, e1, h⟩ := bind_E h
  simp -implicitDefEqProofs only [go_sem]
  refine mcall_pure (l_Sum_c k  e1) ?_
  obtain ⟨p4, e3, h⟩ := bind_E h
  simp -implicitDefEqProofs only [go_sem]
  refine mcall_pure (t_FormatExpr_c k p2 e3) ?_
  simp -implicitDefEqProofs only [go_sem]
  refine mcall_pure (l_Sum_c k  e1) ?_
  obtain ⟨p8, e7, h⟩ := bind_E h
  simp -implicitDefEqProofs only [go_sem]
  refine mcall_pure (t_FreeIn_c k p2 e7) ?_
  obtain ⟨p10, e9, h⟩ := bind_E h
  simp -implicitDefEqProofs only [go_sem]
  refine mcall_pure (t_OperatorOf_c k ([92, 99, 100, 111, 116] : Str) e9) ?_
  obtain ⟨p12, e11, h⟩ := bind_E h
  simp -implicitDefEqProofs only [go_sem, WO_store]
  refine mcall_pure (t_CheckExpr_c k [(Nd.mk 20 0 [] [] [])] e11) ?_
  rcases cond_E h with ⟨e13, h⟩ | ⟨e13, h⟩
  ·rcases cond_E h with ⟨e14, h⟩ | ⟨e14, h⟩
   ·rcases cond_E h with ⟨e15, h⟩ | ⟨e15, h⟩
    ·obtain ⟨p17, e16, h⟩ := bind_E h
     simp -implicitDefEqProofs only [go_sem, e13, e14, e15]
     refine mcall_pure (b_EqualTexts_c k p8.1 [([97] : Str), ([98] : Str), ([99] : Str)] e16) ?_
     rcases cond_E h with ⟨e18, h⟩ | ⟨e18, h⟩
     ·rcases cond_E h with ⟨e19, h⟩ | ⟨e19, h⟩
      ·rcases cond_E h with ⟨e20, h⟩ | ⟨e20, h⟩
       ·rcases cond_E h with ⟨e21, h⟩ | ⟨e21, h⟩
        ·rcases cond_E h with ⟨e22, h⟩ | ⟨e22, h⟩
         ·obtain rfl := som_E h
          simp -implicitDefEqProofs only [go_sem, e18, e19, e20, e21, e22]
          exact (.pure _ (.bool _))
         ·obtain rfl := som_E h
          simp -implicitDefEqProofs only [go_sem, e18, e19, e20, e21, e22]
          exact (.pure _ (.bool _))
        ·obtain rfl := som_E h
         simp -implicitDefEqProofs only [go_sem, e18, e19, e20, e21]
         exact (.pure _ (.bool _))
       ·obtain rfl := som_E h
        simp -implicitDefEqProofs only [go_sem, e18, e19, e20]
        exact (.pure _ (.bool _))
      ·obtain rfl := som_E h
       simp -implicitDefEqProofs only [go_sem, e18, e19]
       exact (.pure _ (.bool _))
     ·obtain rfl := som_E h
      simp -implicitDefEqProofs only [go_sem, e18]
      exact (.pure _ (.bool _))
    ·obtain rfl := som_E h
     simp -implicitDefEqProofs only [go_sem, e13, e14, e15]
     exact (.pure _ (.bool _))
   ·obtain rfl := som_E h
    simp -implicitDefEqProofs only [go_sem, e13, e14]
    exact (.pure _ (.bool _))
  ·obtain rfl := som_E h
   simp -implicitDefEqProofs only [go_sem, e13]
   exact (.pure _ (.bool _))
theorem l_awake_c (k : Nat) {r : Bool} (h : l_awake k = some r) : PCall Tryz.prog 12 [] (.bool r) := l_awake_u k  h
end Go.VL
end
section
namespace Go.VL
open Go.Proofs
theorem awake_true : l_awake 100 = some true := by kernel_rfl
theorem awake_c : PCall Tryz.prog 12 [] (.bool true) := l_awake_c 100 awake_true
end Go.VL
end
section
set_option maxRecDepth 8000
set_option maxHeartbeats 4000000
namespace Go.VL
open Go.Proofs
def l_TreeChecks (k : Nat) (e_0 : List Nd) : Option Bool :=
  Option.bind (l_Few k e_0) fun p2 => cond p2 (Option.bind (b_OwnExpr k e_0) fun p5 => Option.bind (t_CheckExpr k p5) fun p7 => Option.bind (r_Check k e_0) fun p9 => cond (p7.2 == p9.2) (some (p7.1 == p9.1)) (some false)) (some true)
theorem l_TreeChecks_u (k : Nat) (e_0 : List Nd) {r : Bool} (h : l_TreeChecks k e_0 = some r) : PCall Tryz.prog 3 [(.isl (e_0.map Nd.cells) .unk)] (.bool r) := by
  refine PCall.of_empty (PuL.mem (.cons (pu_sl Nd.pu _) .nil)) (MCall_of_W ok3 (by simp) (W_start ?_)) (.bool _)
  unfold l_TreeChecks at h
  unfold ac3
  simp -implicitDefEqProofs only [go_sem]
  refine mcall_pure (awake_c ) ?_
  obtain ⟨p2, e1, h⟩ := bind_E h
  simp -implicitDefEqProofs only [go_sem]
  refine mcall_pure (l_Few_c k e_0 e1) ?_
  rcases cond_E h with ⟨e3, h⟩ | ⟨e3, h⟩
  ·obtain ⟨p5, e4, h⟩ := bind_E h
   simp -implicitDefEqProofs only [go_sem, e3]
   refine mcall_pure (b_OwnExpr_c k e_0 e4) ?_
   obtain ⟨p7, e6, h⟩ := bind_E h
   simp -implicitDefEqProofs only [go_sem]
   refine mcall_pure (t_CheckExpr_c k p5 e6) ?_
   obtain ⟨p9, e8, h⟩ := bind_E h
   simp -implicitDefEqProofs only [go_sem]
   refine mcall_pure (r_Check_c k e_0 e8) ?_
   rcases cond_E h with ⟨e10, h⟩ | ⟨e10, h⟩
   ·obtain rfl := som_E h
    simp -implicitDefEqProofs only [go_sem, e10]
    exact (.pure _ (.bool _))
   ·obtain rfl := som_E h
    simp -implicitDefEqProofs only [go_sem, e10]
    exact (.pure _ (.bool _))
  ·obtain rfl := som_E h
   simp -implicitDefEqProofs only [go_sem, e3]
   exact (.pure _ (.bool _))
theorem l_TreeChecks_c (k : Nat) (e_0 : List Nd) {c0 : Ck} {r : Bool} (h : l_TreeChecks k e_0 = some r) : PCall Tryz.prog 3 [(.isl (e_0.map Nd.cells) c0)] (.bool r) := (l_TreeChecks_u k e_0 h).wk (.isl .nil)
end Go.VL
end
section
namespace Go.VL
def fewN (n : Nd) : Bool := decide (n.args.length ≤ 34) && decide (n.names.length ≤ 34) && decide (n.text.length ≤ 80) && n.names.all fun s => decide (s.length ≤ 80)
def fewB (e : List Nd) : Bool := (e.take 172).all fewN && decide (e.length ≤ 170)
theorem l_Few_b0_ev {e : List Nd} {i : Nat} {n : Nd} (hn : e[i]? = some n) (hl : n.names.length ≤ 34) : Ev (fun k => l_Few_b0 k e (i : Int) ((0 : Nat) : Int)) (if (n.names.drop 0).all (fun s => decide (s.length ≤ 80)) = true then .inl () else .inr false) := by
  refine down0 (len := n.names.length) (p := fun j => Ev (fun k => l_Few_b0 k e (i : Int) (j : Int)) (if (n.names.drop j).all (fun s => decide (s.length ≤ 80)) = true then .inl () else .inr false)) ?_ fun j hj ih => ?_
  · refine Ev.succ ?_
    simp only [l_Few_b0, Int.toNat_natCast, hn, Option.bind_some, nn, if_true]
    exact Ev.cF (dnlt _) (Ev.some' (by simp))
  · refine Ev.succ ?_
    simp only [l_Few_b0, Int.toNat_natCast, hn, getE hj, Option.bind_some, nn, if_true, dlt hj, cond_true, wsucc hj (show n.names.length ≤ 1099511627776 by omega)]
    rw [drop_cons hj]
    simp only [List.all_cons, Bool.and_eq_true, decide_eq_true_eq]
    by_cases h : n.names[j].length ≤ 80
    · refine Ev.cF (decide_eq_false (by omega)) (ih.to ?_)
      simp only [h, true_and]
    · refine Ev.cT (decide_eq_true (by omega)) (Ev.some' ?_)
      simp only [h, false_and, if_false]
theorem l_Few_p0_eq (i : Nat) (m : Nat) : l_Few_p0 (i : Int) (decide ((i : Int) < (m : Int))) = some (decide (i < m) && decide (i < 172)) := by
  unfold l_Few_p0
  by_cases h : i < m
  · rw [cond_T (decide_eq_true (by omega)), decide_eq_true h, Bool.true_and]
    by_cases h2 : i < 172
    · rw [decide_eq_true h2, decide_eq_true (show (i : Int) < 172 by omega)]
    · rw [decide_eq_false h2, decide_eq_false (show ¬ (i : Int) < 172 by omega)]
  · rw [cond_F (decide_eq_false (by omega)), decide_eq_false h, Bool.false_and]
theorem l_Few_ev (e : List Nd) : Ev (fun k => l_Few k e) (fewB e) := by
  have hlen : (e.take 172).length = min 172 e.length := List.length_take
  have key : Ev (fun k => l_Few_b1 k e ((0 : Nat) : Int)) (if ((e.take 172).drop 0).all fewN = true then .inl () else .inr false) := by
    refine down0 (len := (e.take 172).length) (p := fun i => Ev (fun k => l_Few_b1 k e (i : Int)) (if ((e.take 172).drop i).all fewN = true then .inl () else .inr false)) ?_ fun i hi ih => ?_
    · refine Ev.succ ?_
      simp only [l_Few_b1, l_Few_p0_eq]
      refine Ev.bind0 rfl (Ev.cF ?_ (Ev.some' (by rw [List.drop_length]; rfl)))
      rw [Bool.and_eq_false_iff, decide_eq_false_iff_not, decide_eq_false_iff_not]
      omega
    · have hie : i < e.length := by omega
      have h172 : i < 172 := by omega
      have hget : (e.take 172)[i]'hi = e[i] := by simp
      refine Ev.succ ?_
      simp only [l_Few_b1, l_Few_p0_eq, Int.toNat_natCast, getE hie, Option.bind_some, nn, if_true, decide_eq_true hie, decide_eq_true h172, Bool.and_self, cond_true]
      rw [drop_cons hi, hget, wsucc h172 (by omega), List.all_cons]
      have hp : l_Few_p1 e (i : Int) (decide ((e[i].args.length : Int) > 34)) = some (!(decide (e[i].args.length ≤ 34) && decide (e[i].names.length ≤ 34) && decide (e[i].text.length ≤ 80))) := by
        unfold l_Few_p1
        simp only [Int.toNat_natCast, getE hie, Option.bind_some, nn, if_true]
        by_cases a : e[i].args.length ≤ 34
        · rw [cond_F (decide_eq_false (by omega))]
          by_cases b : e[i].names.length ≤ 34
          · rw [cond_F (decide_eq_false (by omega))]
            by_cases c : e[i].text.length ≤ 80
            · rw [decide_eq_false (by omega)]; simp [a, b, c]
            · rw [decide_eq_true (by omega)]; simp [a, b, c]
          · rw [cond_T (decide_eq_true (by omega))]; simp [a, b]
        · rw [cond_T (decide_eq_true (by omega))]; simp [a]
      refine Ev.bind0 hp ?_
      unfold fewN
      by_cases h3 : (decide (e[i].args.length ≤ 34) && decide (e[i].names.length ≤ 34) && decide (e[i].text.length ≤ 80)) = true
      · rw [h3]
        simp only [Bool.and_eq_true, decide_eq_true_eq] at h3
        have h0 := l_Few_b0_ev (getE hie) h3.1.2
        rw [List.drop_zero] at h0
        refine Ev.cF rfl (Ev.bind h0 ?_)
        cases h4 : e[i].names.all fun s => decide (s.length ≤ 80)
        · simp only [Bool.false_eq_true, if_false, sum_R]
          exact Ev.some' (by simp)
        · simp only [if_true, sum_L, Bool.true_and]
          exact ih
      · have h3 : (decide (e[i].args.length ≤ 34) && decide (e[i].names.length ≤ 34) && decide (e[i].text.length ≤ 80)) = false := by simpa using h3
        rw [h3]
        exact Ev.cT rfl (Ev.some' (by simp))
  unfold l_Few
  refine Ev.bind key ?_
  rw [List.drop_zero]
  unfold fewB
  cases (e.take 172).all fewN
  · simp only [Bool.false_eq_true, if_false, sum_R, Bool.false_and]; exact Ev.some
  · simp only [if_true, sum_L, Bool.true_and]
    refine Ev.some' ?_
    by_cases h : e.length ≤ 170
    · rw [decide_eq_true h, decide_eq_true (show (e.length : Int) ≤ 170 by omega)]
    · rw [decide_eq_false h, decide_eq_false (show ¬ (e.length : Int) ≤ 170 by omega)]
theorem few_nd {e : List Nd} (h : fewB e = true) : e.length ≤ 170 ∧ ∀ (i : Nat) n, e[i]? = some n → n.args.length ≤ 34 ∧ n.names.length ≤ 34 ∧ n.text.length ≤ 80 ∧ ∀ s ∈ n.names, s.length ≤ 80 := by
  unfold fewB at h
  rw [Bool.and_eq_true, decide_eq_true_eq] at h
  refine ⟨h.2, fun i n hn => ?_⟩
  rw [List.take_of_length_le (by omega)] at h
  have := List.all_eq_true.1 h.1 n (List.mem_of_getElem? hn)
  unfold fewN at this
  simp only [Bool.and_eq_true, decide_eq_true_eq, List.all_eq_true] at this
  exact ⟨this.1.1.1, this.1.1.2, this.1.2, this.2⟩
theorem few_lite {e : List Nd} (h : fewB e = true) : Lite e := by
  obtain ⟨h1, h2⟩ := few_nd h
  exact ⟨by omega, fun i n hn => by have := h2 i n hn; omega⟩
theorem b_OwnExpr_ev {e : List Nd} (hL : Lite e) : Ev (fun k => b_OwnExpr k e) e := by
  have hlen := hL.len
  have key : ∀ i, i ≤ e.length → Ev (fun k => b_OwnExpr_b0 k e (e.take i) (i : Int)) e := by
    refine down ?_ fun i hi ih => ?_
    · refine Ev.succ ?_
      simp only [b_OwnExpr_b0]
      exact Ev.cF (dnlt _) (Ev.some' (by simp))
    · refine Ev.succ ?_
      obtain ⟨h1, h2, h3⟩ := hL.nd i _ (getE hi)
      have e1 : b_OwnTexts e[i].names = some e[i].names := by
        unfold b_OwnTexts
        rw [if_pos (by simp; omega)]; rfl
      have e2 : b_OwnInts e[i].args = some e[i].args := by
        unfold b_OwnInts
        rw [if_pos (by simp; omega)]; rfl
      have e3 : ((e.take i).length + 1) * 80 ≤ 1099511627776 := by rw [List.length_take]; omega
      simp only [b_OwnExpr_b0, Int.toNat_natCast, getE hi, Option.bind_some, nn, if_true, dlt hi, cond_true, wsucc hi (show e.length ≤ 1099511627776 by omega), e1, e2, if_pos e3]
      rw [← List.take_succ_eq_append_getElem hi]
      exact ih
  unfold b_OwnExpr
  exact Ev.bind (key 0 (Nat.zero_le _)) Ev.some
theorem l_TreeChecks_ev (e : List Nd) : Ev (fun k => l_TreeChecks k e) true := by
  unfold l_TreeChecks
  refine Ev.bind (l_Few_ev e) ?_
  cases hf : fewB e
  · exact Ev.some
  · have hL := few_lite hf
    obtain ⟨r, h1, h2⟩ := check_same e hL
    refine Ev.cT rfl (Ev.bind (b_OwnExpr_ev hL) (Ev.bind h1 (Ev.bind h2 ?_)))
    refine Ev.cT (by simp) (Ev.some' (by simp))
end Go.VL
end
section
namespace Go.Proofs.YthebklihgmhgoaaGreatDoor
open Go.ChangeShapes Go.WideShapes Go.ChangeAt Go.RowKit Go.VL
set_option maxRecDepth 100000
theorem own : ownKnob Tryz.prog.godebug = none := by kernel_rfl
theorem laidOut : laidOutB Tryz.prog = true := by kernel_rfl
abbrev laidRows : List (String × DataW Unit) := [("math/bits.deBruijn32tab", Rows.laid_math_bits_deBruijn32tab), ("math/bits.deBruijn64tab", Rows.laid_math_bits_deBruijn64tab), ("internal/strconv.uint64pow10", Rows.laid_internal_strconv_uint64pow10), ("unicode.White_Space", Rows.laid_unicode_White_Space), ("strings.asciiSpace", Rows.laid_strings_asciiSpace)]
theorem laid_tail {P : Program} {x : String × DataW Unit} {l : List (String × DataW Unit)} {w : World} (h : laidMet P (x :: l) w) : laidMet P l w := by
  obtain ⟨ps, ⟨g, t, cs, fuel, p, q, h1, h2, h3, h4, h5, rfl⟩, hn, hr⟩ := h
  exact ⟨q, h5, (List.nodup_append.1 hn).2.1, fun b off hp => hr b off (List.mem_append_right _ hp)⟩
theorem tab_cells {W : World} {name : String} {k : IntKind} {zs : List Int} {d0 : DataW Unit} (hd : d0 = Lib.tabData k zs) {rest : List (String × DataW Unit)} {g : Nat} {t e : TypeId} {n : Nat} (hg : Tryz.prog.globalNamed name = some g) (hty : (Tryz.prog.globals[g]?).map (·.type) = some t)
    (ht : Tryz.prog.underlying t = some (.array n e)) (he : Tryz.prog.underlying e = some (.int k)) (hce : Tryz.prog.cellsOf e = 1) (hct : Tryz.prog.cellsOf t = n) (h : laidMet Tryz.prog ((name, d0) :: rest) W) (i : Nat) (x : Int) (hx : zs[i]? = some x) :
    W.cell? ⟨g, i, none⟩ = some (.int k x) := by
  subst hd
  have hi := (List.getElem?_eq_some_iff.1 hx).1
  have := (Lib.tabIs_of_head hg hty ht he hce hct h).cell hg i hi
  rw [this]
  simp [List.getD, hx]
theorem glob_of {W : World} (h : laidMetH Tryz.prog laidRows W) : ∀ a x, theGlob.gc a = some x → W.cell? a = some x := by
  have h : laidMet Tryz.prog laidRows W := h
  have h1 := laid_tail h
  have h2 := laid_tail h1
  have h4 := laid_tail (laid_tail h2)
  have e4 : (Rows.laid_math_bits_deBruijn32tab : DataW Unit) = Lib.tabData .u8 tab4 := by kernel_rfl
  have e5 : (Rows.laid_math_bits_deBruijn64tab : DataW Unit) = Lib.tabData .u8 tab5 := by kernel_rfl
  have e3 : (Rows.laid_internal_strconv_uint64pow10 : DataW Unit) = Lib.tabData .u64 tab3 := by kernel_rfl
  have e0 : (Rows.laid_strings_asciiSpace : DataW Unit) = Lib.tabData .u8 tab0 := by kernel_rfl
  have c4 : ∀ i x, tab4[i]? = some x → W.cell? ⟨4, i, none⟩ = some (.int .u8 x) := fun i x hx => tab_cells e4 (by kernel_rfl) (by kernel_rfl) Tryz.underlying255 Tryz.underlying5 (by kernel_rfl) (by kernel_rfl) h i x hx
  have c5 : ∀ i x, tab5[i]? = some x → W.cell? ⟨5, i, none⟩ = some (.int .u8 x) := fun i x hx => tab_cells e5 (by kernel_rfl) (by kernel_rfl) Tryz.underlying256 Tryz.underlying5 (by kernel_rfl) (by kernel_rfl) h1 i x hx
  have c3 : ∀ i x, tab3[i]? = some x → W.cell? ⟨3, i, none⟩ = some (.int .u64 x) := fun i x hx => tab_cells e3 (by kernel_rfl) (by kernel_rfl) Tryz.underlying250 Tryz.underlying183 (by kernel_rfl) (by kernel_rfl) h2 i x hx
  have c0 : ∀ i x, tab0[i]? = some x → W.cell? ⟨0, i, none⟩ = some (.int .u8 x) := fun i x hx => tab_cells e0 (by kernel_rfl) (by kernel_rfl) Tryz.underlying216 Tryz.underlying5 (by kernel_rfl) (by kernel_rfl) h4 i x hx
  intro a x e
  obtain ⟨b, o, sp⟩ := a
  cases sp with
  | some s => cases e
  | none =>
    have e : (match tabs.get b with | some (k, ns) => ns[o]?.map (Value.int k) | none => none) = some x := e
    have hb : tabs.get b = if b = 0 then some (.u8, tab0) else if b = 3 then some (.u64, tab3) else if b = 4 then some (.u8, tab4) else if b = 5 then some (.u8, tab5) else none := by
      simp only [tabs, Tabs.get, List.find?]
      by_cases h0 : b = 0
      · subst h0; rfl
      by_cases h3 : b = 3
      · subst h3; rfl
      by_cases h4 : b = 4
      · subst h4; rfl
      by_cases h5 : b = 5
      · subst h5; rfl
      simp [h0, h3, h4, h5, Ne.symm h0, Ne.symm h3, Ne.symm h4, Ne.symm h5, beq_eq_false_iff_ne.2 (Ne.symm h0), beq_eq_false_iff_ne.2 (Ne.symm h3), beq_eq_false_iff_ne.2 (Ne.symm h4), beq_eq_false_iff_ne.2 (Ne.symm h5)]
    rw [hb] at e
    by_cases h0 : b = 0
    · subst h0
      simp only [↓reduceIte, Option.map_eq_some_iff] at e
      obtain ⟨y, hy, rfl⟩ := e
      exact c0 o y hy
    by_cases h3 : b = 3
    · subst h3
      simp only [↓reduceIte, Option.map_eq_some_iff, Nat.reduceEqDiff] at e
      obtain ⟨y, hy, rfl⟩ := e
      exact c3 o y hy
    by_cases h4 : b = 4
    · subst h4
      simp only [↓reduceIte, Option.map_eq_some_iff, Nat.reduceEqDiff] at e
      obtain ⟨y, hy, rfl⟩ := e
      exact c4 o y hy
    by_cases h5 : b = 5
    · subst h5
      simp only [↓reduceIte, Option.map_eq_some_iff, Nat.reduceEqDiff] at e
      obtain ⟨y, hy, rfl⟩ := e
      exact c5 o y hy
    simp only [h0, h3, h4, h5, ↓reduceIte] at e
    cases e
noncomputable def laidWorld (os : Os) : World :=
  let N := (World.settled Tryz.prog os).heap.size
  let w0 := World.holding Tryz.prog os ⟨#[.cells (([9, 13, 1, 32, 133, 101, 160, 5760, 5600, 8192, 8202, 1, 8232, 8233, 1, 8239, 8287, 48, 12288, 12288, 1] : List Nat).map fun (z : Nat) => Value.int .u16 (z : Int)).toArray 244, .cells #[.slice (some ⟨N, 0, none⟩) 7 7, .slice none 0 0, .int .i64 2] 241], #[], []⟩
  let put (h : Array Obj) (g : Nat) (cs : Array Value) : Array Obj := h.modify g fun
    | .cells _ t frozen => .cells cs t frozen
    | o => o
  let h1 := put w0.heap 0 (tab0.map fun z => Value.int .u8 z).toArray
  let h2 := put h1 3 (tab3.map fun z => Value.int .u64 z).toArray
  let h3 := put h2 4 (tab4.map fun z => Value.int .u8 z).toArray
  let h4 := put h3 5 (tab5.map fun z => Value.int .u8 z).toArray
  let h5 := put h4 1 #[.pointer (some ⟨N + 1, 0, none⟩)]
  { w0 with heap := h5 }
theorem laid_met (os : Os) (args : Array Value) : laidMet Tryz.prog laidRows ((laidWorld os).forCall (fun _ _ => 0) ⟨#[], args, []⟩).memory :=
  laidMet_of_run' 10 (by kernel_rfl) (by kernel_rfl)
theorem decExpr : Dec Tryz.prog 23 fun l => ∃ e, l = [exprPV e] ∧ WfE e :=
  Dec.expr Tryz.underlying23 (by kernel_rfl) (Dec.node Tryz.underlying40 (by kernel_rfl) ⟨rfl, rfl⟩ ⟨rfl, rfl⟩ ⟨rfl, rfl⟩ ⟨rfl, rfl⟩ ⟨rfl, rfl⟩ Tryz.underlying9 Tryz.underlying3 Tryz.underlying37 Tryz.underlying38 (by kernel_rfl) (by kernel_rfl) (by kernel_rfl) (by kernel_rfl))
theorem decInt : Dec Tryz.prog 3 fun l => ∃ n, l = [.int .i64 n] ∧ IntKind.min .i64 ≤ n ∧ n ≤ IntKind.max .i64 := Dec.int Tryz.underlying3
theorem stays {H : Type} {enc : TypeId × Value → H} {t : TypeId} (hr : Tryz.prog.readableRec t = true) (hrow : t < Tryz.prog.types.size) {W W' : World} {v : Value} {d : DataW H} {ps : List MemPlace}
    (h : DataW.Trod enc Tryz.prog W 0 (fun _ => true) true t v d ps) (hb : Below W.heap.size W W') (hlt : ∀ x ∈ ps, x.block < W.heap.size) : DataW.Trod enc Tryz.prog W' 0 (fun b => decide (b < W.heap.size)) true t v d ps :=
  Below.trod laidOut hr hrow h hb hlt
end Go.Proofs.YthebklihgmhgoaaGreatDoor
end
section
namespace Go.Proofs.YthebklihgmhgoaaGreatDoor.treeChecks
open Go.ChangeShapes Go.WideShapes Go.ChangeAt Go.RowKit Go.VL
set_option maxRecDepth 100000
theorem contract (hlaw : ∀ e, WfE e → MCall Tryz.prog 3 [exprPV e] AH.empty fun v _ => v = .bool true) (H : Type) (enc : TypeId × Value → H) (W : World) (base : Nat) (args : Array Value) (ds gs : List (DataW H)) (before : List MemPlace)
    (hval : ∀ (j : Nat) t v, Tryz.f3.params[j]? = some t → args[j]? = some v → Value.okWide Tryz.prog W .any base t v)
    (hW : DataW.Whole enc Tryz.prog Tryz.f3.params.toList Rows.treeChecksSpec.vars false W args.toList ds gs before) (hL : laidMetH Tryz.prog laidRows W) :
    Calls Tryz.prog 3 args W fun e W' => ∃ v, e = .returned v ∧ Rows.treeChecksSpec.post enc Tryz.prog Tryz.f3 false true false false W args v W' := by
  have hW' := hW
  obtain ⟨p, q, hA0, hV, rfl, hfz, hnd⟩ := hW
  have hA : DataW.TrodAll enc Tryz.prog W 0 (fun _ => true) true Tryz.f3.params.toList args.toList ds p := hA0
  rw [Tryz.params3] at hA hval
  obtain ⟨v0, vs0, d0, ds0, p0, q0, hargs, rfl, rfl, h0, r0⟩ := trodAll_cons hA
  obtain ⟨rfl, rfl, rfl⟩ := trodAll_nil r0
  obtain rfl : args = #[v0] := by cases args; simp_all
  obtain ⟨rfl, rfl⟩ := trodVars_none hV
  obtain ⟨a0, len0, cap0, rfl⟩ := okWide_slice Tryz.underlying23 (hval 0 23 v0 rfl rfl)
  obtain ⟨q0, ⟨e0, rfl, w0⟩, hq0⟩ := decExpr.arg h0 rfl
  clear hA0
  simp only [List.append_nil] at hW'
  have hlt : ∀ x ∈ p0, x.block < W.heap.size := fun x hx => by simpa using hW'.lt x hx
  refine ((hlaw e0 w0).top (glob_of hL) hq0).mono fun e W' ⟨he, hb⟩ => ?_
  subst he
  refine ⟨_, rfl, [d0], [], p0, [], p0, [], hW', trodAll_cons_mk (shut_bool Tryz.underlying4 _) trodAll_mk0, ?_, rfl, hb.frame _, fun h => by cases h⟩
  have := trodAll_cons_mk (stays (by kernel_rfl) (of_decide_eq_true (by kernel_rfl)) h0 hb hlt) (trodAll_mk0 (P := Tryz.prog) (enc := enc) (w := W'))
  have this' : DataW.TrodAll enc Tryz.prog W' 0 (fun b => decide (b < W.heap.size)) true [23] [.slice a0 len0 cap0] [d0] p0 := by simpa using this
  exact this'
theorem reads (os : Os) {H : Type} (enc : TypeId × Value → H) : ∃ places, DataW.whole enc Tryz.prog ((laidWorld os).forCall (fun _ _ => 0) ⟨#[], #[.slice none 0 0], []⟩).memory Tryz.f3.params.toList Rows.treeChecksSpec.vars false #[Value.slice none 0 0].toList 8 = some ([.nil], [], places) :=
  ⟨[], by kernel_rfl⟩
theorem lifted (hlaw : ∀ e, WfE e → MCall Tryz.prog 3 [exprPV e] AH.empty fun v _ => v = .bool true) (os : Os) (started : os.Started) (H : Type) (enc : TypeId × Value → H) (F : Stop.Interp) :
    ReturnsInHanded {} Tryz.checked os 3 .any ((OpenSpec.ofChange Rows.treeChecksSpec).preRow enc Tryz.prog Tryz.f3 Rows.treeChecksRow.domain false Rows.treeChecksRow.laid) (((OpenSpec.ofChange Rows.treeChecksSpec).at F).post enc Tryz.prog Tryz.f3 false true false false) := by
  obtain ⟨places, hx⟩ := reads os enc
  refine returnsInHanded_of_row (C := Tryz.checked) (s := OpenSpec.ofChange Rows.treeChecksSpec) own started (by kernel_rfl) Tryz.func3
    (witness_row_atRef (enc := enc) (C := Tryz.checked) false (laidWorld os) #[.slice none 0 0] rfl (by kernel_rfl) (by kernel_rfl) (by kernel_rfl)
      (OpenSpec.preRow_of_cond 8 hx (by kernel_rfl) (fun k hk => by cases hk) (by kernel_rfl) (laid_met os _))) ?_
  intro W base args ds gs before hval hW _ _ _ hL _ _
  exact contract hlaw H enc W base args ds gs before hval hW hL
theorem said (hlaw : ∀ e, WfE e → MCall Tryz.prog 3 [exprPV e] AH.empty fun v _ => v = .bool true) : Rows.TreeChecksSaid :=
  OpenClaim.holds_of_cond 3 Tryz.f3 rfl rfl rfl rfl rfl rfl rfl ⟨rfl, rfl, rfl, rfl, rfl⟩ rfl rfl rfl rfl rfl (by kernel_rfl) Tryz.func3 (by kernel_rfl)
    (of_decide_eq_true (by kernel_rfl)) (by unfold Func.isWrapper; first | (rw [if_pos (by decide +kernel)]; kernel_rfl) | (rw [if_neg (by decide +kernel)]; exact ⟨rfl, rfl⟩))
    (fun os started H enc _ F => by rw [OpenClaim.pre_eq_preRow]; exact lifted hlaw os started H enc F)
theorem plain (f : FuncId) (fn : Func) (hf : Tryz.pinned.checked.prog.funcNamed "stutter/stutterlaw02.TreeChecks" = some f) (hfn : Tryz.pinned.checked.prog.funcs[f]? = some fn) :
    false = Tryz.pinned.checked.prog.looks [] ∧ ∀ (j : Nat) t, fn.params[j]? = some t → Tryz.pinned.checked.prog.wantsStandIn t = false := by
  obtain rfl : f = 3 := Option.some.inj ((show Tryz.prog.funcNamed "stutter/stutterlaw02.TreeChecks" = some 3 by kernel_rfl).symm.trans hf) |>.symm
  obtain rfl : fn = Tryz.f3 := (Option.some.inj (Tryz.func3.symm.trans hfn)).symm
  refine ⟨by kernel_rfl, fun j t ht => ?_⟩
  rw [Tryz.params3] at ht
  obtain rfl : t = 23 := by simpa using Array.mem_of_getElem? ht
  exact (show Tryz.prog.wantsStandIn 23 = false by kernel_rfl)
theorem card (hlaw : ∀ e, WfE e → MCall Tryz.prog 3 [exprPV e] AH.empty fun v _ => v = .bool true) : Rows.TreeChecksCardSaid :=
  Claim7.holds_tied_plain_at .later [] _ _ _ _ (said hlaw) (fun _ h => by cases h) (by kernel_rfl) (fun _ h => by cases h) treeChecks_row_tie rfl ⟨rfl, rfl⟩ (by kernel_rfl) rfl plain (by kernel_rfl)
end Go.Proofs.YthebklihgmhgoaaGreatDoor.treeChecks
end
section
namespace Go.Proofs.YthebklihgmhgoaaGreatDoor.treeChecks
open Go.VL
theorem hlaw (e : List Nd) (_ : WfE e) : MCall Tryz.prog 3 [exprPV e] AH.empty fun v _ => v = .bool true := by
  obtain ⟨k, hk⟩ := (l_TreeChecks_ev e).get
  exact MCall.mono (l_TreeChecks_c k e hk AH.empty) fun _ _ h => h.1
theorem proved : Rows.TreeChecksCardSaid := card hlaw
end Go.Proofs.YthebklihgmhgoaaGreatDoor.treeChecks
end
