/- TreeOperators: of every text the function of this law returns true and never panics. Conditions: none. -/
import Derived.Test.YthebklihgmhgoaaGreatDoorKb4
import Derived.Test.YthebklihgmhgoaaGreatDoorCards
import Derived.Test.YthebklihgmhgoaaGreatDoorTie
import Derived.WalkKit
import Derived.ProofKit
import Derived.OpenShut
import Derived.Deep.DeepHandedRow
import Derived.Deep.DeepWitnessRowRef
import Derived.Lib.LaidTab
import Derived.Carry
set_option linter.unusedVariables false
set_option linter.unusedSectionVars false
set_option linter.unusedSimpArgs false
section
set_option maxRecDepth 8000
set_option maxHeartbeats 4000000
namespace Go.VL
open Go.Proofs
def t_operator (k : Nat) (p_0 : Printer) (at_1 : Int) : Option (Operator × Bool) :=
  if 0 ≤ at_1 then Option.bind (p_0.e[at_1.toNat]?) fun x2 => cond (x2.kind != 3) (some ((Operator.mk [] 0 0 0 false 0 0), false)) (Option.bind (t_operatorOf k x2.text) fun p6 => some (p6.1, p6.2)) else none
theorem t_operator_c {k : Nat} {p_0 : Printer} {at_1 : Int} {r : Operator × Bool} (h : t_operator k p_0 at_1 = some r) : PCall Tryz.prog 100 [(.agg (Printer.cells p_0)), (.int .i64 at_1)] (.tup [(.agg (Operator.cells r.1)), (.bool r.2)]) := by
  refine PCall.of_empty (PuL.mem (.cons (.agg _ (Printer.pu _)) (.cons (.int _ _) .nil))) (MCall_of_W ok100 (by simp) (W_start ?_)) (.tup _ (PuL.mem (.cons (.agg _ (Operator.pu _)) (.cons (.bool _) .nil))))
  unfold t_operator at h
  unfold ac100
  obtain ⟨e1, h⟩ := if_E h
  obtain ⟨x2, e3, h⟩ := bind_E h
  rcases cond_E h with ⟨e4, h⟩ | ⟨e4, h⟩
  ·obtain rfl := som_E h
   try refine gos_ ?_
   exact (fz_tup (.cons (fz_agg (.cons (.pure _ (.str _)) (.cons (.pure _ (.int _ _)) (.cons (.pure _ (.int _ _)) (.cons (.pure _ (.int _ _)) (.cons (.pure _ (.bool _)) (.cons (.pure _ (.int _ _)) (.cons (.pure _ (.int _ _)) .nil)))))))) (.cons (.pure _ (.bool _)) .nil)))
  ·obtain ⟨p6, e5, h⟩ := bind_E h
   try refine gos_ ?_
   refine mcall_pure (t_operatorOf_c e5) ?_
   obtain rfl := som_E h
   try refine gos_ ?_
   exact (fz_tup (.cons (fz_agg (.cons (.pure _ (.str _)) (.cons (.pure _ (.int _ _)) (.cons (.pure _ (.int _ _)) (.cons (.pure _ (.int _ _)) (.cons (.pure _ (.bool _)) (.cons (.pure _ (.int _ _)) (.cons (.pure _ (.int _ _)) .nil)))))))) (.cons (.pure _ (.bool _)) .nil)))
def t_OperatorOf (k : Nat) (text_0 : Str) : Option (Operator × Int) :=
  Option.bind (t_operatorOf k text_0) fun p2 => Option.bind (t_wrong (!p2.2) 10) fun p4 => some (p2.1, p4)
theorem t_OperatorOf_c {k : Nat} {text_0 : Str} {r : Operator × Int} (h : t_OperatorOf k text_0 = some r) : PCall Tryz.prog 26 [(.str text_0)] (.tup [(.agg (Operator.cells r.1)), (.int .i64 r.2)]) := by
  refine PCall.of_empty (PuL.mem (.cons (.str _) .nil)) (MCall_of_W ok26 (by simp) (W_start ?_)) (.tup _ (PuL.mem (.cons (.agg _ (Operator.pu _)) (.cons (.int _ _) .nil))))
  unfold t_OperatorOf at h
  unfold ac26
  obtain ⟨p2, e1, h⟩ := bind_E h
  try refine gos_ ?_
  refine mcall_pure (t_operatorOf_c e1) ?_
  try refine gos_ ?_
  refine WS_parS ?_
  obtain ⟨p4, e3, h⟩ := bind_E h
  try refine gos_ ?_
  refine PC.mk (t_wrong_c e3) ?_
  obtain rfl := som_E h
  try refine gos_ ?_
  exact (fz_tup (.cons (fz_agg (.cons (.pure _ (.str _)) (.cons (.pure _ (.int _ _)) (.cons (.pure _ (.int _ _)) (.cons (.pure _ (.int _ _)) (.cons (.pure _ (.bool _)) (.cons (.pure _ (.int _ _)) (.cons (.pure _ (.int _ _)) .nil)))))))) (.cons (.pure _ (.int _ _)) .nil)))
def t_text_p0 (k : Nat) (at_1 : Int) (p_3_0 : List Nd) (t_10 : Bool) : Option Bool :=
  cond t_10 (if 0 ≤ at_1 then Option.bind (p_3_0[at_1.toNat]?) fun x3 => Option.bind (t_isOpen k x3.kind) fun p6 => some (p6) else none) (some (false))
def t_text_p0l : List Nat := List.range' 11 8
theorem t_text_p0_W (k : Nat) : ∀ (o_p_3 : Nat) (at_1 : Int) (p_3_0 : List Nd) (t_10 : Bool) (σ0 σ : Nat → PV) (H : AH) (f0 : Fr t_text_p0l σ0 σ) (sl : σ 1 = (.int .i64 at_1) ∧ σ 3 = (.ref (o_p_3) 0) ∧ σ 10 = (.bool t_10) ∧ H.obj o_p_3 = some [(.isl (p_3_0.map Nd.cells) .unk)]) (l_o_p_3 : o_p_3 < H.next) (o : Bool) (h : t_text_p0 k at_1 p_3_0 t_10 = some o) (Q : Post) (q0 : ∀ (p : Bool) (σ' : Nat → PV), o = p → Fr t_text_p0l σ0 σ' → (σ' 18 = (.bool p)) → Q .normal σ' H) , WOps Tryz.prog ac59_p0 (Q .normal) σ H := by
  intro o_p_3 at_1 p_3_0 t_10 σ0 σ H f0 sl l_o_p_3 o h Q q0
  obtain ⟨s1, s3, s10, g_o_p_3⟩ := sl
  have n_o_p_3 := ne_next l_o_p_3
  have m_o_p_3 := ne_add l_o_p_3
  unfold t_text_p0 at h
  refine WO_start ?_
  unfold ac59_p0
  rcases cond_E h with ⟨e1, h⟩ | ⟨e1, h⟩
  ·obtain ⟨e2, h⟩ := if_E h
   obtain ⟨x3, e4, h⟩ := bind_E h
   obtain ⟨p6, e5, h⟩ := bind_E h
   try refine gos_ ?_
   refine mcall_pure (t_isOpen_c e5) ?_
   obtain rfl := som_E h
   try refine gos_ ?_
   exact q0 _ _ rfl fr_ sls_
  ·obtain rfl := som_E h
   try refine gos_ ?_
   exact q0 _ _ rfl fr_ sls_
def t_applied_p0 (o_6_0 : Str) (o_6_1 : Int) (o_6_2 : Int) (o_6_3 : Int) (o_6_4 : Bool) (o_6_5 : Int) (o_6_6 : Int) (x_12_0 : Str) (x_12_1 : Int) (x_12_2 : Int) (x_12_3 : Int) (x_12_4 : Bool) (x_12_5 : Int) (x_12_6 : Int) (t_70 : Bool) : Option Bool :=
  cond t_70 (cond (x_12_1 == 0) (cond (decide (x_12_2 < o_6_2)) (some (true)) (cond (x_12_1 != 0) (cond (decide (x_12_2 ≤ o_6_3)) (some (true)) (cond (x_12_0 == ([45, 46] : Str)) (some ((o_6_0 == ([45, 46] : Str)))) (some (false)))) (cond (x_12_0 == ([45, 46] : Str)) (some ((o_6_0 == ([45, 46] : Str)))) (some (false))))) (cond (x_12_1 != 0) (cond (decide (x_12_2 ≤ o_6_3)) (some (true)) (cond (x_12_0 == ([45, 46] : Str)) (some ((o_6_0 == ([45, 46] : Str)))) (some (false)))) (cond (x_12_0 == ([45, 46] : Str)) (some ((o_6_0 == ([45, 46] : Str)))) (some (false))))) (some (false))
def t_applied_p0l : List Nat := List.range' 71 33
theorem t_applied_p0_W : ∀ (o_o_6 : Nat) (o_x_12 : Nat) (o_6_0 : Str) (o_6_1 : Int) (o_6_2 : Int) (o_6_3 : Int) (o_6_4 : Bool) (o_6_5 : Int) (o_6_6 : Int) (x_12_0 : Str) (x_12_1 : Int) (x_12_2 : Int) (x_12_3 : Int) (x_12_4 : Bool) (x_12_5 : Int) (x_12_6 : Int) (t_70 : Bool) (σ0 σ : Nat → PV) (H : AH) (f0 : Fr t_applied_p0l σ0 σ) (sl : σ 6 = (.ref (o_o_6) 0) ∧ σ 12 = (.ref (o_x_12) 0) ∧ σ 70 = (.bool t_70) ∧ H.obj o_o_6 = some [(.str o_6_0), (.int .i64 o_6_1), (.int .i64 o_6_2), (.int .i64 o_6_3), (.bool o_6_4), (.int .i64 o_6_5), (.int .i64 o_6_6)] ∧ H.obj o_x_12 = some [(.str x_12_0), (.int .i64 x_12_1), (.int .i64 x_12_2), (.int .i64 x_12_3), (.bool x_12_4), (.int .i64 x_12_5), (.int .i64 x_12_6)]) (l_o_o_6 : o_o_6 < H.next) (l_o_x_12 : o_x_12 < H.next) (d_o_o_6_o_x_12 : o_o_6 ≠ o_x_12) (o : Bool) (h : t_applied_p0 o_6_0 o_6_1 o_6_2 o_6_3 o_6_4 o_6_5 o_6_6 x_12_0 x_12_1 x_12_2 x_12_3 x_12_4 x_12_5 x_12_6 t_70 = some o) (Q : Post) (q0 : ∀ (p : Bool) (σ' : Nat → PV), o = p → Fr t_applied_p0l σ0 σ' → (σ' 103 = (.bool p)) → Q .normal σ' H) , WOps Tryz.prog ac101_p0 (Q .normal) σ H := by
  intro o_o_6 o_x_12 o_6_0 o_6_1 o_6_2 o_6_3 o_6_4 o_6_5 o_6_6 x_12_0 x_12_1 x_12_2 x_12_3 x_12_4 x_12_5 x_12_6 t_70 σ0 σ H f0 sl l_o_o_6 l_o_x_12 d_o_o_6_o_x_12 o h Q q0
  obtain ⟨s6, s12, s70, g_o_o_6, g_o_x_12⟩ := sl
  have n_o_o_6 := ne_next l_o_o_6
  have m_o_o_6 := ne_add l_o_o_6
  have n_o_x_12 := ne_next l_o_x_12
  have m_o_x_12 := ne_add l_o_x_12
  have e_o_o_6_o_x_12 := eq_false d_o_o_6_o_x_12
  have r_o_o_6_o_x_12 := eq_false (Ne.symm d_o_o_6_o_x_12)
  unfold t_applied_p0 at h
  refine WO_start ?_
  unfold ac101_p0
  rcases cond_E h with ⟨e21, h⟩ | ⟨e21, h⟩
  ·rcases cond_E h with ⟨e22, h⟩ | ⟨e22, h⟩
   ·rcases cond_E h with ⟨e23, h⟩ | ⟨e23, h⟩
    ·obtain rfl := som_E h
     try refine gos_ ?_
     exact q0 _ _ rfl fr_ sls_
    ·rcases cond_E h with ⟨e24, h⟩ | ⟨e24, h⟩
     ·rcases cond_E h with ⟨e25, h⟩ | ⟨e25, h⟩
      ·obtain rfl := som_E h
       try refine gos_ ?_
       exact q0 _ _ rfl fr_ sls_
      ·rcases cond_E h with ⟨e26, h⟩ | ⟨e26, h⟩
       ·obtain rfl := som_E h
        try refine gos_ ?_
        exact q0 _ _ rfl fr_ sls_
       ·obtain rfl := som_E h
        try refine gos_ ?_
        exact q0 _ _ rfl fr_ sls_
     ·rcases cond_E h with ⟨e27, h⟩ | ⟨e27, h⟩
      ·obtain rfl := som_E h
       try refine gos_ ?_
       exact q0 _ _ rfl fr_ sls_
      ·obtain rfl := som_E h
       try refine gos_ ?_
       exact q0 _ _ rfl fr_ sls_
   ·rcases cond_E h with ⟨e28, h⟩ | ⟨e28, h⟩
    ·rcases cond_E h with ⟨e29, h⟩ | ⟨e29, h⟩
     ·obtain rfl := som_E h
      try refine gos_ ?_
      exact q0 _ _ rfl fr_ sls_
     ·rcases cond_E h with ⟨e30, h⟩ | ⟨e30, h⟩
      ·obtain rfl := som_E h
       try refine gos_ ?_
       exact q0 _ _ rfl fr_ sls_
      ·obtain rfl := som_E h
       try refine gos_ ?_
       exact q0 _ _ rfl fr_ sls_
    ·rcases cond_E h with ⟨e31, h⟩ | ⟨e31, h⟩
     ·obtain rfl := som_E h
      try refine gos_ ?_
      exact q0 _ _ rfl fr_ sls_
     ·obtain rfl := som_E h
      try refine gos_ ?_
      exact q0 _ _ rfl fr_ sls_
  ·obtain rfl := som_E h
   try refine gos_ ?_
   exact q0 _ _ rfl fr_ sls_
def t_applied_p1 (o_6_0 : Str) (o_6_1 : Int) (o_6_2 : Int) (o_6_3 : Int) (o_6_4 : Bool) (o_6_5 : Int) (o_6_6 : Int) (t_115 : Bool) : Option Bool :=
  cond t_115 (Option.bind (o_6_0[0]?) fun x47 => some ((decide ((x47.toNat : Int) ≤ 90)))) (some (false))
def t_applied_p1l : List Nat := [116, 117, 118, 119, 120]
theorem t_applied_p1_W : ∀ (o_o_6 : Nat) (o_6_0 : Str) (o_6_1 : Int) (o_6_2 : Int) (o_6_3 : Int) (o_6_4 : Bool) (o_6_5 : Int) (o_6_6 : Int) (t_115 : Bool) (σ0 σ : Nat → PV) (H : AH) (f0 : Fr t_applied_p1l σ0 σ) (sl : σ 6 = (.ref (o_o_6) 0) ∧ σ 115 = (.bool t_115) ∧ H.obj o_o_6 = some [(.str o_6_0), (.int .i64 o_6_1), (.int .i64 o_6_2), (.int .i64 o_6_3), (.bool o_6_4), (.int .i64 o_6_5), (.int .i64 o_6_6)]) (l_o_o_6 : o_o_6 < H.next) (o : Bool) (h : t_applied_p1 o_6_0 o_6_1 o_6_2 o_6_3 o_6_4 o_6_5 o_6_6 t_115 = some o) (Q : Post) (q0 : ∀ (p : Bool) (σ' : Nat → PV), o = p → Fr t_applied_p1l σ0 σ' → (σ' 120 = (.bool p)) → Q .normal σ' H) , WOps Tryz.prog ac101_p1 (Q .normal) σ H := by
  intro o_o_6 o_6_0 o_6_1 o_6_2 o_6_3 o_6_4 o_6_5 o_6_6 t_115 σ0 σ H f0 sl l_o_o_6 o h Q q0
  obtain ⟨s6, s115, g_o_o_6⟩ := sl
  have n_o_o_6 := ne_next l_o_o_6
  have m_o_o_6 := ne_add l_o_o_6
  unfold t_applied_p1 at h
  refine WO_start ?_
  unfold ac101_p1
  rcases cond_E h with ⟨e46, h⟩ | ⟨e46, h⟩
  ·obtain ⟨x47, e48, h⟩ := bind_E h
   obtain rfl := som_E h
   try refine gos_ ?_
   exact q0 _ _ rfl fr_ sls_
  ·obtain rfl := som_E h
   try refine gos_ ?_
   exact q0 _ _ rfl fr_ sls_
def t_applied_j2 (o_6_0 : Str) (o_6_1 : Int) (o_6_2 : Int) (o_6_3 : Int) (o_6_4 : Bool) (o_6_5 : Int) (o_6_6 : Int) (word_15 : Str) : Option Str :=
  cond (o_6_0 == ([45, 46] : Str)) (some (([45] : Str))) (Option.bind (o_6_0[0]?) fun x44 => Option.bind (t_applied_p1 o_6_0 o_6_1 o_6_2 o_6_3 o_6_4 o_6_5 o_6_6 (decide ((x44.toNat : Int) ≥ 65))) (fun p51 => cond p51 (if word_15.length + ([32] : Str).length ≤ 4611686018427387904 then some ((word_15 ++ ([32] : Str))) else none) (some (word_15))))
def t_applied_j2l : List Nat := [15] ++ List.range' 106 17
theorem t_applied_j2_W : ∀ (o_o_6 : Nat) (o_6_0 : Str) (o_6_1 : Int) (o_6_2 : Int) (o_6_3 : Int) (o_6_4 : Bool) (o_6_5 : Int) (o_6_6 : Int) (word_15 : Str) (σ0 σ : Nat → PV) (H : AH) (f0 : Fr t_applied_j2l σ0 σ) (sl : σ 6 = (.ref (o_o_6) 0) ∧ σ 15 = (.str word_15) ∧ H.obj o_o_6 = some [(.str o_6_0), (.int .i64 o_6_1), (.int .i64 o_6_2), (.int .i64 o_6_3), (.bool o_6_4), (.int .i64 o_6_5), (.int .i64 o_6_6)]) (l_o_o_6 : o_o_6 < H.next) (o : Str) (h : t_applied_j2 o_6_0 o_6_1 o_6_2 o_6_3 o_6_4 o_6_5 o_6_6 word_15 = some o) (Q : Post) (q0 : ∀ (p : Str) (σ' : Nat → PV), o = p → Fr t_applied_j2l σ0 σ' → (σ' 15 = (.str p)) → Q .normal σ' H) , W Tryz.prog ac101_j2 Q σ H := by
  intro o_o_6 o_6_0 o_6_1 o_6_2 o_6_3 o_6_4 o_6_5 o_6_6 word_15 σ0 σ H f0 sl l_o_o_6 o h Q q0
  obtain ⟨s6, s15, g_o_o_6⟩ := sl
  have n_o_o_6 := ne_next l_o_o_6
  have m_o_o_6 := ne_add l_o_o_6
  unfold t_applied_j2 at h
  refine W_start ?_
  unfold ac101_j2
  rcases cond_E h with ⟨e43, h⟩ | ⟨e43, h⟩
  ·obtain rfl := som_E h
   try refine gos_ ?_
   exact q0 _ _ rfl fr_ sls_
  ·obtain ⟨x44, e45, h⟩ := bind_E h
   try refine gos_ ?_
   obtain ⟨o49, h50, h⟩ := bind_E h
   refine t_applied_p1_W (o_o_6) o_6_0 o_6_1 o_6_2 o_6_3 o_6_4 o_6_5 o_6_6 (decide ((x44.toNat : Int) ≥ 65)) _ _ _ (Fr.refl _ _) sls_ om_ _ h50 _ ?_
   ·rintro p51 σ' eo fr52 s55
    rw [eo] at h
    have s56 : σ' 15 = (.str word_15) := (fr52 15 (by decide)).trans sls_
    rcases cond_E h with ⟨e57, h⟩ | ⟨e57, h⟩
    ·obtain ⟨e58, h⟩ := if_E h
     try refine gos_ ?_
     refine WR_cat (cat_ e58) ?_
     obtain rfl := som_E h
     try refine gos_ ?_
     exact q0 _ _ rfl (by repeat (first | exact f0 | refine Fr.upd (by decide) ?_ | refine Fr.via fr52 (by decide) ?_)) sls_
    ·obtain rfl := som_E h
     try refine gos_ ?_
     exact q0 _ _ rfl (by repeat (first | exact f0 | refine Fr.upd (by decide) ?_ | refine Fr.via fr52 (by decide) ?_)) sls_
def t_applied_p3 (o_6_0 : Str) (o_6_1 : Int) (o_6_2 : Int) (o_6_3 : Int) (o_6_4 : Bool) (o_6_5 : Int) (o_6_6 : Int) (k_18 : Int) (x_20_0 : Str) (x_20_1 : Int) (x_20_2 : Int) (x_20_3 : Int) (x_20_4 : Bool) (x_20_5 : Int) (x_20_6 : Int) (t_152 : Bool) : Option Bool :=
  cond t_152 (cond (decide (x_20_2 ≤ o_6_3)) (cond (k_18 == 0) (cond (x_20_0 == o_6_0) (some ((!o_6_4))) (some (true))) (some (true))) (some (false))) (some (false))
def t_applied_p3l : List Nat := List.range' 153 22
theorem t_applied_p3_W : ∀ (o_o_6 : Nat) (o_x_20 : Nat) (o_6_0 : Str) (o_6_1 : Int) (o_6_2 : Int) (o_6_3 : Int) (o_6_4 : Bool) (o_6_5 : Int) (o_6_6 : Int) (k_18 : Int) (x_20_0 : Str) (x_20_1 : Int) (x_20_2 : Int) (x_20_3 : Int) (x_20_4 : Bool) (x_20_5 : Int) (x_20_6 : Int) (t_152 : Bool) (σ0 σ : Nat → PV) (H : AH) (f0 : Fr t_applied_p3l σ0 σ) (sl : σ 6 = (.ref (o_o_6) 0) ∧ σ 18 = (.int .i64 k_18) ∧ σ 20 = (.ref (o_x_20) 0) ∧ σ 152 = (.bool t_152) ∧ H.obj o_o_6 = some [(.str o_6_0), (.int .i64 o_6_1), (.int .i64 o_6_2), (.int .i64 o_6_3), (.bool o_6_4), (.int .i64 o_6_5), (.int .i64 o_6_6)] ∧ H.obj o_x_20 = some [(.str x_20_0), (.int .i64 x_20_1), (.int .i64 x_20_2), (.int .i64 x_20_3), (.bool x_20_4), (.int .i64 x_20_5), (.int .i64 x_20_6)]) (l_o_o_6 : o_o_6 < H.next) (l_o_x_20 : o_x_20 < H.next) (d_o_o_6_o_x_20 : o_o_6 ≠ o_x_20) (o : Bool) (h : t_applied_p3 o_6_0 o_6_1 o_6_2 o_6_3 o_6_4 o_6_5 o_6_6 k_18 x_20_0 x_20_1 x_20_2 x_20_3 x_20_4 x_20_5 x_20_6 t_152 = some o) (Q : Post) (q0 : ∀ (p : Bool) (σ' : Nat → PV), o = p → Fr t_applied_p3l σ0 σ' → (σ' 174 = (.bool p)) → Q .normal σ' H) , WOps Tryz.prog ac101_p3 (Q .normal) σ H := by
  intro o_o_6 o_x_20 o_6_0 o_6_1 o_6_2 o_6_3 o_6_4 o_6_5 o_6_6 k_18 x_20_0 x_20_1 x_20_2 x_20_3 x_20_4 x_20_5 x_20_6 t_152 σ0 σ H f0 sl l_o_o_6 l_o_x_20 d_o_o_6_o_x_20 o h Q q0
  obtain ⟨s6, s18, s20, s152, g_o_o_6, g_o_x_20⟩ := sl
  have n_o_o_6 := ne_next l_o_o_6
  have m_o_o_6 := ne_add l_o_o_6
  have n_o_x_20 := ne_next l_o_x_20
  have m_o_x_20 := ne_add l_o_x_20
  have e_o_o_6_o_x_20 := eq_false d_o_o_6_o_x_20
  have r_o_o_6_o_x_20 := eq_false (Ne.symm d_o_o_6_o_x_20)
  unfold t_applied_p3 at h
  refine WO_start ?_
  unfold ac101_p3
  rcases cond_E h with ⟨e79, h⟩ | ⟨e79, h⟩
  ·rcases cond_E h with ⟨e80, h⟩ | ⟨e80, h⟩
   ·rcases cond_E h with ⟨e81, h⟩ | ⟨e81, h⟩
    ·rcases cond_E h with ⟨e82, h⟩ | ⟨e82, h⟩
     ·obtain rfl := som_E h
      try refine gos_ ?_
      exact q0 _ _ rfl fr_ sls_
     ·obtain rfl := som_E h
      try refine gos_ ?_
      exact q0 _ _ rfl fr_ sls_
    ·obtain rfl := som_E h
     try refine gos_ ?_
     exact q0 _ _ rfl fr_ sls_
   ·obtain rfl := som_E h
    try refine gos_ ?_
    exact q0 _ _ rfl fr_ sls_
  ·obtain rfl := som_E h
   try refine gos_ ?_
   exact q0 _ _ rfl fr_ sls_
def t_applied_b0l : List Nat := [16, 18, 19, 20, 21, 22] ++ List.range' 140 49
mutual
def t_text : Nat → Printer → Int → Bool → Option Str
  | 0, _, _, _ => none
  | k + 1, p_0, at_1, follows_2 =>
    Option.bind (t_text_p0 k at_1 p_0.e follows_2) (fun p9 => cond p9 (Option.bind (t_closed k p_0 at_1) fun p19 => some p19) (Option.bind (t_operator k p_0 at_1) fun p21 => cond p21.2 (Option.bind (t_applied k p_0 at_1 p21.1 follows_2) fun p24 => some p24) (Option.bind (t_form k p_0 at_1) fun p26 => some p26)))
def t_closed : Nat → Printer → Int → Option Str
  | 0, _, _ => none
  | k + 1, p_0, at_1 =>
    Option.bind (t_text k p_0 at_1 false) fun p2 => if ([40] : Str).length + p2.length ≤ 4611686018427387904 then if (40 :: p2).length + ([41] : Str).length ≤ 4611686018427387904 then some (40 :: (p2 ++ ([41] : Str))) else none else none
def t_operand : Nat → Printer → Int → Bool → Bool → Option Str
  | 0, _, _, _, _ => none
  | k + 1, p_0, at_1, must_2, follows_3 =>
    cond must_2 (Option.bind (t_closed k p_0 at_1) fun p3 => some p3) (Option.bind (t_text k p_0 at_1 follows_3) fun p5 => some p5)
def t_applied_b0 : Nat → Bool → (List Nd) → Str → Int → Int → Int → Bool → Int → Int → (List Str) → Int → (List Int) → Int → Int → Option (List Str)
  | 0, _, _, _, _, _, _, _, _, _, _, _, _, _, _ => none
  | k + 1, follows_3, p_4_0, o_6_0, o_6_1, o_6_2, o_6_3, o_6_4, o_6_5, o_6_6, out_16, last_17, t_138, t_139, t_140 =>
    cond (decide (t_140 < t_139)) (if 0 ≤ t_140 then Option.bind (t_138[t_140.toNat]?) fun x75 => Option.bind (t_operator k (Printer.mk p_4_0) x75) fun p78 => Option.bind (t_applied_p3 o_6_0 o_6_1 o_6_2 o_6_3 o_6_4 o_6_5 o_6_6 t_140 p78.1.text p78.1.fix p78.1.low p78.1.high p78.1.left p78.1.least p78.1.most p78.2) (fun p85 => cond (decide (t_140 < last_17)) (Option.bind (t_operand k (Printer.mk p_4_0) x75 p85 true) fun p102 => if (out_16.length + 1) * 16 ≤ 1099511627776 then t_applied_b0 k follows_3 p_4_0 o_6_0 o_6_1 o_6_2 o_6_3 o_6_4 o_6_5 o_6_6 (out_16 ++ [p102]) last_17 t_138 t_139 (IntKind.wrap .i64 (t_140 + 1)) else none) (Option.bind (t_operand k (Printer.mk p_4_0) x75 p85 follows_3) fun p111 => if (out_16.length + 1) * 16 ≤ 1099511627776 then t_applied_b0 k follows_3 p_4_0 o_6_0 o_6_1 o_6_2 o_6_3 o_6_4 o_6_5 o_6_6 (out_16 ++ [p111]) last_17 t_138 t_139 (IntKind.wrap .i64 (t_140 + 1)) else none)) else none) (some (out_16))
def t_applied : Nat → Printer → Int → Operator → Bool → Option Str
  | 0, _, _, _, _ => none
  | k + 1, p_0, at_1, o_2, follows_3 =>
    if 0 ≤ at_1 then Option.bind (p_0.e[at_1.toNat]?) fun x2 => cond (o_2.fix == 2) (Option.bind (x2.args[0]?) fun x5 => Option.bind (t_operator k p_0 x5) fun p8 => cond p8.2 (Option.bind (t_operand k p_0 x5 (!(p8.1.text == o_2.text)) true) fun p11 => if p11.length + o_2.text.length ≤ 4611686018427387904 then some (p11 ++ o_2.text) else none) (Option.bind (t_operand k p_0 x5 false true) fun p14 => if p14.length + o_2.text.length ≤ 4611686018427387904 then some (p14 ++ o_2.text) else none)) (cond (o_2.fix == 0) (Option.bind (x2.args[0]?) fun x17 => Option.bind (t_operator k p_0 x17) fun p20 => Option.bind (t_applied_p0 o_2.text o_2.fix o_2.low o_2.high o_2.left o_2.least o_2.most p20.1.text p20.1.fix p20.1.low p20.1.high p20.1.left p20.1.least p20.1.most p20.2) (fun p34 => Option.bind (t_applied_j2 o_2.text o_2.fix o_2.low o_2.high o_2.left o_2.least o_2.most o_2.text) (fun p61 => Option.bind (t_operand k p_0 x17 p34 follows_3) fun p71 => if p61.length + p71.length ≤ 4611686018427387904 then some (p61 ++ p71) else none))) (Option.bind (t_applied_b0 k follows_3 p_0.e o_2.text o_2.fix o_2.low o_2.high o_2.left o_2.least o_2.most ([] : List Str) (IntKind.wrap .i64 ((x2.args.length : Int) - 1)) x2.args (x2.args.length : Int) 0) (fun p133 => if ([32] : Str).length + o_2.text.length ≤ 4611686018427387904 then if (32 :: o_2.text).length + ([32] : Str).length ≤ 4611686018427387904 then if p133.length ≤ 1099511627776 then if (Lib.join p133 (32 :: (o_2.text ++ ([32] : Str)))).length ≤ 140737488355328 then some (Lib.join p133 (32 :: (o_2.text ++ ([32] : Str)))) else none else none else none else none))) else none
def t_form : Nat → Printer → Int → Option Str
  | 0, _, _ => none
  | k + 1, p_0, at_1 =>
    if 0 ≤ at_1 then Option.bind (p_0.e[at_1.toNat]?) fun x2 => cond (x2.kind == 0) (if 0 ≤ x2.n ∧ x2.n < 100 then some (Lib.decDigits (Int.toNat x2.n)) else none) (cond (x2.kind == 1) (if ([34] : Str).length + x2.text.length ≤ 4611686018427387904 then if (34 :: x2.text).length + ([34] : Str).length ≤ 4611686018427387904 then some (34 :: (x2.text ++ ([34] : Str))) else none else none) (cond (x2.kind == 2) (some x2.text) (cond (x2.kind == 3) (if x2.text.length + ([40] : Str).length ≤ 4611686018427387904 then Option.bind (noS2 p_0 x2.args) fun p13 => if (x2.text ++ ([40] : Str)).length + p13.length ≤ 4611686018427387904 then if (x2.text ++ (40 :: p13)).length + ([41] : Str).length ≤ 4611686018427387904 then some (x2.text ++ (40 :: (p13 ++ ([41] : Str)))) else none else none else none) (cond (x2.kind == 4) (Option.bind (noS2 p_0 x2.args) fun p18 => if ([60, 60] : Str).length + p18.length ≤ 4611686018427387904 then if (60 :: 60 :: p18).length + ([62, 62] : Str).length ≤ 4611686018427387904 then some (60 :: 60 :: (p18 ++ ([62, 62] : Str))) else none else none) (cond (x2.kind == 5) (Option.bind (noS2 p_0 x2.args) fun p23 => if ([123] : Str).length + p23.length ≤ 4611686018427387904 then if (123 :: p23).length + ([125] : Str).length ≤ 4611686018427387904 then some (123 :: (p23 ++ ([125] : Str))) else none else none) (cond (x2.kind == 6) (Option.bind (noS2 p_0 x2) fun p28 => if ([123] : Str).length + p28.length ≤ 4611686018427387904 then if (123 :: p28).length + ([32, 58, 32] : Str).length ≤ 4611686018427387904 then Option.bind (x2.args[1]?) fun x31 => Option.bind (t_text k p_0 x31 false) fun p34 => if (123 :: (p28 ++ ([32, 58, 32] : Str))).length + p34.length ≤ 4611686018427387904 then if (123 :: (p28 ++ (32 :: 58 :: 32 :: p34))).length + ([125] : Str).length ≤ 4611686018427387904 then some (123 :: (p28 ++ (32 :: 58 :: 32 :: (p34 ++ ([125] : Str))))) else none else none else none else none) (cond (x2.kind == 7) (if 0 ≤ (IntKind.wrap .i64 ((x2.args.length : Int) - 1)) then Option.bind (x2.args[(IntKind.wrap .i64 ((x2.args.length : Int) - 1)).toNat]?) fun x39 => Option.bind (noS2 p_0 x39) fun p42 => if ([123] : Str).length + p42.length ≤ 4611686018427387904 then if (123 :: p42).length + ([32, 58, 32] : Str).length ≤ 4611686018427387904 then Option.bind (noS2 p_0 x2) fun p46 => if (123 :: (p42 ++ ([32, 58, 32] : Str))).length + p46.length ≤ 4611686018427387904 then if (123 :: (p42 ++ (32 :: 58 :: 32 :: p46))).length + ([125] : Str).length ≤ 4611686018427387904 then some (123 :: (p42 ++ (32 :: 58 :: 32 :: (p46 ++ ([125] : Str))))) else none else none else none else none else none) (cond (x2.kind == 13) (Option.bind (noS2 p_0 x2) fun p51 => if ([91] : Str).length + p51.length ≤ 4611686018427387904 then if (91 :: p51).length + ([32, 124, 45, 62, 32] : Str).length ≤ 4611686018427387904 then if 0 ≤ (IntKind.wrap .i64 ((x2.args.length : Int) - 1)) then Option.bind (x2.args[(IntKind.wrap .i64 ((x2.args.length : Int) - 1)).toNat]?) fun x55 => Option.bind (t_text k p_0 x55 false) fun p58 => if (91 :: (p51 ++ ([32, 124, 45, 62, 32] : Str))).length + p58.length ≤ 4611686018427387904 then if (91 :: (p51 ++ (32 :: 124 :: 45 :: 62 :: 32 :: p58))).length + ([93] : Str).length ≤ 4611686018427387904 then some (91 :: (p51 ++ (32 :: 124 :: 45 :: 62 :: 32 :: (p58 ++ ([93] : Str))))) else none else none else none else none else none) (cond (x2.kind == 14) (Option.bind (x2.args[0]?) fun x62 => Option.bind (noS2 p_0 x62) fun p65 => if p65.length + ([91] : Str).length ≤ 4611686018427387904 then if 1 ≤ x2.args.length then Option.bind (noS2 p_0 (x2.args.drop 1)) fun p69 => if (p65 ++ ([91] : Str)).length + p69.length ≤ 4611686018427387904 then if (p65 ++ (91 :: p69)).length + ([93] : Str).length ≤ 4611686018427387904 then some (p65 ++ (91 :: (p69 ++ ([93] : Str)))) else none else none else none else none) (cond (x2.kind == 15) (Option.bind (x2.args[0]?) fun x73 => Option.bind (t_text k p_0 x73 false) fun p76 => if ([91] : Str).length + p76.length ≤ 4611686018427387904 then if (91 :: p76).length + ([32, 45, 62, 32] : Str).length ≤ 4611686018427387904 then Option.bind (x2.args[1]?) fun x79 => Option.bind (t_text k p_0 x79 false) fun p82 => if (91 :: (p76 ++ ([32, 45, 62, 32] : Str))).length + p82.length ≤ 4611686018427387904 then if (91 :: (p76 ++ (32 :: 45 :: 62 :: 32 :: p82))).length + ([93] : Str).length ≤ 4611686018427387904 then some (91 :: (p76 ++ (32 :: 45 :: 62 :: 32 :: (p82 ++ ([93] : Str))))) else none else none else none else none) (cond (x2.kind == 16) (Option.bind (noS3 p_0 x2 ([32, 124, 45, 62, 32] : Str)) fun p87 => if ([91] : Str).length + p87.length ≤ 4611686018427387904 then if (91 :: p87).length + ([93] : Str).length ≤ 4611686018427387904 then some (91 :: (p87 ++ ([93] : Str))) else none else none) (cond (x2.kind == 17) (Option.bind (noS3 p_0 x2 ([32, 58, 32] : Str)) fun p92 => if ([91] : Str).length + p92.length ≤ 4611686018427387904 then if (91 :: p92).length + ([93] : Str).length ≤ 4611686018427387904 then some (91 :: (p92 ++ ([93] : Str))) else none else none) (cond (x2.kind == 18) (Option.bind (x2.args[0]?) fun x96 => Option.bind (noS2 p_0 x96) fun p99 => if p99.length + ([46] : Str).length ≤ 4611686018427387904 then if (p99 ++ ([46] : Str)).length + x2.text.length ≤ 4611686018427387904 then some (p99 ++ (46 :: x2.text)) else none else none) (cond (x2.kind == 19) (Option.bind (x2.args[0]?) fun x103 => Option.bind (t_text k p_0 x103 false) fun p106 => if ([91] : Str).length + p106.length ≤ 4611686018427387904 then if (91 :: p106).length + ([32, 69, 88, 67, 69, 80, 84, 32, 33, 91] : Str).length ≤ 4611686018427387904 then Option.bind (x2.args[1]?) fun x109 => Option.bind (t_text k p_0 x109 false) fun p112 => if (91 :: (p106 ++ ([32, 69, 88, 67, 69, 80, 84, 32, 33, 91] : Str))).length + p112.length ≤ 4611686018427387904 then if (91 :: (p106 ++ (32 :: 69 :: 88 :: 67 :: 69 :: 80 :: 84 :: 32 :: 33 :: 91 :: p112))).length + ([93, 32, 61, 32] : Str).length ≤ 4611686018427387904 then Option.bind (x2.args[2]?) fun x115 => Option.bind (t_text k p_0 x115 false) fun p118 => if (91 :: (p106 ++ (32 :: 69 :: 88 :: 67 :: 69 :: 80 :: 84 :: 32 :: 33 :: 91 :: (p112 ++ ([93, 32, 61, 32] : Str))))).length + p118.length ≤ 4611686018427387904 then if (91 :: (p106 ++ (32 :: 69 :: 88 :: 67 :: 69 :: 80 :: 84 :: 32 :: 33 :: 91 :: (p112 ++ (93 :: 32 :: 61 :: 32 :: p118))))).length + ([93] : Str).length ≤ 4611686018427387904 then some (91 :: (p106 ++ (32 :: 69 :: 88 :: 67 :: 69 :: 80 :: 84 :: 32 :: 33 :: 91 :: (p112 ++ (93 :: 32 :: 61 :: 32 :: (p118 ++ ([93] : Str))))))) else none else none else none else none else none else none) (cond (x2.kind == 20) (some ([64] : Str)) (cond (x2.kind == 25) (Option.bind (x2.args[0]?) fun x123 => Option.bind (t_text k p_0 x123 false) fun p126 => if ([91] : Str).length + p126.length ≤ 4611686018427387904 then if (91 :: p126).length + ([93, 95] : Str).length ≤ 4611686018427387904 then Option.bind (x2.args[1]?) fun x129 => Option.bind (noS2 p_0 x129) fun p132 => if (91 :: (p126 ++ ([93, 95] : Str))).length + p132.length ≤ 4611686018427387904 then some (91 :: (p126 ++ (93 :: 95 :: p132))) else none else none else none) (cond (x2.kind == 26) (Option.bind (x2.args[0]?) fun x135 => Option.bind (t_text k p_0 x135 false) fun p138 => if ([60, 60] : Str).length + p138.length ≤ 4611686018427387904 then if (60 :: 60 :: p138).length + ([62, 62, 95] : Str).length ≤ 4611686018427387904 then Option.bind (x2.args[1]?) fun x141 => Option.bind (noS2 p_0 x141) fun p144 => if (60 :: 60 :: (p138 ++ ([62, 62, 95] : Str))).length + p144.length ≤ 4611686018427387904 then some (60 :: 60 :: (p138 ++ (62 :: 62 :: 95 :: p144))) else none else none else none) (cond (x2.kind == 27) (Option.bind (x2.args[1]?) fun x147 => Option.bind (noS2 p_0 x147) fun p150 => if ([87, 70, 95] : Str).length + p150.length ≤ 4611686018427387904 then if (87 :: 70 :: 95 :: p150).length + ([40] : Str).length ≤ 4611686018427387904 then Option.bind (x2.args[0]?) fun x153 => Option.bind (t_text k p_0 x153 false) fun p156 => if (87 :: 70 :: 95 :: (p150 ++ ([40] : Str))).length + p156.length ≤ 4611686018427387904 then if (87 :: 70 :: 95 :: (p150 ++ (40 :: p156))).length + ([41] : Str).length ≤ 4611686018427387904 then some (87 :: 70 :: 95 :: (p150 ++ (40 :: (p156 ++ ([41] : Str))))) else none else none else none else none) (cond (x2.kind == 28) (Option.bind (x2.args[1]?) fun x160 => Option.bind (noS2 p_0 x160) fun p163 => if ([83, 70, 95] : Str).length + p163.length ≤ 4611686018427387904 then if (83 :: 70 :: 95 :: p163).length + ([40] : Str).length ≤ 4611686018427387904 then Option.bind (x2.args[0]?) fun x166 => Option.bind (t_text k p_0 x166 false) fun p169 => if (83 :: 70 :: 95 :: (p163 ++ ([40] : Str))).length + p169.length ≤ 4611686018427387904 then if (83 :: 70 :: 95 :: (p163 ++ (40 :: p169))).length + ([41] : Str).length ≤ 4611686018427387904 then some (83 :: 70 :: 95 :: (p163 ++ (40 :: (p169 ++ ([41] : Str))))) else none else none else none else none) (Option.bind (noS2 p_0 x2) fun p173 => some p173)))))))))))))))))))) else none
end
mutual
theorem t_text_u (k : Nat) : ∀ (p_0 : Printer) (at_1 : Int) (follows_2 : Bool) (r : Str) (h : t_text k p_0 at_1 follows_2 = some r), PCall Tryz.prog 59 [(.agg (Printer.cells p_0)), (.int .i64 at_1), (.bool follows_2)] (.str r) := by
  match k with
  | 0 => intro p_0 at_1 follows_2 r h; rw [t_text] at h; cases h
  | k + 1 =>
    intro p_0 at_1 follows_2 r h
    refine PCall.of_empty (PuL.mem (.cons (.agg _ (Printer.pu _)) (.cons (.int _ _) (.cons (.bool _) .nil)))) (MCall_of_W ok59 (by simp) (W_start ?_)) (.str _)
    rw [t_text] at h
    unfold ac59
    try refine gos_ ?_
    obtain ⟨o7, h8, h⟩ := bind_E h
    refine t_text_p0_W k (AH.empty.next) at_1 p_0.e follows_2 _ _ _ (Fr.refl _ _) sls_ om_ _ h8 _ ?_
    ·rintro p9 σ' eo fr10 s13
     rw [eo] at h
     have s14 : σ' 1 = (.int .i64 at_1) := (fr10 1 (by decide)).trans sls_
     have s15 : σ' 2 = (.bool follows_2) := (fr10 2 (by decide)).trans sls_
     have s16 : σ' 3 = (.ref (AH.empty.next) 0) := (fr10 3 (by decide)).trans sls_
     rcases cond_E h with ⟨e17, h⟩ | ⟨e17, h⟩
     ·obtain ⟨p19, e18, h⟩ := bind_E h
      try refine gos_ ?_
      refine mcall_pure ((t_closed_u k p_0 at_1 _ e18).wk (.same (.same .nil))) ?_
      obtain rfl := som_E h
      try refine gos_ ?_
      exact (.pure _ (.str _))
     ·obtain ⟨p21, e20, h⟩ := bind_E h
      try refine gos_ ?_
      refine mcall_pure (t_operator_c e20) ?_
      rcases cond_E h with ⟨e22, h⟩ | ⟨e22, h⟩
      ·obtain ⟨p24, e23, h⟩ := bind_E h
       try refine gos_ ?_
       refine mcall_pure ((t_applied_u k p_0 at_1 p21.1 follows_2 _ e23).wk (.same (.same (.same (.same .nil))))) ?_
       obtain rfl := som_E h
       try refine gos_ ?_
       exact (.pure _ (.str _))
      ·obtain ⟨p26, e25, h⟩ := bind_E h
       try refine gos_ ?_
       refine mcall_pure ((t_form_u k p_0 at_1 _ e25).wk (.same (.same .nil))) ?_
       obtain rfl := som_E h
       try refine gos_ ?_
       exact (.pure _ (.str _))
theorem t_closed_u (k : Nat) : ∀ (p_0 : Printer) (at_1 : Int) (r : Str) (h : t_closed k p_0 at_1 = some r), PCall Tryz.prog 99 [(.agg (Printer.cells p_0)), (.int .i64 at_1)] (.str r) := by
  match k with
  | 0 => intro p_0 at_1 r h; rw [t_closed] at h; cases h
  | k + 1 =>
    intro p_0 at_1 r h
    refine PCall.of_empty (PuL.mem (.cons (.agg _ (Printer.pu _)) (.cons (.int _ _) .nil))) (MCall_of_W ok99 (by simp) (W_start ?_)) (.str _)
    rw [t_closed] at h
    unfold ac99
    obtain ⟨p2, e1, h⟩ := bind_E h
    try refine gos_ ?_
    refine mcall_pure ((t_text_u k p_0 at_1 false _ e1).wk (.same (.same (.same .nil)))) ?_
    obtain ⟨e3, h⟩ := if_E h
    try refine gos_ ?_
    refine WR_cat (cat_ e3) ?_
    obtain ⟨e4, h⟩ := if_E h
    try refine gos_ ?_
    refine WR_cat (cat_ e4) ?_
    obtain rfl := som_E h
    try refine gos_ ?_
    exact (.pure _ (.str _))
theorem t_operand_u (k : Nat) : ∀ (p_0 : Printer) (at_1 : Int) (must_2 : Bool) (follows_3 : Bool) (r : Str) (h : t_operand k p_0 at_1 must_2 follows_3 = some r), PCall Tryz.prog 150 [(.agg (Printer.cells p_0)), (.int .i64 at_1), (.bool must_2), (.bool follows_3)] (.str r) := by
  match k with
  | 0 => intro p_0 at_1 must_2 follows_3 r h; rw [t_operand] at h; cases h
  | k + 1 =>
    intro p_0 at_1 must_2 follows_3 r h
    refine PCall.of_empty (PuL.mem (.cons (.agg _ (Printer.pu _)) (.cons (.int _ _) (.cons (.bool _) (.cons (.bool _) .nil))))) (MCall_of_W ok150 (by simp) (W_start ?_)) (.str _)
    rw [t_operand] at h
    unfold ac150
    rcases cond_E h with ⟨e1, h⟩ | ⟨e1, h⟩
    ·obtain ⟨p3, e2, h⟩ := bind_E h
     try refine gos_ ?_
     refine mcall_pure ((t_closed_u k p_0 at_1 _ e2).wk (.same (.same .nil))) ?_
     obtain rfl := som_E h
     try refine gos_ ?_
     exact (.pure _ (.str _))
    ·obtain ⟨p5, e4, h⟩ := bind_E h
     try refine gos_ ?_
     refine mcall_pure ((t_text_u k p_0 at_1 follows_3 _ e4).wk (.same (.same (.same .nil)))) ?_
     obtain rfl := som_E h
     try refine gos_ ?_
     exact (.pure _ (.str _))
theorem t_applied_b0_W (k : Nat) : ∀ (o_p_4 : Nat) (o_o_6 : Nat) (follows_3 : Bool) (p_4_0 : List Nd) (o_6_0 : Str) (o_6_1 : Int) (o_6_2 : Int) (o_6_3 : Int) (o_6_4 : Bool) (o_6_5 : Int) (o_6_6 : Int) (out_16 : List Str) (last_17 : Int) (t_138 : List Int) (t_139 : Int) (t_140 : Int) (c_out_16_b0 : Ck) (σ0 σ : Nat → PV) (H0 H : AH) (f0 : Fr t_applied_b0l σ0 σ) (hf0 : HF [] H0 H) (sl : σ 3 = (.bool follows_3) ∧ σ 4 = (.ref (o_p_4) 0) ∧ σ 6 = (.ref (o_o_6) 0) ∧ σ 16 = (.isl (out_16.map strL) c_out_16_b0) ∧ σ 17 = (.int .i64 last_17) ∧ σ 138 = (.isl (t_138.map intL) .unk) ∧ σ 139 = (.int .i64 t_139) ∧ σ 140 = (.int .i64 t_140) ∧ H.obj o_p_4 = some [(.isl (p_4_0.map Nd.cells) .unk)] ∧ H.obj o_o_6 = some [(.str o_6_0), (.int .i64 o_6_1), (.int .i64 o_6_2), (.int .i64 o_6_3), (.bool o_6_4), (.int .i64 o_6_5), (.int .i64 o_6_6)]) (l_o_p_4 : o_p_4 < H.next) (l_o_o_6 : o_o_6 < H.next) (d_o_p_4_o_o_6 : o_p_4 ≠ o_o_6) (ok_out_16 : okc H c_out_16_b0) (o : List Str) (h : t_applied_b0 k follows_3 p_4_0 o_6_0 o_6_1 o_6_2 o_6_3 o_6_4 o_6_5 o_6_6 out_16 last_17 t_138 t_139 t_140 = some o) (Q : Post) (q0 : ∀ (p : List Str) (c0 : Ck) (σ' : Nat → PV) (H' : AH), o = p → Fr t_applied_b0l σ0 σ' → HF [] H0 H' → (σ' 16 = (.isl (p.map strL) c0)) → Q (.exit 2) σ' H') , W Tryz.prog (.loop ac101_b0) Q σ H := by
  match k with
  | 0 => intro o_p_4 o_o_6 follows_3 p_4_0 o_6_0 o_6_1 o_6_2 o_6_3 o_6_4 o_6_5 o_6_6 out_16 last_17 t_138 t_139 t_140 c_out_16_b0 σ0 σ H0 H f0 hf0 sl l_o_p_4 l_o_o_6 d_o_p_4_o_o_6 ok_out_16 o h Q q0; rw [t_applied_b0] at h; cases h
  | k + 1 =>
    have ih := t_applied_b0_W k
    intro o_p_4 o_o_6 follows_3 p_4_0 o_6_0 o_6_1 o_6_2 o_6_3 o_6_4 o_6_5 o_6_6 out_16 last_17 t_138 t_139 t_140 c_out_16_b0 σ0 σ H0 H f0 hf0 sl l_o_p_4 l_o_o_6 d_o_p_4_o_o_6 ok_out_16 o h Q q0
    obtain ⟨s3, s4, s6, s16, s17, s138, s139, s140, g_o_p_4, g_o_o_6⟩ := sl
    have n_o_p_4 := ne_next l_o_p_4
    have m_o_p_4 := ne_add l_o_p_4
    have n_o_o_6 := ne_next l_o_o_6
    have m_o_o_6 := ne_add l_o_o_6
    have e_o_p_4_o_o_6 := eq_false d_o_p_4_o_o_6
    have r_o_p_4_o_o_6 := eq_false (Ne.symm d_o_p_4_o_o_6)
    have hle0 := hf0.1
    rw [t_applied_b0] at h
    refine W_loopK (fun K hK => W_start ?_)
    unfold ac101_b0
    rcases cond_E h with ⟨e73, h⟩ | ⟨e73, h⟩
    ·obtain ⟨e74, h⟩ := if_E h
     obtain ⟨x75, e76, h⟩ := bind_E h
     obtain ⟨p78, e77, h⟩ := bind_E h
     try refine gos_ ?_
     refine mcall_pure (t_operator_c e77) ?_
     try refine gos_ ?_
     obtain ⟨o83, h84, h⟩ := bind_E h
     refine t_applied_p3_W (o_o_6) (H.next) o_6_0 o_6_1 o_6_2 o_6_3 o_6_4 o_6_5 o_6_6 t_140 p78.1.text p78.1.fix p78.1.low p78.1.high p78.1.left p78.1.least p78.1.most p78.2 _ _ _ (Fr.refl _ _) sls_ om_ om_ om_ _ h84 _ ?_
     ·rintro p85 σ' eo fr86 s89
      rw [eo] at h
      have s90 : σ' 3 = (.bool follows_3) := (fr86 3 (by decide)).trans sls_
      have s91 : σ' 4 = (.ref (o_p_4) 0) := (fr86 4 (by decide)).trans sls_
      have s92 : σ' 6 = (.ref (o_o_6) 0) := (fr86 6 (by decide)).trans sls_
      have s93 : σ' 16 = (.isl (out_16.map strL) c_out_16_b0) := (fr86 16 (by decide)).trans sls_
      have s94 : σ' 17 = (.int .i64 last_17) := (fr86 17 (by decide)).trans sls_
      have s95 : σ' 18 = (.int .i64 t_140) := (fr86 18 (by decide)).trans sls_
      have s96 : σ' 19 = (.int .i64 x75) := (fr86 19 (by decide)).trans sls_
      have s97 : σ' 138 = (.isl (t_138.map intL) .unk) := (fr86 138 (by decide)).trans sls_
      have s98 : σ' 139 = (.int .i64 t_139) := (fr86 139 (by decide)).trans sls_
      have s99 : σ' 140 = (.int .i64 t_140) := (fr86 140 (by decide)).trans sls_
      rcases cond_E h with ⟨e100, h⟩ | ⟨e100, h⟩
      ·obtain ⟨p102, e101, h⟩ := bind_E h
       try refine gos_ ?_
       refine mcall_pure ((t_operand_u k (Printer.mk p_4_0) x75 p85 true _ e101).wk (.same (.same (.same (.same .nil))))) ?_
       obtain ⟨e107, h⟩ := if_E h
       try refine gos_ ?_
       refine WO_app (f := strL) row_str out_16 ([p102] : List Str) c_out_16_b0 .exact sls_ sls_ ok_ (by first | exact e107 | (simp only [List.length_cons, List.length_nil] ; exact e107)) (fun c103 H104 ok105 le ob108 rl106 => ?_)
       have hf109 : HF [] _ H104 := ⟨le, fun i _ _ => ob108 i⟩
       try simp only [AH.new_next, AH.put_next, AH.tok_next, AH.use_next] at le
       have n119 := ne_next (show o_p_4 < H104.next by first | omega | (simp only [AH.new_next, AH.put_next, AH.tok_next, AH.use_next]; omega))
       have m120 := ne_add (show o_p_4 < H104.next by first | omega | (simp only [AH.new_next, AH.put_next, AH.tok_next, AH.use_next]; omega))
       have n121 := ne_next (show o_o_6 < H104.next by first | omega | (simp only [AH.new_next, AH.put_next, AH.tok_next, AH.use_next]; omega))
       have m122 := ne_add (show o_o_6 < H104.next by first | omega | (simp only [AH.new_next, AH.put_next, AH.tok_next, AH.use_next]; omega))
       have n123 := ne_next (show H.next < H104.next by first | omega | (simp only [AH.new_next, AH.put_next, AH.tok_next, AH.use_next]; omega))
       have m124 := ne_add (show H.next < H104.next by first | omega | (simp only [AH.new_next, AH.put_next, AH.tok_next, AH.use_next]; omega))
       try refine gos_ ?_
       refine hK _ _ ?_
       exact ih o_p_4 o_o_6 follows_3 p_4_0 o_6_0 o_6_1 o_6_2 o_6_3 o_6_4 o_6_5 o_6_6 (out_16 ++ [p102]) last_17 t_138 t_139 (IntKind.wrap .i64 (t_140 + 1)) c103 _ _ _ _ (by repeat (first | exact f0 | refine Fr.upd (by decide) ?_ | refine Fr.via fr86 (by decide) ?_)) (by repeat (first | exact hf0 | refine HF.new ?_ | refine HF.tokd ?_ | refine HF.used ?_ | refine HF.put (by first | (right; omega) | (left; simp only [List.mem_cons, true_or, or_true])) ?_ | refine HF.via hf109 (by first | exact fun i hi => absurd hi List.not_mem_nil | (intro i hi; simp only [List.mem_cons, List.not_mem_nil, or_false] at hi ⊢; first | exact .inl hi | omega)) ?_)) sls_ om_ om_ om_ ok_ _ h _ q0
      ·obtain ⟨p111, e110, h⟩ := bind_E h
       try refine gos_ ?_
       refine mcall_pure ((t_operand_u k (Printer.mk p_4_0) x75 p85 follows_3 _ e110).wk (.same (.same (.same (.same .nil))))) ?_
       obtain ⟨e116, h⟩ := if_E h
       try refine gos_ ?_
       refine WO_app (f := strL) row_str out_16 ([p111] : List Str) c_out_16_b0 .exact sls_ sls_ ok_ (by first | exact e116 | (simp only [List.length_cons, List.length_nil] ; exact e116)) (fun c112 H113 ok114 le ob117 rl115 => ?_)
       have hf118 : HF [] _ H113 := ⟨le, fun i _ _ => ob117 i⟩
       try simp only [AH.new_next, AH.put_next, AH.tok_next, AH.use_next] at le
       have n125 := ne_next (show o_p_4 < H113.next by first | omega | (simp only [AH.new_next, AH.put_next, AH.tok_next, AH.use_next]; omega))
       have m126 := ne_add (show o_p_4 < H113.next by first | omega | (simp only [AH.new_next, AH.put_next, AH.tok_next, AH.use_next]; omega))
       have n127 := ne_next (show o_o_6 < H113.next by first | omega | (simp only [AH.new_next, AH.put_next, AH.tok_next, AH.use_next]; omega))
       have m128 := ne_add (show o_o_6 < H113.next by first | omega | (simp only [AH.new_next, AH.put_next, AH.tok_next, AH.use_next]; omega))
       have n129 := ne_next (show H.next < H113.next by first | omega | (simp only [AH.new_next, AH.put_next, AH.tok_next, AH.use_next]; omega))
       have m130 := ne_add (show H.next < H113.next by first | omega | (simp only [AH.new_next, AH.put_next, AH.tok_next, AH.use_next]; omega))
       try refine gos_ ?_
       refine hK _ _ ?_
       exact ih o_p_4 o_o_6 follows_3 p_4_0 o_6_0 o_6_1 o_6_2 o_6_3 o_6_4 o_6_5 o_6_6 (out_16 ++ [p111]) last_17 t_138 t_139 (IntKind.wrap .i64 (t_140 + 1)) c112 _ _ _ _ (by repeat (first | exact f0 | refine Fr.upd (by decide) ?_ | refine Fr.via fr86 (by decide) ?_)) (by repeat (first | exact hf0 | refine HF.new ?_ | refine HF.tokd ?_ | refine HF.used ?_ | refine HF.put (by first | (right; omega) | (left; simp only [List.mem_cons, true_or, or_true])) ?_ | refine HF.via hf118 (by first | exact fun i hi => absurd hi List.not_mem_nil | (intro i hi; simp only [List.mem_cons, List.not_mem_nil, or_false] at hi ⊢; first | exact .inl hi | omega)) ?_)) sls_ om_ om_ om_ ok_ _ h _ q0
    ·obtain rfl := som_E h
     try refine gos_ ?_
     exact q0 _ c_out_16_b0 _ _ rfl fr_ (by repeat (first | exact hf0 | refine HF.new ?_ | refine HF.tokd ?_ | refine HF.used ?_ | refine HF.put (by first | (right; omega) | (left; simp only [List.mem_cons, true_or, or_true])) ?_)) sls_
theorem t_applied_u (k : Nat) : ∀ (p_0 : Printer) (at_1 : Int) (o_2 : Operator) (follows_3 : Bool) (r : Str) (h : t_applied k p_0 at_1 o_2 follows_3 = some r), PCall Tryz.prog 101 [(.agg (Printer.cells p_0)), (.int .i64 at_1), (.agg (Operator.cells o_2)), (.bool follows_3)] (.str r) := by
  match k with
  | 0 => intro p_0 at_1 o_2 follows_3 r h; rw [t_applied] at h; cases h
  | k + 1 =>
    intro p_0 at_1 o_2 follows_3 r h
    refine PCall.of_empty (PuL.mem (.cons (.agg _ (Printer.pu _)) (.cons (.int _ _) (.cons (.agg _ (Operator.pu _)) (.cons (.bool _) .nil))))) (MCall_of_W ok101 (by simp) (W_start ?_)) (.str _)
    rw [t_applied] at h
    unfold ac101
    obtain ⟨e1, h⟩ := if_E h
    obtain ⟨x2, e3, h⟩ := bind_E h
    rcases cond_E h with ⟨e4, h⟩ | ⟨e4, h⟩
    ·try refine gos_ ?_
     refine WS_parT (AH.empty.next + 3) ?_
     obtain ⟨x5, e6, h⟩ := bind_E h
     obtain ⟨p8, e7, h⟩ := bind_E h
     try refine gos_ ?_
     refine PC.mk (t_operator_c e7) ?_
     try refine gos_ ?_
     refine WS_parS ?_
     rcases cond_E h with ⟨e9, h⟩ | ⟨e9, h⟩
     ·obtain ⟨p11, e10, h⟩ := bind_E h
      try refine gos_ ?_
      refine PC.mk ((t_operand_u k p_0 x5 (!(p8.1.text == o_2.text)) true _ e10).wk (.same (.same (.same (.same .nil))))) ?_
      obtain ⟨e12, h⟩ := if_E h
      try refine gos_ ?_
      refine WR_cat (cat_ e12) ?_
      obtain rfl := som_E h
      try refine gos_ ?_
      exact (.pure _ (.str _))
     ·obtain ⟨p14, e13, h⟩ := bind_E h
      try refine gos_ ?_
      refine PC.mk ((t_operand_u k p_0 x5 false true _ e13).wk (.same (.same (.same (.same .nil))))) ?_
      obtain ⟨e15, h⟩ := if_E h
      try refine gos_ ?_
      refine WR_cat (cat_ e15) ?_
      obtain rfl := som_E h
      try refine gos_ ?_
      exact (.pure _ (.str _))
    ·rcases cond_E h with ⟨e16, h⟩ | ⟨e16, h⟩
     ·try refine gos_ ?_
      refine WS_parT (AH.empty.next + 3) ?_
      obtain ⟨x17, e18, h⟩ := bind_E h
      obtain ⟨p20, e19, h⟩ := bind_E h
      try refine gos_ ?_
      refine PC.mk (t_operator_c e19) ?_
      try refine gos_ ?_
      obtain ⟨o32, h33, h⟩ := bind_E h
      refine t_applied_p0_W (AH.empty.next + 1) (AH.empty.next + 3) o_2.text o_2.fix o_2.low o_2.high o_2.left o_2.least o_2.most p20.1.text p20.1.fix p20.1.low p20.1.high p20.1.left p20.1.least p20.1.most p20.2 _ _ _ (Fr.refl _ _) sls_ om_ om_ om_ _ h33 _ ?_
      ·rintro p34 σ' eo fr35 s38
       rw [eo] at h
       have s39 : σ' 3 = (.bool follows_3) := (fr35 3 (by decide)).trans sls_
       have s40 : σ' 4 = (.ref (AH.empty.next) 0) := (fr35 4 (by decide)).trans sls_
       have s41 : σ' 6 = (.ref (AH.empty.next + 1) 0) := (fr35 6 (by decide)).trans sls_
       have s42 : σ' 9 = (.ref (AH.empty.next + 2) 0) := (fr35 9 (by decide)).trans sls_
       try refine gos_ ?_
       obtain ⟨o59, h60, h⟩ := bind_E h
       refine t_applied_j2_W (AH.empty.next + 1) o_2.text o_2.fix o_2.low o_2.high o_2.left o_2.least o_2.most o_2.text _ _ _ (Fr.refl _ _) sls_ om_ _ h60 _ ?_
       ·rintro p61 σ' eo fr62 s65
        rw [eo] at h
        have s66 : σ' 3 = (.bool follows_3) := (fr62 3 (by decide)).trans sls_
        have s67 : σ' 4 = (.ref (AH.empty.next) 0) := (fr62 4 (by decide)).trans sls_
        have s68 : σ' 9 = (.ref (AH.empty.next + 2) 0) := (fr62 9 (by decide)).trans sls_
        have s69 : σ' 14 = (.bool p34) := (fr62 14 (by decide)).trans sls_
        try refine gos_ ?_
        refine WS_parS ?_
        obtain ⟨p71, e70, h⟩ := bind_E h
        try refine gos_ ?_
        refine PC.mk ((t_operand_u k p_0 x17 p34 follows_3 _ e70).wk (.same (.same (.same (.same .nil))))) ?_
        obtain ⟨e72, h⟩ := if_E h
        try refine gos_ ?_
        refine WR_cat (cat_ e72) ?_
        obtain rfl := som_E h
        try refine gos_ ?_
        exact (.pure _ (.str _))
     ·try refine gos_ ?_
      obtain ⟨o131, h132, h⟩ := bind_E h
      refine t_applied_b0_W k (AH.empty.next) (AH.empty.next + 1) follows_3 p_0.e o_2.text o_2.fix o_2.low o_2.high o_2.left o_2.least o_2.most ([] : List Str) (IntKind.wrap .i64 ((x2.args.length : Int) - 1)) x2.args (x2.args.length : Int) 0 .nil _ _ _ _ (Fr.refl _ _) (HF.refl _ _) sls_ om_ om_ om_ ok_ _ h132 _ ?_
      ·rintro p133 c137 σ' H136 eo fr134 hf135 s138
       rw [eo] at h
       have s139 : σ' 6 = (.ref (AH.empty.next + 1) 0) := (fr134 6 (by decide)).trans sls_
       have le := hf135.1
       try simp only [AH.new_next, AH.put_next, AH.tok_next, AH.use_next] at le
       have g140 : H136.obj (AH.empty.next + 1) = some [(.str o_2.text), (.int .i64 o_2.fix), (.int .i64 o_2.low), (.int .i64 o_2.high), (.bool o_2.left), (.int .i64 o_2.least), (.int .i64 o_2.most)] := (hf135.2 _ om_ (by first | exact List.not_mem_nil | (simp only [List.mem_cons, List.not_mem_nil, or_false, not_or]; omega))).trans sls_
       have n141 := ne_next (show AH.empty.next + 1 < H136.next by first | omega | (simp only [AH.new_next, AH.put_next, AH.tok_next, AH.use_next]; omega))
       have m142 := ne_add (show AH.empty.next + 1 < H136.next by first | omega | (simp only [AH.new_next, AH.put_next, AH.tok_next, AH.use_next]; omega))
       obtain ⟨e143, h⟩ := if_E h
       try refine gos_ ?_
       refine WR_cat (cat_ e143) ?_
       obtain ⟨e144, h⟩ := if_E h
       try refine gos_ ?_
       refine WR_cat (cat_ e144) ?_
       obtain ⟨e145, h⟩ := if_E h
       obtain ⟨e146, h⟩ := if_E h
       try refine gos_ ?_
       refine mcall_pure (join_c p133 (32 :: (o_2.text ++ ([32] : Str))) (by assumption) (by assumption)) ?_
       obtain rfl := som_E h
       try refine gos_ ?_
       exact (.pure _ (.str _))
theorem t_form_u (k : Nat) : ∀ (p_0 : Printer) (at_1 : Int) (r : Str) (h : t_form k p_0 at_1 = some r), PCall Tryz.prog 102 [(.agg (Printer.cells p_0)), (.int .i64 at_1)] (.str r) := by
  match k with
  | 0 => intro p_0 at_1 r h; rw [t_form] at h; cases h
  | k + 1 =>
    intro p_0 at_1 r h
    refine PCall.of_empty (PuL.mem (.cons (.agg _ (Printer.pu _)) (.cons (.int _ _) .nil))) (MCall_of_W ok102 (by simp) (W_start ?_)) (.str _)
    rw [t_form] at h
    unfold ac102
    obtain ⟨e1, h⟩ := if_E h
    obtain ⟨x2, e3, h⟩ := bind_E h
    rcases cond_E h with ⟨e4, h⟩ | ⟨e4, h⟩
    ·obtain ⟨e5, h⟩ := if_E h
     try refine gos_ ?_
     refine mcall_pure (itoa_small_c x2.n (by assumption)) ?_
     obtain rfl := som_E h
     try refine gos_ ?_
     exact (.pure _ (.str _))
    ·rcases cond_E h with ⟨e6, h⟩ | ⟨e6, h⟩
     ·obtain ⟨e7, h⟩ := if_E h
      try refine gos_ ?_
      refine WR_cat (cat_ e7) ?_
      obtain ⟨e8, h⟩ := if_E h
      try refine gos_ ?_
      refine WR_cat (cat_ e8) ?_
      obtain rfl := som_E h
      try refine gos_ ?_
      exact (.pure _ (.str _))
     ·rcases cond_E h with ⟨e9, h⟩ | ⟨e9, h⟩
      ·obtain rfl := som_E h
       try refine gos_ ?_
       exact (.pure _ (.str _))
      ·rcases cond_E h with ⟨e10, h⟩ | ⟨e10, h⟩
       ·try refine gos_ ?_
        refine WS_parS ?_
        obtain ⟨e11, h⟩ := if_E h
        try refine gos_ ?_
        refine WPR_cat (cat_ e11) ?_
        obtain ⟨p13, e12, h⟩ := bind_E h
        try refine gos_ ?_
        refine PC.mk (no2_c p_0 x2.args e12) ?_
        obtain ⟨e14, h⟩ := if_E h
        try refine gos_ ?_
        refine WR_cat (cat_ e14) ?_
        obtain ⟨e15, h⟩ := if_E h
        try refine gos_ ?_
        refine WR_cat (cat_ e15) ?_
        obtain rfl := som_E h
        try refine gos_ ?_
        exact (.pure _ (.str _))
       ·rcases cond_E h with ⟨e16, h⟩ | ⟨e16, h⟩
        ·obtain ⟨p18, e17, h⟩ := bind_E h
         try refine gos_ ?_
         refine mcall_pure (no2_c p_0 x2.args e17) ?_
         obtain ⟨e19, h⟩ := if_E h
         try refine gos_ ?_
         refine WR_cat (cat_ e19) ?_
         obtain ⟨e20, h⟩ := if_E h
         try refine gos_ ?_
         refine WR_cat (cat_ e20) ?_
         obtain rfl := som_E h
         try refine gos_ ?_
         exact (.pure _ (.str _))
        ·rcases cond_E h with ⟨e21, h⟩ | ⟨e21, h⟩
         ·obtain ⟨p23, e22, h⟩ := bind_E h
          try refine gos_ ?_
          refine mcall_pure (no2_c p_0 x2.args e22) ?_
          obtain ⟨e24, h⟩ := if_E h
          try refine gos_ ?_
          refine WR_cat (cat_ e24) ?_
          obtain ⟨e25, h⟩ := if_E h
          try refine gos_ ?_
          refine WR_cat (cat_ e25) ?_
          obtain rfl := som_E h
          try refine gos_ ?_
          exact (.pure _ (.str _))
         ·rcases cond_E h with ⟨e26, h⟩ | ⟨e26, h⟩
          ·try refine gos_ ?_
           refine WS_parS ?_
           obtain ⟨p28, e27, h⟩ := bind_E h
           try refine gos_ ?_
           refine PC.mk (no2_c p_0 x2 e27) ?_
           obtain ⟨e29, h⟩ := if_E h
           try refine gos_ ?_
           refine WPR_cat (cat_ e29) ?_
           obtain ⟨e30, h⟩ := if_E h
           try refine gos_ ?_
           refine WPR_cat (cat_ e30) ?_
           obtain ⟨x31, e32, h⟩ := bind_E h
           obtain ⟨p34, e33, h⟩ := bind_E h
           try refine gos_ ?_
           refine PC.mk ((t_text_u k p_0 x31 false _ e33).wk (.same (.same (.same .nil)))) ?_
           obtain ⟨e35, h⟩ := if_E h
           try refine gos_ ?_
           refine WR_cat (cat_ e35) ?_
           obtain ⟨e36, h⟩ := if_E h
           try refine gos_ ?_
           refine WR_cat (cat_ e36) ?_
           obtain rfl := som_E h
           try refine gos_ ?_
           exact (.pure _ (.str _))
          ·rcases cond_E h with ⟨e37, h⟩ | ⟨e37, h⟩
           ·try refine gos_ ?_
            refine WS_parS ?_
            obtain ⟨e38, h⟩ := if_E h
            obtain ⟨x39, e40, h⟩ := bind_E h
            obtain ⟨p42, e41, h⟩ := bind_E h
            try refine gos_ ?_
            refine PC.mk (no2_c p_0 x39 e41) ?_
            obtain ⟨e43, h⟩ := if_E h
            try refine gos_ ?_
            refine WPR_cat (cat_ e43) ?_
            obtain ⟨e44, h⟩ := if_E h
            try refine gos_ ?_
            refine WPR_cat (cat_ e44) ?_
            obtain ⟨p46, e45, h⟩ := bind_E h
            try refine gos_ ?_
            refine PC.mk (no2_c p_0 x2 e45) ?_
            obtain ⟨e47, h⟩ := if_E h
            try refine gos_ ?_
            refine WR_cat (cat_ e47) ?_
            obtain ⟨e48, h⟩ := if_E h
            try refine gos_ ?_
            refine WR_cat (cat_ e48) ?_
            obtain rfl := som_E h
            try refine gos_ ?_
            exact (.pure _ (.str _))
           ·rcases cond_E h with ⟨e49, h⟩ | ⟨e49, h⟩
            ·try refine gos_ ?_
             refine WS_parS ?_
             obtain ⟨p51, e50, h⟩ := bind_E h
             try refine gos_ ?_
             refine PC.mk (no2_c p_0 x2 e50) ?_
             obtain ⟨e52, h⟩ := if_E h
             try refine gos_ ?_
             refine WPR_cat (cat_ e52) ?_
             obtain ⟨e53, h⟩ := if_E h
             try refine gos_ ?_
             refine WPR_cat (cat_ e53) ?_
             obtain ⟨e54, h⟩ := if_E h
             obtain ⟨x55, e56, h⟩ := bind_E h
             obtain ⟨p58, e57, h⟩ := bind_E h
             try refine gos_ ?_
             refine PC.mk ((t_text_u k p_0 x55 false _ e57).wk (.same (.same (.same .nil)))) ?_
             obtain ⟨e59, h⟩ := if_E h
             try refine gos_ ?_
             refine WR_cat (cat_ e59) ?_
             obtain ⟨e60, h⟩ := if_E h
             try refine gos_ ?_
             refine WR_cat (cat_ e60) ?_
             obtain rfl := som_E h
             try refine gos_ ?_
             exact (.pure _ (.str _))
            ·rcases cond_E h with ⟨e61, h⟩ | ⟨e61, h⟩
             ·try refine gos_ ?_
              refine WS_parS ?_
              obtain ⟨x62, e63, h⟩ := bind_E h
              obtain ⟨p65, e64, h⟩ := bind_E h
              try refine gos_ ?_
              refine PC.mk (no2_c p_0 x62 e64) ?_
              obtain ⟨e66, h⟩ := if_E h
              try refine gos_ ?_
              refine WPR_cat (cat_ e66) ?_
              obtain ⟨e67, h⟩ := if_E h
              obtain ⟨p69, e68, h⟩ := bind_E h
              try refine gos_ ?_
              refine PC.mk (no2_c p_0 (x2.args.drop 1) e68) ?_
              obtain ⟨e70, h⟩ := if_E h
              try refine gos_ ?_
              refine WR_cat (cat_ e70) ?_
              obtain ⟨e71, h⟩ := if_E h
              try refine gos_ ?_
              refine WR_cat (cat_ e71) ?_
              obtain rfl := som_E h
              try refine gos_ ?_
              exact (.pure _ (.str _))
             ·rcases cond_E h with ⟨e72, h⟩ | ⟨e72, h⟩
              ·try refine gos_ ?_
               refine WS_parS ?_
               obtain ⟨x73, e74, h⟩ := bind_E h
               obtain ⟨p76, e75, h⟩ := bind_E h
               try refine gos_ ?_
               refine PC.mk ((t_text_u k p_0 x73 false _ e75).wk (.same (.same (.same .nil)))) ?_
               obtain ⟨e77, h⟩ := if_E h
               try refine gos_ ?_
               refine WPR_cat (cat_ e77) ?_
               obtain ⟨e78, h⟩ := if_E h
               try refine gos_ ?_
               refine WPR_cat (cat_ e78) ?_
               obtain ⟨x79, e80, h⟩ := bind_E h
               obtain ⟨p82, e81, h⟩ := bind_E h
               try refine gos_ ?_
               refine PC.mk ((t_text_u k p_0 x79 false _ e81).wk (.same (.same (.same .nil)))) ?_
               obtain ⟨e83, h⟩ := if_E h
               try refine gos_ ?_
               refine WR_cat (cat_ e83) ?_
               obtain ⟨e84, h⟩ := if_E h
               try refine gos_ ?_
               refine WR_cat (cat_ e84) ?_
               obtain rfl := som_E h
               try refine gos_ ?_
               exact (.pure _ (.str _))
              ·rcases cond_E h with ⟨e85, h⟩ | ⟨e85, h⟩
               ·obtain ⟨p87, e86, h⟩ := bind_E h
                try refine gos_ ?_
                refine mcall_pure (no3_c p_0 x2 ([32, 124, 45, 62, 32] : Str) e86) ?_
                obtain ⟨e88, h⟩ := if_E h
                try refine gos_ ?_
                refine WR_cat (cat_ e88) ?_
                obtain ⟨e89, h⟩ := if_E h
                try refine gos_ ?_
                refine WR_cat (cat_ e89) ?_
                obtain rfl := som_E h
                try refine gos_ ?_
                exact (.pure _ (.str _))
               ·rcases cond_E h with ⟨e90, h⟩ | ⟨e90, h⟩
                ·obtain ⟨p92, e91, h⟩ := bind_E h
                 try refine gos_ ?_
                 refine mcall_pure (no3_c p_0 x2 ([32, 58, 32] : Str) e91) ?_
                 obtain ⟨e93, h⟩ := if_E h
                 try refine gos_ ?_
                 refine WR_cat (cat_ e93) ?_
                 obtain ⟨e94, h⟩ := if_E h
                 try refine gos_ ?_
                 refine WR_cat (cat_ e94) ?_
                 obtain rfl := som_E h
                 try refine gos_ ?_
                 exact (.pure _ (.str _))
                ·rcases cond_E h with ⟨e95, h⟩ | ⟨e95, h⟩
                 ·try refine gos_ ?_
                  refine WS_parS ?_
                  obtain ⟨x96, e97, h⟩ := bind_E h
                  obtain ⟨p99, e98, h⟩ := bind_E h
                  try refine gos_ ?_
                  refine PC.mk (no2_c p_0 x96 e98) ?_
                  obtain ⟨e100, h⟩ := if_E h
                  try refine gos_ ?_
                  refine WPR_cat (cat_ e100) ?_
                  obtain ⟨e101, h⟩ := if_E h
                  try refine gos_ ?_
                  refine WR_cat (cat_ e101) ?_
                  obtain rfl := som_E h
                  try refine gos_ ?_
                  exact (.pure _ (.str _))
                 ·rcases cond_E h with ⟨e102, h⟩ | ⟨e102, h⟩
                  ·try refine gos_ ?_
                   refine WS_parS ?_
                   obtain ⟨x103, e104, h⟩ := bind_E h
                   obtain ⟨p106, e105, h⟩ := bind_E h
                   try refine gos_ ?_
                   refine PC.mk ((t_text_u k p_0 x103 false _ e105).wk (.same (.same (.same .nil)))) ?_
                   obtain ⟨e107, h⟩ := if_E h
                   try refine gos_ ?_
                   refine WPR_cat (cat_ e107) ?_
                   obtain ⟨e108, h⟩ := if_E h
                   try refine gos_ ?_
                   refine WPR_cat (cat_ e108) ?_
                   obtain ⟨x109, e110, h⟩ := bind_E h
                   obtain ⟨p112, e111, h⟩ := bind_E h
                   try refine gos_ ?_
                   refine PC.mk ((t_text_u k p_0 x109 false _ e111).wk (.same (.same (.same .nil)))) ?_
                   obtain ⟨e113, h⟩ := if_E h
                   try refine gos_ ?_
                   refine WPR_cat (cat_ e113) ?_
                   obtain ⟨e114, h⟩ := if_E h
                   try refine gos_ ?_
                   refine WPR_cat (cat_ e114) ?_
                   obtain ⟨x115, e116, h⟩ := bind_E h
                   obtain ⟨p118, e117, h⟩ := bind_E h
                   try refine gos_ ?_
                   refine PC.mk ((t_text_u k p_0 x115 false _ e117).wk (.same (.same (.same .nil)))) ?_
                   obtain ⟨e119, h⟩ := if_E h
                   try refine gos_ ?_
                   refine WR_cat (cat_ e119) ?_
                   obtain ⟨e120, h⟩ := if_E h
                   try refine gos_ ?_
                   refine WR_cat (cat_ e120) ?_
                   obtain rfl := som_E h
                   try refine gos_ ?_
                   exact (.pure _ (.str _))
                  ·rcases cond_E h with ⟨e121, h⟩ | ⟨e121, h⟩
                   ·obtain rfl := som_E h
                    try refine gos_ ?_
                    exact (.pure _ (.str _))
                   ·rcases cond_E h with ⟨e122, h⟩ | ⟨e122, h⟩
                    ·try refine gos_ ?_
                     refine WS_parS ?_
                     obtain ⟨x123, e124, h⟩ := bind_E h
                     obtain ⟨p126, e125, h⟩ := bind_E h
                     try refine gos_ ?_
                     refine PC.mk ((t_text_u k p_0 x123 false _ e125).wk (.same (.same (.same .nil)))) ?_
                     obtain ⟨e127, h⟩ := if_E h
                     try refine gos_ ?_
                     refine WPR_cat (cat_ e127) ?_
                     obtain ⟨e128, h⟩ := if_E h
                     try refine gos_ ?_
                     refine WPR_cat (cat_ e128) ?_
                     obtain ⟨x129, e130, h⟩ := bind_E h
                     obtain ⟨p132, e131, h⟩ := bind_E h
                     try refine gos_ ?_
                     refine PC.mk (no2_c p_0 x129 e131) ?_
                     obtain ⟨e133, h⟩ := if_E h
                     try refine gos_ ?_
                     refine WR_cat (cat_ e133) ?_
                     obtain rfl := som_E h
                     try refine gos_ ?_
                     exact (.pure _ (.str _))
                    ·rcases cond_E h with ⟨e134, h⟩ | ⟨e134, h⟩
                     ·try refine gos_ ?_
                      refine WS_parS ?_
                      obtain ⟨x135, e136, h⟩ := bind_E h
                      obtain ⟨p138, e137, h⟩ := bind_E h
                      try refine gos_ ?_
                      refine PC.mk ((t_text_u k p_0 x135 false _ e137).wk (.same (.same (.same .nil)))) ?_
                      obtain ⟨e139, h⟩ := if_E h
                      try refine gos_ ?_
                      refine WPR_cat (cat_ e139) ?_
                      obtain ⟨e140, h⟩ := if_E h
                      try refine gos_ ?_
                      refine WPR_cat (cat_ e140) ?_
                      obtain ⟨x141, e142, h⟩ := bind_E h
                      obtain ⟨p144, e143, h⟩ := bind_E h
                      try refine gos_ ?_
                      refine PC.mk (no2_c p_0 x141 e143) ?_
                      obtain ⟨e145, h⟩ := if_E h
                      try refine gos_ ?_
                      refine WR_cat (cat_ e145) ?_
                      obtain rfl := som_E h
                      try refine gos_ ?_
                      exact (.pure _ (.str _))
                     ·rcases cond_E h with ⟨e146, h⟩ | ⟨e146, h⟩
                      ·try refine gos_ ?_
                       refine WS_parS ?_
                       obtain ⟨x147, e148, h⟩ := bind_E h
                       obtain ⟨p150, e149, h⟩ := bind_E h
                       try refine gos_ ?_
                       refine PC.mk (no2_c p_0 x147 e149) ?_
                       obtain ⟨e151, h⟩ := if_E h
                       try refine gos_ ?_
                       refine WPR_cat (cat_ e151) ?_
                       obtain ⟨e152, h⟩ := if_E h
                       try refine gos_ ?_
                       refine WPR_cat (cat_ e152) ?_
                       obtain ⟨x153, e154, h⟩ := bind_E h
                       obtain ⟨p156, e155, h⟩ := bind_E h
                       try refine gos_ ?_
                       refine PC.mk ((t_text_u k p_0 x153 false _ e155).wk (.same (.same (.same .nil)))) ?_
                       obtain ⟨e157, h⟩ := if_E h
                       try refine gos_ ?_
                       refine WR_cat (cat_ e157) ?_
                       obtain ⟨e158, h⟩ := if_E h
                       try refine gos_ ?_
                       refine WR_cat (cat_ e158) ?_
                       obtain rfl := som_E h
                       try refine gos_ ?_
                       exact (.pure _ (.str _))
                      ·rcases cond_E h with ⟨e159, h⟩ | ⟨e159, h⟩
                       ·try refine gos_ ?_
                        refine WS_parS ?_
                        obtain ⟨x160, e161, h⟩ := bind_E h
                        obtain ⟨p163, e162, h⟩ := bind_E h
                        try refine gos_ ?_
                        refine PC.mk (no2_c p_0 x160 e162) ?_
                        obtain ⟨e164, h⟩ := if_E h
                        try refine gos_ ?_
                        refine WPR_cat (cat_ e164) ?_
                        obtain ⟨e165, h⟩ := if_E h
                        try refine gos_ ?_
                        refine WPR_cat (cat_ e165) ?_
                        obtain ⟨x166, e167, h⟩ := bind_E h
                        obtain ⟨p169, e168, h⟩ := bind_E h
                        try refine gos_ ?_
                        refine PC.mk ((t_text_u k p_0 x166 false _ e168).wk (.same (.same (.same .nil)))) ?_
                        obtain ⟨e170, h⟩ := if_E h
                        try refine gos_ ?_
                        refine WR_cat (cat_ e170) ?_
                        obtain ⟨e171, h⟩ := if_E h
                        try refine gos_ ?_
                        refine WR_cat (cat_ e171) ?_
                        obtain rfl := som_E h
                        try refine gos_ ?_
                        exact (.pure _ (.str _))
                       ·obtain ⟨p173, e172, h⟩ := bind_E h
                        try refine gos_ ?_
                        refine mcall_pure (no2_c p_0 x2 e172) ?_
                        obtain rfl := som_E h
                        try refine gos_ ?_
                        exact (.pure _ (.str _))
end
theorem t_text_c {k : Nat} {p_0 : Printer} {at_1 : Int} {follows_2 : Bool} {r : Str} (h : t_text k p_0 at_1 follows_2 = some r) : PCall Tryz.prog 59 [(.agg (Printer.cells p_0)), (.int .i64 at_1), (.bool follows_2)] (.str r) := t_text_u k p_0 at_1 follows_2 r h
def t_FormatExpr (k : Nat) (e_0 : List Nd) : Option (Str × Int) :=
  Option.bind (t_exprErr k e_0) fun p2 => cond (p2 != 0) (some ([], p2)) (Option.bind (t_text k (Printer.mk e_0) (IntKind.wrap .i64 ((e_0.length : Int) - 1)) false) fun p5 => cond (decide ((p5.length : Int) > 20000)) (some ([], 2)) (some (p5, 0)))
theorem t_FormatExpr_c {k : Nat} {e_0 : List Nd} {c0 : Ck} {r : Str × Int} (h : t_FormatExpr k e_0 = some r) : PCall Tryz.prog 17 [(.isl (e_0.map Nd.cells) c0)] (.tup [(.str r.1), (.int .i64 r.2)]) := by
  refine PCall.lw (.isl .nil) (PCall.of_empty (PuL.mem (.cons (pu_sl Nd.pu _) .nil)) (MCall_of_W ok17 (by simp) (W_start ?_)) (.tup _ (PuL.mem (.cons (.str _) (.cons (.int _ _) .nil)))))
  unfold t_FormatExpr at h
  unfold ac17
  obtain ⟨p2, e1, h⟩ := bind_E h
  try refine gos_ ?_
  refine mcall_pure (t_exprErr_c e1) ?_
  rcases cond_E h with ⟨e3, h⟩ | ⟨e3, h⟩
  ·obtain rfl := som_E h
   try refine gos_ ?_
   exact (fz_tup (.cons (.pure _ (.str _)) (.cons (.pure _ (.int _ _)) .nil)))
  ·obtain ⟨p5, e4, h⟩ := bind_E h
   try refine gos_ ?_
   refine mcall_pure (t_text_c e4) ?_
   rcases cond_E h with ⟨e6, h⟩ | ⟨e6, h⟩
   ·obtain rfl := som_E h
    try refine gos_ ?_
    exact (fz_tup (.cons (.pure _ (.str _)) (.cons (.pure _ (.int _ _)) .nil)))
   ·obtain rfl := som_E h
    try refine gos_ ?_
    exact (fz_tup (.cons (.pure _ (.str _)) (.cons (.pure _ (.int _ _)) .nil)))
end Go.VL
end
section
set_option maxRecDepth 8000
set_option maxHeartbeats 4000000
namespace Go.VL
open Go.Proofs
def t_FreeIn (k : Nat) (e_0 : List Nd) : Option ((List Str) × Int) :=
  Option.bind (t_exprErr k e_0) fun p2 => cond (p2 != 0) (some ([], p2)) (Option.bind (t_free k e_0) fun p5 => some (p5, 0))
theorem t_FreeIn_c {k : Nat} {e_0 : List Nd} {c0 : Ck} {r : (List Str) × Int} (h : t_FreeIn k e_0 = some r) : PCall Tryz.prog 32 [(.isl (e_0.map Nd.cells) c0)] (.tup [(.isl (r.1.map strL) .unk), (.int .i64 r.2)]) := by
  refine PCall.lw (.isl .nil) (PCall.of_empty (PuL.mem (.cons (pu_sl Nd.pu _) .nil)) (MCall_of_W ok32 (by simp) (W_start ?_)) (.tup _ (PuL.mem (.cons (pu_sl pu_strL _) (.cons (.int _ _) .nil)))))
  unfold t_FreeIn at h
  unfold ac32
  obtain ⟨p2, e1, h⟩ := bind_E h
  try refine gos_ ?_
  refine mcall_pure (t_exprErr_c e1) ?_
  rcases cond_E h with ⟨e3, h⟩ | ⟨e3, h⟩
  ·obtain rfl := som_E h
   try refine gos_ ?_
   exact (fz_tup (.cons (fz_sl pu_strL [] _) (.cons (.pure _ (.int _ _)) .nil)))
  ·obtain ⟨p5, e4, h⟩ := bind_E h
   try refine gos_ ?_
   refine mcall_pure (t_free_c k e_0 e4) ?_
   obtain rfl := som_E h
   try refine gos_ ?_
   exact (fz_tup (.cons (fz_sl pu_strL _ _) (.cons (.pure _ (.int _ _)) .nil)))
def l_awake (k : Nat) : Option Bool :=
  Option.bind (l_Sum k ) fun p2 => Option.bind (t_FormatExpr k p2) fun p4 => Option.bind (t_FreeIn k p2) fun p8 => Option.bind (t_OperatorOf k ([92, 99, 100, 111, 116] : Str)) fun p10 => Option.bind (t_CheckExpr k [(Nd.mk 20 0 [] [] [])]) fun p12 => cond (p4.2 == 0) (cond (p4.1 == ([97, 32, 43, 32, 98, 32, 42, 32, 99] : Str)) (cond (p8.2 == 0) (Option.bind (b_EqualTexts k p8.1 [([97] : Str), ([98] : Str), ([99] : Str)]) fun p17 => cond p17 (cond (p10.2 == 0) (cond (p10.1.high == 14) (cond p10.1.left (cond (p12.2 == 30) (some (p12.1 == 0)) (some false)) (some false)) (some false)) (some false)) (some false)) (some false)) (some false)) (some false)
theorem l_awake_c {k : Nat} {r : Bool} (h : l_awake k = some r) : PCall Tryz.prog 12 [] (.bool r) := by
  refine PCall.of_empty (PuL.mem .nil) (MCall_of_W ok12 (by simp) (W_start ?_)) (.bool _)
  unfold l_awake at h
  unfold ac12
  obtain ⟨p2, e1, h⟩ := bind_E h
  try refine gos_ ?_
  refine mcall_pure (l_Sum_c e1) ?_
  obtain ⟨p4, e3, h⟩ := bind_E h
  try refine gos_ ?_
  refine mcall_pure (t_FormatExpr_c e3) ?_
  try refine gos_ ?_
  refine mcall_pure (l_Sum_c e1) ?_
  obtain ⟨p8, e7, h⟩ := bind_E h
  try refine gos_ ?_
  refine mcall_pure (t_FreeIn_c e7) ?_
  obtain ⟨p10, e9, h⟩ := bind_E h
  try refine gos_ ?_
  refine mcall_pure (t_OperatorOf_c e9) ?_
  obtain ⟨p12, e11, h⟩ := bind_E h
  try refine gos_ ?_
  refine mcall_pure (t_CheckExpr_c e11) ?_
  rcases cond_E h with ⟨e13, h⟩ | ⟨e13, h⟩
  ·rcases cond_E h with ⟨e14, h⟩ | ⟨e14, h⟩
   ·rcases cond_E h with ⟨e15, h⟩ | ⟨e15, h⟩
    ·obtain ⟨p17, e16, h⟩ := bind_E h
     try refine gos_ ?_
     refine mcall_pure (b_EqualTexts_c e16) ?_
     rcases cond_E h with ⟨e18, h⟩ | ⟨e18, h⟩
     ·rcases cond_E h with ⟨e19, h⟩ | ⟨e19, h⟩
      ·rcases cond_E h with ⟨e20, h⟩ | ⟨e20, h⟩
       ·rcases cond_E h with ⟨e21, h⟩ | ⟨e21, h⟩
        ·rcases cond_E h with ⟨e22, h⟩ | ⟨e22, h⟩
         ·obtain rfl := som_E h
          try refine gos_ ?_
          exact (.pure _ (.bool _))
         ·obtain rfl := som_E h
          try refine gos_ ?_
          exact (.pure _ (.bool _))
        ·obtain rfl := som_E h
         try refine gos_ ?_
         exact (.pure _ (.bool _))
       ·obtain rfl := som_E h
        try refine gos_ ?_
        exact (.pure _ (.bool _))
      ·obtain rfl := som_E h
       try refine gos_ ?_
       exact (.pure _ (.bool _))
     ·obtain rfl := som_E h
      try refine gos_ ?_
      exact (.pure _ (.bool _))
    ·obtain rfl := som_E h
     try refine gos_ ?_
     exact (.pure _ (.bool _))
   ·obtain rfl := som_E h
    try refine gos_ ?_
    exact (.pure _ (.bool _))
  ·obtain rfl := som_E h
   try refine gos_ ?_
   exact (.pure _ (.bool _))
end Go.VL
end
section
namespace Go.VL
open Go.Proofs
theorem awake_true : l_awake 100 = some true := by kernel_rfl
theorem awake_c : PCall Tryz.prog 12 [] (.bool true) := l_awake_c awake_true
end Go.VL
end
section
set_option maxRecDepth 8000
namespace Go.VL
open Go.Proofs
theorem ops_loop (L : List Operator) (hL : L.length ≤ 1000) : ∀ (n i : Nat), i + n = L.length → ∀ (σ : Nat → PV) (H : AH) (v : PV) (ids : List Nat), σ 4 = .isl (L.map Operator.cells) .unk → σ 5 = .int .i64 (L.length : Int) → σ 6 = .int .i64 (i : Int) → σ 1 = v →
    RowN H strL 1 ((L.take i).map Operator.text) v ids → ∀ (Q : Post), (∀ σ' H' v' ids', σ' 1 = v' → RowN H' strL 1 (L.map Operator.text) v' ids' → Q (.exit 0) σ' H') → W Tryz.prog (.loop ac28_b0) Q σ H := by
  intro n
  induction n with
  | zero =>
    intro i hi σ H v ids s4 s5 s6 s1 hr Q q0
    refine W_loopK (fun K hK => W_start ?_)
    unfold ac28_b0
    have hd : decide ((i : Int) < (L.length : Int)) = false := decide_eq_false (by omega)
    simp -implicitDefEqProofs only [go_sem, s5, s6, hd]
    rw [List.take_of_length_le (by omega)] at hr
    exact q0 _ _ v ids (by simp -implicitDefEqProofs only [go_sem, s1]) hr
  | succ n ih =>
    intro i hi σ H v ids s4 s5 s6 s1 hr Q q0
    have hlt : i < L.length := by omega
    have hget : L[i]? = some L[i] := List.getElem?_eq_getElem hlt
    have hd : decide ((i : Int) < (L.length : Int)) = true := decide_eq_true (by omega)
    have hw : IntKind.wrap .i64 ((i : Int) + 1) = ((i + 1 : Nat) : Int) := by rw [IntKind.wrap_i64]; omega
    refine W_loopK (fun K hK => W_start ?_)
    unfold ac28_b0
    simp -implicitDefEqProofs only [go_sem, WO_store, s4, s5, s6, s1, hd, List.getElem?_map, hget, Option.map_some]
    refine WO_rowapp (f := strL) row_str _ [L[i].text] .exact (by simp -implicitDefEqProofs only [go_sem, s1]) ((hr.new (cs := [.str [], .int .i64 0, .int .i64 0, .int .i64 0, .bool false, .int .i64 0, .int .i64 0])).put (fun hm => by have := hr.lt _ hm; omega)) (by simp -implicitDefEqProofs only [go_sem]) (by simp) (by simp; omega) (fun v' ids' H' g1 g2 g3 g4 => ?_)
    simp -implicitDefEqProofs only [go_sem, s6]
    refine hK _ _ ?_
    refine ih (i + 1) (by omega) _ H' v' ids' ?_ ?_ ?_ ?_ ?_ Q q0
    · simp -implicitDefEqProofs only [go_sem, s4]
    · simp -implicitDefEqProofs only [go_sem, s5]
    · simp -implicitDefEqProofs only [go_sem, hw]
    · simp -implicitDefEqProofs only [go_sem]
    · rw [List.take_succ_eq_append_getElem hlt, List.map_append]
      exact g1
theorem sort_set {l : List Str} (hn : l.Nodup) : sortS l = setS l := by
  have tr : ∀ a b c : Str, decide (a ≤ b) = true → decide (b ≤ c) = true → decide (a ≤ c) = true := fun a b c h1 h2 => by simp only [decide_eq_true_eq] at *; exact List.le_trans h1 h2
  have tot : ∀ a b : Str, (decide (a ≤ b) || decide (b ≤ a)) = true := fun a b => by simp only [Bool.or_eq_true, decide_eq_true_eq]; exact List.le_total a b
  have hs := List.pairwise_mergeSort (le := fun x y : Str => decide (x ≤ y)) tr tot l
  have hp := List.mergeSort_perm l (fun x y : Str => decide (x ≤ y))
  have nd : (setS l).Nodup := (setS_asc l).imp (S := fun a b => a ≠ b) fun {a b} hab e => List.lt_irrefl a (by rw [← e] at hab; exact hab)
  have hp2 : l.Perm (setS l) := (List.perm_ext_iff_of_nodup hn nd).2 fun x => setS_mem.symm
  refine List.Perm.eq_of_pairwise (le := fun a b : Str => a ≤ b) (fun a b _ _ h1 h2 => List.le_antisymm h1 h2) ?_ ?_ (hp.trans hp2)
  · exact hs.imp fun h => of_decide_eq_true h
  · exact (setS_asc l).imp fun h => List.le_of_lt h
def opsL : List Str := setS (tabL.map Operator.text)
theorem opsL_c : PCall Tryz.prog 28 [] (.isl (opsL.map strL) .unk) := by
  have hlen : tabL.length = 42 := by kernel_rfl
  refine PCall.of_empty (fun _ h => by cases h) (MCall_of_W ok28 (by simp) (W_start ?_)) (pu_sl pu_strL _)
  unfold ac28
  simp -implicitDefEqProofs only [go_sem]
  refine mcall_pure tabL_c ?_
  simp -implicitDefEqProofs only [go_sem, List.length_map]
  refine ops_loop tabL (by omega) tabL.length 0 (by omega) _ _ (.isl [] .nil) [] ?_ ?_ ?_ ?_ RowN.nil _ ?_
  · simp -implicitDefEqProofs only [go_sem]
  · simp -implicitDefEqProofs only [go_sem]
  · simp -implicitDefEqProofs only [go_sem]
  · simp -implicitDefEqProofs only [go_sem]
  · intro σ' H' v' ids' s1 hr
    simp -implicitDefEqProofs only [go_sem, s1]
    refine MCall.mono (sort66 hr (by rw [List.length_map]; omega)) fun r2 H2 ⟨g1, g2, g3⟩ => ?_
    simp -implicitDefEqProofs only [go_sem, s1]
    have hn : ((tabL.map Operator.text).Nodup) := by decide +kernel
    have := g1.fz pu_strL
    rw [sort_set hn] at this
    exact this
end Go.VL
end
section
set_option maxRecDepth 8000
set_option maxHeartbeats 4000000
namespace Go.VL
open Go.Proofs
def l_TreeOperators_p0 (k : Nat) (text_0 : Str) (ok_6 : Bool) (l_7 : List Str) (t_28 : Bool) : Option Bool :=
  cond t_28 (some (true)) (Option.bind (b_Contains k l_7 text_0) fun p12 => some ((!(p12 == ok_6))))
def l_TreeOperators_p0l : List Nat := [29, 30, 31, 32, 33, 34]
theorem l_TreeOperators_p0_W (k : Nat) : ∀ (text_0 : Str) (ok_6 : Bool) (l_7 : List Str) (t_28 : Bool) (σ0 σ : Nat → PV) (H : AH) (f0 : Fr l_TreeOperators_p0l σ0 σ) (sl : σ 0 = (.str text_0) ∧ σ 6 = (.bool ok_6) ∧ σ 7 = (.isl (l_7.map strL) .unk) ∧ σ 28 = (.bool t_28)) (o : Bool) (h : l_TreeOperators_p0 k text_0 ok_6 l_7 t_28 = some o) (Q : Post) (q0 : ∀ (p : Bool) (σ' : Nat → PV), o = p → Fr l_TreeOperators_p0l σ0 σ' → (σ' 34 = (.bool p)) → Q .normal σ' H) , WOps Tryz.prog ac6_p0 (Q .normal) σ H := by
  intro text_0 ok_6 l_7 t_28 σ0 σ H f0 sl o h Q q0
  obtain ⟨s0, s6, s7, s28⟩ := sl
  unfold l_TreeOperators_p0 at h
  refine WO_start ?_
  unfold ac6_p0
  rcases cond_E h with ⟨e10, h⟩ | ⟨e10, h⟩
  ·obtain rfl := som_E h
   try refine gos_ ?_
   exact q0 _ _ rfl fr_ sls_
  ·obtain ⟨p12, e11, h⟩ := bind_E h
   try refine gos_ ?_
   refine mcall_pure (b_Contains_c e11) ?_
   obtain rfl := som_E h
   try refine gos_ ?_
   exact q0 _ _ rfl fr_ sls_
def l_TreeOperators (k : Nat) (text_0 : Str) : Option Bool :=
  cond (decide ((text_0.length : Int) > 100)) (some true) (Option.bind (t_OperatorOf k text_0) fun p3 => Option.bind (r_OperatorOf k text_0) fun p5 => Option.bind (r_Operators k ) fun p7 => Option.bind (b_EqualTexts k opsL p7) fun p9 => Option.bind (l_TreeOperators_p0 k text_0 p5.2 opsL (!p9)) (fun p15 => cond p15 (some false) (cond p5.2 (cond (p3.2 == 0) (cond (p3.1.text == p5.1.text) (cond (p3.1.fix == p5.1.fix) (cond (p3.1.low == p5.1.low) (cond (p3.1.high == p5.1.high) (cond (p3.1.left == p5.1.left) (cond (p3.1.least == p5.1.least) (cond (p3.1.most == p5.1.most) (some true) (some false)) (some false)) (some false)) (some false)) (some false)) (some false)) (some false)) (some false)) (cond (p3.2 == 10) (cond (p3.1.text == []) (cond (p3.1.fix == 0) (cond (p3.1.low == 0) (cond (p3.1.high == 0) (cond (p3.1.left == false) (cond (p3.1.least == 0) (cond (p3.1.most == 0) (some true) (some false)) (some false)) (some false)) (some false)) (some false)) (some false)) (some false)) (some false)))))
theorem l_TreeOperators_c {k : Nat} {text_0 : Str} {r : Bool} (h : l_TreeOperators k text_0 = some r) : PCall Tryz.prog 6 [(.str text_0)] (.bool r) := by
  refine PCall.of_empty (PuL.mem (.cons (.str _) .nil)) (MCall_of_W ok6 (by simp) (W_start ?_)) (.bool _)
  unfold l_TreeOperators at h
  unfold ac6
  try refine gos_ ?_
  refine mcall_pure (awake_c ) ?_
  rcases cond_E h with ⟨e1, h⟩ | ⟨e1, h⟩
  ·obtain rfl := som_E h
   try refine gos_ ?_
   exact (.pure _ (.bool _))
  ·obtain ⟨p3, e2, h⟩ := bind_E h
   try refine gos_ ?_
   refine mcall_pure (t_OperatorOf_c e2) ?_
   obtain ⟨p5, e4, h⟩ := bind_E h
   try refine gos_ ?_
   refine mcall_pure (r_OperatorOf_c e4) ?_
   try refine gos_ ?_
   refine mcall_pure (opsL_c ) ?_
   obtain ⟨p7, e6, h⟩ := bind_E h
   try refine gos_ ?_
   refine mcall_pure (r_Operators_c e6) ?_
   obtain ⟨p9, e8, h⟩ := bind_E h
   try refine gos_ ?_
   refine mcall_pure (b_EqualTexts_c e8) ?_
   try refine gos_ ?_
   obtain ⟨o13, h14, h⟩ := bind_E h
   refine l_TreeOperators_p0_W k text_0 p5.2 opsL (!p9) _ _ _ (Fr.refl _ _) sls_ _ h14 _ ?_
   ·rintro p15 σ' eo fr16 s19
    rw [eo] at h
    have s20 : σ' 3 = (.ref (AH.empty.next) 0) := (fr16 3 (by decide)).trans sls_
    have s21 : σ' 4 = (.int .i64 p3.2) := (fr16 4 (by decide)).trans sls_
    have s22 : σ' 5 = (.ref (AH.empty.next + 1) 0) := (fr16 5 (by decide)).trans sls_
    have s23 : σ' 6 = (.bool p5.2) := (fr16 6 (by decide)).trans sls_
    rcases cond_E h with ⟨e24, h⟩ | ⟨e24, h⟩
    ·obtain rfl := som_E h
     try refine gos_ ?_
     exact (.pure _ (.bool _))
    ·rcases cond_E h with ⟨e25, h⟩ | ⟨e25, h⟩
     ·rcases cond_E h with ⟨e26, h⟩ | ⟨e26, h⟩
      ·rcases cond_E h with ⟨e27, h⟩ | ⟨e27, h⟩
       ·rcases cond_E h with ⟨e28, h⟩ | ⟨e28, h⟩
        ·rcases cond_E h with ⟨e29, h⟩ | ⟨e29, h⟩
         ·rcases cond_E h with ⟨e30, h⟩ | ⟨e30, h⟩
          ·rcases cond_E h with ⟨e31, h⟩ | ⟨e31, h⟩
           ·rcases cond_E h with ⟨e32, h⟩ | ⟨e32, h⟩
            ·rcases cond_E h with ⟨e33, h⟩ | ⟨e33, h⟩
             ·obtain rfl := som_E h
              try refine gos_ ?_
              exact (.pure _ (.bool _))
             ·obtain rfl := som_E h
              try refine gos_ ?_
              exact (.pure _ (.bool _))
            ·obtain rfl := som_E h
             try refine gos_ ?_
             exact (.pure _ (.bool _))
           ·obtain rfl := som_E h
            try refine gos_ ?_
            exact (.pure _ (.bool _))
          ·obtain rfl := som_E h
           try refine gos_ ?_
           exact (.pure _ (.bool _))
         ·obtain rfl := som_E h
          try refine gos_ ?_
          exact (.pure _ (.bool _))
        ·obtain rfl := som_E h
         try refine gos_ ?_
         exact (.pure _ (.bool _))
       ·obtain rfl := som_E h
        try refine gos_ ?_
        exact (.pure _ (.bool _))
      ·obtain rfl := som_E h
       try refine gos_ ?_
       exact (.pure _ (.bool _))
     ·rcases cond_E h with ⟨e34, h⟩ | ⟨e34, h⟩
      ·rcases cond_E h with ⟨e35, h⟩ | ⟨e35, h⟩
       ·rcases cond_E h with ⟨e36, h⟩ | ⟨e36, h⟩
        ·rcases cond_E h with ⟨e37, h⟩ | ⟨e37, h⟩
         ·rcases cond_E h with ⟨e38, h⟩ | ⟨e38, h⟩
          ·rcases cond_E h with ⟨e39, h⟩ | ⟨e39, h⟩
           ·rcases cond_E h with ⟨e40, h⟩ | ⟨e40, h⟩
            ·rcases cond_E h with ⟨e41, h⟩ | ⟨e41, h⟩
             ·obtain rfl := som_E h
              try refine gos_ ?_
              exact (.pure _ (.bool _))
             ·obtain rfl := som_E h
              try refine gos_ ?_
              exact (.pure _ (.bool _))
            ·obtain rfl := som_E h
             try refine gos_ ?_
             exact (.pure _ (.bool _))
           ·obtain rfl := som_E h
            try refine gos_ ?_
            exact (.pure _ (.bool _))
          ·obtain rfl := som_E h
           try refine gos_ ?_
           exact (.pure _ (.bool _))
         ·obtain rfl := som_E h
          try refine gos_ ?_
          exact (.pure _ (.bool _))
        ·obtain rfl := som_E h
         try refine gos_ ?_
         exact (.pure _ (.bool _))
       ·obtain rfl := som_E h
        try refine gos_ ?_
        exact (.pure _ (.bool _))
      ·obtain rfl := som_E h
       try refine gos_ ?_
       exact (.pure _ (.bool _))
end Go.VL
end
section
namespace Go.VL
theorem b_Contains_len (l : List Str) (h : l.length ≤ 1000) (s : Str) : Ev (fun k => b_Contains k l s) (decide (s ∈ l)) := b_Contains_ev l s (by omega)
theorem ops_same : opsL = setS (tabR.map Operator.text) := by
  unfold opsL
  refine asc_uniq (setS_asc _) (setS_asc _) fun y => ?_
  rw [setS_mem, setS_mem]
  have h1 : ((tabL.map Operator.text).all fun t => decide (t ∈ tabR.map Operator.text)) = true := by kernel_rfl
  have h2 : ((tabR.map Operator.text).all fun t => decide (t ∈ tabL.map Operator.text)) = true := by kernel_rfl
  exact ⟨fun h => of_decide_eq_true (List.all_eq_true.1 h1 y h), fun h => of_decide_eq_true (List.all_eq_true.1 h2 y h)⟩
theorem opIn_mem (l : List Operator) (t : Str) : (opIn l t).2 = decide (t ∈ l.map Operator.text) := by
  induction l with
  | nil => rfl
  | cons o l ih =>
    rw [opIn]
    by_cases h : o.text = t
    · rw [if_pos h]; simp [h]
    · rw [if_neg h, ih]; simp [Ne.symm h]
theorem opsL_len : opsL.length ≤ 1000 := by
  have : opsL.length = 42 := by kernel_rfl
  omega
theorem t_OperatorOf_ev (t : Str) : Ev (fun k => t_OperatorOf k t) ((opIn tabR t).1, if (opIn tabR t).2 = true then 0 else 10) := by
  unfold t_OperatorOf
  refine Ev.bind (t_operatorOf_ev t) ?_
  simp only [t_wrong_eq, Option.bind_some]
  refine Ev.some' ?_
  cases (opIn tabR t).2 <;> rfl
theorem l_TreeOperators_ev (t : Str) : Ev (fun k => l_TreeOperators k t) true := by
  unfold l_TreeOperators
  by_cases hl : 100 < t.length
  · exact Ev.cT (decide_eq_true (by omega)) Ev.some
  refine Ev.cF (decide_eq_false (by omega)) (Ev.bind (t_OperatorOf_ev t) (Ev.bind (r_OperatorOf_ev t) (Ev.bind r_Operators_ev (Ev.bind (b_EqualTexts_ev opsL _ (by have := opsL_len; omega)) ?_))))
  rw [← ops_same, decide_eq_true (rfl : opsL = opsL)]
  have hc : decide (t ∈ opsL) = (opIn tabR t).2 := by
    rw [opIn_mem]
    congr 1
    rw [ops_same, setS_mem]
  refine Ev.bind (x := false) ?_ ?_
  · unfold l_TreeOperators_p0
    refine Ev.cF rfl (Ev.bind (b_Contains_len opsL opsL_len t) (Ev.some' ?_))
    rw [hc]
    cases (opIn tabR t).2 <;> rfl
  refine Ev.cF rfl ?_
  have hno : ∀ l : List Operator, (opIn l t).2 = false → (opIn l t).1 = opNone := by
    intro l
    induction l with
    | nil => intro _; rfl
    | cons o l ih =>
      intro h
      rw [opIn] at h ⊢
      by_cases e : o.text = t
      · rw [if_pos e] at h; cases h
      · rw [if_neg e] at h ⊢; exact ih h
  have hn := hno tabR
  generalize opIn tabR t = r at hn
  obtain ⟨o, b⟩ := r
  cases b with
  | true =>
    simp only [if_true, beq_self_eq_true, cond_true]
    exact Ev.some
  | false =>
    have ho : o = opNone := hn rfl
    subst ho
    exact Ev.some
end Go.VL
end
section
namespace Go.Proofs.YthebklihgmhgoaaGreatDoor
open Go.ChangeShapes Go.WideShapes Go.ChangeAt Go.RowKit Go.VL
set_option maxRecDepth 100000
theorem own : ownKnob Tryz.prog.godebug = none := by kernel_rfl
theorem laidOut : laidOutB Tryz.prog = true := by kernel_rfl
abbrev laidRows : List (String × DataW Unit) := [("math/bits.deBruijn32tab", Rows.laid_math_bits_deBruijn32tab), ("math/bits.deBruijn64tab", Rows.laid_math_bits_deBruijn64tab), ("internal/strconv.uint64pow10", Rows.laid_internal_strconv_uint64pow10), ("unicode.White_Space", Rows.laid_unicode_White_Space), ("strings.asciiSpace", Rows.laid_strings_asciiSpace)]
theorem laid_tail {P : Program} {x : String × DataW Unit} {l : List (String × DataW Unit)} {w : World} (h : laidMet P (x :: l) w) : laidMet P l w := by
  obtain ⟨ps, ⟨g, t, cs, fuel, p, q, h1, h2, h3, h4, h5, rfl⟩, hn, hr⟩ := h
  exact ⟨q, h5, (List.nodup_append.1 hn).2.1, fun b off hp => hr b off (List.mem_append_right _ hp)⟩
theorem tab_cells {W : World} {name : String} {k : IntKind} {zs : List Int} {d0 : DataW Unit} (hd : d0 = Lib.tabData k zs) {rest : List (String × DataW Unit)} {g : Nat} {t e : TypeId} {n : Nat} (hg : Tryz.prog.globalNamed name = some g) (hty : (Tryz.prog.globals[g]?).map (·.type) = some t)
    (ht : Tryz.prog.underlying t = some (.array n e)) (he : Tryz.prog.underlying e = some (.int k)) (hce : Tryz.prog.cellsOf e = 1) (hct : Tryz.prog.cellsOf t = n) (h : laidMet Tryz.prog ((name, d0) :: rest) W) (i : Nat) (x : Int) (hx : zs[i]? = some x) :
    W.cell? ⟨g, i, none⟩ = some (.int k x) := by
  subst hd
  have hi := (List.getElem?_eq_some_iff.1 hx).1
  have := (Lib.tabIs_of_head hg hty ht he hce hct h).cell hg i hi
  rw [this]
  simp [List.getD, hx]
theorem glob_of {W : World} (h : laidMetH Tryz.prog laidRows W) : ∀ a x, theGlob.gc a = some x → W.cell? a = some x := by
  have h : laidMet Tryz.prog laidRows W := h
  have h1 := laid_tail h
  have h2 := laid_tail h1
  have h4 := laid_tail (laid_tail h2)
  have e4 : (Rows.laid_math_bits_deBruijn32tab : DataW Unit) = Lib.tabData .u8 tab4 := by kernel_rfl
  have e5 : (Rows.laid_math_bits_deBruijn64tab : DataW Unit) = Lib.tabData .u8 tab5 := by kernel_rfl
  have e3 : (Rows.laid_internal_strconv_uint64pow10 : DataW Unit) = Lib.tabData .u64 tab3 := by kernel_rfl
  have e0 : (Rows.laid_strings_asciiSpace : DataW Unit) = Lib.tabData .u8 tab0 := by kernel_rfl
  have c4 : ∀ i x, tab4[i]? = some x → W.cell? ⟨4, i, none⟩ = some (.int .u8 x) := fun i x hx => tab_cells e4 (by kernel_rfl) (by kernel_rfl) Tryz.underlying255 Tryz.underlying5 (by kernel_rfl) (by kernel_rfl) h i x hx
  have c5 : ∀ i x, tab5[i]? = some x → W.cell? ⟨5, i, none⟩ = some (.int .u8 x) := fun i x hx => tab_cells e5 (by kernel_rfl) (by kernel_rfl) Tryz.underlying256 Tryz.underlying5 (by kernel_rfl) (by kernel_rfl) h1 i x hx
  have c3 : ∀ i x, tab3[i]? = some x → W.cell? ⟨3, i, none⟩ = some (.int .u64 x) := fun i x hx => tab_cells e3 (by kernel_rfl) (by kernel_rfl) Tryz.underlying250 Tryz.underlying183 (by kernel_rfl) (by kernel_rfl) h2 i x hx
  have c0 : ∀ i x, tab0[i]? = some x → W.cell? ⟨0, i, none⟩ = some (.int .u8 x) := fun i x hx => tab_cells e0 (by kernel_rfl) (by kernel_rfl) Tryz.underlying216 Tryz.underlying5 (by kernel_rfl) (by kernel_rfl) h4 i x hx
  intro a x e
  obtain ⟨b, o, sp⟩ := a
  cases sp with
  | some s => cases e
  | none =>
    have e : (match tabs.get b with | some (k, ns) => ns[o]?.map (Value.int k) | none => none) = some x := e
    have hb : tabs.get b = if b = 0 then some (.u8, tab0) else if b = 3 then some (.u64, tab3) else if b = 4 then some (.u8, tab4) else if b = 5 then some (.u8, tab5) else none := by
      simp only [tabs, Tabs.get, List.find?]
      by_cases h0 : b = 0
      · subst h0; rfl
      by_cases h3 : b = 3
      · subst h3; rfl
      by_cases h4 : b = 4
      · subst h4; rfl
      by_cases h5 : b = 5
      · subst h5; rfl
      simp [h0, h3, h4, h5, Ne.symm h0, Ne.symm h3, Ne.symm h4, Ne.symm h5, beq_eq_false_iff_ne.2 (Ne.symm h0), beq_eq_false_iff_ne.2 (Ne.symm h3), beq_eq_false_iff_ne.2 (Ne.symm h4), beq_eq_false_iff_ne.2 (Ne.symm h5)]
    rw [hb] at e
    by_cases h0 : b = 0
    · subst h0
      simp only [↓reduceIte, Option.map_eq_some_iff] at e
      obtain ⟨y, hy, rfl⟩ := e
      exact c0 o y hy
    by_cases h3 : b = 3
    · subst h3
      simp only [↓reduceIte, Option.map_eq_some_iff, Nat.reduceEqDiff] at e
      obtain ⟨y, hy, rfl⟩ := e
      exact c3 o y hy
    by_cases h4 : b = 4
    · subst h4
      simp only [↓reduceIte, Option.map_eq_some_iff, Nat.reduceEqDiff] at e
      obtain ⟨y, hy, rfl⟩ := e
      exact c4 o y hy
    by_cases h5 : b = 5
    · subst h5
      simp only [↓reduceIte, Option.map_eq_some_iff, Nat.reduceEqDiff] at e
      obtain ⟨y, hy, rfl⟩ := e
      exact c5 o y hy
    simp only [h0, h3, h4, h5, ↓reduceIte] at e
    cases e
noncomputable def laidWorld (os : Os) : World :=
  let N := (World.settled Tryz.prog os).heap.size
  let w0 := World.holding Tryz.prog os ⟨#[.cells (([9, 13, 1, 32, 133, 101, 160, 5760, 5600, 8192, 8202, 1, 8232, 8233, 1, 8239, 8287, 48, 12288, 12288, 1] : List Nat).map fun (z : Nat) => Value.int .u16 (z : Int)).toArray 244, .cells #[.slice (some ⟨N, 0, none⟩) 7 7, .slice none 0 0, .int .i64 2] 241], #[], []⟩
  let put (h : Array Obj) (g : Nat) (cs : Array Value) : Array Obj := h.modify g fun
    | .cells _ t frozen => .cells cs t frozen
    | o => o
  let h1 := put w0.heap 0 (tab0.map fun z => Value.int .u8 z).toArray
  let h2 := put h1 3 (tab3.map fun z => Value.int .u64 z).toArray
  let h3 := put h2 4 (tab4.map fun z => Value.int .u8 z).toArray
  let h4 := put h3 5 (tab5.map fun z => Value.int .u8 z).toArray
  let h5 := put h4 1 #[.pointer (some ⟨N + 1, 0, none⟩)]
  { w0 with heap := h5 }
theorem laid_met (os : Os) (args : Array Value) : laidMet Tryz.prog laidRows ((laidWorld os).forCall (fun _ _ => 0) ⟨#[], args, []⟩).memory :=
  laidMet_of_run' 10 (by kernel_rfl) (by kernel_rfl)
theorem decStr : Dec Tryz.prog 9 fun l => ∃ s, l = [.str s] ∧ s.length ≤ maxLen := Dec.string Tryz.underlying9
theorem decInt : Dec Tryz.prog 3 fun l => ∃ n, l = [.int .i64 n] ∧ IntKind.min .i64 ≤ n ∧ n ≤ IntKind.max .i64 := Dec.int Tryz.underlying3
theorem stays {H : Type} {enc : TypeId × Value → H} {t : TypeId} (hr : Tryz.prog.readableRec t = true) (hrow : t < Tryz.prog.types.size) {W W' : World} {v : Value} {d : DataW H} {ps : List MemPlace}
    (h : DataW.Trod enc Tryz.prog W 0 (fun _ => true) true t v d ps) (hb : Below W.heap.size W W') (hlt : ∀ x ∈ ps, x.block < W.heap.size) : DataW.Trod enc Tryz.prog W' 0 (fun b => decide (b < W.heap.size)) true t v d ps :=
  Below.trod laidOut hr hrow h hb hlt
end Go.Proofs.YthebklihgmhgoaaGreatDoor
end
section
namespace Go.Proofs.YthebklihgmhgoaaGreatDoor.treeOperators
open Go.ChangeShapes Go.WideShapes Go.ChangeAt Go.RowKit Go.VL
set_option maxRecDepth 100000
theorem contract (hlaw : ∀ (s0 : Str), s0.length ≤ maxLen → MCall Tryz.prog 6 [.str s0] AH.empty fun v _ => v = .bool true) (H : Type) (enc : TypeId × Value → H) (W : World) (base : Nat) (args : Array Value) (ds gs : List (DataW H)) (before : List MemPlace)
    (hval : ∀ (j : Nat) t v, Tryz.f6.params[j]? = some t → args[j]? = some v → Value.okWide Tryz.prog W .any base t v)
    (hW : DataW.Whole enc Tryz.prog Tryz.f6.params.toList Rows.treeOperatorsSpec.vars false W args.toList ds gs before) (hL : laidMetH Tryz.prog laidRows W) :
    Calls Tryz.prog 6 args W fun e W' => ∃ v, e = .returned v ∧ Rows.treeOperatorsSpec.post enc Tryz.prog Tryz.f6 false true false false W args v W' := by
  have hW' := hW
  obtain ⟨p, q, hA0, hV, rfl, hfz, hnd⟩ := hW
  have hA : DataW.TrodAll enc Tryz.prog W 0 (fun _ => true) true Tryz.f6.params.toList args.toList ds p := hA0
  rw [Tryz.params6] at hA hval
  obtain ⟨v0, vs0, d0, ds0, p0, q0, hargs0, rfl, rfl, h0, r0⟩ := trodAll_cons hA
  obtain ⟨rfl, rfl, rfl⟩ := trodAll_nil r0
  obtain rfl : args = #[v0] := by cases args; simp_all
  obtain ⟨rfl, rfl⟩ := trodVars_none hV
  obtain ⟨a0_0, rfl⟩ := okWide_string Tryz.underlying9 (hval 0 9 v0 rfl rfl)
  obtain ⟨x0, ⟨y0, rfl, w0⟩, hq0⟩ := decStr.arg h0 rfl
  clear hA0
  simp only [List.append_nil] at hW'
  have hlt0 : ∀ x ∈ p0, x.block < W.heap.size := fun x hx => hW'.lt x (by simp [hx])
  have hvs : VsL W [.str y0] [.string a0_0] := by
    refine ⟨rfl, fun j c x hc hx => ?_⟩
    match j, hc, hx with
    | 0, hc, hx => exact hq0.2 0 c x hc hx
  refine ((hlaw y0 w0).top (glob_of hL) hvs).mono fun e W' ⟨he, hb⟩ => ?_
  subst he
  refine ⟨_, rfl, [d0], [], p0, [], p0, [], hW', trodAll_cons_mk (shut_bool Tryz.underlying4 _) trodAll_mk0, ?_, rfl, hb.frame _, fun h => by cases h⟩
  have := trodAll_cons_mk (stays (by kernel_rfl) (of_decide_eq_true (by kernel_rfl)) h0 hb hlt0) (trodAll_mk0 (P := Tryz.prog) (enc := enc) (w := W'))
  have this' : DataW.TrodAll enc Tryz.prog W' 0 (fun b => decide (b < W.heap.size)) true [9] [.string a0_0] [d0] p0 := by simpa using this
  exact this'
theorem reads (os : Os) {H : Type} (enc : TypeId × Value → H) : ∃ places, DataW.whole enc Tryz.prog ((laidWorld os).forCall (fun _ _ => 0) ⟨#[], #[.string ⟨#[]⟩], []⟩).memory Tryz.f6.params.toList Rows.treeOperatorsSpec.vars false (#[.string ⟨#[]⟩] : Array Value).toList 8 = some ([.lit (.string [])], [], places) :=
  ⟨[], by kernel_rfl⟩
theorem lifted (hlaw : ∀ (s0 : Str), s0.length ≤ maxLen → MCall Tryz.prog 6 [.str s0] AH.empty fun v _ => v = .bool true) (os : Os) (started : os.Started) (H : Type) (enc : TypeId × Value → H) (F : Stop.Interp) :
    ReturnsInHanded {} Tryz.checked os 6 .any ((OpenSpec.ofChange Rows.treeOperatorsSpec).preRow enc Tryz.prog Tryz.f6 Rows.treeOperatorsRow.domain false Rows.treeOperatorsRow.laid) (((OpenSpec.ofChange Rows.treeOperatorsSpec).at F).post enc Tryz.prog Tryz.f6 false true false false) := by
  obtain ⟨places, hx⟩ := reads os enc
  refine returnsInHanded_of_row (C := Tryz.checked) (s := OpenSpec.ofChange Rows.treeOperatorsSpec) own started (by kernel_rfl) Tryz.func6
    (witness_row_atRef (enc := enc) (C := Tryz.checked) false (laidWorld os) #[.string ⟨#[]⟩] rfl (by kernel_rfl) (by kernel_rfl) (by kernel_rfl)
      (OpenSpec.preRow_of_cond 8 hx (by kernel_rfl) (fun k hk => by cases hk) (by kernel_rfl) (laid_met os _))) ?_
  intro W base args ds gs before hval hW _ _ _ hL _ _
  exact contract hlaw H enc W base args ds gs before hval hW hL
theorem said (hlaw : ∀ (s0 : Str), s0.length ≤ maxLen → MCall Tryz.prog 6 [.str s0] AH.empty fun v _ => v = .bool true) : Rows.TreeOperatorsSaid :=
  OpenClaim.holds_of_cond 6 Tryz.f6 rfl rfl rfl rfl rfl rfl rfl ⟨rfl, rfl, rfl, rfl, rfl⟩ rfl rfl rfl rfl rfl (by kernel_rfl) Tryz.func6 (by kernel_rfl)
    (of_decide_eq_true (by kernel_rfl)) (by unfold Func.isWrapper; first | (rw [if_pos (by decide +kernel)]; kernel_rfl) | (rw [if_neg (by decide +kernel)]; exact ⟨rfl, rfl⟩))
    (fun os started H enc _ F => by rw [OpenClaim.pre_eq_preRow]; exact lifted hlaw os started H enc F)
theorem plain (f : FuncId) (fn : Func) (hf : Tryz.pinned.checked.prog.funcNamed "stutter/stutterlaw02.TreeOperators" = some f) (hfn : Tryz.pinned.checked.prog.funcs[f]? = some fn) :
    false = Tryz.pinned.checked.prog.looks [] ∧ ∀ (j : Nat) t, fn.params[j]? = some t → Tryz.pinned.checked.prog.wantsStandIn t = false := by
  obtain rfl : f = 6 := Option.some.inj ((show Tryz.prog.funcNamed "stutter/stutterlaw02.TreeOperators" = some 6 by kernel_rfl).symm.trans hf) |>.symm
  obtain rfl : fn = Tryz.f6 := (Option.some.inj (Tryz.func6.symm.trans hfn)).symm
  refine ⟨by kernel_rfl, fun j t ht => ?_⟩
  rw [Tryz.params6] at ht
  have hm : t = 9 := by simpa using Array.mem_of_getElem? ht
  rcases hm with rfl
  · exact (show Tryz.prog.wantsStandIn 9 = false by kernel_rfl)
theorem card (hlaw : ∀ (s0 : Str), s0.length ≤ maxLen → MCall Tryz.prog 6 [.str s0] AH.empty fun v _ => v = .bool true) : Rows.TreeOperatorsCardSaid :=
  Claim7.holds_tied_plain_at .later [] _ _ _ _ (said hlaw) (fun _ h => by cases h) (by kernel_rfl) (fun _ h => by cases h) treeOperators_row_tie rfl ⟨rfl, rfl⟩ (by kernel_rfl) rfl plain (by kernel_rfl)
end Go.Proofs.YthebklihgmhgoaaGreatDoor.treeOperators
end
section
namespace Go.Proofs.YthebklihgmhgoaaGreatDoor.treeOperators
open Go.VL
theorem hlaw (s : Str) (_ : s.length ≤ maxLen) : MCall Tryz.prog 6 [.str s] AH.empty fun v _ => v = .bool true := by
  obtain ⟨k, hk⟩ := (l_TreeOperators_ev s).get
  exact MCall.mono (l_TreeOperators_c hk AH.empty) fun _ _ h => h.1
theorem proved : Rows.TreeOperatorsCardSaid := card hlaw
end Go.Proofs.YthebklihgmhgoaaGreatDoor.treeOperators
end
