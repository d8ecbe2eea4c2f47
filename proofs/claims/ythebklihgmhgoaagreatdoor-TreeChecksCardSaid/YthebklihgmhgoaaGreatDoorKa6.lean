/- Part 6 of the proof: what the theorem rests on. -/
import Derived.Test.YthebklihgmhgoaaGreatDoorKa5
import Derived.Lib.RowBridge
set_option linter.unusedVariables false
set_option linter.unusedSectionVars false
set_option linter.unusedSimpArgs false
section
set_option maxRecDepth 8000
set_option maxHeartbeats 4000000
namespace Go.VL
open Go.Proofs
def t_shapeOf_j0 (t_11 : Int) : Option Bool :=
  cond (t_11 == 1) (some ((t_11 == 1))) (some ((t_11 == 2)))
theorem t_shapeOf_j0_W : ∀ (t_11 : Int) (σ0 σ : Nat → PV) (H : AH) (f0 : Fr [15, 16, 17] σ0 σ) (sl : σ 11 = (.int .i64 t_11)) (o : Bool) (h : t_shapeOf_j0 t_11 = some o) (Q : Post) (q0 : ∀ (p : Bool) (σ' : Nat → PV), o = p → Fr [15, 16, 17] σ0 σ' → (σ' 15 = (.bool p)) → Q .normal σ' H) , W Tryz.prog ac90_j0 Q σ H := by
  intro t_11 σ0 σ H f0 sl o h Q q0
  have s11 := sl
  unfold t_shapeOf_j0 at h
  refine W_start ?_
  unfold ac90_j0
  rcases cond_E h with ⟨e2, h⟩ | ⟨e2, h⟩
  ·obtain rfl := som_E h
   simp -implicitDefEqProofs only [go_sem, s11, e2]
   exact q0 _ _ rfl (by repeat (first | exact f0 | refine Fr.upd (by decide) ?_)) (by simp -implicitDefEqProofs only [go_sem, e2])
  ·obtain rfl := som_E h
   simp -implicitDefEqProofs only [go_sem, s11, e2]
   exact q0 _ _ rfl (by repeat (first | exact f0 | refine Fr.upd (by decide) ?_)) (by simp -implicitDefEqProofs only [go_sem])
def t_shapeOf_j1 (t_11 : Int) : Option Bool :=
  cond (t_11 == 4) (some ((t_11 == 4))) (some ((t_11 == 5)))
theorem t_shapeOf_j1_W : ∀ (t_11 : Int) (σ0 σ : Nat → PV) (H : AH) (f0 : Fr [38, 39, 40] σ0 σ) (sl : σ 11 = (.int .i64 t_11)) (o : Bool) (h : t_shapeOf_j1 t_11 = some o) (Q : Post) (q0 : ∀ (p : Bool) (σ' : Nat → PV), o = p → Fr [38, 39, 40] σ0 σ' → (σ' 38 = (.bool p)) → Q .normal σ' H) , W Tryz.prog ac90_j1 Q σ H := by
  intro t_11 σ0 σ H f0 sl o h Q q0
  have s11 := sl
  unfold t_shapeOf_j1 at h
  refine W_start ?_
  unfold ac90_j1
  rcases cond_E h with ⟨e20, h⟩ | ⟨e20, h⟩
  ·obtain rfl := som_E h
   simp -implicitDefEqProofs only [go_sem, s11, e20]
   exact q0 _ _ rfl (by repeat (first | exact f0 | refine Fr.upd (by decide) ?_)) (by simp -implicitDefEqProofs only [go_sem, e20])
  ·obtain rfl := som_E h
   simp -implicitDefEqProofs only [go_sem, s11, e20]
   exact q0 _ _ rfl (by repeat (first | exact f0 | refine Fr.upd (by decide) ?_)) (by simp -implicitDefEqProofs only [go_sem])
def t_shapeOf_j2 (t_11 : Int) : Option Bool :=
  cond (t_11 == 6) (some ((t_11 == 6))) (some ((t_11 == 12)))
theorem t_shapeOf_j2_W : ∀ (t_11 : Int) (σ0 σ : Nat → PV) (H : AH) (f0 : Fr [43, 44, 45] σ0 σ) (sl : σ 11 = (.int .i64 t_11)) (o : Bool) (h : t_shapeOf_j2 t_11 = some o) (Q : Post) (q0 : ∀ (p : Bool) (σ' : Nat → PV), o = p → Fr [43, 44, 45] σ0 σ' → (σ' 43 = (.bool p)) → Q .normal σ' H) , W Tryz.prog ac90_j2 Q σ H := by
  intro t_11 σ0 σ H f0 sl o h Q q0
  have s11 := sl
  unfold t_shapeOf_j2 at h
  refine W_start ?_
  unfold ac90_j2
  rcases cond_E h with ⟨e33, h⟩ | ⟨e33, h⟩
  ·obtain rfl := som_E h
   simp -implicitDefEqProofs only [go_sem, s11, e33]
   exact q0 _ _ rfl (by repeat (first | exact f0 | refine Fr.upd (by decide) ?_)) (by simp -implicitDefEqProofs only [go_sem, e33])
  ·obtain rfl := som_E h
   simp -implicitDefEqProofs only [go_sem, s11, e33]
   exact q0 _ _ rfl (by repeat (first | exact f0 | refine Fr.upd (by decide) ?_)) (by simp -implicitDefEqProofs only [go_sem])
def t_shapeOf_j3 (t_11 : Int) : Option Bool :=
  cond (t_11 == 7) (some ((t_11 == 7))) (cond (t_11 == 8) (some ((t_11 == 8))) (cond (t_11 == 9) (some ((t_11 == 9))) (some ((t_11 == 13)))))
def t_shapeOf_j3l : List Nat := [48, 49, 50, 51, 52]
theorem t_shapeOf_j3_W : ∀ (t_11 : Int) (σ0 σ : Nat → PV) (H : AH) (f0 : Fr t_shapeOf_j3l σ0 σ) (sl : σ 11 = (.int .i64 t_11)) (o : Bool) (h : t_shapeOf_j3 t_11 = some o) (Q : Post) (q0 : ∀ (p : Bool) (σ' : Nat → PV), o = p → Fr t_shapeOf_j3l σ0 σ' → (σ' 48 = (.bool p)) → Q .normal σ' H) , W Tryz.prog ac90_j3 Q σ H := by
  intro t_11 σ0 σ H f0 sl o h Q q0
  have s11 := sl
  unfold t_shapeOf_j3 at h
  refine W_start ?_
  unfold ac90_j3
  rcases cond_E h with ⟨e48, h⟩ | ⟨e48, h⟩
  ·obtain rfl := som_E h
   simp -implicitDefEqProofs only [go_sem, s11, e48]
   exact q0 _ _ rfl (by repeat (first | exact f0 | refine Fr.upd (by decide) ?_)) (by simp -implicitDefEqProofs only [go_sem, e48])
  ·rcases cond_E h with ⟨e49, h⟩ | ⟨e49, h⟩
   ·obtain rfl := som_E h
    simp -implicitDefEqProofs only [go_sem, s11, e48, e49]
    exact q0 _ _ rfl (by repeat (first | exact f0 | refine Fr.upd (by decide) ?_)) (by simp -implicitDefEqProofs only [go_sem, e49])
   ·rcases cond_E h with ⟨e50, h⟩ | ⟨e50, h⟩
    ·obtain rfl := som_E h
     simp -implicitDefEqProofs only [go_sem, s11, e48, e49, e50]
     exact q0 _ _ rfl (by repeat (first | exact f0 | refine Fr.upd (by decide) ?_)) (by simp -implicitDefEqProofs only [go_sem, e50])
    ·obtain rfl := som_E h
     simp -implicitDefEqProofs only [go_sem, s11, e48, e49, e50]
     exact q0 _ _ rfl (by repeat (first | exact f0 | refine Fr.upd (by decide) ?_)) (by simp -implicitDefEqProofs only [go_sem])
def t_shapeOf_j4 (t_11 : Int) : Option Bool :=
  cond (t_11 == 10) (some ((t_11 == 10))) (some ((t_11 == 11)))
theorem t_shapeOf_j4_W : ∀ (t_11 : Int) (σ0 σ : Nat → PV) (H : AH) (f0 : Fr [60, 61, 62] σ0 σ) (sl : σ 11 = (.int .i64 t_11)) (o : Bool) (h : t_shapeOf_j4 t_11 = some o) (Q : Post) (q0 : ∀ (p : Bool) (σ' : Nat → PV), o = p → Fr [60, 61, 62] σ0 σ' → (σ' 60 = (.bool p)) → Q .normal σ' H) , W Tryz.prog ac90_j4 Q σ H := by
  intro t_11 σ0 σ H f0 sl o h Q q0
  have s11 := sl
  unfold t_shapeOf_j4 at h
  refine W_start ?_
  unfold ac90_j4
  rcases cond_E h with ⟨e63, h⟩ | ⟨e63, h⟩
  ·obtain rfl := som_E h
   simp -implicitDefEqProofs only [go_sem, s11, e63]
   exact q0 _ _ rfl (by repeat (first | exact f0 | refine Fr.upd (by decide) ?_)) (by simp -implicitDefEqProofs only [go_sem, e63])
  ·obtain rfl := som_E h
   simp -implicitDefEqProofs only [go_sem, s11, e63]
   exact q0 _ _ rfl (by repeat (first | exact f0 | refine Fr.upd (by decide) ?_)) (by simp -implicitDefEqProofs only [go_sem])
def t_shapeOf_j5 (t_11 : Int) : Option Bool :=
  cond (t_11 == 16) (some ((t_11 == 16))) (some ((t_11 == 17)))
theorem t_shapeOf_j5_W : ∀ (t_11 : Int) (σ0 σ : Nat → PV) (H : AH) (f0 : Fr [70, 71, 72] σ0 σ) (sl : σ 11 = (.int .i64 t_11)) (o : Bool) (h : t_shapeOf_j5 t_11 = some o) (Q : Post) (q0 : ∀ (p : Bool) (σ' : Nat → PV), o = p → Fr [70, 71, 72] σ0 σ' → (σ' 70 = (.bool p)) → Q .normal σ' H) , W Tryz.prog ac90_j5 Q σ H := by
  intro t_11 σ0 σ H f0 sl o h Q q0
  have s11 := sl
  unfold t_shapeOf_j5 at h
  refine W_start ?_
  unfold ac90_j5
  rcases cond_E h with ⟨e77, h⟩ | ⟨e77, h⟩
  ·obtain rfl := som_E h
   simp -implicitDefEqProofs only [go_sem, s11, e77]
   exact q0 _ _ rfl (by repeat (first | exact f0 | refine Fr.upd (by decide) ?_)) (by simp -implicitDefEqProofs only [go_sem, e77])
  ·obtain rfl := som_E h
   simp -implicitDefEqProofs only [go_sem, s11, e77]
   exact q0 _ _ rfl (by repeat (first | exact f0 | refine Fr.upd (by decide) ?_)) (by simp -implicitDefEqProofs only [go_sem])
def t_shapeOf_j6 (t_11 : Int) : Option Bool :=
  cond (t_11 == 19) (some ((t_11 == 19))) (some ((t_11 == 21)))
theorem t_shapeOf_j6_W : ∀ (t_11 : Int) (σ0 σ : Nat → PV) (H : AH) (f0 : Fr [82, 83, 84] σ0 σ) (sl : σ 11 = (.int .i64 t_11)) (o : Bool) (h : t_shapeOf_j6 t_11 = some o) (Q : Post) (q0 : ∀ (p : Bool) (σ' : Nat → PV), o = p → Fr [82, 83, 84] σ0 σ' → (σ' 82 = (.bool p)) → Q .normal σ' H) , W Tryz.prog ac90_j6 Q σ H := by
  intro t_11 σ0 σ H f0 sl o h Q q0
  have s11 := sl
  unfold t_shapeOf_j6 at h
  refine W_start ?_
  unfold ac90_j6
  rcases cond_E h with ⟨e91, h⟩ | ⟨e91, h⟩
  ·obtain rfl := som_E h
   simp -implicitDefEqProofs only [go_sem, s11, e91]
   exact q0 _ _ rfl (by repeat (first | exact f0 | refine Fr.upd (by decide) ?_)) (by simp -implicitDefEqProofs only [go_sem, e91])
  ·obtain rfl := som_E h
   simp -implicitDefEqProofs only [go_sem, s11, e91]
   exact q0 _ _ rfl (by repeat (first | exact f0 | refine Fr.upd (by decide) ?_)) (by simp -implicitDefEqProofs only [go_sem])
def t_shapeOf (k : Nat) (n_0 : Nd) : Option Shape :=
  cond (n_0.kind == 0) (some (Shape.mk (0, 0) (0, 0) false true)) (Option.bind (t_shapeOf_j0 n_0.kind) (fun p5 => cond p5 (some (Shape.mk (0, 0) (0, 0) true false)) (cond (n_0.kind == 3) (Option.bind (t_operatorOf k n_0.text) fun p18 => cond p18.2 (some (Shape.mk (0, 0) ((n_0.args.length : Int), (n_0.args.length : Int)) true false)) (some (Shape.mk (0, 0) (1, 4) true false))) (Option.bind (t_shapeOf_j1 n_0.kind) (fun p23 => cond p23 (some (Shape.mk (0, 0) (0, 30) false false)) (Option.bind (t_shapeOf_j2 n_0.kind) (fun p36 => cond p36 (Option.bind (t_shapeOf_1 1 2) fun p47 => some p47) (Option.bind (t_shapeOf_j3 n_0.kind) (fun p53 => cond p53 (some (Shape.mk (1, 4) ((IntKind.wrap .i64 ((n_0.names.length : Int) + 1)), (IntKind.wrap .i64 ((n_0.names.length : Int) + 1))) false false)) (Option.bind (t_shapeOf_j4 n_0.kind) (fun p66 => cond p66 (some (Shape.mk (1, 4) (1, 1) false false)) (cond (n_0.kind == 14) (some (Shape.mk (0, 0) (2, 5) false false)) (Option.bind (t_shapeOf_j5 n_0.kind) (fun p80 => cond p80 (some (Shape.mk (1, 30) ((n_0.names.length : Int), (n_0.names.length : Int)) false false)) (cond (n_0.kind == 18) (some (Shape.mk (0, 0) (1, 1) true false)) (Option.bind (t_shapeOf_j6 n_0.kind) (fun p94 => cond p94 (Option.bind (t_shapeOf_1 0 3) fun p104 => some p104) (cond (n_0.kind == 20) (some (Shape.mk (0, 0) (0, 0) false false)) (cond (n_0.kind == 22) (some (Shape.mk (0, 0) (2, 30) false false)) (cond (n_0.kind == 23) (some (Shape.mk (1, 5) (2, 2) false true)) (cond (n_0.kind == 24) (some (Shape.mk (1, 4) (1, 1) false false)) (Option.bind (t_shapeOf_1 0 2) fun p110 => some p110))))))))))))))))))))))
theorem t_shapeOf_u (k : Nat) (n_0 : Nd) {r : Shape} (h : t_shapeOf k n_0 = some r) : PCall Tryz.prog 90 [(.agg (Nd.cells n_0))] (.agg (Shape.cells r)) := by
  refine PCall.of_empty (PuL.mem (.cons (.agg _ (Nd.pu _)) .nil)) (MCall_of_W ok90 (by simp) (W_start ?_)) (.agg _ (Shape.pu _))
  unfold t_shapeOf at h
  unfold ac90
  rcases cond_E h with ⟨e1, h⟩ | ⟨e1, h⟩
  ·obtain rfl := som_E h
   simp -implicitDefEqProofs only [go_sem, WO_store, e1]
   exact (fz_agg (.cons (.pure _ (.int _ _)) (.cons (.pure _ (.int _ _)) (.cons (.pure _ (.int _ _)) (.cons (.pure _ (.int _ _)) (.cons (.pure _ (.bool _)) (.cons (.pure _ (.bool _)) .nil)))))))
  ·try simp -implicitDefEqProofs only [go_sem, e1]
   obtain ⟨o3, h4, h⟩ := bind_E h
   refine t_shapeOf_j0_W n_0.kind _ _ _ (Fr.refl _ _) (by simp -implicitDefEqProofs only [go_sem]) _ h4 _ ?_
   ·rintro p5 σ' eo fr6 s9
    rw [eo] at h
    have s10 : σ' 1 = (.ref (AH.empty.next) 0) := (fr6 1 (by decide)).trans (by simp -implicitDefEqProofs only [go_sem])
    have s11 : σ' 2 = (.ref (AH.empty.next + 1) 0) := (fr6 2 (by decide)).trans (by simp -implicitDefEqProofs only [go_sem])
    have s12 : σ' 3 = (.fn (.func 140) [] []) := (fr6 3 (by decide)).trans (by simp -implicitDefEqProofs only [go_sem])
    have s13 : σ' 4 = (.int .i64 (n_0.names.length : Int)) := (fr6 4 (by decide)).trans (by simp -implicitDefEqProofs only [go_sem])
    have s14 : σ' 11 = (.int .i64 n_0.kind) := (fr6 11 (by decide)).trans (by simp -implicitDefEqProofs only [go_sem])
    rcases cond_E h with ⟨e15, h⟩ | ⟨e15, h⟩
    ·obtain rfl := som_E h
     simp -implicitDefEqProofs only [go_sem, WO_store, s9, s11, e15]
     exact (fz_agg (.cons (.pure _ (.int _ _)) (.cons (.pure _ (.int _ _)) (.cons (.pure _ (.int _ _)) (.cons (.pure _ (.int _ _)) (.cons (.pure _ (.bool _)) (.cons (.pure _ (.bool _)) .nil)))))))
    ·rcases cond_E h with ⟨e16, h⟩ | ⟨e16, h⟩
     ·obtain ⟨p18, e17, h⟩ := bind_E h
      simp -implicitDefEqProofs only [go_sem, s9, s10, s14, e15, e16]
      refine mcall_pure (t_operatorOf_c k n_0.text e17) ?_
      rcases cond_E h with ⟨e19, h⟩ | ⟨e19, h⟩
      ·obtain rfl := som_E h
       simp -implicitDefEqProofs only [go_sem, WO_store, s10, s11, e19]
       exact (fz_agg (.cons (.pure _ (.int _ _)) (.cons (.pure _ (.int _ _)) (.cons (.pure _ (.int _ _)) (.cons (.pure _ (.int _ _)) (.cons (.pure _ (.bool _)) (.cons (.pure _ (.bool _)) .nil)))))))
      ·obtain rfl := som_E h
       simp -implicitDefEqProofs only [go_sem, WO_store, s11, e19]
       exact (fz_agg (.cons (.pure _ (.int _ _)) (.cons (.pure _ (.int _ _)) (.cons (.pure _ (.int _ _)) (.cons (.pure _ (.int _ _)) (.cons (.pure _ (.bool _)) (.cons (.pure _ (.bool _)) .nil)))))))
     ·try simp -implicitDefEqProofs only [go_sem, s9, s14, e15, e16]
      obtain ⟨o21, h22, h⟩ := bind_E h
      refine t_shapeOf_j1_W n_0.kind _ _ _ (Fr.refl _ _) (by simp -implicitDefEqProofs only [go_sem, s14]) _ h22 _ ?_
      ·rintro p23 σ' eo fr24 s27
       rw [eo] at h
       have s28 : σ' 2 = (.ref (AH.empty.next + 1) 0) := (fr24 2 (by decide)).trans (by simp -implicitDefEqProofs only [go_sem, s11])
       have s29 : σ' 3 = (.fn (.func 140) [] []) := (fr24 3 (by decide)).trans (by simp -implicitDefEqProofs only [go_sem, s12])
       have s30 : σ' 4 = (.int .i64 (n_0.names.length : Int)) := (fr24 4 (by decide)).trans (by simp -implicitDefEqProofs only [go_sem, s13])
       have s31 : σ' 11 = (.int .i64 n_0.kind) := (fr24 11 (by decide)).trans (by simp -implicitDefEqProofs only [go_sem, s14])
       rcases cond_E h with ⟨e32, h⟩ | ⟨e32, h⟩
       ·obtain rfl := som_E h
        simp -implicitDefEqProofs only [go_sem, WO_store, s27, s28, e32]
        exact (fz_agg (.cons (.pure _ (.int _ _)) (.cons (.pure _ (.int _ _)) (.cons (.pure _ (.int _ _)) (.cons (.pure _ (.int _ _)) (.cons (.pure _ (.bool _)) (.cons (.pure _ (.bool _)) .nil)))))))
       ·try simp -implicitDefEqProofs only [go_sem, s27, e32]
        obtain ⟨o34, h35, h⟩ := bind_E h
        refine t_shapeOf_j2_W n_0.kind _ _ _ (Fr.refl _ _) (by simp -implicitDefEqProofs only [go_sem, s31]) _ h35 _ ?_
        ·rintro p36 σ' eo fr37 s40
         rw [eo] at h
         have s41 : σ' 2 = (.ref (AH.empty.next + 1) 0) := (fr37 2 (by decide)).trans (by simp -implicitDefEqProofs only [go_sem, s28])
         have s42 : σ' 3 = (.fn (.func 140) [] []) := (fr37 3 (by decide)).trans (by simp -implicitDefEqProofs only [go_sem, s29])
         have s43 : σ' 4 = (.int .i64 (n_0.names.length : Int)) := (fr37 4 (by decide)).trans (by simp -implicitDefEqProofs only [go_sem, s30])
         have s44 : σ' 11 = (.int .i64 n_0.kind) := (fr37 11 (by decide)).trans (by simp -implicitDefEqProofs only [go_sem, s31])
         rcases cond_E h with ⟨e45, h⟩ | ⟨e45, h⟩
         ·obtain ⟨p47, e46, h⟩ := bind_E h
          simp -implicitDefEqProofs only [go_sem, s40, s42, e45]
          refine mcall_pure (t_shapeOf_1_c 1 2 e46) ?_
          obtain rfl := som_E h
          simp -implicitDefEqProofs only [go_sem, WO_store, s41]
          exact (fz_agg (.cons (.pure _ (.int _ _)) (.cons (.pure _ (.int _ _)) (.cons (.pure _ (.int _ _)) (.cons (.pure _ (.int _ _)) (.cons (.pure _ (.bool _)) (.cons (.pure _ (.bool _)) .nil)))))))
         ·try simp -implicitDefEqProofs only [go_sem, s40, e45]
          obtain ⟨o51, h52, h⟩ := bind_E h
          refine t_shapeOf_j3_W n_0.kind _ _ _ (Fr.refl _ _) (by simp -implicitDefEqProofs only [go_sem, s44]) _ h52 _ ?_
          ·rintro p53 σ' eo fr54 s57
           rw [eo] at h
           have s58 : σ' 2 = (.ref (AH.empty.next + 1) 0) := (fr54 2 (by decide)).trans (by simp -implicitDefEqProofs only [go_sem, s41])
           have s59 : σ' 3 = (.fn (.func 140) [] []) := (fr54 3 (by decide)).trans (by simp -implicitDefEqProofs only [go_sem, s42])
           have s60 : σ' 4 = (.int .i64 (n_0.names.length : Int)) := (fr54 4 (by decide)).trans (by simp -implicitDefEqProofs only [go_sem, s43])
           have s61 : σ' 11 = (.int .i64 n_0.kind) := (fr54 11 (by decide)).trans (by simp -implicitDefEqProofs only [go_sem, s44])
           rcases cond_E h with ⟨e62, h⟩ | ⟨e62, h⟩
           ·obtain rfl := som_E h
            simp -implicitDefEqProofs only [go_sem, WO_store, s57, s58, s60, e62]
            exact (fz_agg (.cons (.pure _ (.int _ _)) (.cons (.pure _ (.int _ _)) (.cons (.pure _ (.int _ _)) (.cons (.pure _ (.int _ _)) (.cons (.pure _ (.bool _)) (.cons (.pure _ (.bool _)) .nil)))))))
           ·try simp -implicitDefEqProofs only [go_sem, s57, e62]
            obtain ⟨o64, h65, h⟩ := bind_E h
            refine t_shapeOf_j4_W n_0.kind _ _ _ (Fr.refl _ _) (by simp -implicitDefEqProofs only [go_sem, s61]) _ h65 _ ?_
            ·rintro p66 σ' eo fr67 s70
             rw [eo] at h
             have s71 : σ' 2 = (.ref (AH.empty.next + 1) 0) := (fr67 2 (by decide)).trans (by simp -implicitDefEqProofs only [go_sem, s58])
             have s72 : σ' 3 = (.fn (.func 140) [] []) := (fr67 3 (by decide)).trans (by simp -implicitDefEqProofs only [go_sem, s59])
             have s73 : σ' 4 = (.int .i64 (n_0.names.length : Int)) := (fr67 4 (by decide)).trans (by simp -implicitDefEqProofs only [go_sem, s60])
             have s74 : σ' 11 = (.int .i64 n_0.kind) := (fr67 11 (by decide)).trans (by simp -implicitDefEqProofs only [go_sem, s61])
             rcases cond_E h with ⟨e75, h⟩ | ⟨e75, h⟩
             ·obtain rfl := som_E h
              simp -implicitDefEqProofs only [go_sem, WO_store, s70, s71, e75]
              exact (fz_agg (.cons (.pure _ (.int _ _)) (.cons (.pure _ (.int _ _)) (.cons (.pure _ (.int _ _)) (.cons (.pure _ (.int _ _)) (.cons (.pure _ (.bool _)) (.cons (.pure _ (.bool _)) .nil)))))))
             ·rcases cond_E h with ⟨e76, h⟩ | ⟨e76, h⟩
              ·obtain rfl := som_E h
               simp -implicitDefEqProofs only [go_sem, WO_store, s70, s71, s74, e75, e76]
               exact (fz_agg (.cons (.pure _ (.int _ _)) (.cons (.pure _ (.int _ _)) (.cons (.pure _ (.int _ _)) (.cons (.pure _ (.int _ _)) (.cons (.pure _ (.bool _)) (.cons (.pure _ (.bool _)) .nil)))))))
              ·try simp -implicitDefEqProofs only [go_sem, s70, s74, e75, e76]
               obtain ⟨o78, h79, h⟩ := bind_E h
               refine t_shapeOf_j5_W n_0.kind _ _ _ (Fr.refl _ _) (by simp -implicitDefEqProofs only [go_sem, s74]) _ h79 _ ?_
               ·rintro p80 σ' eo fr81 s84
                rw [eo] at h
                have s85 : σ' 2 = (.ref (AH.empty.next + 1) 0) := (fr81 2 (by decide)).trans (by simp -implicitDefEqProofs only [go_sem, s71])
                have s86 : σ' 3 = (.fn (.func 140) [] []) := (fr81 3 (by decide)).trans (by simp -implicitDefEqProofs only [go_sem, s72])
                have s87 : σ' 4 = (.int .i64 (n_0.names.length : Int)) := (fr81 4 (by decide)).trans (by simp -implicitDefEqProofs only [go_sem, s73])
                have s88 : σ' 11 = (.int .i64 n_0.kind) := (fr81 11 (by decide)).trans (by simp -implicitDefEqProofs only [go_sem, s74])
                rcases cond_E h with ⟨e89, h⟩ | ⟨e89, h⟩
                ·obtain rfl := som_E h
                 simp -implicitDefEqProofs only [go_sem, WO_store, s84, s85, s87, e89]
                 exact (fz_agg (.cons (.pure _ (.int _ _)) (.cons (.pure _ (.int _ _)) (.cons (.pure _ (.int _ _)) (.cons (.pure _ (.int _ _)) (.cons (.pure _ (.bool _)) (.cons (.pure _ (.bool _)) .nil)))))))
                ·rcases cond_E h with ⟨e90, h⟩ | ⟨e90, h⟩
                 ·obtain rfl := som_E h
                  simp -implicitDefEqProofs only [go_sem, WO_store, s84, s85, s88, e89, e90]
                  exact (fz_agg (.cons (.pure _ (.int _ _)) (.cons (.pure _ (.int _ _)) (.cons (.pure _ (.int _ _)) (.cons (.pure _ (.int _ _)) (.cons (.pure _ (.bool _)) (.cons (.pure _ (.bool _)) .nil)))))))
                 ·try simp -implicitDefEqProofs only [go_sem, s84, s88, e89, e90]
                  obtain ⟨o92, h93, h⟩ := bind_E h
                  refine t_shapeOf_j6_W n_0.kind _ _ _ (Fr.refl _ _) (by simp -implicitDefEqProofs only [go_sem, s88]) _ h93 _ ?_
                  ·rintro p94 σ' eo fr95 s98
                   rw [eo] at h
                   have s99 : σ' 2 = (.ref (AH.empty.next + 1) 0) := (fr95 2 (by decide)).trans (by simp -implicitDefEqProofs only [go_sem, s85])
                   have s100 : σ' 3 = (.fn (.func 140) [] []) := (fr95 3 (by decide)).trans (by simp -implicitDefEqProofs only [go_sem, s86])
                   have s101 : σ' 11 = (.int .i64 n_0.kind) := (fr95 11 (by decide)).trans (by simp -implicitDefEqProofs only [go_sem, s88])
                   rcases cond_E h with ⟨e102, h⟩ | ⟨e102, h⟩
                   ·obtain ⟨p104, e103, h⟩ := bind_E h
                    simp -implicitDefEqProofs only [go_sem, s98, s100, e102]
                    refine mcall_pure (t_shapeOf_1_c 0 3 e103) ?_
                    obtain rfl := som_E h
                    simp -implicitDefEqProofs only [go_sem, WO_store, s99]
                    exact (fz_agg (.cons (.pure _ (.int _ _)) (.cons (.pure _ (.int _ _)) (.cons (.pure _ (.int _ _)) (.cons (.pure _ (.int _ _)) (.cons (.pure _ (.bool _)) (.cons (.pure _ (.bool _)) .nil)))))))
                   ·rcases cond_E h with ⟨e105, h⟩ | ⟨e105, h⟩
                    ·obtain rfl := som_E h
                     simp -implicitDefEqProofs only [go_sem, WO_store, s98, s99, s101, e102, e105]
                     exact (fz_agg (.cons (.pure _ (.int _ _)) (.cons (.pure _ (.int _ _)) (.cons (.pure _ (.int _ _)) (.cons (.pure _ (.int _ _)) (.cons (.pure _ (.bool _)) (.cons (.pure _ (.bool _)) .nil)))))))
                    ·rcases cond_E h with ⟨e106, h⟩ | ⟨e106, h⟩
                     ·obtain rfl := som_E h
                      simp -implicitDefEqProofs only [go_sem, WO_store, s98, s99, s101, e102, e105, e106]
                      exact (fz_agg (.cons (.pure _ (.int _ _)) (.cons (.pure _ (.int _ _)) (.cons (.pure _ (.int _ _)) (.cons (.pure _ (.int _ _)) (.cons (.pure _ (.bool _)) (.cons (.pure _ (.bool _)) .nil)))))))
                     ·rcases cond_E h with ⟨e107, h⟩ | ⟨e107, h⟩
                      ·obtain rfl := som_E h
                       simp -implicitDefEqProofs only [go_sem, WO_store, s98, s99, s101, e102, e105, e106, e107]
                       exact (fz_agg (.cons (.pure _ (.int _ _)) (.cons (.pure _ (.int _ _)) (.cons (.pure _ (.int _ _)) (.cons (.pure _ (.int _ _)) (.cons (.pure _ (.bool _)) (.cons (.pure _ (.bool _)) .nil)))))))
                      ·rcases cond_E h with ⟨e108, h⟩ | ⟨e108, h⟩
                       ·obtain rfl := som_E h
                        simp -implicitDefEqProofs only [go_sem, WO_store, s98, s99, s101, e102, e105, e106, e107, e108]
                        exact (fz_agg (.cons (.pure _ (.int _ _)) (.cons (.pure _ (.int _ _)) (.cons (.pure _ (.int _ _)) (.cons (.pure _ (.int _ _)) (.cons (.pure _ (.bool _)) (.cons (.pure _ (.bool _)) .nil)))))))
                       ·obtain ⟨p110, e109, h⟩ := bind_E h
                        simp -implicitDefEqProofs only [go_sem, s98, s100, s101, e102, e105, e106, e107, e108]
                        refine mcall_pure (t_shapeOf_1_c 0 2 e109) ?_
                        obtain rfl := som_E h
                        simp -implicitDefEqProofs only [go_sem, WO_store, s99]
                        exact (fz_agg (.cons (.pure _ (.int _ _)) (.cons (.pure _ (.int _ _)) (.cons (.pure _ (.int _ _)) (.cons (.pure _ (.int _ _)) (.cons (.pure _ (.bool _)) (.cons (.pure _ (.bool _)) .nil)))))))
theorem t_shapeOf_c (k : Nat) (n_0 : Nd) {r : Shape} (h : t_shapeOf k n_0 = some r) : PCall Tryz.prog 90 [(.agg (Nd.cells n_0))] (.agg (Shape.cells r)) := t_shapeOf_u k n_0 h
def t_isLost_b0 : Nat → (List Nd) → (List Int) → (List Int) → Int → Option (Unit ⊕ Bool)
  | 0, _, _, _, _ => none
  | k + 1, e_0, up_2, place_3, at_11 =>
    if 0 ≤ at_11 then Option.bind (up_2[at_11.toNat]?) fun x16 => cond (x16 != (-1)) (if 0 ≤ x16 then Option.bind (e_0[x16.toNat]?) fun x20 => cond (x20.kind == 19) (Option.bind (place_3[at_11.toNat]?) fun x23 => cond (x23 == 2) (some (.inr (false))) (t_isLost_b0 k e_0 up_2 place_3 x16)) (t_isLost_b0 k e_0 up_2 place_3 x16) else none) (some (.inl ())) else none
def t_isLost_b0l : List Nat := [8, 11, 51, 52, 53, 54, 55, 56, 57, 58, 59, 60, 61, 62, 63, 64, 65, 66, 67, 68, 69, 70, 71, 72, 73, 74, 75]
theorem t_isLost_b0_W : ∀ (k : Nat) (e_0 : List Nd) (up_2 : List Int) (place_3 : List Int) (at_11 : Int) (σ0 σ : Nat → PV) (H : AH) (f0 : Fr t_isLost_b0l σ0 σ) (sl : σ 0 = (.isl (e_0.map Nd.cells) .unk) ∧ σ 2 = (.isl (up_2.map intL) .unk) ∧ σ 3 = (.isl (place_3.map intL) .unk) ∧ σ 11 = (.int .i64 at_11)) (o : Unit ⊕ Bool) (h : t_isLost_b0 k e_0 up_2 place_3 at_11 = some o) (Q : Post) (q0 : ∀ (p : Unit) (σ' : Nat → PV), o = .inl p → Fr t_isLost_b0l σ0 σ' → Q (.exit 1) σ' H) (q1 : ∀ (p : Bool) (σ' : Nat → PV), o = .inr (p) → Fr t_isLost_b0l σ0 σ' → (σ' 8 = (.bool p)) → Q .ret σ' H) , W Tryz.prog (.loop ac51_b0) Q σ H := by
  intro k
  induction k with
  | zero => intro e_0 up_2 place_3 at_11 σ0 σ H f0 sl o h Q q0 q1; simp only [t_isLost_b0, reduceCtorEq] at h
  | succ k ih =>
    intro e_0 up_2 place_3 at_11 σ0 σ H f0 sl o h Q q0 q1
    obtain ⟨s0, s2, s3, s11⟩ := sl
    unfold t_isLost_b0 at h
    refine W_loopK (fun K hK => W_start ?_)
    unfold ac51_b0
    obtain ⟨e15, h⟩ := if_E h
    obtain ⟨x16, e17, h⟩ := bind_E h
    rcases cond_E h with ⟨e18, h⟩ | ⟨e18, h⟩
    ·obtain ⟨e19, h⟩ := if_E h
     obtain ⟨x20, e21, h⟩ := bind_E h
     rcases cond_E h with ⟨e22, h⟩ | ⟨e22, h⟩
     ·obtain ⟨x23, e24, h⟩ := bind_E h
      rcases cond_E h with ⟨e25, h⟩ | ⟨e25, h⟩
      ·obtain rfl := som_E h
       simp -implicitDefEqProofs only [go_sem, s0, s2, s3, s11, e15, e17, e18, e19, e21, e22, e24, e25]
       exact q1 _ _ rfl (by repeat (first | exact f0 | refine Fr.upd (by decide) ?_)) (by simp -implicitDefEqProofs only [go_sem])
      ·try simp -implicitDefEqProofs only [go_sem, s0, s2, s3, s11, e15, e17, e18, e19, e21, e22, e24, e25]
       refine hK _ _ ?_
       exact ih e_0 up_2 place_3 x16 _ _ _ (by repeat (first | exact f0 | refine Fr.upd (by decide) ?_)) (by simp -implicitDefEqProofs only [go_sem, s0, s2, s3, and_self]) _ h _ q0 q1
     ·try simp -implicitDefEqProofs only [go_sem, s0, s2, s11, e15, e17, e18, e19, e21, e22]
      refine hK _ _ ?_
      exact ih e_0 up_2 place_3 x16 _ _ _ (by repeat (first | exact f0 | refine Fr.upd (by decide) ?_)) (by simp -implicitDefEqProofs only [go_sem, s0, s2, s3, and_self]) _ h _ q0 q1
    ·obtain rfl := som_E h
     simp -implicitDefEqProofs only [go_sem, s2, s11, e15, e17, e18]
     exact q0 _ _ rfl (by repeat (first | exact f0 | refine Fr.upd (by decide) ?_))
def t_isLost (k : Nat) (e_0 : List Nd) (i_1 : Int) (up_2 : List Int) (place_3 : List Int) : Option Bool :=
  if 0 ≤ i_1 then Option.bind (e_0[i_1.toNat]?) fun x2 => cond (x2.kind == 24) (Option.bind (up_2[i_1.toNat]?) fun x5 => cond (x5 == (-1)) (some true) (if 0 ≤ x5 then Option.bind (e_0[x5.toNat]?) fun x9 => cond (x9.kind != 3) (some true) (Option.bind (t_operatorOf k x9.text) fun p13 => some p13.2) else none)) (cond (x2.kind == 20) (Option.bind (t_isLost_b0 k e_0 up_2 place_3 i_1) (fun o => Sum.elim (fun p28 => some true) (fun p32 => some p32) o)) (some false)) else none
theorem t_isLost_u (k : Nat) (e_0 : List Nd) (i_1 : Int) (up_2 : List Int) (place_3 : List Int) {r : Bool} (h : t_isLost k e_0 i_1 up_2 place_3 = some r) : PCall Tryz.prog 51 [(.isl (e_0.map Nd.cells) .unk), (.int .i64 i_1), (.isl (up_2.map intL) .unk), (.isl (place_3.map intL) .unk)] (.bool r) := by
  refine PCall.of_empty (PuL.mem (.cons (pu_sl Nd.pu _) (.cons (.int _ _) (.cons (pu_sl pu_intL _) (.cons (pu_sl pu_intL _) .nil))))) (MCall_of_W ok51 (by simp) (W_start ?_)) (.bool _)
  unfold t_isLost at h
  unfold ac51
  obtain ⟨e1, h⟩ := if_E h
  obtain ⟨x2, e3, h⟩ := bind_E h
  rcases cond_E h with ⟨e4, h⟩ | ⟨e4, h⟩
  ·obtain ⟨x5, e6, h⟩ := bind_E h
   rcases cond_E h with ⟨e7, h⟩ | ⟨e7, h⟩
   ·obtain rfl := som_E h
    simp -implicitDefEqProofs only [go_sem, e1, e3, e4, e6, e7]
    exact (.pure _ (.bool _))
   ·obtain ⟨e8, h⟩ := if_E h
    obtain ⟨x9, e10, h⟩ := bind_E h
    rcases cond_E h with ⟨e11, h⟩ | ⟨e11, h⟩
    ·obtain rfl := som_E h
     simp -implicitDefEqProofs only [go_sem, e1, e3, e4, e6, e7, e8, e10, e11]
     exact (.pure _ (.bool _))
    ·obtain ⟨p13, e12, h⟩ := bind_E h
     simp -implicitDefEqProofs only [go_sem, e1, e3, e4, e6, e7, e8, e10, e11]
     refine mcall_pure (t_operatorOf_c k x9.text e12) ?_
     obtain rfl := som_E h
     simp -implicitDefEqProofs only [go_sem, WO_store]
     exact (.pure _ (.bool _))
  ·rcases cond_E h with ⟨e14, h⟩ | ⟨e14, h⟩
   ·try simp -implicitDefEqProofs only [go_sem, e1, e3, e4, e14]
    obtain ⟨o26, h27, h⟩ := bind_E h
    refine t_isLost_b0_W k e_0 up_2 place_3 i_1 _ _ _ (Fr.refl _ _) (by simp -implicitDefEqProofs only [go_sem, and_self]) _ h27 _ ?_ ?_
    ·rintro p28 σ' eo fr29
     subst eo
     rw [sum_L] at h
     obtain rfl := som_E h
     simp -implicitDefEqProofs only [go_sem]
     exact (.pure _ (.bool _))
    ·rintro p32 σ' eo fr33 s36
     subst eo
     rw [sum_R] at h
     obtain rfl := som_E h
     simp -implicitDefEqProofs only [go_sem, s36]
     exact (.pure _ (.bool _))
   ·obtain rfl := som_E h
    simp -implicitDefEqProofs only [go_sem, e1, e3, e4, e14]
    exact (.pure _ (.bool _))
theorem t_isLost_c (k : Nat) (e_0 : List Nd) (i_1 : Int) (up_2 : List Int) (place_3 : List Int) {c0 c2 c3 : Ck} {r : Bool} (h : t_isLost k e_0 i_1 up_2 place_3 = some r) : PCall Tryz.prog 51 [(.isl (e_0.map Nd.cells) c0), (.int .i64 i_1), (.isl (up_2.map intL) c2), (.isl (place_3.map intL) c3)] (.bool r) := (t_isLost_u k e_0 i_1 up_2 place_3 h).wk (.isl (.same (.isl (.isl .nil))))
def t_namesErr_1 (k : Nat) (s_0 : Str) : Option Bool :=
  Option.bind (t_isName k s_0) fun p2 => some (!p2)
theorem t_namesErr_1_u (k : Nat) (s_0 : Str) {r : Bool} (h : t_namesErr_1 k s_0 = some r) : PCall Tryz.prog 145 [(.str s_0)] (.bool r) := by
  refine PCall.of_empty (PuL.mem (.cons (.str _) .nil)) (MCall_of_W ok145 (by simp) (W_start ?_)) (.bool _)
  unfold t_namesErr_1 at h
  unfold ac145
  obtain ⟨p2, e1, h⟩ := bind_E h
  simp -implicitDefEqProofs only [go_sem]
  refine mcall_pure (t_isName_c k s_0 e1) ?_
  obtain rfl := som_E h
  simp -implicitDefEqProofs only [go_sem]
  exact (.pure _ (.bool _))
theorem t_namesErr_1_c (k : Nat) (s_0 : Str) {r : Bool} (h : t_namesErr_1 k s_0 = some r) : PCall Tryz.prog 145 [(.str s_0)] (.bool r) := t_namesErr_1_u k s_0 h
def g_IndexFunc_string_string_at145_b0 : Nat → (List Str) → Int → Int → Option (Unit ⊕ Int)
  | 0, _, _, _ => none
  | k + 1, s_0, t_7, t_8 =>
    cond (decide (t_8 < t_7)) (if 0 ≤ t_8 then Option.bind (s_0[t_8.toNat]?) fun x3 => Option.bind (t_namesErr_1 k x3) fun p6 => cond p6 (some (.inr (t_8))) (g_IndexFunc_string_string_at145_b0 k s_0 t_7 (IntKind.wrap .i64 (t_8 + 1))) else none) (some (.inl ()))
def g_IndexFunc_string_string_at145_b0l : List Nat := [4, 5, 8, 9, 10, 11, 12, 13, 14, 15, 16, 17, 18]
theorem g_IndexFunc_string_string_at145_b0_W : ∀ (k : Nat) (s_0 : List Str) (t_7 : Int) (t_8 : Int) (σ0 σ : Nat → PV) (H : AH) (f0 : Fr g_IndexFunc_string_string_at145_b0l σ0 σ) (sl : σ 0 = (.isl (s_0.map strL) .unk) ∧ σ 1 = (.fn (.func 145) [] []) ∧ σ 7 = (.int .i64 t_7) ∧ σ 8 = (.int .i64 t_8)) (o : Unit ⊕ Int) (h : g_IndexFunc_string_string_at145_b0 k s_0 t_7 t_8 = some o) (Q : Post) (q0 : ∀ (p : Unit) (σ' : Nat → PV), o = .inl p → Fr g_IndexFunc_string_string_at145_b0l σ0 σ' → Q (.exit 0) σ' H) (q1 : ∀ (p : Int) (σ' : Nat → PV), o = .inr (p) → Fr g_IndexFunc_string_string_at145_b0l σ0 σ' → (σ' 4 = (.int .i64 p)) → Q .ret σ' H) , W Tryz.prog (.loop ac186_b0) Q σ H := by
  intro k
  induction k with
  | zero => intro s_0 t_7 t_8 σ0 σ H f0 sl o h Q q0 q1; simp only [g_IndexFunc_string_string_at145_b0, reduceCtorEq] at h
  | succ k ih =>
    intro s_0 t_7 t_8 σ0 σ H f0 sl o h Q q0 q1
    obtain ⟨s0, s1, s7, s8⟩ := sl
    unfold g_IndexFunc_string_string_at145_b0 at h
    refine W_loopK (fun K hK => W_start ?_)
    unfold ac186_b0
    rcases cond_E h with ⟨e1, h⟩ | ⟨e1, h⟩
    ·obtain ⟨e2, h⟩ := if_E h
     obtain ⟨x3, e4, h⟩ := bind_E h
     obtain ⟨p6, e5, h⟩ := bind_E h
     simp -implicitDefEqProofs only [go_sem, s0, s1, s7, s8, e1, e2, e4]
     refine mcall_pure (t_namesErr_1_c k x3 e5) ?_
     rcases cond_E h with ⟨e7, h⟩ | ⟨e7, h⟩
     ·obtain rfl := som_E h
      simp -implicitDefEqProofs only [go_sem, e7]
      exact q1 _ _ rfl (by repeat (first | exact f0 | refine Fr.upd (by decide) ?_)) (by simp -implicitDefEqProofs only [go_sem])
     ·try simp -implicitDefEqProofs only [go_sem, s8, e7]
      refine hK _ _ ?_
      exact ih s_0 t_7 (IntKind.wrap .i64 (t_8 + 1)) _ _ _ (by repeat (first | exact f0 | refine Fr.upd (by decide) ?_)) (by simp -implicitDefEqProofs only [go_sem, s0, s1, s7, and_self]) _ h _ q0 q1
    ·obtain rfl := som_E h
     simp -implicitDefEqProofs only [go_sem, s7, s8, e1]
     exact q0 _ _ rfl (by repeat (first | exact f0 | refine Fr.upd (by decide) ?_))
def g_IndexFunc_string_string_at145 (k : Nat) (s_0 : List Str) : Option Int :=
  Option.bind (g_IndexFunc_string_string_at145_b0 k s_0 (s_0.length : Int) 0) (fun o => Sum.elim (fun p10 => some (-1)) (fun p14 => some p14) o)
theorem g_IndexFunc_string_string_at145_u (k : Nat) (s_0 : List Str) {r : Int} (h : g_IndexFunc_string_string_at145 k s_0 = some r) : PCall Tryz.prog 186 [(.isl (s_0.map strL) .unk), (.fn (.func 145) [] [])] (.int .i64 r) := by
  refine PCall.of_empty (PuL.mem (.cons (pu_sl pu_strL _) (.cons (.fn _ _ _ (PuL.mem .nil) (PuL.mem .nil)) .nil))) (MCall_of_W ok186 (by simp) (W_start ?_)) (.int _ _)
  unfold g_IndexFunc_string_string_at145 at h
  unfold ac186
  simp -implicitDefEqProofs only [go_sem]
  obtain ⟨o8, h9, h⟩ := bind_E h
  refine g_IndexFunc_string_string_at145_b0_W k s_0 (s_0.length : Int) 0 _ _ _ (Fr.refl _ _) (by simp -implicitDefEqProofs only [go_sem, and_self]) _ h9 _ ?_ ?_
  ·rintro p10 σ' eo fr11
   subst eo
   rw [sum_L] at h
   obtain rfl := som_E h
   simp -implicitDefEqProofs only [go_sem]
   exact (.pure _ (.int _ _))
  ·rintro p14 σ' eo fr15 s18
   subst eo
   rw [sum_R] at h
   obtain rfl := som_E h
   simp -implicitDefEqProofs only [go_sem, s18]
   exact (.pure _ (.int _ _))
theorem g_IndexFunc_string_string_at145_c (k : Nat) (s_0 : List Str) {c0 : Ck} {r : Int} (h : g_IndexFunc_string_string_at145 k s_0 = some r) : PCall Tryz.prog 186 [(.isl (s_0.map strL) c0), (.fn (.func 145) [] [])] (.int .i64 r) := (g_IndexFunc_string_string_at145_u k s_0 h).wk (.isl (.same .nil))
def g_ContainsFunc_string_string_at145 (k : Nat) (s_0 : List Str) : Option Bool :=
  Option.bind (g_IndexFunc_string_string_at145 k s_0) fun p2 => some (decide (p2 ≥ 0))
theorem g_ContainsFunc_string_string_at145_u (k : Nat) (s_0 : List Str) {r : Bool} (h : g_ContainsFunc_string_string_at145 k s_0 = some r) : PCall Tryz.prog 144 [(.isl (s_0.map strL) .unk), (.fn (.func 145) [] [])] (.bool r) := by
  refine PCall.of_empty (PuL.mem (.cons (pu_sl pu_strL _) (.cons (.fn _ _ _ (PuL.mem .nil) (PuL.mem .nil)) .nil))) (MCall_of_W ok144 (by simp) (W_start ?_)) (.bool _)
  unfold g_ContainsFunc_string_string_at145 at h
  unfold ac144
  obtain ⟨p2, e1, h⟩ := bind_E h
  simp -implicitDefEqProofs only [go_sem]
  refine mcall_pure (g_IndexFunc_string_string_at145_c k s_0 e1) ?_
  obtain rfl := som_E h
  simp -implicitDefEqProofs only [go_sem]
  exact (.pure _ (.bool _))
theorem g_ContainsFunc_string_string_at145_c (k : Nat) (s_0 : List Str) {c0 : Ck} {r : Bool} (h : g_ContainsFunc_string_string_at145 k s_0 = some r) : PCall Tryz.prog 144 [(.isl (s_0.map strL) c0), (.fn (.func 145) [] [])] (.bool r) := (g_ContainsFunc_string_string_at145_u k s_0 h).wk (.isl (.same .nil))
def t_namesErr_p0 (k : Nat) (n_1_0 : Int) (n_1_1 : Int) (n_1_2 : Str) (n_1_3 : List Str) (n_1_4 : List Int) (t_24 : Bool) : Option Bool :=
  cond t_24 (some (true)) (Option.bind (t_isFixed n_1_2) fun p8 => cond p8 (some (false)) (Option.bind (t_isCalled k n_1_2) fun p11 => some ((!p11))))
def t_namesErr_p0l : List Nat := [25, 26, 27, 28, 29, 30, 31, 32, 33, 34, 35]
theorem t_namesErr_p0_W (k : Nat) : ∀ (o_n_1 : Nat) (n_1_0 : Int) (n_1_1 : Int) (n_1_2 : Str) (n_1_3 : List Str) (n_1_4 : List Int) (t_24 : Bool) (σ0 σ : Nat → PV) (H : AH) (f0 : Fr t_namesErr_p0l σ0 σ) (sl : σ 1 = (.ref (o_n_1) 0) ∧ σ 24 = (.bool t_24) ∧ H.obj o_n_1 = some [(.int .i64 n_1_0), (.int .i64 n_1_1), (.str n_1_2), (.isl (n_1_3.map strL) .unk), (.isl (n_1_4.map intL) .unk)]) (l_o_n_1 : o_n_1 < H.next) (o : Bool) (h : t_namesErr_p0 k n_1_0 n_1_1 n_1_2 n_1_3 n_1_4 t_24 = some o) (Q : Post) (q0 : ∀ (p : Bool) (σ' : Nat → PV), o = p → Fr t_namesErr_p0l σ0 σ' → (σ' 35 = (.bool p)) → Q .normal σ' H) , WOps Tryz.prog ac93_p0 (Q .normal) σ H := by
  intro o_n_1 n_1_0 n_1_1 n_1_2 n_1_3 n_1_4 t_24 σ0 σ H f0 sl l_o_n_1 o h Q q0
  obtain ⟨s1, s24, g_o_n_1⟩ := sl
  have n_o_n_1 := ne_next l_o_n_1
  have m_o_n_1 := ne_add l_o_n_1
  unfold t_namesErr_p0 at h
  refine WO_start ?_
  unfold ac93_p0
  rcases cond_E h with ⟨e6, h⟩ | ⟨e6, h⟩
  ·obtain rfl := som_E h
   simp -implicitDefEqProofs only [go_sem, s24, e6]
   exact q0 _ _ rfl (by repeat (first | exact f0 | refine Fr.upd (by decide) ?_)) (by simp -implicitDefEqProofs only [go_sem])
  ·obtain ⟨p8, e7, h⟩ := bind_E h
   simp -implicitDefEqProofs only [go_sem, s1, s24, g_o_n_1, e6]
   refine mcall_pure (t_isFixed_c n_1_2 e7) ?_
   rcases cond_E h with ⟨e9, h⟩ | ⟨e9, h⟩
   ·obtain rfl := som_E h
    simp -implicitDefEqProofs only [go_sem, s24, e6, e9]
    exact q0 _ _ rfl (by repeat (first | exact f0 | refine Fr.upd (by decide) ?_)) (by simp -implicitDefEqProofs only [go_sem])
   ·obtain ⟨p11, e10, h⟩ := bind_E h
    simp -implicitDefEqProofs only [go_sem, s1, s24, g_o_n_1, e6, e9]
    refine mcall_pure (t_isCalled_c k n_1_2 e10) ?_
    obtain rfl := som_E h
    simp -implicitDefEqProofs only [go_sem, s24, e6]
    exact q0 _ _ rfl (by repeat (first | exact f0 | refine Fr.upd (by decide) ?_)) (by simp -implicitDefEqProofs only [go_sem])
def t_namesErr_p1 (k : Nat) (n_1_0 : Int) (n_1_1 : Int) (n_1_2 : Str) (n_1_3 : List Str) (n_1_4 : List Int) (operator_5 : Bool) (t_39 : Bool) : Option Bool :=
  cond t_39 (some (true)) (cond operator_5 (some (false)) (Option.bind (t_isCalled k n_1_2) fun p25 => some ((!p25))))
def t_namesErr_p1l : List Nat := [40, 41, 42, 43, 44, 45, 46, 47, 48]
theorem t_namesErr_p1_W (k : Nat) : ∀ (o_n_1 : Nat) (n_1_0 : Int) (n_1_1 : Int) (n_1_2 : Str) (n_1_3 : List Str) (n_1_4 : List Int) (operator_5 : Bool) (t_39 : Bool) (σ0 σ : Nat → PV) (H : AH) (f0 : Fr t_namesErr_p1l σ0 σ) (sl : σ 1 = (.ref (o_n_1) 0) ∧ σ 5 = (.bool operator_5) ∧ σ 39 = (.bool t_39) ∧ H.obj o_n_1 = some [(.int .i64 n_1_0), (.int .i64 n_1_1), (.str n_1_2), (.isl (n_1_3.map strL) .unk), (.isl (n_1_4.map intL) .unk)]) (l_o_n_1 : o_n_1 < H.next) (o : Bool) (h : t_namesErr_p1 k n_1_0 n_1_1 n_1_2 n_1_3 n_1_4 operator_5 t_39 = some o) (Q : Post) (q0 : ∀ (p : Bool) (σ' : Nat → PV), o = p → Fr t_namesErr_p1l σ0 σ' → (σ' 48 = (.bool p)) → Q .normal σ' H) , WOps Tryz.prog ac93_p1 (Q .normal) σ H := by
  intro o_n_1 n_1_0 n_1_1 n_1_2 n_1_3 n_1_4 operator_5 t_39 σ0 σ H f0 sl l_o_n_1 o h Q q0
  obtain ⟨s1, s5, s39, g_o_n_1⟩ := sl
  have n_o_n_1 := ne_next l_o_n_1
  have m_o_n_1 := ne_add l_o_n_1
  unfold t_namesErr_p1 at h
  refine WO_start ?_
  unfold ac93_p1
  rcases cond_E h with ⟨e22, h⟩ | ⟨e22, h⟩
  ·obtain rfl := som_E h
   simp -implicitDefEqProofs only [go_sem, s39, e22]
   exact q0 _ _ rfl (by repeat (first | exact f0 | refine Fr.upd (by decide) ?_)) (by simp -implicitDefEqProofs only [go_sem])
  ·rcases cond_E h with ⟨e23, h⟩ | ⟨e23, h⟩
   ·obtain rfl := som_E h
    simp -implicitDefEqProofs only [go_sem, s5, s39, e22, e23]
    exact q0 _ _ rfl (by repeat (first | exact f0 | refine Fr.upd (by decide) ?_)) (by simp -implicitDefEqProofs only [go_sem])
   ·obtain ⟨p25, e24, h⟩ := bind_E h
    simp -implicitDefEqProofs only [go_sem, s1, s5, s39, g_o_n_1, e22, e23]
    refine mcall_pure (t_isCalled_c k n_1_2 e24) ?_
    obtain rfl := som_E h
    simp -implicitDefEqProofs only [go_sem, s39, e22]
    exact q0 _ _ rfl (by repeat (first | exact f0 | refine Fr.upd (by decide) ?_)) (by simp -implicitDefEqProofs only [go_sem])
def t_namesErr_p2 (n_1_0 : Int) (n_1_1 : Int) (n_1_2 : Str) (n_1_3 : List Str) (n_1_4 : List Int) (o_4_0 : Str) (o_4_1 : Int) (o_4_2 : Int) (o_4_3 : Int) (o_4_4 : Bool) (o_4_5 : Int) (o_4_6 : Int) (t_50 : Bool) : Option Bool :=
  cond t_50 (Option.bind (t_spans (n_1_4.length : Int) o_4_5 o_4_6) fun p38 => some ((!p38))) (some (false))
def t_namesErr_p2l : List Nat := [51, 52, 53, 54, 55, 56, 57, 58, 59, 60]
theorem t_namesErr_p2_W : ∀ (o_n_1 : Nat) (o_o_4 : Nat) (n_1_0 : Int) (n_1_1 : Int) (n_1_2 : Str) (n_1_3 : List Str) (n_1_4 : List Int) (o_4_0 : Str) (o_4_1 : Int) (o_4_2 : Int) (o_4_3 : Int) (o_4_4 : Bool) (o_4_5 : Int) (o_4_6 : Int) (t_50 : Bool) (σ0 σ : Nat → PV) (H : AH) (f0 : Fr t_namesErr_p2l σ0 σ) (sl : σ 1 = (.ref (o_n_1) 0) ∧ σ 4 = (.ref (o_o_4) 0) ∧ σ 50 = (.bool t_50) ∧ H.obj o_n_1 = some [(.int .i64 n_1_0), (.int .i64 n_1_1), (.str n_1_2), (.isl (n_1_3.map strL) .unk), (.isl (n_1_4.map intL) .unk)] ∧ H.obj o_o_4 = some [(.str o_4_0), (.int .i64 o_4_1), (.int .i64 o_4_2), (.int .i64 o_4_3), (.bool o_4_4), (.int .i64 o_4_5), (.int .i64 o_4_6)]) (l_o_n_1 : o_n_1 < H.next) (l_o_o_4 : o_o_4 < H.next) (d_o_n_1_o_o_4 : o_n_1 ≠ o_o_4) (o : Bool) (h : t_namesErr_p2 n_1_0 n_1_1 n_1_2 n_1_3 n_1_4 o_4_0 o_4_1 o_4_2 o_4_3 o_4_4 o_4_5 o_4_6 t_50 = some o) (Q : Post) (q0 : ∀ (p : Bool) (σ' : Nat → PV), o = p → Fr t_namesErr_p2l σ0 σ' → (σ' 60 = (.bool p)) → Q .normal σ' H) , WOps Tryz.prog ac93_p2 (Q .normal) σ H := by
  intro o_n_1 o_o_4 n_1_0 n_1_1 n_1_2 n_1_3 n_1_4 o_4_0 o_4_1 o_4_2 o_4_3 o_4_4 o_4_5 o_4_6 t_50 σ0 σ H f0 sl l_o_n_1 l_o_o_4 d_o_n_1_o_o_4 o h Q q0
  obtain ⟨s1, s4, s50, g_o_n_1, g_o_o_4⟩ := sl
  have n_o_n_1 := ne_next l_o_n_1
  have m_o_n_1 := ne_add l_o_n_1
  have n_o_o_4 := ne_next l_o_o_4
  have m_o_o_4 := ne_add l_o_o_4
  have e_o_n_1_o_o_4 := eq_false d_o_n_1_o_o_4
  have r_o_n_1_o_o_4 := eq_false (Ne.symm d_o_n_1_o_o_4)
  unfold t_namesErr_p2 at h
  refine WO_start ?_
  unfold ac93_p2
  rcases cond_E h with ⟨e36, h⟩ | ⟨e36, h⟩
  ·obtain ⟨p38, e37, h⟩ := bind_E h
   simp -implicitDefEqProofs only [go_sem, s1, s4, s50, g_o_n_1, g_o_o_4, e36]
   refine mcall_pure (t_spans_c (n_1_4.length : Int) o_4_5 o_4_6 e37) ?_
   obtain rfl := som_E h
   simp -implicitDefEqProofs only [go_sem, s50, e36]
   exact q0 _ _ rfl (by repeat (first | exact f0 | refine Fr.upd (by decide) ?_)) (by simp -implicitDefEqProofs only [go_sem])
  ·obtain rfl := som_E h
   simp -implicitDefEqProofs only [go_sem, s50, e36]
   exact q0 _ _ rfl (by repeat (first | exact f0 | refine Fr.upd (by decide) ?_)) (by simp -implicitDefEqProofs only [go_sem])
def t_namesErr_p3 (k : Nat) (n_1_0 : Int) (n_1_1 : Int) (n_1_2 : Str) (n_1_3 : List Str) (n_1_4 : List Int) (t_64 : Bool) : Option Bool :=
  cond t_64 (some (true)) (Option.bind (t_isName k n_1_2) fun p51 => some ((!p51)))
def t_namesErr_p3l : List Nat := [65, 66, 67, 68, 69]
theorem t_namesErr_p3_W (k : Nat) : ∀ (o_n_1 : Nat) (n_1_0 : Int) (n_1_1 : Int) (n_1_2 : Str) (n_1_3 : List Str) (n_1_4 : List Int) (t_64 : Bool) (σ0 σ : Nat → PV) (H : AH) (f0 : Fr t_namesErr_p3l σ0 σ) (sl : σ 1 = (.ref (o_n_1) 0) ∧ σ 64 = (.bool t_64) ∧ H.obj o_n_1 = some [(.int .i64 n_1_0), (.int .i64 n_1_1), (.str n_1_2), (.isl (n_1_3.map strL) .unk), (.isl (n_1_4.map intL) .unk)]) (l_o_n_1 : o_n_1 < H.next) (o : Bool) (h : t_namesErr_p3 k n_1_0 n_1_1 n_1_2 n_1_3 n_1_4 t_64 = some o) (Q : Post) (q0 : ∀ (p : Bool) (σ' : Nat → PV), o = p → Fr t_namesErr_p3l σ0 σ' → (σ' 69 = (.bool p)) → Q .normal σ' H) , WOps Tryz.prog ac93_p3 (Q .normal) σ H := by
  intro o_n_1 n_1_0 n_1_1 n_1_2 n_1_3 n_1_4 t_64 σ0 σ H f0 sl l_o_n_1 o h Q q0
  obtain ⟨s1, s64, g_o_n_1⟩ := sl
  have n_o_n_1 := ne_next l_o_n_1
  have m_o_n_1 := ne_add l_o_n_1
  unfold t_namesErr_p3 at h
  refine WO_start ?_
  unfold ac93_p3
  rcases cond_E h with ⟨e49, h⟩ | ⟨e49, h⟩
  ·obtain rfl := som_E h
   simp -implicitDefEqProofs only [go_sem, s64, e49]
   exact q0 _ _ rfl (by repeat (first | exact f0 | refine Fr.upd (by decide) ?_)) (by simp -implicitDefEqProofs only [go_sem])
  ·obtain ⟨p51, e50, h⟩ := bind_E h
   simp -implicitDefEqProofs only [go_sem, s1, s64, g_o_n_1, e49]
   refine mcall_pure (t_isName_c k n_1_2 e50) ?_
   obtain rfl := som_E h
   simp -implicitDefEqProofs only [go_sem, s64, e49]
   exact q0 _ _ rfl (by repeat (first | exact f0 | refine Fr.upd (by decide) ?_)) (by simp -implicitDefEqProofs only [go_sem])
def t_namesErr_j4 (k : Nat) (n_1_0 : Int) (n_1_1 : Int) (n_1_2 : Str) (n_1_3 : List Str) (n_1_4 : List Int) (bad_3 : Bool) (o_4_0 : Str) (o_4_1 : Int) (o_4_2 : Int) (o_4_3 : Int) (o_4_4 : Bool) (o_4_5 : Int) (o_4_6 : Int) (operator_5 : Bool) : Option ((Bool × Bool)) :=
  cond (n_1_0 == 2) (Option.bind (t_namesErr_p0 k n_1_0 n_1_1 n_1_2 n_1_3 n_1_4 bad_3) (fun p14 => some ((p14, false)))) (cond (n_1_0 == 3) (Option.bind (t_namesErr_p1 k n_1_0 n_1_1 n_1_2 n_1_3 n_1_4 operator_5 bad_3) (fun p28 => Option.bind (t_namesErr_p2 n_1_0 n_1_1 n_1_2 n_1_3 n_1_4 o_4_0 o_4_1 o_4_2 o_4_3 o_4_4 o_4_5 o_4_6 operator_5) (fun p41 => some ((p28, p41))))) (cond (n_1_0 == 18) (Option.bind (t_namesErr_p3 k n_1_0 n_1_1 n_1_2 n_1_3 n_1_4 bad_3) (fun p54 => some ((p54, false)))) (some ((bad_3, false)))))
def t_namesErr_j4l : List Nat := [3, 6, 19, 20, 21, 22, 23, 24, 25, 26, 27, 28, 29, 30, 31, 32, 33, 34, 35, 36, 37, 38, 39, 40, 41, 42, 43, 44, 45, 46, 47, 48, 49, 50, 51, 52, 53, 54, 55, 56, 57, 58, 59, 60, 61, 62, 63, 64, 65, 66, 67, 68, 69]
theorem t_namesErr_j4_W (k : Nat) : ∀ (o_n_1 : Nat) (o_o_4 : Nat) (n_1_0 : Int) (n_1_1 : Int) (n_1_2 : Str) (n_1_3 : List Str) (n_1_4 : List Int) (bad_3 : Bool) (o_4_0 : Str) (o_4_1 : Int) (o_4_2 : Int) (o_4_3 : Int) (o_4_4 : Bool) (o_4_5 : Int) (o_4_6 : Int) (operator_5 : Bool) (σ0 σ : Nat → PV) (H : AH) (f0 : Fr t_namesErr_j4l σ0 σ) (sl : σ 1 = (.ref (o_n_1) 0) ∧ σ 3 = (.bool bad_3) ∧ σ 4 = (.ref (o_o_4) 0) ∧ σ 5 = (.bool operator_5) ∧ σ 6 = (.bool false) ∧ H.obj o_n_1 = some [(.int .i64 n_1_0), (.int .i64 n_1_1), (.str n_1_2), (.isl (n_1_3.map strL) .unk), (.isl (n_1_4.map intL) .unk)] ∧ H.obj o_o_4 = some [(.str o_4_0), (.int .i64 o_4_1), (.int .i64 o_4_2), (.int .i64 o_4_3), (.bool o_4_4), (.int .i64 o_4_5), (.int .i64 o_4_6)]) (l_o_n_1 : o_n_1 < H.next) (l_o_o_4 : o_o_4 < H.next) (d_o_n_1_o_o_4 : o_n_1 ≠ o_o_4) (o : (Bool × Bool)) (h : t_namesErr_j4 k n_1_0 n_1_1 n_1_2 n_1_3 n_1_4 bad_3 o_4_0 o_4_1 o_4_2 o_4_3 o_4_4 o_4_5 o_4_6 operator_5 = some o) (Q : Post) (q0 : ∀ (p : Bool × Bool) (σ' : Nat → PV), o = p → Fr t_namesErr_j4l σ0 σ' → (σ' 3 = (.bool p.1) ∧ σ' 6 = (.bool p.2)) → Q .normal σ' H) , W Tryz.prog ac93_j4 Q σ H := by
  intro o_n_1 o_o_4 n_1_0 n_1_1 n_1_2 n_1_3 n_1_4 bad_3 o_4_0 o_4_1 o_4_2 o_4_3 o_4_4 o_4_5 o_4_6 operator_5 σ0 σ H f0 sl l_o_n_1 l_o_o_4 d_o_n_1_o_o_4 o h Q q0
  obtain ⟨s1, s3, s4, s5, s6, g_o_n_1, g_o_o_4⟩ := sl
  have n_o_n_1 := ne_next l_o_n_1
  have m_o_n_1 := ne_add l_o_n_1
  have n_o_o_4 := ne_next l_o_o_4
  have m_o_o_4 := ne_add l_o_o_4
  have e_o_n_1_o_o_4 := eq_false d_o_n_1_o_o_4
  have r_o_n_1_o_o_4 := eq_false (Ne.symm d_o_n_1_o_o_4)
  unfold t_namesErr_j4 at h
  refine W_start ?_
  unfold ac93_j4
  rcases cond_E h with ⟨e5, h⟩ | ⟨e5, h⟩
  ·try simp -implicitDefEqProofs only [go_sem, s1, s3, g_o_n_1, e5]
   obtain ⟨o12, h13, h⟩ := bind_E h
   refine t_namesErr_p0_W k (o_n_1) n_1_0 n_1_1 n_1_2 n_1_3 n_1_4 bad_3 _ _ _ (Fr.refl _ _) (by simp -implicitDefEqProofs only [go_sem, s1, g_o_n_1, and_self]) (by first | omega | (simp only [AH.new_next, AH.put_next, AH.tok_next, AH.use_next]; omega)) _ h13 _ ?_
   ·rintro p14 σ' eo fr15 s18
    rw [eo] at h
    have s19 : σ' 1 = (.ref (o_n_1) 0) := (fr15 1 (by decide)).trans (by simp -implicitDefEqProofs only [go_sem, s1])
    have s20 : σ' 6 = (.bool false) := (fr15 6 (by decide)).trans (by simp -implicitDefEqProofs only [go_sem, s6])
    obtain rfl := som_E h
    simp -implicitDefEqProofs only [go_sem, s18]
    exact q0 _ _ rfl (by repeat (first | exact f0 | refine Fr.upd (by decide) ?_ | refine Fr.via fr15 (by decide) ?_)) (by simp -implicitDefEqProofs only [go_sem, s20, and_self])
  ·rcases cond_E h with ⟨e21, h⟩ | ⟨e21, h⟩
   ·try simp -implicitDefEqProofs only [go_sem, s1, s3, g_o_n_1, e5, e21]
    obtain ⟨o26, h27, h⟩ := bind_E h
    refine t_namesErr_p1_W k (o_n_1) n_1_0 n_1_1 n_1_2 n_1_3 n_1_4 operator_5 bad_3 _ _ _ (Fr.refl _ _) (by simp -implicitDefEqProofs only [go_sem, s1, s5, g_o_n_1, and_self]) (by first | omega | (simp only [AH.new_next, AH.put_next, AH.tok_next, AH.use_next]; omega)) _ h27 _ ?_
    ·rintro p28 σ' eo fr29 s32
     rw [eo] at h
     have s33 : σ' 1 = (.ref (o_n_1) 0) := (fr29 1 (by decide)).trans (by simp -implicitDefEqProofs only [go_sem, s1])
     have s34 : σ' 4 = (.ref (o_o_4) 0) := (fr29 4 (by decide)).trans (by simp -implicitDefEqProofs only [go_sem, s4])
     have s35 : σ' 5 = (.bool operator_5) := (fr29 5 (by decide)).trans (by simp -implicitDefEqProofs only [go_sem, s5])
     simp -implicitDefEqProofs only [go_sem, s32, s35]
     obtain ⟨o39, h40, h⟩ := bind_E h
     refine t_namesErr_p2_W (o_n_1) (o_o_4) n_1_0 n_1_1 n_1_2 n_1_3 n_1_4 o_4_0 o_4_1 o_4_2 o_4_3 o_4_4 o_4_5 o_4_6 operator_5 _ _ _ (Fr.refl _ _) (by simp -implicitDefEqProofs only [go_sem, g_o_n_1, g_o_o_4, s33, s34, and_self]) (by first | omega | (simp only [AH.new_next, AH.put_next, AH.tok_next, AH.use_next]; omega)) (by first | omega | (simp only [AH.new_next, AH.put_next, AH.tok_next, AH.use_next]; omega)) (by first | omega | (simp only [AH.new_next, AH.put_next, AH.tok_next, AH.use_next]; omega)) _ h40 _ ?_
     ·rintro p41 σ' eo fr42 s45
      rw [eo] at h
      have s46 : σ' 1 = (.ref (o_n_1) 0) := (fr42 1 (by decide)).trans (by simp -implicitDefEqProofs only [go_sem, s33])
      have s47 : σ' 3 = (.bool p28) := (fr42 3 (by decide)).trans (by simp -implicitDefEqProofs only [go_sem])
      obtain rfl := som_E h
      simp -implicitDefEqProofs only [go_sem, s45]
      exact q0 _ _ rfl (by repeat (first | exact f0 | refine Fr.upd (by decide) ?_ | refine Fr.via fr29 (by decide) ?_ | refine Fr.via fr42 (by decide) ?_)) (by simp -implicitDefEqProofs only [go_sem, s47, and_self])
   ·rcases cond_E h with ⟨e48, h⟩ | ⟨e48, h⟩
    ·try simp -implicitDefEqProofs only [go_sem, s1, s3, g_o_n_1, e5, e21, e48]
     obtain ⟨o52, h53, h⟩ := bind_E h
     refine t_namesErr_p3_W k (o_n_1) n_1_0 n_1_1 n_1_2 n_1_3 n_1_4 bad_3 _ _ _ (Fr.refl _ _) (by simp -implicitDefEqProofs only [go_sem, s1, g_o_n_1, and_self]) (by first | omega | (simp only [AH.new_next, AH.put_next, AH.tok_next, AH.use_next]; omega)) _ h53 _ ?_
     ·rintro p54 σ' eo fr55 s58
      rw [eo] at h
      have s59 : σ' 1 = (.ref (o_n_1) 0) := (fr55 1 (by decide)).trans (by simp -implicitDefEqProofs only [go_sem, s1])
      have s60 : σ' 6 = (.bool false) := (fr55 6 (by decide)).trans (by simp -implicitDefEqProofs only [go_sem, s6])
      obtain rfl := som_E h
      simp -implicitDefEqProofs only [go_sem, s58]
      exact q0 _ _ rfl (by repeat (first | exact f0 | refine Fr.upd (by decide) ?_ | refine Fr.via fr55 (by decide) ?_)) (by simp -implicitDefEqProofs only [go_sem, s60, and_self])
    ·obtain rfl := som_E h
     simp -implicitDefEqProofs only [go_sem, s1, g_o_n_1, e5, e21, e48]
     exact q0 _ _ rfl (by repeat (first | exact f0 | refine Fr.upd (by decide) ?_)) (by simp -implicitDefEqProofs only [go_sem, s3, s6, and_self])
def t_namesErr_b0 : Nat → Int → Int → Str → (List Str) → (List Int) → Bool → (List Str) → Int → Int → Option Bool
  | 0, _, _, _, _, _, _, _, _, _ => none
  | k + 1, n_1_0, n_1_1, n_1_2, n_1_3, n_1_4, again_7, t_71, t_72, t_73 =>
    cond (decide (t_73 < t_72)) (if 0 ≤ t_73 then Option.bind (t_71[t_73.toNat]?) fun x72 => cond again_7 (t_namesErr_b0 k n_1_0 n_1_1 n_1_2 n_1_3 n_1_4 true t_71 t_72 (IntKind.wrap .i64 (t_73 + 1))) (if 0 ≤ t_73 ∧ t_73.toNat ≤ n_1_3.length then Option.bind (g_Contains_string_string k (n_1_3.take t_73.toNat) x72) fun p77 => t_namesErr_b0 k n_1_0 n_1_1 n_1_2 n_1_3 n_1_4 p77 t_71 t_72 (IntKind.wrap .i64 (t_73 + 1)) else none) else none) (some (again_7))
def t_namesErr_b0l : List Nat := [7, 8, 9, 73, 74, 75, 76, 77, 78, 79, 80, 81, 82, 83, 84, 85, 86, 87]
theorem t_namesErr_b0_W : ∀ (k : Nat) (o_n_1 : Nat) (n_1_0 : Int) (n_1_1 : Int) (n_1_2 : Str) (n_1_3 : List Str) (n_1_4 : List Int) (again_7 : Bool) (t_71 : List Str) (t_72 : Int) (t_73 : Int) (σ0 σ : Nat → PV) (H : AH) (f0 : Fr t_namesErr_b0l σ0 σ) (sl : σ 1 = (.ref (o_n_1) 0) ∧ σ 7 = (.bool again_7) ∧ σ 71 = (.isl (t_71.map strL) .unk) ∧ σ 72 = (.int .i64 t_72) ∧ σ 73 = (.int .i64 t_73) ∧ H.obj o_n_1 = some [(.int .i64 n_1_0), (.int .i64 n_1_1), (.str n_1_2), (.isl (n_1_3.map strL) .unk), (.isl (n_1_4.map intL) .unk)]) (l_o_n_1 : o_n_1 < H.next) (o : Bool) (h : t_namesErr_b0 k n_1_0 n_1_1 n_1_2 n_1_3 n_1_4 again_7 t_71 t_72 t_73 = some o) (Q : Post) (q0 : ∀ (p : Bool) (σ' : Nat → PV), o = p → Fr t_namesErr_b0l σ0 σ' → (σ' 7 = (.bool p)) → Q (.exit 1) σ' H) , W Tryz.prog (.loop ac93_b0) Q σ H := by
  intro k
  induction k with
  | zero => intro o_n_1 n_1_0 n_1_1 n_1_2 n_1_3 n_1_4 again_7 t_71 t_72 t_73 σ0 σ H f0 sl l_o_n_1 o h Q q0; simp only [t_namesErr_b0, reduceCtorEq] at h
  | succ k ih =>
    intro o_n_1 n_1_0 n_1_1 n_1_2 n_1_3 n_1_4 again_7 t_71 t_72 t_73 σ0 σ H f0 sl l_o_n_1 o h Q q0
    obtain ⟨s1, s7, s71, s72, s73, g_o_n_1⟩ := sl
    have n_o_n_1 := ne_next l_o_n_1
    have m_o_n_1 := ne_add l_o_n_1
    unfold t_namesErr_b0 at h
    refine W_loopK (fun K hK => W_start ?_)
    unfold ac93_b0
    rcases cond_E h with ⟨e70, h⟩ | ⟨e70, h⟩
    ·obtain ⟨e71, h⟩ := if_E h
     obtain ⟨x72, e73, h⟩ := bind_E h
     rcases cond_E h with ⟨e74, h⟩ | ⟨e74, h⟩
     ·try simp -implicitDefEqProofs only [go_sem, s7, s71, s72, s73, e70, e71, e73, e74]
      refine hK _ _ ?_
      exact ih o_n_1 n_1_0 n_1_1 n_1_2 n_1_3 n_1_4 true t_71 t_72 (IntKind.wrap .i64 (t_73 + 1)) _ _ _ (by repeat (first | exact f0 | refine Fr.upd (by decide) ?_)) (by simp -implicitDefEqProofs only [go_sem, s1, s71, s72, g_o_n_1, and_self]) (by first | omega | (simp only [AH.new_next, AH.put_next, AH.tok_next, AH.use_next]; omega)) _ h _ q0
     ·obtain ⟨e75, h⟩ := if_E h
      obtain ⟨p77, e76, h⟩ := bind_E h
      simp -implicitDefEqProofs only [go_sem, s1, s7, s71, s72, s73, g_o_n_1, e70, e71, e73, e74, e75]
      refine mcall_pure (g_Contains_string_string_c k (n_1_3.take t_73.toNat) x72 e76) ?_
      simp -implicitDefEqProofs only [go_sem, s73]
      refine hK _ _ ?_
      exact ih o_n_1 n_1_0 n_1_1 n_1_2 n_1_3 n_1_4 p77 t_71 t_72 (IntKind.wrap .i64 (t_73 + 1)) _ _ _ (by repeat (first | exact f0 | refine Fr.upd (by decide) ?_)) (by simp -implicitDefEqProofs only [go_sem, s1, s71, s72, g_o_n_1, and_self]) (by first | omega | (simp only [AH.new_next, AH.put_next, AH.tok_next, AH.use_next]; omega)) _ h _ q0
    ·obtain rfl := som_E h
     simp -implicitDefEqProofs only [go_sem, s72, s73, e70]
     exact q0 _ _ rfl (by repeat (first | exact f0 | refine Fr.upd (by decide) ?_)) (by simp -implicitDefEqProofs only [go_sem, s7])
def t_namesErr (k : Nat) (n_0 : Nd) : Option Int :=
  Option.bind (g_ContainsFunc_string_string_at145 k n_0.names) fun p2 => Option.bind (t_operatorOf k n_0.text) fun p4 => Option.bind (t_namesErr_j4 k n_0.kind n_0.n n_0.text n_0.names n_0.args p2 p4.1.text p4.1.fix p4.1.low p4.1.high p4.1.left p4.1.least p4.1.most p4.2) (fun p63 => Option.bind (t_namesErr_b0 k n_0.kind n_0.n n_0.text n_0.names n_0.args false n_0.names (n_0.names.length : Int) 0) (fun p80 => Option.bind (t_wrong p63.1 7) fun p88 => Option.bind (t_wrong p63.2 17) fun p90 => Option.bind (t_wrong p80 12) fun p92 => Option.bind (g_Or_api_Errno k [p88, p90, p92]) fun p94 => some p94))
theorem t_namesErr_u (k : Nat) (n_0 : Nd) {r : Int} (h : t_namesErr k n_0 = some r) : PCall Tryz.prog 93 [(.agg (Nd.cells n_0))] (.int .i64 r) := by
  refine PCall.of_empty (PuL.mem (.cons (.agg _ (Nd.pu _)) .nil)) (MCall_of_W ok93 (by simp) (W_start ?_)) (.int _ _)
  unfold t_namesErr at h
  unfold ac93
  obtain ⟨p2, e1, h⟩ := bind_E h
  simp -implicitDefEqProofs only [go_sem]
  refine mcall_pure (g_ContainsFunc_string_string_at145_c k n_0.names e1) ?_
  obtain ⟨p4, e3, h⟩ := bind_E h
  simp -implicitDefEqProofs only [go_sem]
  refine mcall_pure (t_operatorOf_c k n_0.text e3) ?_
  simp -implicitDefEqProofs only [go_sem, WO_store]
  obtain ⟨o61, h62, h⟩ := bind_E h
  refine t_namesErr_j4_W k (AH.empty.next) (AH.empty.next + 1) n_0.kind n_0.n n_0.text n_0.names n_0.args p2 p4.1.text p4.1.fix p4.1.low p4.1.high p4.1.left p4.1.least p4.1.most p4.2 _ _ _ (Fr.refl _ _) (by simp -implicitDefEqProofs only [go_sem, and_self]) (by first | omega | (simp only [AH.new_next, AH.put_next]; omega)) (by first | omega | (simp only [AH.new_next, AH.put_next]; omega)) (by first | omega | (simp only [AH.new_next, AH.put_next, AH.tok_next, AH.use_next]; omega)) _ h62 _ ?_
  ·rintro p63 σ' eo fr64 ⟨s67, s68⟩
   rw [eo] at h
   have s69 : σ' 1 = (.ref (AH.empty.next) 0) := (fr64 1 (by decide)).trans (by simp -implicitDefEqProofs only [go_sem])
   simp -implicitDefEqProofs only [go_sem, s69]
   obtain ⟨o78, h79, h⟩ := bind_E h
   refine t_namesErr_b0_W k (AH.empty.next) n_0.kind n_0.n n_0.text n_0.names n_0.args false n_0.names (n_0.names.length : Int) 0 _ _ _ (Fr.refl _ _) (by simp -implicitDefEqProofs only [go_sem, s69, and_self]) (by first | omega | (simp only [AH.new_next, AH.put_next]; omega)) _ h79 _ ?_
   ·rintro p80 σ' eo fr81 s84
    rw [eo] at h
    have s85 : σ' 3 = (.bool p63.1) := (fr81 3 (by decide)).trans (by simp -implicitDefEqProofs only [go_sem, s67])
    have s86 : σ' 6 = (.bool p63.2) := (fr81 6 (by decide)).trans (by simp -implicitDefEqProofs only [go_sem, s68])
    obtain ⟨p88, e87, h⟩ := bind_E h
    simp -implicitDefEqProofs only [go_sem, s85]
    refine mcall_pure (t_wrong_c p63.1 7 e87) ?_
    obtain ⟨p90, e89, h⟩ := bind_E h
    simp -implicitDefEqProofs only [go_sem, s86]
    refine mcall_pure (t_wrong_c p63.2 17 e89) ?_
    obtain ⟨p92, e91, h⟩ := bind_E h
    simp -implicitDefEqProofs only [go_sem, s84]
    refine mcall_pure (t_wrong_c p80 12 e91) ?_
    obtain ⟨p94, e93, h⟩ := bind_E h
    simp -implicitDefEqProofs only [go_sem]
    refine mcall_pure (g_Or_api_Errno_c k [p88, p90, p92] e93) ?_
    obtain rfl := som_E h
    simp -implicitDefEqProofs only [go_sem]
    exact (.pure _ (.int _ _))
theorem t_namesErr_c (k : Nat) (n_0 : Nd) {r : Int} (h : t_namesErr k n_0 = some r) : PCall Tryz.prog 93 [(.agg (Nd.cells n_0))] (.int .i64 r) := t_namesErr_u k n_0 h
def t_nodeErr_p0 (n_7_0 : Int) (n_7_1 : Int) (n_7_2 : Str) (n_7_3 : List Str) (n_7_4 : List Int) (x_8_0 : Int) (x_8_1 : Int) (x_8_2 : Int) (x_8_3 : Int) (x_8_4 : Bool) (x_8_5 : Bool) (t_36 : Bool) : Option Bool :=
  cond t_36 (some (true)) (Option.bind (t_spans (n_7_4.length : Int) x_8_2 x_8_3) fun p13 => some ((!p13)))
def t_nodeErr_p0l : List Nat := [37, 38, 39, 40, 41, 42, 43, 44, 45, 46, 47, 48]
theorem t_nodeErr_p0_W : ∀ (o_n_7 : Nat) (o_x_8 : Nat) (n_7_0 : Int) (n_7_1 : Int) (n_7_2 : Str) (n_7_3 : List Str) (n_7_4 : List Int) (x_8_0 : Int) (x_8_1 : Int) (x_8_2 : Int) (x_8_3 : Int) (x_8_4 : Bool) (x_8_5 : Bool) (t_36 : Bool) (σ0 σ : Nat → PV) (H : AH) (f0 : Fr t_nodeErr_p0l σ0 σ) (sl : σ 7 = (.ref (o_n_7) 0) ∧ σ 8 = (.ref (o_x_8) 0) ∧ σ 36 = (.bool t_36) ∧ H.obj o_n_7 = some [(.int .i64 n_7_0), (.int .i64 n_7_1), (.str n_7_2), (.isl (n_7_3.map strL) .unk), (.isl (n_7_4.map intL) .unk)] ∧ H.obj o_x_8 = some [(.int .i64 x_8_0), (.int .i64 x_8_1), (.int .i64 x_8_2), (.int .i64 x_8_3), (.bool x_8_4), (.bool x_8_5)]) (l_o_n_7 : o_n_7 < H.next) (l_o_x_8 : o_x_8 < H.next) (d_o_n_7_o_x_8 : o_n_7 ≠ o_x_8) (o : Bool) (h : t_nodeErr_p0 n_7_0 n_7_1 n_7_2 n_7_3 n_7_4 x_8_0 x_8_1 x_8_2 x_8_3 x_8_4 x_8_5 t_36 = some o) (Q : Post) (q0 : ∀ (p : Bool) (σ' : Nat → PV), o = p → Fr t_nodeErr_p0l σ0 σ' → (σ' 48 = (.bool p)) → Q .normal σ' H) , WOps Tryz.prog ac48_p0 (Q .normal) σ H := by
  intro o_n_7 o_x_8 n_7_0 n_7_1 n_7_2 n_7_3 n_7_4 x_8_0 x_8_1 x_8_2 x_8_3 x_8_4 x_8_5 t_36 σ0 σ H f0 sl l_o_n_7 l_o_x_8 d_o_n_7_o_x_8 o h Q q0
  obtain ⟨s7, s8, s36, g_o_n_7, g_o_x_8⟩ := sl
  have n_o_n_7 := ne_next l_o_n_7
  have m_o_n_7 := ne_add l_o_n_7
  have n_o_x_8 := ne_next l_o_x_8
  have m_o_x_8 := ne_add l_o_x_8
  have e_o_n_7_o_x_8 := eq_false d_o_n_7_o_x_8
  have r_o_n_7_o_x_8 := eq_false (Ne.symm d_o_n_7_o_x_8)
  unfold t_nodeErr_p0 at h
  refine WO_start ?_
  unfold ac48_p0
  rcases cond_E h with ⟨e11, h⟩ | ⟨e11, h⟩
  ·obtain rfl := som_E h
   simp -implicitDefEqProofs only [go_sem, s36, e11]
   exact q0 _ _ rfl (by repeat (first | exact f0 | refine Fr.upd (by decide) ?_)) (by simp -implicitDefEqProofs only [go_sem])
  ·obtain ⟨p13, e12, h⟩ := bind_E h
   simp -implicitDefEqProofs only [go_sem, s7, s8, s36, g_o_n_7, g_o_x_8, e11]
   refine mcall_pure (t_spans_c (n_7_4.length : Int) x_8_2 x_8_3 e12) ?_
   obtain rfl := som_E h
   simp -implicitDefEqProofs only [go_sem, s36, e11]
   exact q0 _ _ rfl (by repeat (first | exact f0 | refine Fr.upd (by decide) ?_)) (by simp -implicitDefEqProofs only [go_sem])
def t_nodeErr_r1 : Nat → (List Int) → Int → Bool → (List Int) → Option ((Int × Bool) ⊕ (Int × Bool))
  | 0, begins_5_0, end_9_0, together_10_0, t_53_0_0 => some (.inr ((end_9_0, together_10_0)))
  | m + 1, begins_5_0, end_9_0, together_10_0, t_53_0_0 =>
    Option.bind (t_53_0_0[m]?) fun x27 => cond (x27 != end_9_0) (some (.inl (end_9_0, false))) (cond (decide (end_9_0 < 0)) (some (.inl (end_9_0, false))) (if 0 ≤ end_9_0 then Option.bind (begins_5_0[end_9_0.toNat]?) fun x31 => t_nodeErr_r1 m begins_5_0 (IntKind.wrap .i64 (x31 - 1)) together_10_0 t_53_0_0 else none))
theorem t_nodeErr_r1_W : ∀ (m : Nat) (o_begins_5 : Nat) (o_end_9 : Nat) (o_together_10 : Nat) (o_t_53_0 : Nat) (begins_5_0 : List Int) (end_9_0 : Int) (together_10_0 : Bool) (t_53_0_0 : List Int) (σ0 σ : Nat → PV) (H0 H : AH) (f0 : Fr [] σ0 σ) (hf0 : HF [o_end_9, o_together_10] H0 H) (sl : σ 5 = (.ref (o_begins_5) 0) ∧ σ 9 = (.ref (o_end_9) 0) ∧ σ 10 = (.ref (o_together_10) 0) ∧ σ 53 = (.fn (.func 141) [] [(.ref (o_t_53_0) 0)]) ∧ H.obj o_begins_5 = some [(.isl (begins_5_0.map intL) .unk)] ∧ H.obj o_end_9 = some [(.int .i64 end_9_0)] ∧ H.obj o_together_10 = some [(.bool together_10_0)] ∧ H.obj o_t_53_0 = some [(.isl (t_53_0_0.map intL) .unk)]) (l_o_begins_5 : o_begins_5 < H.next) (l_o_end_9 : o_end_9 < H.next) (l_o_together_10 : o_together_10 < H.next) (l_o_t_53_0 : o_t_53_0 < H.next) (d_o_begins_5_o_end_9 : o_begins_5 ≠ o_end_9) (d_o_begins_5_o_together_10 : o_begins_5 ≠ o_together_10) (d_o_begins_5_o_t_53_0 : o_begins_5 ≠ o_t_53_0) (d_o_end_9_o_together_10 : o_end_9 ≠ o_together_10) (d_o_end_9_o_t_53_0 : o_end_9 ≠ o_t_53_0) (d_o_together_10_o_t_53_0 : o_together_10 ≠ o_t_53_0) (o : (Int × Bool) ⊕ (Int × Bool)) (h : t_nodeErr_r1 m begins_5_0 end_9_0 together_10_0 t_53_0_0 = some o) (Q : Post) (q0 : ∀ (p : Int × Bool) (σ' : Nat → PV) (H' : AH), o = .inl p → Fr [] σ0 σ' → HF [o_end_9, o_together_10] H0 H' → (H'.obj o_end_9 = some [(.int .i64 p.1)] ∧ H'.obj o_together_10 = some [(.bool p.2)]) → Q (.exit 0) σ' H') (q1 : ∀ (p : Int × Bool) (σ' : Nat → PV) (H' : AH), o = .inr (p) → Fr [] σ0 σ' → HF [o_end_9, o_together_10] H0 H' → (H'.obj o_end_9 = some [(.int .i64 p.1)] ∧ H'.obj o_together_10 = some [(.bool p.2)]) → Q .normal σ' H') , BackW (fun Q' σ' H' => W Tryz.prog ac48_r1a (thenF (fun σ'' H'' => W Tryz.prog ac48_r1b Q' σ'' H'')) σ' H') Q σ o_t_53_0 [(.isl (t_53_0_0.map intL) .unk)] 54 55 ((t_53_0_0.map intL).map (elemP false)) m H := by
  intro m
  induction m with
  | zero =>
    intro o_begins_5 o_end_9 o_together_10 o_t_53_0 begins_5_0 end_9_0 together_10_0 t_53_0_0 σ0 σ H0 H f0 hf0 sl l_o_begins_5 l_o_end_9 l_o_together_10 l_o_t_53_0 d_o_begins_5_o_end_9 d_o_begins_5_o_together_10 d_o_begins_5_o_t_53_0 d_o_end_9_o_together_10 d_o_end_9_o_t_53_0 d_o_together_10_o_t_53_0 o h Q q0 q1
    obtain ⟨s5, s9, s10, s53, g_o_begins_5, g_o_end_9, g_o_together_10, g_o_t_53_0⟩ := sl
    have n_o_begins_5 := ne_next l_o_begins_5
    have m_o_begins_5 := ne_add l_o_begins_5
    have n_o_end_9 := ne_next l_o_end_9
    have m_o_end_9 := ne_add l_o_end_9
    have n_o_together_10 := ne_next l_o_together_10
    have m_o_together_10 := ne_add l_o_together_10
    have n_o_t_53_0 := ne_next l_o_t_53_0
    have m_o_t_53_0 := ne_add l_o_t_53_0
    have e_o_begins_5_o_end_9 := eq_false d_o_begins_5_o_end_9
    have r_o_begins_5_o_end_9 := eq_false (Ne.symm d_o_begins_5_o_end_9)
    have e_o_begins_5_o_together_10 := eq_false d_o_begins_5_o_together_10
    have r_o_begins_5_o_together_10 := eq_false (Ne.symm d_o_begins_5_o_together_10)
    have e_o_begins_5_o_t_53_0 := eq_false d_o_begins_5_o_t_53_0
    have r_o_begins_5_o_t_53_0 := eq_false (Ne.symm d_o_begins_5_o_t_53_0)
    have e_o_end_9_o_together_10 := eq_false d_o_end_9_o_together_10
    have r_o_end_9_o_together_10 := eq_false (Ne.symm d_o_end_9_o_together_10)
    have e_o_end_9_o_t_53_0 := eq_false d_o_end_9_o_t_53_0
    have r_o_end_9_o_t_53_0 := eq_false (Ne.symm d_o_end_9_o_t_53_0)
    have e_o_together_10_o_t_53_0 := eq_false d_o_together_10_o_t_53_0
    have r_o_together_10_o_t_53_0 := eq_false (Ne.symm d_o_together_10_o_t_53_0)
    have hle0 := hf0.1
    rw [t_nodeErr_r1] at h
    cases h
    exact q1 _ _ _ rfl f0 hf0 (by simp -implicitDefEqProofs only [go_sem, g_o_end_9, g_o_together_10, and_self])
  | succ m ih =>
    intro o_begins_5 o_end_9 o_together_10 o_t_53_0 begins_5_0 end_9_0 together_10_0 t_53_0_0 σ0 σ H0 H f0 hf0 sl l_o_begins_5 l_o_end_9 l_o_together_10 l_o_t_53_0 d_o_begins_5_o_end_9 d_o_begins_5_o_together_10 d_o_begins_5_o_t_53_0 d_o_end_9_o_together_10 d_o_end_9_o_t_53_0 d_o_together_10_o_t_53_0 o h Q q0 q1
    obtain ⟨s5, s9, s10, s53, g_o_begins_5, g_o_end_9, g_o_together_10, g_o_t_53_0⟩ := sl
    have n_o_begins_5 := ne_next l_o_begins_5
    have m_o_begins_5 := ne_add l_o_begins_5
    have n_o_end_9 := ne_next l_o_end_9
    have m_o_end_9 := ne_add l_o_end_9
    have n_o_together_10 := ne_next l_o_together_10
    have m_o_together_10 := ne_add l_o_together_10
    have n_o_t_53_0 := ne_next l_o_t_53_0
    have m_o_t_53_0 := ne_add l_o_t_53_0
    have e_o_begins_5_o_end_9 := eq_false d_o_begins_5_o_end_9
    have r_o_begins_5_o_end_9 := eq_false (Ne.symm d_o_begins_5_o_end_9)
    have e_o_begins_5_o_together_10 := eq_false d_o_begins_5_o_together_10
    have r_o_begins_5_o_together_10 := eq_false (Ne.symm d_o_begins_5_o_together_10)
    have e_o_begins_5_o_t_53_0 := eq_false d_o_begins_5_o_t_53_0
    have r_o_begins_5_o_t_53_0 := eq_false (Ne.symm d_o_begins_5_o_t_53_0)
    have e_o_end_9_o_together_10 := eq_false d_o_end_9_o_together_10
    have r_o_end_9_o_together_10 := eq_false (Ne.symm d_o_end_9_o_together_10)
    have e_o_end_9_o_t_53_0 := eq_false d_o_end_9_o_t_53_0
    have r_o_end_9_o_t_53_0 := eq_false (Ne.symm d_o_end_9_o_t_53_0)
    have e_o_together_10_o_t_53_0 := eq_false d_o_together_10_o_t_53_0
    have r_o_together_10_o_t_53_0 := eq_false (Ne.symm d_o_together_10_o_t_53_0)
    have hle0 := hf0.1
    rw [t_nodeErr_r1] at h
    cases erf : t_53_0_0[m]?
    case none => rw [bind_N erf] at h; cases h
    case some x27 =>
      rw [bind_S erf] at h
      refine ⟨g_o_t_53_0, elemP false (intL x27), by simp only [List.getElem?_map, erf, Option.map_some], W_start ?_⟩
      unfold ac48_r1a
      simp -implicitDefEqProofs only [go_sem]
      refine W_start ?_
      unfold ac48_r1b
      rcases cond_E h with ⟨e28, h⟩ | ⟨e28, h⟩
      ·obtain rfl := som_E h
       simp -implicitDefEqProofs only [go_sem, WO_store, s9, s10, g_o_end_9, g_o_together_10, e28]
       exact q0 _ _ _ rfl (by repeat (first | exact f0 | refine Fr.upd (by decide) ?_)) (by repeat (first | exact hf0 | refine HF.new ?_ | refine HF.tokd ?_ | refine HF.used ?_ | refine HF.put (by first | (right; omega) | (left; simp only [List.mem_cons, true_or, or_true])) ?_)) (by simp -implicitDefEqProofs only [go_sem, g_o_end_9, e_o_end_9_o_together_10, and_self])
      ·rcases cond_E h with ⟨e29, h⟩ | ⟨e29, h⟩
       ·obtain rfl := som_E h
        simp -implicitDefEqProofs only [go_sem, WO_store, s9, s10, g_o_end_9, g_o_together_10, e28, e29]
        exact q0 _ _ _ rfl (by repeat (first | exact f0 | refine Fr.upd (by decide) ?_)) (by repeat (first | exact hf0 | refine HF.new ?_ | refine HF.tokd ?_ | refine HF.used ?_ | refine HF.put (by first | (right; omega) | (left; simp only [List.mem_cons, true_or, or_true])) ?_)) (by simp -implicitDefEqProofs only [go_sem, g_o_end_9, e_o_end_9_o_together_10, and_self])
       ·obtain ⟨e30, h⟩ := if_E h
        obtain ⟨x31, e32, h⟩ := bind_E h
        simp -implicitDefEqProofs only [go_sem, WO_store, s5, s9, g_o_begins_5, g_o_end_9, e28, e29, e30, e32]
        exact ih o_begins_5 o_end_9 o_together_10 o_t_53_0 begins_5_0 (IntKind.wrap .i64 (x31 - 1)) together_10_0 t_53_0_0 _ _ _ _ f0 (by repeat (first | exact hf0 | refine HF.new ?_ | refine HF.tokd ?_ | refine HF.used ?_ | refine HF.put (by first | (right; omega) | (left; simp only [List.mem_cons, true_or])) ?_)) (by simp -implicitDefEqProofs only [go_sem, s5, s9, s10, s53, g_o_begins_5, g_o_together_10, g_o_t_53_0, e_o_begins_5_o_end_9, r_o_end_9_o_together_10, r_o_end_9_o_t_53_0, and_self]) (by first | omega | (simp only [AH.put_next]; omega)) (by first | omega | (simp only [AH.put_next]; omega)) (by first | omega | (simp only [AH.put_next]; omega)) (by first | omega | (simp only [AH.put_next]; omega)) (by first | omega | (simp only [AH.new_next, AH.put_next, AH.tok_next, AH.use_next]; omega)) (by first | omega | (simp only [AH.new_next, AH.put_next, AH.tok_next, AH.use_next]; omega)) (by first | omega | (simp only [AH.new_next, AH.put_next, AH.tok_next, AH.use_next]; omega)) (by first | omega | (simp only [AH.new_next, AH.put_next, AH.tok_next, AH.use_next]; omega)) (by first | omega | (simp only [AH.new_next, AH.put_next, AH.tok_next, AH.use_next]; omega)) (by first | omega | (simp only [AH.new_next, AH.put_next, AH.tok_next, AH.use_next]; omega)) _ h _ q0 q1
def t_nodeErr_j2 (begins_5_0 : List Int) (n_7_0 : Int) (n_7_1 : Int) (n_7_2 : Str) (n_7_3 : List Str) (n_7_4 : List Int) (end_9_0 : Int) (together_10_0 : Bool) : Option ((Int × Bool)) :=
  if n_7_4.length ≤ 1099511627776 then Option.bind (t_nodeErr_r1 n_7_4.length begins_5_0 end_9_0 together_10_0 n_7_4) (fun o => Sum.elim (fun p35 => some ((p35.1, p35.2))) (fun p49 => some ((p49.1, p49.2))) o) else none
def t_nodeErr_j2l : List Nat := [12, 51, 52, 53, 54, 55, 56, 57, 58, 59, 60, 61, 62, 63, 64, 65, 66, 67]
theorem t_nodeErr_j2_W : ∀ (o_begins_5 : Nat) (o_n_7 : Nat) (o_end_9 : Nat) (o_together_10 : Nat) (begins_5_0 : List Int) (n_7_0 : Int) (n_7_1 : Int) (n_7_2 : Str) (n_7_3 : List Str) (n_7_4 : List Int) (end_9_0 : Int) (together_10_0 : Bool) (σ0 σ : Nat → PV) (H0 H : AH) (f0 : Fr t_nodeErr_j2l σ0 σ) (hf0 : HF [o_end_9, o_together_10] H0 H) (sl : σ 5 = (.ref (o_begins_5) 0) ∧ σ 7 = (.ref (o_n_7) 0) ∧ σ 9 = (.ref (o_end_9) 0) ∧ σ 10 = (.ref (o_together_10) 0) ∧ H.obj o_begins_5 = some [(.isl (begins_5_0.map intL) .unk)] ∧ H.obj o_n_7 = some [(.int .i64 n_7_0), (.int .i64 n_7_1), (.str n_7_2), (.isl (n_7_3.map strL) .unk), (.isl (n_7_4.map intL) .unk)] ∧ H.obj o_end_9 = some [(.int .i64 end_9_0)] ∧ H.obj o_together_10 = some [(.bool together_10_0)]) (l_o_begins_5 : o_begins_5 < H.next) (l_o_n_7 : o_n_7 < H.next) (l_o_end_9 : o_end_9 < H.next) (l_o_together_10 : o_together_10 < H.next) (d_o_begins_5_o_n_7 : o_begins_5 ≠ o_n_7) (d_o_begins_5_o_end_9 : o_begins_5 ≠ o_end_9) (d_o_begins_5_o_together_10 : o_begins_5 ≠ o_together_10) (d_o_n_7_o_end_9 : o_n_7 ≠ o_end_9) (d_o_n_7_o_together_10 : o_n_7 ≠ o_together_10) (d_o_end_9_o_together_10 : o_end_9 ≠ o_together_10) (o : (Int × Bool)) (h : t_nodeErr_j2 begins_5_0 n_7_0 n_7_1 n_7_2 n_7_3 n_7_4 end_9_0 together_10_0 = some o) (Q : Post) (q0 : ∀ (p : Int × Bool) (σ' : Nat → PV) (H' : AH), o = p → Fr t_nodeErr_j2l σ0 σ' → HF [o_end_9, o_together_10] H0 H' → (H'.obj o_end_9 = some [(.int .i64 p.1)] ∧ H'.obj o_together_10 = some [(.bool p.2)]) → Q .normal σ' H') , W Tryz.prog ac48_j2 Q σ H := by
  intro o_begins_5 o_n_7 o_end_9 o_together_10 begins_5_0 n_7_0 n_7_1 n_7_2 n_7_3 n_7_4 end_9_0 together_10_0 σ0 σ H0 H f0 hf0 sl l_o_begins_5 l_o_n_7 l_o_end_9 l_o_together_10 d_o_begins_5_o_n_7 d_o_begins_5_o_end_9 d_o_begins_5_o_together_10 d_o_n_7_o_end_9 d_o_n_7_o_together_10 d_o_end_9_o_together_10 o h Q q0
  obtain ⟨s5, s7, s9, s10, g_o_begins_5, g_o_n_7, g_o_end_9, g_o_together_10⟩ := sl
  have n_o_begins_5 := ne_next l_o_begins_5
  have m_o_begins_5 := ne_add l_o_begins_5
  have n_o_n_7 := ne_next l_o_n_7
  have m_o_n_7 := ne_add l_o_n_7
  have n_o_end_9 := ne_next l_o_end_9
  have m_o_end_9 := ne_add l_o_end_9
  have n_o_together_10 := ne_next l_o_together_10
  have m_o_together_10 := ne_add l_o_together_10
  have e_o_begins_5_o_n_7 := eq_false d_o_begins_5_o_n_7
  have r_o_begins_5_o_n_7 := eq_false (Ne.symm d_o_begins_5_o_n_7)
  have e_o_begins_5_o_end_9 := eq_false d_o_begins_5_o_end_9
  have r_o_begins_5_o_end_9 := eq_false (Ne.symm d_o_begins_5_o_end_9)
  have e_o_begins_5_o_together_10 := eq_false d_o_begins_5_o_together_10
  have r_o_begins_5_o_together_10 := eq_false (Ne.symm d_o_begins_5_o_together_10)
  have e_o_n_7_o_end_9 := eq_false d_o_n_7_o_end_9
  have r_o_n_7_o_end_9 := eq_false (Ne.symm d_o_n_7_o_end_9)
  have e_o_n_7_o_together_10 := eq_false d_o_n_7_o_together_10
  have r_o_n_7_o_together_10 := eq_false (Ne.symm d_o_n_7_o_together_10)
  have e_o_end_9_o_together_10 := eq_false d_o_end_9_o_together_10
  have r_o_end_9_o_together_10 := eq_false (Ne.symm d_o_end_9_o_together_10)
  have hle0 := hf0.1
  unfold t_nodeErr_j2 at h
  refine W_start ?_
  unfold ac48_j2
  simp -implicitDefEqProofs only [go_sem, s7, g_o_n_7]
  refine MCall_of_W ok91 (by simp) (W_start ?_)
  unfold ac91
  obtain ⟨e63, h⟩ := if_E h
  simp -implicitDefEqProofs only [go_sem]
  obtain ⟨o33, h34, h⟩ := bind_E h
  refine WS_rf (g := 141) (id := H.next) (sz := 1) (agg := false) (es := n_7_4.map intL) (c := .unk) (by simp -implicitDefEqProofs only [go_sem]) enters141 backs141 (by decide) (by simp -implicitDefEqProofs only [go_sem]) (by rw [List.length_map]; exact e63) (lenOk_map (RowF.len (f := intL)) _) ?_
  rw [List.length_map]
  refine t_nodeErr_r1_W _ (o_begins_5) (o_end_9) (o_together_10) (H.next) begins_5_0 end_9_0 together_10_0 n_7_4 _ _ _ _ (Fr.refl _ _) (HF.refl _ _) (by simp -implicitDefEqProofs only [go_sem, s5, s9, s10, g_o_begins_5, g_o_end_9, g_o_together_10, n_o_begins_5, n_o_end_9, n_o_together_10, and_self]) (by first | omega | (simp only [AH.new_next]; omega)) (by first | omega | (simp only [AH.new_next]; omega)) (by first | omega | (simp only [AH.new_next]; omega)) (by first | omega | (simp only [AH.new_next]; omega)) (by first | omega | (simp only [AH.new_next, AH.put_next, AH.tok_next, AH.use_next]; omega)) (by first | omega | (simp only [AH.new_next, AH.put_next, AH.tok_next, AH.use_next]; omega)) (by first | omega | (simp only [AH.new_next, AH.put_next, AH.tok_next, AH.use_next]; omega)) (by first | omega | (simp only [AH.new_next, AH.put_next, AH.tok_next, AH.use_next]; omega)) (by first | omega | (simp only [AH.new_next, AH.put_next, AH.tok_next, AH.use_next]; omega)) (by first | omega | (simp only [AH.new_next, AH.put_next, AH.tok_next, AH.use_next]; omega)) _ h34 _ ?_ ?_
  ·rintro p35 σ' H38 eo fr36 hf37 ⟨g39, g40⟩
   subst eo
   rw [sum_L] at h
   have s41 : σ' 7 = (.ref (o_n_7) 0) := (fr36 7 (by decide)).trans (by simp -implicitDefEqProofs only [go_sem, s7])
   have s42 : σ' 10 = (.ref (o_together_10) 0) := (fr36 10 (by decide)).trans (by simp -implicitDefEqProofs only [go_sem, s10])
   have le := hf37.1
   simp only [AH.new_next] at le
   have g43 : H38.obj (o_n_7) = some [(.int .i64 n_7_0), (.int .i64 n_7_1), (.str n_7_2), (.isl (n_7_3.map strL) .unk), (.isl (n_7_4.map intL) .unk)] := (hf37.2 _ (by first | omega | (simp only [AH.new_next]; omega)) (by first | exact List.not_mem_nil | (simp only [List.mem_cons, List.not_mem_nil, or_false, not_or]; omega))).trans (by simp -implicitDefEqProofs only [go_sem, g_o_n_7, n_o_n_7])
   have n44 := ne_next (show o_n_7 < H38.next by first | omega | (simp only [AH.new_next, AH.put_next, AH.tok_next, AH.use_next]; omega))
   have m45 := ne_add (show o_n_7 < H38.next by first | omega | (simp only [AH.new_next, AH.put_next, AH.tok_next, AH.use_next]; omega))
   have n47 := ne_next (show o_together_10 < H38.next by first | omega | (simp only [AH.new_next, AH.put_next, AH.tok_next, AH.use_next]; omega))
   have m48 := ne_add (show o_together_10 < H38.next by first | omega | (simp only [AH.new_next, AH.put_next, AH.tok_next, AH.use_next]; omega))
   obtain rfl := som_E h
   simp -implicitDefEqProofs only [go_sem]
   exact q0 _ _ _ rfl (by repeat (first | exact f0 | refine Fr.upd (by decide) ?_ | refine Fr.via fr36 (by decide) ?_)) (by repeat (first | exact hf0 | refine HF.new ?_ | refine HF.tokd ?_ | refine HF.used ?_ | refine HF.put (by first | (right; omega) | (left; simp only [List.mem_cons, true_or, or_true])) ?_ | refine HF.via hf37 (by first | exact fun i hi => absurd hi List.not_mem_nil | (intro i hi; simp only [List.mem_cons, List.not_mem_nil, or_false] at hi ⊢; first | exact .inl hi | omega)) ?_)) (by simp -implicitDefEqProofs only [go_sem, g39, g40, and_self])
  ·rintro p49 σ' H52 eo fr50 hf51 ⟨g53, g54⟩
   subst eo
   rw [sum_R] at h
   have s55 : σ' 7 = (.ref (o_n_7) 0) := (fr50 7 (by decide)).trans (by simp -implicitDefEqProofs only [go_sem, s7])
   have s56 : σ' 10 = (.ref (o_together_10) 0) := (fr50 10 (by decide)).trans (by simp -implicitDefEqProofs only [go_sem, s10])
   have le := hf51.1
   simp only [AH.new_next] at le
   have g57 : H52.obj (o_n_7) = some [(.int .i64 n_7_0), (.int .i64 n_7_1), (.str n_7_2), (.isl (n_7_3.map strL) .unk), (.isl (n_7_4.map intL) .unk)] := (hf51.2 _ (by first | omega | (simp only [AH.new_next]; omega)) (by first | exact List.not_mem_nil | (simp only [List.mem_cons, List.not_mem_nil, or_false, not_or]; omega))).trans (by simp -implicitDefEqProofs only [go_sem, g_o_n_7, n_o_n_7])
   have n58 := ne_next (show o_n_7 < H52.next by first | omega | (simp only [AH.new_next, AH.put_next, AH.tok_next, AH.use_next]; omega))
   have m59 := ne_add (show o_n_7 < H52.next by first | omega | (simp only [AH.new_next, AH.put_next, AH.tok_next, AH.use_next]; omega))
   have n61 := ne_next (show o_together_10 < H52.next by first | omega | (simp only [AH.new_next, AH.put_next, AH.tok_next, AH.use_next]; omega))
   have m62 := ne_add (show o_together_10 < H52.next by first | omega | (simp only [AH.new_next, AH.put_next, AH.tok_next, AH.use_next]; omega))
   obtain rfl := som_E h
   simp -implicitDefEqProofs only [go_sem]
   exact q0 _ _ _ rfl (by repeat (first | exact f0 | refine Fr.upd (by decide) ?_ | refine Fr.via fr50 (by decide) ?_)) (by repeat (first | exact hf0 | refine HF.new ?_ | refine HF.tokd ?_ | refine HF.used ?_ | refine HF.put (by first | (right; omega) | (left; simp only [List.mem_cons, true_or, or_true])) ?_ | refine HF.via hf51 (by first | exact fun i hi => absurd hi List.not_mem_nil | (intro i hi; simp only [List.mem_cons, List.not_mem_nil, or_false] at hi ⊢; first | exact .inl hi | omega)) ?_)) (by simp -implicitDefEqProofs only [go_sem, g53, g54, and_self])
def t_nodeErr_p3 (n_7_0 : Int) (n_7_1 : Int) (n_7_2 : Str) (n_7_3 : List Str) (n_7_4 : List Int) (x_8_0 : Int) (x_8_1 : Int) (x_8_2 : Int) (x_8_3 : Int) (x_8_4 : Bool) (x_8_5 : Bool) (let_13 : Bool) (t_73 : Bool) : Option Bool :=
  cond t_73 (cond x_8_5 (cond (n_7_0 != 1) (cond let_13 (Option.bind (t_spans n_7_1 0 1) fun p89 => some (p89)) (some (true))) (Option.bind (t_isText n_7_2) fun p91 => cond p91 (cond let_13 (Option.bind (t_spans n_7_1 0 1) fun p95 => some (p95)) (some (true))) (some (false)))) (cond (n_7_1 == 0) (cond (n_7_0 != 1) (cond let_13 (Option.bind (t_spans n_7_1 0 1) fun p100 => some (p100)) (some (true))) (Option.bind (t_isText n_7_2) fun p102 => cond p102 (cond let_13 (Option.bind (t_spans n_7_1 0 1) fun p106 => some (p106)) (some (true))) (some (false)))) (some (false)))) (cond (n_7_2 == []) (cond x_8_5 (cond (n_7_0 != 1) (cond let_13 (Option.bind (t_spans n_7_1 0 1) fun p112 => some (p112)) (some (true))) (Option.bind (t_isText n_7_2) fun p114 => cond p114 (cond let_13 (Option.bind (t_spans n_7_1 0 1) fun p118 => some (p118)) (some (true))) (some (false)))) (cond (n_7_1 == 0) (cond (n_7_0 != 1) (cond let_13 (Option.bind (t_spans n_7_1 0 1) fun p123 => some (p123)) (some (true))) (Option.bind (t_isText n_7_2) fun p125 => cond p125 (cond let_13 (Option.bind (t_spans n_7_1 0 1) fun p129 => some (p129)) (some (true))) (some (false)))) (some (false)))) (some (false)))
def t_nodeErr_p3l : List Nat := [74, 75, 76, 77, 78, 79, 80, 81, 82, 83, 84, 85, 86, 87, 88, 89, 90, 91, 92, 93, 94, 95, 96, 97, 98, 99, 100, 101, 102, 103, 104, 105]
theorem t_nodeErr_p3_W : ∀ (o_n_7 : Nat) (o_x_8 : Nat) (n_7_0 : Int) (n_7_1 : Int) (n_7_2 : Str) (n_7_3 : List Str) (n_7_4 : List Int) (x_8_0 : Int) (x_8_1 : Int) (x_8_2 : Int) (x_8_3 : Int) (x_8_4 : Bool) (x_8_5 : Bool) (let_13 : Bool) (t_73 : Bool) (σ0 σ : Nat → PV) (H : AH) (f0 : Fr t_nodeErr_p3l σ0 σ) (sl : σ 7 = (.ref (o_n_7) 0) ∧ σ 8 = (.ref (o_x_8) 0) ∧ σ 13 = (.bool let_13) ∧ σ 73 = (.bool t_73) ∧ H.obj o_n_7 = some [(.int .i64 n_7_0), (.int .i64 n_7_1), (.str n_7_2), (.isl (n_7_3.map strL) .unk), (.isl (n_7_4.map intL) .unk)] ∧ H.obj o_x_8 = some [(.int .i64 x_8_0), (.int .i64 x_8_1), (.int .i64 x_8_2), (.int .i64 x_8_3), (.bool x_8_4), (.bool x_8_5)]) (l_o_n_7 : o_n_7 < H.next) (l_o_x_8 : o_x_8 < H.next) (d_o_n_7_o_x_8 : o_n_7 ≠ o_x_8) (o : Bool) (h : t_nodeErr_p3 n_7_0 n_7_1 n_7_2 n_7_3 n_7_4 x_8_0 x_8_1 x_8_2 x_8_3 x_8_4 x_8_5 let_13 t_73 = some o) (Q : Post) (q0 : ∀ (p : Bool) (σ' : Nat → PV), o = p → Fr t_nodeErr_p3l σ0 σ' → (σ' 105 = (.bool p)) → Q .normal σ' H) , WOps Tryz.prog ac48_p3 (Q .normal) σ H := by
  intro o_n_7 o_x_8 n_7_0 n_7_1 n_7_2 n_7_3 n_7_4 x_8_0 x_8_1 x_8_2 x_8_3 x_8_4 x_8_5 let_13 t_73 σ0 σ H f0 sl l_o_n_7 l_o_x_8 d_o_n_7_o_x_8 o h Q q0
  obtain ⟨s7, s8, s13, s73, g_o_n_7, g_o_x_8⟩ := sl
  have n_o_n_7 := ne_next l_o_n_7
  have m_o_n_7 := ne_add l_o_n_7
  have n_o_x_8 := ne_next l_o_x_8
  have m_o_x_8 := ne_add l_o_x_8
  have e_o_n_7_o_x_8 := eq_false d_o_n_7_o_x_8
  have r_o_n_7_o_x_8 := eq_false (Ne.symm d_o_n_7_o_x_8)
  unfold t_nodeErr_p3 at h
  refine WO_start ?_
  unfold ac48_p3
  rcases cond_E h with ⟨e84, h⟩ | ⟨e84, h⟩
  ·rcases cond_E h with ⟨e85, h⟩ | ⟨e85, h⟩
   ·rcases cond_E h with ⟨e86, h⟩ | ⟨e86, h⟩
    ·rcases cond_E h with ⟨e87, h⟩ | ⟨e87, h⟩
     ·obtain ⟨p89, e88, h⟩ := bind_E h
      simp -implicitDefEqProofs only [go_sem, s7, s8, s13, s73, g_o_n_7, g_o_x_8, e84, e85, e86, e87]
      refine mcall_pure (t_spans_c n_7_1 0 1 e88) ?_
      obtain rfl := som_E h
      simp -implicitDefEqProofs only [go_sem]
      exact q0 _ _ rfl (by repeat (first | exact f0 | refine Fr.upd (by decide) ?_)) (by simp -implicitDefEqProofs only [go_sem])
     ·obtain rfl := som_E h
      simp -implicitDefEqProofs only [go_sem, s7, s8, s13, s73, g_o_n_7, g_o_x_8, e84, e85, e86, e87]
      exact q0 _ _ rfl (by repeat (first | exact f0 | refine Fr.upd (by decide) ?_)) (by simp -implicitDefEqProofs only [go_sem])
    ·obtain ⟨p91, e90, h⟩ := bind_E h
     simp -implicitDefEqProofs only [go_sem, s7, s8, s73, g_o_n_7, g_o_x_8, e84, e85, e86]
     refine mcall_pure (t_isText_c n_7_2 e90) ?_
     rcases cond_E h with ⟨e92, h⟩ | ⟨e92, h⟩
     ·rcases cond_E h with ⟨e93, h⟩ | ⟨e93, h⟩
      ·obtain ⟨p95, e94, h⟩ := bind_E h
       simp -implicitDefEqProofs only [go_sem, s7, s13, g_o_n_7, e92, e93]
       refine mcall_pure (t_spans_c n_7_1 0 1 e94) ?_
       obtain rfl := som_E h
       simp -implicitDefEqProofs only [go_sem]
       exact q0 _ _ rfl (by repeat (first | exact f0 | refine Fr.upd (by decide) ?_)) (by simp -implicitDefEqProofs only [go_sem])
      ·obtain rfl := som_E h
       simp -implicitDefEqProofs only [go_sem, s13, e92, e93]
       exact q0 _ _ rfl (by repeat (first | exact f0 | refine Fr.upd (by decide) ?_)) (by simp -implicitDefEqProofs only [go_sem])
     ·obtain rfl := som_E h
      simp -implicitDefEqProofs only [go_sem, e92]
      exact q0 _ _ rfl (by repeat (first | exact f0 | refine Fr.upd (by decide) ?_)) (by simp -implicitDefEqProofs only [go_sem])
   ·rcases cond_E h with ⟨e96, h⟩ | ⟨e96, h⟩
    ·rcases cond_E h with ⟨e97, h⟩ | ⟨e97, h⟩
     ·rcases cond_E h with ⟨e98, h⟩ | ⟨e98, h⟩
      ·obtain ⟨p100, e99, h⟩ := bind_E h
       simp -implicitDefEqProofs only [go_sem, s7, s8, s13, s73, g_o_n_7, g_o_x_8, e84, e85, e96, e97, e98]
       refine mcall_pure (t_spans_c n_7_1 0 1 e99) ?_
       obtain rfl := som_E h
       simp -implicitDefEqProofs only [go_sem]
       exact q0 _ _ rfl (by repeat (first | exact f0 | refine Fr.upd (by decide) ?_)) (by simp -implicitDefEqProofs only [go_sem])
      ·obtain rfl := som_E h
       simp -implicitDefEqProofs only [go_sem, s7, s8, s13, s73, g_o_n_7, g_o_x_8, e84, e85, e96, e97, e98]
       exact q0 _ _ rfl (by repeat (first | exact f0 | refine Fr.upd (by decide) ?_)) (by simp -implicitDefEqProofs only [go_sem])
     ·obtain ⟨p102, e101, h⟩ := bind_E h
      simp -implicitDefEqProofs only [go_sem, s7, s8, s73, g_o_n_7, g_o_x_8, e84, e85, e96, e97]
      refine mcall_pure (t_isText_c n_7_2 e101) ?_
      rcases cond_E h with ⟨e103, h⟩ | ⟨e103, h⟩
      ·rcases cond_E h with ⟨e104, h⟩ | ⟨e104, h⟩
       ·obtain ⟨p106, e105, h⟩ := bind_E h
        simp -implicitDefEqProofs only [go_sem, s7, s13, g_o_n_7, e103, e104]
        refine mcall_pure (t_spans_c n_7_1 0 1 e105) ?_
        obtain rfl := som_E h
        simp -implicitDefEqProofs only [go_sem]
        exact q0 _ _ rfl (by repeat (first | exact f0 | refine Fr.upd (by decide) ?_)) (by simp -implicitDefEqProofs only [go_sem])
       ·obtain rfl := som_E h
        simp -implicitDefEqProofs only [go_sem, s13, e103, e104]
        exact q0 _ _ rfl (by repeat (first | exact f0 | refine Fr.upd (by decide) ?_)) (by simp -implicitDefEqProofs only [go_sem])
      ·obtain rfl := som_E h
       simp -implicitDefEqProofs only [go_sem, e103]
       exact q0 _ _ rfl (by repeat (first | exact f0 | refine Fr.upd (by decide) ?_)) (by simp -implicitDefEqProofs only [go_sem])
    ·obtain rfl := som_E h
     simp -implicitDefEqProofs only [go_sem, s7, s8, s73, g_o_n_7, g_o_x_8, e84, e85, e96]
     exact q0 _ _ rfl (by repeat (first | exact f0 | refine Fr.upd (by decide) ?_)) (by simp -implicitDefEqProofs only [go_sem])
  ·rcases cond_E h with ⟨e107, h⟩ | ⟨e107, h⟩
   ·rcases cond_E h with ⟨e108, h⟩ | ⟨e108, h⟩
    ·rcases cond_E h with ⟨e109, h⟩ | ⟨e109, h⟩
     ·rcases cond_E h with ⟨e110, h⟩ | ⟨e110, h⟩
      ·obtain ⟨p112, e111, h⟩ := bind_E h
       simp -implicitDefEqProofs only [go_sem, s7, s8, s13, s73, g_o_n_7, g_o_x_8, e84, e107, e108, e109, e110]
       refine mcall_pure (t_spans_c n_7_1 0 1 e111) ?_
       obtain rfl := som_E h
       simp -implicitDefEqProofs only [go_sem]
       exact q0 _ _ rfl (by repeat (first | exact f0 | refine Fr.upd (by decide) ?_)) (by simp -implicitDefEqProofs only [go_sem])
      ·obtain rfl := som_E h
       simp -implicitDefEqProofs only [go_sem, s7, s8, s13, s73, g_o_n_7, g_o_x_8, e84, e107, e108, e109, e110]
       exact q0 _ _ rfl (by repeat (first | exact f0 | refine Fr.upd (by decide) ?_)) (by simp -implicitDefEqProofs only [go_sem])
     ·obtain ⟨p114, e113, h⟩ := bind_E h
      simp -implicitDefEqProofs only [go_sem, s7, s8, s73, g_o_n_7, g_o_x_8, e84, e107, e108, e109]
      refine mcall_pure (t_isText_c n_7_2 e113) ?_
      rcases cond_E h with ⟨e115, h⟩ | ⟨e115, h⟩
      ·rcases cond_E h with ⟨e116, h⟩ | ⟨e116, h⟩
       ·obtain ⟨p118, e117, h⟩ := bind_E h
        simp -implicitDefEqProofs only [go_sem, s7, s13, g_o_n_7, e115, e116]
        refine mcall_pure (t_spans_c n_7_1 0 1 e117) ?_
        obtain rfl := som_E h
        simp -implicitDefEqProofs only [go_sem]
        exact q0 _ _ rfl (by repeat (first | exact f0 | refine Fr.upd (by decide) ?_)) (by simp -implicitDefEqProofs only [go_sem])
       ·obtain rfl := som_E h
        simp -implicitDefEqProofs only [go_sem, s13, e115, e116]
        exact q0 _ _ rfl (by repeat (first | exact f0 | refine Fr.upd (by decide) ?_)) (by simp -implicitDefEqProofs only [go_sem])
      ·obtain rfl := som_E h
       simp -implicitDefEqProofs only [go_sem, e115]
       exact q0 _ _ rfl (by repeat (first | exact f0 | refine Fr.upd (by decide) ?_)) (by simp -implicitDefEqProofs only [go_sem])
    ·rcases cond_E h with ⟨e119, h⟩ | ⟨e119, h⟩
     ·rcases cond_E h with ⟨e120, h⟩ | ⟨e120, h⟩
      ·rcases cond_E h with ⟨e121, h⟩ | ⟨e121, h⟩
       ·obtain ⟨p123, e122, h⟩ := bind_E h
        simp -implicitDefEqProofs only [go_sem, s7, s8, s13, s73, g_o_n_7, g_o_x_8, e84, e107, e108, e119, e120, e121]
        refine mcall_pure (t_spans_c n_7_1 0 1 e122) ?_
        obtain rfl := som_E h
        simp -implicitDefEqProofs only [go_sem]
        exact q0 _ _ rfl (by repeat (first | exact f0 | refine Fr.upd (by decide) ?_)) (by simp -implicitDefEqProofs only [go_sem])
       ·obtain rfl := som_E h
        simp -implicitDefEqProofs only [go_sem, s7, s8, s13, s73, g_o_n_7, g_o_x_8, e84, e107, e108, e119, e120, e121]
        exact q0 _ _ rfl (by repeat (first | exact f0 | refine Fr.upd (by decide) ?_)) (by simp -implicitDefEqProofs only [go_sem])
      ·obtain ⟨p125, e124, h⟩ := bind_E h
       simp -implicitDefEqProofs only [go_sem, s7, s8, s73, g_o_n_7, g_o_x_8, e84, e107, e108, e119, e120]
       refine mcall_pure (t_isText_c n_7_2 e124) ?_
       rcases cond_E h with ⟨e126, h⟩ | ⟨e126, h⟩
       ·rcases cond_E h with ⟨e127, h⟩ | ⟨e127, h⟩
        ·obtain ⟨p129, e128, h⟩ := bind_E h
         simp -implicitDefEqProofs only [go_sem, s7, s13, g_o_n_7, e126, e127]
         refine mcall_pure (t_spans_c n_7_1 0 1 e128) ?_
         obtain rfl := som_E h
         simp -implicitDefEqProofs only [go_sem]
         exact q0 _ _ rfl (by repeat (first | exact f0 | refine Fr.upd (by decide) ?_)) (by simp -implicitDefEqProofs only [go_sem])
        ·obtain rfl := som_E h
         simp -implicitDefEqProofs only [go_sem, s13, e126, e127]
         exact q0 _ _ rfl (by repeat (first | exact f0 | refine Fr.upd (by decide) ?_)) (by simp -implicitDefEqProofs only [go_sem])
       ·obtain rfl := som_E h
        simp -implicitDefEqProofs only [go_sem, e126]
        exact q0 _ _ rfl (by repeat (first | exact f0 | refine Fr.upd (by decide) ?_)) (by simp -implicitDefEqProofs only [go_sem])
     ·obtain rfl := som_E h
      simp -implicitDefEqProofs only [go_sem, s7, s8, s73, g_o_n_7, g_o_x_8, e84, e107, e108, e119]
      exact q0 _ _ rfl (by repeat (first | exact f0 | refine Fr.upd (by decide) ?_)) (by simp -implicitDefEqProofs only [go_sem])
   ·obtain rfl := som_E h
    simp -implicitDefEqProofs only [go_sem, s7, s73, g_o_n_7, e84, e107]
    exact q0 _ _ rfl (by repeat (first | exact f0 | refine Fr.upd (by decide) ?_)) (by simp -implicitDefEqProofs only [go_sem])
def t_nodeErr (k : Nat) (e_0 : List Nd) (i_1 : Int) (begins_2 : List Int) : Option Int :=
  if 0 ≤ i_1 then Option.bind (e_0[i_1.toNat]?) fun x2 => Option.bind (t_spans x2.kind 0 28) fun p5 => cond p5 (Option.bind (t_shapeOf k x2) fun p8 => Option.bind (t_spans (x2.names.length : Int) p8.names.1 p8.names.2) fun p10 => Option.bind (t_nodeErr_p0 x2.kind x2.n x2.text x2.names x2.args p8.names.1 p8.names.2 p8.operands.1 p8.operands.2 p8.text p8.number (!p10)) (fun p16 => cond p16 (some 6) (Option.bind (t_nodeErr_j2 begins_2 x2.kind x2.n x2.text x2.names x2.args (IntKind.wrap .i64 (i_1 - 1)) true) (fun p66 => Option.bind (t_nodeErr_p3 x2.kind x2.n x2.text x2.names x2.args p8.names.1 p8.names.2 p8.operands.1 p8.operands.2 p8.text p8.number (x2.kind == 23) p8.text) (fun p132 => cond p66.2 (Option.bind (t_wrong (!p132) 5) fun p142 => cond (x2.kind == 23) (Option.bind (t_wrong false 3) fun p145 => Option.bind (t_namesErr k x2) fun p147 => Option.bind (g_Or_api_Errno k [p142, p145, p147]) fun p149 => some p149) (Option.bind (t_spans x2.n 0 10000) fun p151 => Option.bind (t_wrong (!p151) 3) fun p153 => Option.bind (t_namesErr k x2) fun p155 => Option.bind (g_Or_api_Errno k [p142, p153, p155]) fun p157 => some p157)) (Option.bind (t_wrong true 5) fun p159 => cond (x2.kind == 23) (Option.bind (t_wrong false 3) fun p162 => Option.bind (t_namesErr k x2) fun p164 => Option.bind (g_Or_api_Errno k [p159, p162, p164]) fun p166 => some p166) (Option.bind (t_spans x2.n 0 10000) fun p168 => Option.bind (t_wrong (!p168) 3) fun p170 => Option.bind (t_namesErr k x2) fun p172 => Option.bind (g_Or_api_Errno k [p159, p170, p172]) fun p174 => some p174))))))) (some 4) else none
theorem t_nodeErr_u (k : Nat) (e_0 : List Nd) (i_1 : Int) (begins_2 : List Int) {r : Int} (h : t_nodeErr k e_0 i_1 begins_2 = some r) : PCall Tryz.prog 48 [(.isl (e_0.map Nd.cells) .unk), (.int .i64 i_1), (.isl (begins_2.map intL) .unk)] (.int .i64 r) := by
  refine PCall.of_empty (PuL.mem (.cons (pu_sl Nd.pu _) (.cons (.int _ _) (.cons (pu_sl pu_intL _) .nil)))) (MCall_of_W ok48 (by simp) (W_start ?_)) (.int _ _)
  unfold t_nodeErr at h
  unfold ac48
  obtain ⟨e1, h⟩ := if_E h
  obtain ⟨x2, e3, h⟩ := bind_E h
  obtain ⟨p5, e4, h⟩ := bind_E h
  simp -implicitDefEqProofs only [go_sem, WO_store, e1, e3]
  refine mcall_pure (t_spans_c x2.kind 0 28 e4) ?_
  rcases cond_E h with ⟨e6, h⟩ | ⟨e6, h⟩
  ·obtain ⟨p8, e7, h⟩ := bind_E h
   simp -implicitDefEqProofs only [go_sem, e6]
   refine mcall_pure (t_shapeOf_c k x2 e7) ?_
   obtain ⟨p10, e9, h⟩ := bind_E h
   simp -implicitDefEqProofs only [go_sem, WO_store]
   refine mcall_pure (t_spans_c (x2.names.length : Int) p8.names.1 p8.names.2 e9) ?_
   simp -implicitDefEqProofs only [go_sem]
   obtain ⟨o14, h15, h⟩ := bind_E h
   refine t_nodeErr_p0_W (AH.empty.next + 1) (AH.empty.next + 2) x2.kind x2.n x2.text x2.names x2.args p8.names.1 p8.names.2 p8.operands.1 p8.operands.2 p8.text p8.number (!p10) _ _ _ (Fr.refl _ _) (by simp -implicitDefEqProofs only [go_sem, and_self]) (by first | omega | (simp only [AH.new_next, AH.put_next]; omega)) (by first | omega | (simp only [AH.new_next, AH.put_next]; omega)) (by first | omega | (simp only [AH.new_next, AH.put_next, AH.tok_next, AH.use_next]; omega)) _ h15 _ ?_
   ·rintro p16 σ' eo fr17 s20
    rw [eo] at h
    have s21 : σ' 1 = (.int .i64 i_1) := (fr17 1 (by decide)).trans (by simp -implicitDefEqProofs only [go_sem])
    have s22 : σ' 5 = (.ref (AH.empty.next) 0) := (fr17 5 (by decide)).trans (by simp -implicitDefEqProofs only [go_sem])
    have s23 : σ' 7 = (.ref (AH.empty.next + 1) 0) := (fr17 7 (by decide)).trans (by simp -implicitDefEqProofs only [go_sem])
    have s24 : σ' 8 = (.ref (AH.empty.next + 2) 0) := (fr17 8 (by decide)).trans (by simp -implicitDefEqProofs only [go_sem])
    rcases cond_E h with ⟨e25, h⟩ | ⟨e25, h⟩
    ·obtain rfl := som_E h
     simp -implicitDefEqProofs only [go_sem, s20, e25]
     exact (.pure _ (.int _ _))
    ·try simp -implicitDefEqProofs only [go_sem, WO_store, s20, s21, e25]
     obtain ⟨o64, h65, h⟩ := bind_E h
     refine t_nodeErr_j2_W (AH.empty.next) (AH.empty.next + 1) (AH.empty.next + 3) (AH.empty.next + 4) begins_2 x2.kind x2.n x2.text x2.names x2.args (IntKind.wrap .i64 (i_1 - 1)) true _ _ _ _ (Fr.refl _ _) (HF.refl _ _) (by simp -implicitDefEqProofs only [go_sem, s22, s23, and_self]) (by first | omega | (simp only [AH.new_next, AH.put_next]; omega)) (by first | omega | (simp only [AH.new_next, AH.put_next]; omega)) (by first | omega | (simp only [AH.new_next, AH.put_next]; omega)) (by first | omega | (simp only [AH.new_next, AH.put_next]; omega)) (by first | omega | (simp only [AH.new_next, AH.put_next, AH.tok_next, AH.use_next]; omega)) (by first | omega | (simp only [AH.new_next, AH.put_next, AH.tok_next, AH.use_next]; omega)) (by first | omega | (simp only [AH.new_next, AH.put_next, AH.tok_next, AH.use_next]; omega)) (by first | omega | (simp only [AH.new_next, AH.put_next, AH.tok_next, AH.use_next]; omega)) (by first | omega | (simp only [AH.new_next, AH.put_next, AH.tok_next, AH.use_next]; omega)) (by first | omega | (simp only [AH.new_next, AH.put_next, AH.tok_next, AH.use_next]; omega)) _ h65 _ ?_
     ·rintro p66 σ' H69 eo fr67 hf68 ⟨g70, g71⟩
      rw [eo] at h
      have s72 : σ' 7 = (.ref (AH.empty.next + 1) 0) := (fr67 7 (by decide)).trans (by simp -implicitDefEqProofs only [go_sem, s23])
      have s73 : σ' 8 = (.ref (AH.empty.next + 2) 0) := (fr67 8 (by decide)).trans (by simp -implicitDefEqProofs only [go_sem, s24])
      have s74 : σ' 10 = (.ref (AH.empty.next + 4) 0) := (fr67 10 (by decide)).trans (by simp -implicitDefEqProofs only [go_sem])
      have le := hf68.1
      simp only [AH.new_next, AH.put_next] at le
      have g75 : H69.obj (AH.empty.next + 1) = some [(.int .i64 x2.kind), (.int .i64 x2.n), (.str x2.text), (.isl (x2.names.map strL) .unk), (.isl (x2.args.map intL) .unk)] := (hf68.2 _ (by first | omega | (simp only [AH.new_next, AH.put_next]; omega)) (by first | exact List.not_mem_nil | (simp only [List.mem_cons, List.not_mem_nil, or_false, not_or]; omega))).trans (by simp -implicitDefEqProofs only [go_sem])
      have n76 := ne_next (show AH.empty.next + 1 < H69.next by first | omega | (simp only [AH.new_next, AH.put_next, AH.tok_next, AH.use_next]; omega))
      have m77 := ne_add (show AH.empty.next + 1 < H69.next by first | omega | (simp only [AH.new_next, AH.put_next, AH.tok_next, AH.use_next]; omega))
      have g78 : H69.obj (AH.empty.next + 2) = some [(.int .i64 p8.names.1), (.int .i64 p8.names.2), (.int .i64 p8.operands.1), (.int .i64 p8.operands.2), (.bool p8.text), (.bool p8.number)] := (hf68.2 _ (by first | omega | (simp only [AH.new_next, AH.put_next]; omega)) (by first | exact List.not_mem_nil | (simp only [List.mem_cons, List.not_mem_nil, or_false, not_or]; omega))).trans (by simp -implicitDefEqProofs only [go_sem])
      have n79 := ne_next (show AH.empty.next + 2 < H69.next by first | omega | (simp only [AH.new_next, AH.put_next, AH.tok_next, AH.use_next]; omega))
      have m80 := ne_add (show AH.empty.next + 2 < H69.next by first | omega | (simp only [AH.new_next, AH.put_next, AH.tok_next, AH.use_next]; omega))
      have n82 := ne_next (show AH.empty.next + 4 < H69.next by first | omega | (simp only [AH.new_next, AH.put_next, AH.tok_next, AH.use_next]; omega))
      have m83 := ne_add (show AH.empty.next + 4 < H69.next by first | omega | (simp only [AH.new_next, AH.put_next, AH.tok_next, AH.use_next]; omega))
      simp -implicitDefEqProofs only [go_sem, s72, s73, g75, g78]
      obtain ⟨o130, h131, h⟩ := bind_E h
      refine t_nodeErr_p3_W (AH.empty.next + 1) (AH.empty.next + 2) x2.kind x2.n x2.text x2.names x2.args p8.names.1 p8.names.2 p8.operands.1 p8.operands.2 p8.text p8.number (x2.kind == 23) p8.text _ _ _ (Fr.refl _ _) (by simp -implicitDefEqProofs only [go_sem, s72, s73, g75, g78, and_self]) (by first | omega | (simp only [AH.new_next, AH.put_next, AH.tok_next, AH.use_next]; omega)) (by first | omega | (simp only [AH.new_next, AH.put_next, AH.tok_next, AH.use_next]; omega)) (by first | omega | (simp only [AH.new_next, AH.put_next, AH.tok_next, AH.use_next]; omega)) _ h131 _ ?_
      ·rintro p132 σ' eo fr133 s136
       rw [eo] at h
       have s137 : σ' 7 = (.ref (AH.empty.next + 1) 0) := (fr133 7 (by decide)).trans (by simp -implicitDefEqProofs only [go_sem, s72])
       have s138 : σ' 10 = (.ref (AH.empty.next + 4) 0) := (fr133 10 (by decide)).trans (by simp -implicitDefEqProofs only [go_sem, s74])
       have s139 : σ' 13 = (.bool (x2.kind == 23)) := (fr133 13 (by decide)).trans (by simp -implicitDefEqProofs only [go_sem])
       simp -implicitDefEqProofs only [go_sem, s136]
       refine WS_parS ?_
       rcases cond_E h with ⟨e140, h⟩ | ⟨e140, h⟩
       ·obtain ⟨p142, e141, h⟩ := bind_E h
        simp -implicitDefEqProofs only [go_sem, g71, s138, e140]
        refine PC.mk (t_wrong_c (!p132) 5 e141) ?_
        rcases cond_E h with ⟨e143, h⟩ | ⟨e143, h⟩
        ·obtain ⟨p145, e144, h⟩ := bind_E h
         simp -implicitDefEqProofs only [go_sem, s139, e143]
         refine PC.mk (t_wrong_c false 3 e144) ?_
         obtain ⟨p147, e146, h⟩ := bind_E h
         simp -implicitDefEqProofs only [go_sem, g75, s137]
         refine mcall_pure (t_namesErr_c k x2 e146) ?_
         obtain ⟨p149, e148, h⟩ := bind_E h
         simp -implicitDefEqProofs only [go_sem]
         refine mcall_pure (g_Or_api_Errno_c k [p142, p145, p147] e148) ?_
         obtain rfl := som_E h
         simp -implicitDefEqProofs only [go_sem]
         exact (.pure _ (.int _ _))
        ·obtain ⟨p151, e150, h⟩ := bind_E h
         simp -implicitDefEqProofs only [go_sem, g75, s137, s139, e143]
         refine PC.mk (t_spans_c x2.n 0 10000 e150) ?_
         obtain ⟨p153, e152, h⟩ := bind_E h
         simp -implicitDefEqProofs only [go_sem]
         refine PC.mk (t_wrong_c (!p151) 3 e152) ?_
         obtain ⟨p155, e154, h⟩ := bind_E h
         simp -implicitDefEqProofs only [go_sem, g75, s137]
         refine mcall_pure (t_namesErr_c k x2 e154) ?_
         obtain ⟨p157, e156, h⟩ := bind_E h
         simp -implicitDefEqProofs only [go_sem]
         refine mcall_pure (g_Or_api_Errno_c k [p142, p153, p155] e156) ?_
         obtain rfl := som_E h
         simp -implicitDefEqProofs only [go_sem]
         exact (.pure _ (.int _ _))
       ·obtain ⟨p159, e158, h⟩ := bind_E h
        simp -implicitDefEqProofs only [go_sem, g71, s138, e140]
        refine PC.mk (t_wrong_c true 5 e158) ?_
        rcases cond_E h with ⟨e160, h⟩ | ⟨e160, h⟩
        ·obtain ⟨p162, e161, h⟩ := bind_E h
         simp -implicitDefEqProofs only [go_sem, s139, e160]
         refine PC.mk (t_wrong_c false 3 e161) ?_
         obtain ⟨p164, e163, h⟩ := bind_E h
         simp -implicitDefEqProofs only [go_sem, g75, s137]
         refine mcall_pure (t_namesErr_c k x2 e163) ?_
         obtain ⟨p166, e165, h⟩ := bind_E h
         simp -implicitDefEqProofs only [go_sem]
         refine mcall_pure (g_Or_api_Errno_c k [p159, p162, p164] e165) ?_
         obtain rfl := som_E h
         simp -implicitDefEqProofs only [go_sem]
         exact (.pure _ (.int _ _))
        ·obtain ⟨p168, e167, h⟩ := bind_E h
         simp -implicitDefEqProofs only [go_sem, g75, s137, s139, e160]
         refine PC.mk (t_spans_c x2.n 0 10000 e167) ?_
         obtain ⟨p170, e169, h⟩ := bind_E h
         simp -implicitDefEqProofs only [go_sem]
         refine PC.mk (t_wrong_c (!p168) 3 e169) ?_
         obtain ⟨p172, e171, h⟩ := bind_E h
         simp -implicitDefEqProofs only [go_sem, g75, s137]
         refine mcall_pure (t_namesErr_c k x2 e171) ?_
         obtain ⟨p174, e173, h⟩ := bind_E h
         simp -implicitDefEqProofs only [go_sem]
         refine mcall_pure (g_Or_api_Errno_c k [p159, p170, p172] e173) ?_
         obtain rfl := som_E h
         simp -implicitDefEqProofs only [go_sem]
         exact (.pure _ (.int _ _))
  ·obtain rfl := som_E h
   simp -implicitDefEqProofs only [go_sem, e6]
   exact (.pure _ (.int _ _))
theorem t_nodeErr_c (k : Nat) (e_0 : List Nd) (i_1 : Int) (begins_2 : List Int) {c0 c2 : Ck} {r : Int} (h : t_nodeErr k e_0 i_1 begins_2 = some r) : PCall Tryz.prog 48 [(.isl (e_0.map Nd.cells) c0), (.int .i64 i_1), (.isl (begins_2.map intL) c2)] (.int .i64 r) := (t_nodeErr_u k e_0 i_1 begins_2 h).wk (.isl (.same (.isl .nil)))
end Go.VL
end
section
set_option maxRecDepth 8000
set_option maxHeartbeats 4000000
namespace Go.VL
open Go.Proofs
def t_CheckExpr_b0 : Nat → (List Nd) → (List Int) → Int → Int → Option (List Int ⊕ (Int × Int))
  | 0, _, _, _, _ => none
  | k + 1, e_0, begins_5, t_26, t_27 =>
    cond (decide (t_27 < t_26)) (Option.bind (t_nodeErr k e_0 t_27 begins_5) fun p10 => cond (p10 != 0) (some (.inr ((t_27, p10)))) (if (begins_5.length + 1) * 8 ≤ 1099511627776 then Option.bind (t_begin e_0 t_27 (begins_5 ++ [0])) fun p21 => if 0 ≤ t_27 then Option.bind ((begins_5 ++ [0])[t_27.toNat]?) fun x23 => t_CheckExpr_b0 k e_0 ((begins_5 ++ [0]).set t_27.toNat p21) t_26 (IntKind.wrap .i64 (t_27 + 1)) else none else none)) (some (.inl begins_5))
def t_CheckExpr_b0l : List Nat := [2, 3, 5, 6, 7, 27, 28, 29, 30, 31, 32, 33, 34, 35, 36, 37, 38, 39, 40, 41, 42, 43, 44, 45, 46, 47, 48]
theorem t_CheckExpr_b0_W : ∀ (k : Nat) (v_begins_5 : PV) (ids_begins_5 : List Nat) (M : List Nat) (e_0 : List Nd) (begins_5 : List Int) (t_26 : Int) (t_27 : Int) (σ0 σ : Nat → PV) (H0 H : AH) (f0 : Fr t_CheckExpr_b0l σ0 σ) (hf0 : HF M H0 H) (sl : σ 0 = (.isl (e_0.map Nd.cells) .unk) ∧ σ 5 = v_begins_5 ∧ σ 26 = (.int .i64 t_26) ∧ σ 27 = (.int .i64 t_27)) (r_begins_5 : RowN H intL 1 begins_5 v_begins_5 ids_begins_5) (nw_begins_5 : Nw H0 M ids_begins_5) (o : List Int ⊕ (Int × Int)) (h : t_CheckExpr_b0 k e_0 begins_5 t_26 t_27 = some o) (Q : Post) (q0 : ∀ (p : List Int) (v0 : PV) (ids0 : List Nat) (σ' : Nat → PV) (H' : AH), o = .inl p → Fr t_CheckExpr_b0l σ0 σ' → HF M H0 H' → (σ' 5 = v0) → RowN H' intL 1 p v0 ids0 → Nw H0 M ids0 → Q (.exit 0) σ' H') (q1 : ∀ (p : Int × Int) (σ' : Nat → PV) (H' : AH), o = .inr (p) → Fr t_CheckExpr_b0l σ0 σ' → HF M H0 H' → (σ' 2 = (.int .i64 p.1) ∧ σ' 3 = (.int .i64 p.2)) → Q .ret σ' H') , W Tryz.prog (.loop ac14_b0) Q σ H := by
  intro k
  induction k with
  | zero => intro v_begins_5 ids_begins_5 M e_0 begins_5 t_26 t_27 σ0 σ H0 H f0 hf0 sl r_begins_5 nw_begins_5 o h Q q0 q1; simp only [t_CheckExpr_b0, reduceCtorEq] at h
  | succ k ih =>
    intro v_begins_5 ids_begins_5 M e_0 begins_5 t_26 t_27 σ0 σ H0 H f0 hf0 sl r_begins_5 nw_begins_5 o h Q q0 q1
    obtain ⟨s0, s5, s26, s27⟩ := sl
    have hle0 := hf0.1
    unfold t_CheckExpr_b0 at h
    refine W_loopK (fun K hK => W_start ?_)
    unfold ac14_b0
    rcases cond_E h with ⟨e8, h⟩ | ⟨e8, h⟩
    ·obtain ⟨p10, e9, h⟩ := bind_E h
     simp -implicitDefEqProofs only [go_sem, s0, s5, s26, s27, e8]
     refine mcall_frz (t_nodeErr_c k e_0 t_27 begins_5 e9) (.cons (fz_sl Nd.pu _ _) (.cons (.pure _ (.int _ _)) (.cons (RowN.fz pu_intL (by repeat (first | exact r_begins_5 | apply RowN.new | refine RowN.put ?_ (fun hm => by have := RowN.lt r_begins_5 _ hm; omega)))) .nil))) (.cons (pu_sl Nd.pu _) (.cons (.int _ _) (.cons (pu_sl pu_intL _) .nil))) (.int _ _) ?_
     rcases cond_E h with ⟨e11, h⟩ | ⟨e11, h⟩
     ·obtain rfl := som_E h
      simp -implicitDefEqProofs only [go_sem, e11]
      exact q1 _ _ _ rfl (by repeat (first | exact f0 | refine Fr.upd (by decide) ?_)) (by repeat (first | exact hf0 | refine HF.new ?_ | refine HF.tokd ?_ | refine HF.used ?_ | refine HF.put (by first | (right; omega) | (left; simp only [List.mem_cons, true_or, or_true])) ?_)) (by simp -implicitDefEqProofs only [go_sem, and_self])
     ·obtain ⟨e12, h⟩ := if_E h
      simp -implicitDefEqProofs only [go_sem, s5, e11]
      refine WO_rowapp (f := intL) (v := v_begins_5) row_int begins_5 ([0] : List Int) .exact (by simp -implicitDefEqProofs only [go_sem]) (by repeat (first | exact r_begins_5 | apply RowN.new | refine RowN.put ?_ (fun hm => by have := RowN.lt r_begins_5 _ hm; omega))) (by simp -implicitDefEqProofs only [go_sem]) (by decide) (by simp only [List.length_cons, List.length_nil]; exact e12) (fun v13 ids14 H15 r16 nw17 hf18 ok19 => ?_)
      have le := hf18.1
      obtain ⟨p21, e20, h⟩ := bind_E h
      simp -implicitDefEqProofs only [go_sem, s0]
      refine mcall_frz (t_begin_c e_0 t_27 (begins_5 ++ [0]) e20) (.cons (fz_sl Nd.pu _ _) (.cons (.pure _ (.int _ _)) (.cons (RowN.fz pu_intL (by repeat (first | exact r16 | apply RowN.new | refine RowN.put ?_ (fun hm => by have := RowN.lt r16 _ hm; omega)))) .nil))) (.cons (pu_sl Nd.pu _) (.cons (.int _ _) (.cons (pu_sl pu_intL _) .nil))) (.int _ _) ?_
      obtain ⟨e22, h⟩ := if_E h
      obtain ⟨x23, e24, h⟩ := bind_E h
      obtain ⟨w25, w26, hidw25, hil, w27, hC, hL, hD, hI⟩ := RowN.content r16 e24
      have w28 := ne_next hil
      have w29 := ne_add hil
      have w30 : idxPV 1 v13 (.int .i64 t_27) = some (.ref w25 (t_27.toNat)) := by simpa using hI .i64 t_27 (by first | omega | decide) (by first | rfl | omega)
      have w25c0 : w26[t_27.toNat]? = some (.int .i64 x23) := by simpa using hC 0 _ rfl
      clear hC hL hD hI
      simp -implicitDefEqProofs only [go_sem, w30]
      refine WO_rowset (f := intL) (id := w25) (o := t_27.toNat) (i := t_27.toNat) (j := 0) (a := x23) (y := p21) (vs := [(.int .i64 p21)]) (by simp -implicitDefEqProofs only [go_sem]) hidw25 (by omega) (by repeat (first | exact r16 | apply RowN.new | refine RowN.put ?_ (fun hm => by have := RowN.lt r16 _ hm; omega))) e24 (by simp -implicitDefEqProofs only [go_sem]) rfl rfl (by first | decide | (simp only [List.length_cons, List.length_nil]; omega)) rfl (fun H33 r34 hf36 ok37 => ?_)
      have le := hf36.1
      simp -implicitDefEqProofs only [go_sem, s27]
      refine hK _ _ ?_
      exact ih v13 ids14 M e_0 ((begins_5 ++ [0]).set t_27.toNat p21) t_26 (IntKind.wrap .i64 (t_27 + 1)) _ _ _ _ (by repeat (first | exact f0 | refine Fr.upd (by decide) ?_)) (by repeat (first | exact hf0 | refine HF.new ?_ | refine HF.tokd ?_ | refine HF.used ?_ | refine HF.put (by first | (right; omega) | (left; simp only [List.mem_cons, true_or, or_true])) ?_ | refine HF.via hf18 nw_begins_5 ?_ | refine HF.via hf36 (Nw.trans nw_begins_5 (by first | omega | (simp only [AH.new_next, AH.put_next, AH.tok_next, AH.use_next]; omega)) nw17) ?_)) (by simp -implicitDefEqProofs only [go_sem, s0, s26, and_self]) (by repeat (first | exact r34 | apply RowN.new | refine RowN.put ?_ (fun hm => by have := RowN.lt r34 _ hm; omega))) (Nw.trans nw_begins_5 (by first | omega | (simp only [AH.new_next, AH.put_next, AH.tok_next, AH.use_next]; omega)) nw17) _ h _ q0 q1
    ·obtain rfl := som_E h
     simp -implicitDefEqProofs only [go_sem, s26, s27, e8]
     exact q0 _ v_begins_5 ids_begins_5 _ _ rfl (by repeat (first | exact f0 | refine Fr.upd (by decide) ?_)) (by repeat (first | exact hf0 | refine HF.new ?_ | refine HF.tokd ?_ | refine HF.used ?_ | refine HF.put (by first | (right; omega) | (left; simp only [List.mem_cons, true_or, or_true])) ?_)) (by simp -implicitDefEqProofs only [go_sem, s5]) (by repeat (first | exact r_begins_5 | apply RowN.new | refine RowN.put ?_ (fun hm => by have := RowN.lt r_begins_5 _ hm; omega))) nw_begins_5
def t_CheckExpr_b1 : Nat → (List Nd) → (List Int) → (List Int) → Int → Int → Option (Unit ⊕ (Int × Int))
  | 0, _, _, _, _, _ => none
  | k + 1, e_0, up_9, place_10, t_58, t_59 =>
    cond (decide (t_59 < t_58)) (Option.bind (t_isLost k e_0 t_59 up_9 place_10) fun p54 => cond p54 (some (.inr ((t_59, 30)))) (t_CheckExpr_b1 k e_0 up_9 place_10 t_58 (IntKind.wrap .i64 (t_59 + 1)))) (some (.inl ()))
def t_CheckExpr_b1l : List Nat := [2, 3, 11, 59, 60, 61, 62, 63, 64, 65, 66, 67, 68]
theorem t_CheckExpr_b1_W : ∀ (k : Nat) (e_0 : List Nd) (up_9 : List Int) (place_10 : List Int) (t_58 : Int) (t_59 : Int) (σ0 σ : Nat → PV) (H : AH) (f0 : Fr t_CheckExpr_b1l σ0 σ) (sl : σ 0 = (.isl (e_0.map Nd.cells) .unk) ∧ σ 9 = (.isl (up_9.map intL) .unk) ∧ σ 10 = (.isl (place_10.map intL) .unk) ∧ σ 58 = (.int .i64 t_58) ∧ σ 59 = (.int .i64 t_59)) (o : Unit ⊕ (Int × Int)) (h : t_CheckExpr_b1 k e_0 up_9 place_10 t_58 t_59 = some o) (Q : Post) (q0 : ∀ (p : Unit) (σ' : Nat → PV), o = .inl p → Fr t_CheckExpr_b1l σ0 σ' → Q (.exit 2) σ' H) (q1 : ∀ (p : Int × Int) (σ' : Nat → PV), o = .inr (p) → Fr t_CheckExpr_b1l σ0 σ' → (σ' 2 = (.int .i64 p.1) ∧ σ' 3 = (.int .i64 p.2)) → Q .ret σ' H) , W Tryz.prog (.loop ac14_b1) Q σ H := by
  intro k
  induction k with
  | zero => intro e_0 up_9 place_10 t_58 t_59 σ0 σ H f0 sl o h Q q0 q1; simp only [t_CheckExpr_b1, reduceCtorEq] at h
  | succ k ih =>
    intro e_0 up_9 place_10 t_58 t_59 σ0 σ H f0 sl o h Q q0 q1
    obtain ⟨s0, s9, s10, s58, s59⟩ := sl
    unfold t_CheckExpr_b1 at h
    refine W_loopK (fun K hK => W_start ?_)
    unfold ac14_b1
    rcases cond_E h with ⟨e52, h⟩ | ⟨e52, h⟩
    ·obtain ⟨p54, e53, h⟩ := bind_E h
     simp -implicitDefEqProofs only [go_sem, s0, s9, s10, s58, s59, e52]
     refine mcall_pure (t_isLost_c k e_0 t_59 up_9 place_10 e53) ?_
     rcases cond_E h with ⟨e55, h⟩ | ⟨e55, h⟩
     ·obtain rfl := som_E h
      simp -implicitDefEqProofs only [go_sem, e55]
      exact q1 _ _ rfl (by repeat (first | exact f0 | refine Fr.upd (by decide) ?_)) (by simp -implicitDefEqProofs only [go_sem, and_self])
     ·try simp -implicitDefEqProofs only [go_sem, s59, e55]
      refine hK _ _ ?_
      exact ih e_0 up_9 place_10 t_58 (IntKind.wrap .i64 (t_59 + 1)) _ _ _ (by repeat (first | exact f0 | refine Fr.upd (by decide) ?_)) (by simp -implicitDefEqProofs only [go_sem, s0, s9, s10, s58, and_self]) _ h _ q0 q1
    ·obtain rfl := som_E h
     simp -implicitDefEqProofs only [go_sem, s58, s59, e52]
     exact q0 _ _ rfl (by repeat (first | exact f0 | refine Fr.upd (by decide) ?_))
def t_CheckExpr (k : Nat) (e_0 : List Nd) : Option (Int × Int) :=
  Option.bind (t_wrong ((e_0.length : Int) == 0) 1) fun p2 => Option.bind (t_wrong (decide ((e_0.length : Int) > 160)) 2) fun p4 => Option.bind (g_Or_api_Errno k [p2, p4]) fun p6 => cond (p6 != 0) (some (0, p6)) (Option.bind (t_CheckExpr_b0 k e_0 ([] : List Int) (e_0.length : Int) 0) (fun o => Sum.elim (fun p40 => Option.bind (t_parents k e_0) fun p51 => Option.bind (t_CheckExpr_b1 k e_0 p51.1 p51.2 (e_0.length : Int) 0) (fun o => Sum.elim (fun p58 => if 0 ≤ (IntKind.wrap .i64 ((e_0.length : Int) - 1)) then Option.bind (p40[(IntKind.wrap .i64 ((e_0.length : Int) - 1)).toNat]?) fun x65 => cond (x65 != 0) (some ((IntKind.wrap .i64 ((e_0.length : Int) - 1)), 15)) (some (0, 0)) else none) (fun p74 => some (p74.1, p74.2)) o)) (fun p80 => some (p80.1, p80.2)) o))
theorem t_CheckExpr_u (k : Nat) (e_0 : List Nd) {r : Int × Int} (h : t_CheckExpr k e_0 = some r) : PCall Tryz.prog 14 [(.isl (e_0.map Nd.cells) .unk)] (.tup [(.int .i64 r.1), (.int .i64 r.2)]) := by
  refine PCall.of_empty (PuL.mem (.cons (pu_sl Nd.pu _) .nil)) (MCall_of_W ok14 (by simp) (W_start ?_)) (.tup _ (PuL.mem (.cons (.int _ _) (.cons (.int _ _) .nil))))
  unfold t_CheckExpr at h
  unfold ac14
  obtain ⟨p2, e1, h⟩ := bind_E h
  simp -implicitDefEqProofs only [go_sem]
  refine mcall_pure (t_wrong_c ((e_0.length : Int) == 0) 1 e1) ?_
  obtain ⟨p4, e3, h⟩ := bind_E h
  simp -implicitDefEqProofs only [go_sem]
  refine mcall_pure (t_wrong_c (decide ((e_0.length : Int) > 160)) 2 e3) ?_
  obtain ⟨p6, e5, h⟩ := bind_E h
  simp -implicitDefEqProofs only [go_sem]
  refine mcall_pure (g_Or_api_Errno_c k [p2, p4] e5) ?_
  rcases cond_E h with ⟨e7, h⟩ | ⟨e7, h⟩
  ·obtain rfl := som_E h
   simp -implicitDefEqProofs only [go_sem, e7]
   exact (fz_tup (.cons (.pure _ (.int _ _)) (.cons (.pure _ (.int _ _)) .nil)))
  ·try simp -implicitDefEqProofs only [go_sem, e7]
   obtain ⟨o38, h39, h⟩ := bind_E h
   refine t_CheckExpr_b0_W k (.isl [] .nil) [] ([] ++ []) e_0 ([] : List Int) (e_0.length : Int) 0 _ _ _ _ (Fr.refl _ _) (HF.refl _ _) (by simp -implicitDefEqProofs only [go_sem, and_self]) (by repeat (first | exact RowN.nil | apply RowN.new | refine RowN.put ?_ (fun hm => by have := RowN.lt RowN.nil _ hm; omega))) (fun i hi => Or.inl (by simp only [List.mem_append, hi, or_true])) _ h39 _ ?_ ?_
   ·rintro p40 v44 ids45 σ' H43 eo fr41 hf42 s48 r46 nw47
    subst eo
    rw [sum_L] at h
    have s49 : σ' 0 = (.isl (e_0.map Nd.cells) .unk) := (fr41 0 (by decide)).trans (by simp -implicitDefEqProofs only [go_sem])
    have le := hf42.1
    obtain ⟨p51, e50, h⟩ := bind_E h
    simp -implicitDefEqProofs only [go_sem, s49]
    refine mcall_pure (t_parents_c k e_0 e50) ?_
    simp -implicitDefEqProofs only [go_sem, s49]
    obtain ⟨o56, h57, h⟩ := bind_E h
    refine t_CheckExpr_b1_W k e_0 p51.1 p51.2 (e_0.length : Int) 0 _ _ _ (Fr.refl _ _) (by simp -implicitDefEqProofs only [go_sem, s49, and_self]) _ h57 _ ?_ ?_
    ·rintro p58 σ' eo fr59
     subst eo
     rw [sum_L] at h
     have s62 : σ' 5 = v44 := (fr59 5 (by decide)).trans (by simp -implicitDefEqProofs only [go_sem, s48])
     have s63 : σ' 8 = (.int .i64 (IntKind.wrap .i64 ((e_0.length : Int) - 1))) := (fr59 8 (by decide)).trans (by simp -implicitDefEqProofs only [go_sem])
     obtain ⟨e64, h⟩ := if_E h
     obtain ⟨x65, e66, h⟩ := bind_E h
     obtain ⟨w67, w68, hidw67, hil, w69, hC, hL, hD, hI⟩ := RowN.content r46 e66
     have w70 := ne_next hil
     have w71 := ne_add hil
     have w72 : idxPV 1 v44 (.int .i64 (IntKind.wrap .i64 ((e_0.length : Int) - 1))) = some (.ref w67 ((IntKind.wrap .i64 ((e_0.length : Int) - 1)).toNat)) := by simpa using hI .i64 (IntKind.wrap .i64 ((e_0.length : Int) - 1)) (by first | omega | decide) (by first | rfl | omega)
     have w67c0 : w68[(IntKind.wrap .i64 ((e_0.length : Int) - 1)).toNat]? = some (.int .i64 x65) := by simpa using hC 0 _ rfl
     clear hC hL hD hI
     rcases cond_E h with ⟨e73, h⟩ | ⟨e73, h⟩
     ·obtain rfl := som_E h
      simp -implicitDefEqProofs only [go_sem, s62, s63, w69, w72, w67c0, e73]
      exact (fz_tup (.cons (.pure _ (.int _ _)) (.cons (.pure _ (.int _ _)) .nil)))
     ·obtain rfl := som_E h
      simp -implicitDefEqProofs only [go_sem, s62, s63, w69, w72, w67c0, e73]
      exact (fz_tup (.cons (.pure _ (.int _ _)) (.cons (.pure _ (.int _ _)) .nil)))
    ·rintro p74 σ' eo fr75 ⟨s78, s79⟩
     subst eo
     rw [sum_R] at h
     obtain rfl := som_E h
     simp -implicitDefEqProofs only [go_sem, s78, s79]
     exact (fz_tup (.cons (.pure _ (.int _ _)) (.cons (.pure _ (.int _ _)) .nil)))
   ·rintro p80 σ' H83 eo fr81 hf82 ⟨s84, s85⟩
    subst eo
    rw [sum_R] at h
    have le := hf82.1
    obtain rfl := som_E h
    simp -implicitDefEqProofs only [go_sem, s84, s85]
    exact (fz_tup (.cons (.pure _ (.int _ _)) (.cons (.pure _ (.int _ _)) .nil)))
theorem t_CheckExpr_c (k : Nat) (e_0 : List Nd) {c0 : Ck} {r : Int × Int} (h : t_CheckExpr k e_0 = some r) : PCall Tryz.prog 14 [(.isl (e_0.map Nd.cells) c0)] (.tup [(.int .i64 r.1), (.int .i64 r.2)]) := (t_CheckExpr_u k e_0 h).wk (.isl .nil)
def t_exprErr (k : Nat) (e_0 : List Nd) : Option Int :=
  Option.bind (t_CheckExpr k e_0) fun p2 => some p2.2
theorem t_exprErr_u (k : Nat) (e_0 : List Nd) {r : Int} (h : t_exprErr k e_0 = some r) : PCall Tryz.prog 58 [(.isl (e_0.map Nd.cells) .unk)] (.int .i64 r) := by
  refine PCall.of_empty (PuL.mem (.cons (pu_sl Nd.pu _) .nil)) (MCall_of_W ok58 (by simp) (W_start ?_)) (.int _ _)
  unfold t_exprErr at h
  unfold ac58
  obtain ⟨p2, e1, h⟩ := bind_E h
  simp -implicitDefEqProofs only [go_sem]
  refine mcall_pure (t_CheckExpr_c k e_0 e1) ?_
  obtain rfl := som_E h
  simp -implicitDefEqProofs only [go_sem]
  exact (.pure _ (.int _ _))
theorem t_exprErr_c (k : Nat) (e_0 : List Nd) {c0 : Ck} {r : Int} (h : t_exprErr k e_0 = some r) : PCall Tryz.prog 58 [(.isl (e_0.map Nd.cells) c0)] (.int .i64 r) := (t_exprErr_u k e_0 h).wk (.isl .nil)
end Go.VL
end
section
namespace Go.VL
theorem hasP_eq (s p : Str) : g_HasPrefix_125 s p = some (decide (p.length ≤ s.length) && decide (s.take p.length = p)) := by
  unfold g_HasPrefix_125 g_HasPrefix_179
  by_cases h : p.length ≤ s.length
  · have h' : (s.length : Int) ≥ (p.length : Int) := by omega
    simp only [h, h', decide_true, cond_true, if_true, Option.bind_some, Bool.true_and, beq_str]
  · have h' : ¬ (s.length : Int) ≥ (p.length : Int) := by omega
    simp only [h, h', decide_false, cond_false, Option.bind_some, Bool.false_and]
theorem hasP3 (s : Str) (a b c : UInt8) : g_HasPrefix_125 s [a, b, c] = some (decide (s.take 3 = [a, b, c])) := by
  rw [hasP_eq]
  congr 1
  show (decide (3 ≤ s.length) && decide (s.take 3 = [a, b, c])) = _
  by_cases h : s.take 3 = [a, b, c]
  · have := congrArg List.length h
    rw [List.length_take] at this
    have h3 : 3 ≤ s.length := by simp at this; omega
    simp [h, h3]
  · simp [h]
theorem resL_mem (s : Str) : decide (s ∈ resL) = (decide (s ∈ rsv) || isFx s) := by
  have h1 : resL = rsv ++ [[66, 79, 79, 76, 69, 65, 78], [83, 84, 82, 73, 78, 71]] := by kernel_rfl
  have h2 : ([84, 82, 85, 69] : Str) ∈ rsv := by decide +kernel
  have h3 : ([70, 65, 76, 83, 69] : Str) ∈ rsv := by decide +kernel
  rw [h1]
  unfold isFx
  by_cases a : s = [84, 82, 85, 69]
  · subst a; simp [h2]
  by_cases b : s = [70, 65, 76, 83, 69]
  · subst b; simp [h3]
  by_cases c : s ∈ rsv <;> simp [a, b, c]
theorem resL_len : resL.length = 52 := by kernel_rfl
theorem bytesI_len (s : Str) : (bytesI s).length = s.length := by simp [bytesI]
theorem bytesI_get (s : Str) {i : Nat} (h : i < s.length) : (bytesI s)[i]? = some (s[i].toNat : Int) := by simp [bytesI, h]
theorem wrapb (c : UInt8) : IntKind.wrap .i64 (c.toNat : Int) = (c.toNat : Int) := by have := c.toNat_lt; exact wrap64 (by omega) (by omega)
def nLet (s : Str) : Nat := s.countP isLet
theorem nLet_any (s : Str) : decide ((nLet s : Int) > 0) = s.any isLet := by
  unfold nLet
  induction s with
  | nil => rfl
  | cons c l ih =>
    rw [List.countP_cons, List.any_cons]
    by_cases h : isLet c = true
    · simp only [h, if_true, Bool.true_or, decide_eq_true_eq]; omega
    · rw [if_neg h, Nat.add_zero, ih]; simp [h]
theorem t_isName_p1_eq (c : UInt8) : (Option.bind (t_spans (c.toNat : Int) 97 122) fun p26 => t_isName_p1 (c.toNat : Int) p26) = some (isLet c) := by
  unfold t_isName_p1
  simp only [t_spans_eq, Option.bind_some, wrapb]
  unfold isLet
  have e1 : ((97 : Int) ≤ (c.toNat : Int) ∧ (c.toNat : Int) ≤ 122) = (97 ≤ c.toNat ∧ c.toNat ≤ 122) := by rw [eq_iff_iff]; omega
  have e2 : ((65 : Int) ≤ (c.toNat : Int) ∧ (c.toNat : Int) ≤ 90) = (65 ≤ c.toNat ∧ c.toNat ≤ 90) := by rw [eq_iff_iff]; omega
  simp only [e1, e2]
  cases decide (97 ≤ c.toNat ∧ c.toNat ≤ 122) <;> rfl
theorem t_isName_ev (s : Str) : Ev (fun k => t_isName k s) (rName s) := by
  unfold t_isName t_isName_p0
  simp only [t_spans_eq, Option.bind_some, hasP3]
  by_cases h1 : 1 ≤ s.length ∧ s.length ≤ 24
  · have e1 : (decide ((1 : Int) ≤ (s.length : Int) ∧ (s.length : Int) ≤ 24)) = true := decide_eq_true (by omega)
    simp only [e1, Bool.not_true, cond_false]
    refine Ev.bind (x := wfP s || decide (s ∈ resL)) ?_ ?_
    · unfold wfP
      cases decide (s.take 3 = [87, 70, 95])
      · cases decide (s.take 3 = [83, 70, 95])
        · exact Ev.bind (g_Contains_ev _ _ (by rw [resL_len]; omega)) (Ev.some' (by simp only [Bool.false_or]))
        · exact Ev.some
      · exact Ev.some
    · have hspec : rName s = (!(wfP s || decide (s ∈ resL)) && s.all chOk && s.any isLet) := by
        rw [resL_mem]
        unfold rName bName
        simp only [h1, and_self, decide_true, Bool.true_and]
        cases decide (s ∈ rsv) <;> cases isFx s <;> cases wfP s <;> cases s.all chOk <;> cases s.any isLet <;> rfl
      rw [hspec]
      cases (wfP s || decide (s ∈ resL))
      · simp only [cond_false, Bool.not_false, Bool.true_and]
        have hb : s.length ≤ 1099511627776 := by omega
        have key : ∀ m : Nat, m ≤ 0 → Ev (fun k => t_isName_b0 k (m : Int) (bytesI s) (s.length : Int) ((0 : Nat) : Int)) (if (s.drop 0).all chOk = true then .inl ((m + nLet (s.drop 0) : Nat) : Int) else .inr false) := by
          refine down0 (len := s.length) (p := fun i => ∀ m : Nat, m ≤ i → Ev (fun k => t_isName_b0 k (m : Int) (bytesI s) (s.length : Int) (i : Int)) (if (s.drop i).all chOk = true then .inl ((m + nLet (s.drop i) : Nat) : Int) else .inr false)) ?_ fun i hi ih m hm => ?_
          · intro m hm
            refine Ev.succ ?_
            simp only [t_isName_b0]
            exact Ev.cF (dnlt _) (Ev.some' (by simp only [List.drop_length, List.all_nil, if_true, nLet, List.countP_nil, Nat.add_zero]))
          · refine Ev.succ ?_
            have hp1 := t_isName_p1_eq s[i]
            simp only [t_spans_eq, Option.bind_some] at hp1
            simp only [t_isName_b0, Int.toNat_natCast, bytesI_get s hi, Option.bind_some, nn, if_true, dlt hi, cond_true, wsucc hi hb, t_spans_eq, wrapb]
            refine Ev.bind0 hp1 ?_
            have hcount : nLet (s.drop i) = (if isLet s[i] = true then 1 else 0) + nLet (s.drop (i + 1)) := by
              unfold nLet; rw [drop_cons hi, List.countP_cons, Nat.add_comm]
            rw [hcount]
            have hall : (s.drop i).all chOk = (chOk s[i] && (s.drop (i + 1)).all chOk) := by rw [drop_cons hi, List.all_cons]
            rw [hall]
            by_cases h2 : isLet s[i] = true
            · have hc : chOk s[i] = true := by unfold chOk; rw [h2]; rfl
              refine Ev.cT h2 ?_
              rw [wsucc (i := m) (n := i + 1) (by omega) (by omega)]
              refine (ih (m + 1) (by omega)).to ?_
              simp only [hc, h2, if_true, Bool.true_and, Nat.add_assoc]
            · have h2' : isLet s[i] = false := by simpa using h2
              refine Ev.cF h2' ?_
              simp only [h2', Bool.false_eq_true, if_false, Nat.zero_add]
              have e3 : ((48 : Int) ≤ (s[i].toNat : Int) ∧ (s[i].toNat : Int) ≤ 57) = (48 ≤ s[i].toNat ∧ s[i].toNat ≤ 57) := by rw [eq_iff_iff]; omega
              by_cases h3 : 48 ≤ s[i].toNat ∧ s[i].toNat ≤ 57
              · have hc : chOk s[i] = true := by unfold chOk isDig; simp [h3]
                refine Ev.cT (decide_eq_true (e3 ▸ h3)) ((ih m (by omega)).to ?_)
                simp only [hc, Bool.true_and]
              · refine Ev.cF (decide_eq_false (e3 ▸ h3)) ?_
                by_cases h4 : s[i].toNat = 95
                · have hc : chOk s[i] = true := by unfold chOk; simp [h4]
                  refine Ev.cF (by rw [h4]; rfl) ((ih m (by omega)).to ?_)
                  simp only [hc, Bool.true_and]
                · have hc : chOk s[i] = false := by unfold chOk isDig; rw [h2']; simp [h4]; omega
                  refine Ev.cT (by rw [bne_iff_ne]; omega) (Ev.some' ?_)
                  simp only [hc, Bool.false_and, Bool.false_eq_true, if_false]
        have key0 := key 0 (Nat.le_refl _)
        rw [List.drop_zero, Nat.zero_add] at key0
        simp only [bytesI_len]
        refine Ev.bind key0 ?_
        by_cases h3 : s.all chOk = true
        · simp only [h3, if_true, sum_L, Bool.true_and]; exact Ev.some' (nLet_any s)
        · simp only [h3, if_false, sum_R]; exact Ev.some' (by simp [h3])
      · exact Ev.some
  · have e1 : (decide ((1 : Int) ≤ (s.length : Int) ∧ (s.length : Int) ≤ 24)) = false := decide_eq_false (by omega)
    simp only [e1, Bool.not_false, cond_true, Option.bind_some]
    exact Ev.some' (by simp [rName, bName, h1])
theorem bang_index (s : Str) : (Lib.indexByte s 33 = -1 ∧ bang s = none) ∨ ∃ i : Nat, Lib.indexByte s 33 = (i : Int) ∧ i < s.length ∧ bang s = some (s.take i, s.drop (i + 1)) := by
  induction s with
  | nil => exact .inl ⟨rfl, rfl⟩
  | cons c l ih =>
    by_cases h : c = 33
    · subst h
      exact .inr ⟨0, rfl, by simp, by simp [bang]⟩
    · have hc : (c == 33) = false := beq_eq_false_iff_ne.2 h
      rcases ih with ⟨h1, h2⟩ | ⟨i, h1, h2, h3⟩
      · exact .inl ⟨by simp [Lib.indexByte, hc, h1], by simp [bang, h, h2]⟩
      · refine .inr ⟨i + 1, ?_, by simp; omega, by simp [bang, h, h3]⟩
        have : ((i : Int) == -1) = false := by rw [beq_eq_false_iff_ne]; omega
        simp [Lib.indexByte, hc, h1, this]
theorem rName_len {s : Str} (h : rName s = true) : s.length ≤ 24 := by
  unfold rName bName at h
  simp only [Bool.and_eq_true, decide_eq_true_eq] at h
  exact h.1.1.1.1.1.2
theorem t_isCalled_ev (s : Str) (hb : s.length ≤ 1000000) : Ev (fun k => t_isCalled k s) (rTerm s) := by
  unfold t_isCalled idx1
  by_cases hl : s.length ≤ 49
  · refine Ev.cF (decide_eq_false (by omega)) ?_
    unfold rTerm
    rcases bang_index s with ⟨h1, h2⟩ | ⟨i, h1, h2, h3⟩
    · simp only [h1, h2, Option.bind_some]
      refine Ev.cF (by decide) (Ev.bind (t_isName_ev s) ?_)
      cases rName s <;> exact Ev.some
    · simp only [h1, h3, Option.bind_some]
      refine Ev.cT (decide_eq_true (by omega)) (Ev.ifp ⟨by omega, by omega⟩ ?_)
      rw [wsucc h2 (by omega)]
      refine Ev.ifp ⟨by omega, by omega⟩ (Ev.bind (t_isName_ev _) ?_)
      simp only [Int.toNat_natCast]
      cases rName (s.take i)
      · exact Ev.some
      · simp only [cond_true, Bool.true_and]; exact Ev.bind (t_isName_ev _) Ev.some
  · refine Ev.cT (decide_eq_true (by omega)) (Ev.some' ?_)
    unfold rTerm
    rcases bang_index s with ⟨h1, h2⟩ | ⟨i, h1, h2, h3⟩
    · simp only [h2]
      cases h : rName s
      · rfl
      · exact absurd (rName_len h) (by omega)
    · simp only [h3]
      cases h : rName (s.take i)
      · rfl
      · cases h' : rName (s.drop (i + 1))
        · rfl
        · have a := rName_len h
          have b := rName_len h'
          rw [List.length_take] at a
          rw [List.length_drop] at b
          omega
theorem t_isText_eq (s : Str) : t_isText s = some (plainB s) := by
  unfold t_isText plainB
  have h : (!odds s) = s.all plainC := by
    unfold odds
    induction s with
    | nil => rfl
    | cons c l ih =>
      rw [List.any_cons, List.all_cons, Bool.not_or, ih]
      congr 1
      unfold oddR plainC
      generalize c.toNat = n
      by_cases h1 : 32 ≤ n <;> by_cases h2 : n ≤ 126 <;> by_cases h3 : n = 34 <;> by_cases h4 : n = 92 <;> simp [h1, h2, h3, h4]
  rw [h]
  by_cases hl : s.length ≤ 40
  · have : (s.length : Int) ≤ 40 := by omega
    simp [hl, this]
  · have : ¬ (s.length : Int) ≤ 40 := by omega
    simp [hl, this]
theorem opIn_none {l : List Operator} {t : Str} (h : ¬ t ∈ l.map (·.text)) : opIn l t = (opNone, false) := by
  induction l with
  | nil => rfl
  | cons o l ih =>
    simp only [List.map_cons, List.mem_cons, not_or] at h
    rw [opIn, if_neg (fun e => h.1 e.symm), ih h.2]
theorem opLR (t : Str) : opIn tabL t = opIn tabR t := by
  have h1 : ((tabL.map (·.text)).all fun t => decide (opIn tabL t = opIn tabR t)) = true := by kernel_rfl
  have h2 : ((tabR.map (·.text)).all fun t => decide (t ∈ tabL.map (·.text))) = true := by kernel_rfl
  by_cases h : t ∈ tabL.map (·.text)
  · exact of_decide_eq_true (List.all_eq_true.1 h1 t h)
  · rw [opIn_none h, opIn_none (fun h' => h (of_decide_eq_true (List.all_eq_true.1 h2 t h')))]
theorem tabL_len : tabL.length = 42 := by kernel_rfl
theorem t_operatorOf_ev (t : Str) : Ev (fun k => t_operatorOf k t) (opIn tabR t) := by
  rw [← opLR]
  have hl : tabL.length ≤ 1099511627776 := by rw [tabL_len]; omega
  have key : ∃ o : Unit ⊕ Int, Ev (fun k => g_IndexFunc_api_Operator_api_Operator_at112_b0 k tabL t (tabL.length : Int) ((0 : Nat) : Int)) o ∧ ((o = .inl () ∧ opIn (tabL.drop 0) t = (opNone, false)) ∨ ∃ (j : Nat) (x : Operator), o = .inr (j : Int) ∧ tabL[j]? = some x ∧ opIn (tabL.drop 0) t = (x, true)) := by
    refine down0 (len := tabL.length) (p := fun i => ∃ o : Unit ⊕ Int, Ev (fun k => g_IndexFunc_api_Operator_api_Operator_at112_b0 k tabL t (tabL.length : Int) (i : Int)) o ∧ ((o = .inl () ∧ opIn (tabL.drop i) t = (opNone, false)) ∨ ∃ (j : Nat) (x : Operator), o = .inr (j : Int) ∧ tabL[j]? = some x ∧ opIn (tabL.drop i) t = (x, true))) ?_ fun i hi ⟨o, ih, ho⟩ => ?_
    · refine ⟨.inl (), Ev.succ ?_, .inl ⟨rfl, by simp [opIn]⟩⟩
      simp only [g_IndexFunc_api_Operator_api_Operator_at112_b0]
      exact Ev.cF (dnlt _) Ev.some
    · by_cases h : tabL[i].text = t
      · refine ⟨.inr (i : Int), Ev.succ ?_, .inr ⟨i, tabL[i], rfl, getE hi, by rw [drop_cons hi, opIn, if_pos h]⟩⟩
        simp only [g_IndexFunc_api_Operator_api_Operator_at112_b0, t_operatorOf_1, Int.toNat_natCast, getE hi, Option.bind_some, nn, if_true, dlt hi, cond_true, wsucc hi hl]
        exact Ev.cT (by rw [beq_iff_eq]; exact h) Ev.some
      · refine ⟨o, Ev.succ ?_, by rw [drop_cons hi, opIn, if_neg h]; exact ho⟩
        simp only [g_IndexFunc_api_Operator_api_Operator_at112_b0, t_operatorOf_1, Int.toNat_natCast, getE hi, Option.bind_some, nn, if_true, dlt hi, cond_true, wsucc hi hl]
        exact Ev.cF (by rw [beq_eq_false_iff_ne]; exact h) ih
  obtain ⟨o, h1, h2⟩ := key
  rw [List.drop_zero] at h2
  unfold t_operatorOf g_IndexFunc_api_Operator_api_Operator_at112
  rcases h2 with ⟨rfl, h2⟩ | ⟨j, x, rfl, h3, h2⟩
  · refine Ev.bind (x := -1) (Ev.bind h1 Ev.some) ?_
    rw [h2]
    exact Ev.cT (by decide) Ev.some
  · refine Ev.bind (x := (j : Int)) (Ev.bind h1 Ev.some) ?_
    rw [h2]
    simp only [Int.toNat_natCast, h3, Option.bind_some, nn, if_true]
    exact Ev.cF (decide_eq_false (by omega)) Ev.some
end Go.VL
end
section
namespace Go.VL
def orL : List Int → Int
  | [] => 0
  | a :: l => if a = 0 then orL l else a
theorem g_Or_ev (l : List Int) (hl : l.length ≤ 1099511627776) : Ev (fun k => g_Or_api_Errno k l) (orL l) := by
  have key : Ev (fun k => g_Or_api_Errno_b0 k l (l.length : Int) ((0 : Nat) : Int)) (if orL (l.drop 0) = 0 then .inl () else .inr (orL (l.drop 0))) := by
    refine down0 (len := l.length) (p := fun i => Ev (fun k => g_Or_api_Errno_b0 k l (l.length : Int) (i : Int)) (if orL (l.drop i) = 0 then .inl () else .inr (orL (l.drop i)))) ?_ fun i hi ih => ?_
    · refine Ev.succ ?_
      simp only [g_Or_api_Errno_b0]
      exact Ev.cF (dnlt _) (Ev.some' (by simp [orL]))
    · refine Ev.succ ?_
      simp only [g_Or_api_Errno_b0, Int.toNat_natCast, getE hi, Option.bind_some, nn, if_true, dlt hi, cond_true, wsucc hi hl]
      rw [drop_cons hi, orL]
      by_cases h : l[i] = 0
      · refine Ev.cF (by rw [h]; rfl) (ih.to ?_)
        simp only [h, if_true]
      · refine Ev.cT (by rw [bne_iff_ne]; exact h) (Ev.some' ?_)
        simp only [h, if_false]
  unfold g_Or_api_Errno
  refine Ev.bind key ?_
  rw [List.drop_zero]
  by_cases h : orL l = 0
  · simp only [h, if_true, sum_L]; exact Ev.some
  · simp only [h, if_false, sum_R]; exact Ev.some
theorem t_anyBad_ev (l : List Str) (hl : l.length ≤ 1099511627776) : Ev (fun k => g_ContainsFunc_string_string_at145 k l) (!l.all rName) := by
  have key : ∃ o : Unit ⊕ Int, Ev (fun k => g_IndexFunc_string_string_at145_b0 k l (l.length : Int) ((0 : Nat) : Int)) o ∧ ((o = .inl () ∧ (l.drop 0).all rName = true) ∨ (∃ j : Nat, o = .inr (j : Int)) ∧ (l.drop 0).all rName = false) := by
    refine down0 (len := l.length) (p := fun i => ∃ o : Unit ⊕ Int, Ev (fun k => g_IndexFunc_string_string_at145_b0 k l (l.length : Int) (i : Int)) o ∧ ((o = .inl () ∧ (l.drop i).all rName = true) ∨ (∃ j : Nat, o = .inr (j : Int)) ∧ (l.drop i).all rName = false)) ?_ fun i hi ⟨o, ih, ho⟩ => ?_
    · refine ⟨.inl (), Ev.succ ?_, .inl ⟨rfl, by simp⟩⟩
      simp only [g_IndexFunc_string_string_at145_b0]
      exact Ev.cF (dnlt _) Ev.some
    · have hn : Ev (fun k => t_namesErr_1 k l[i]) (!rName l[i]) := by unfold t_namesErr_1; exact Ev.bind (t_isName_ev _) Ev.some
      by_cases h : rName l[i] = true
      · refine ⟨o, Ev.succ ?_, by rw [drop_cons hi, List.all_cons, h, Bool.true_and]; exact ho⟩
        simp only [g_IndexFunc_string_string_at145_b0, Int.toNat_natCast, getE hi, Option.bind_some, nn, if_true, dlt hi, cond_true, wsucc hi hl]
        exact Ev.bind hn (Ev.cF (by rw [h]; rfl) ih)
      · have h : rName l[i] = false := by simpa using h
        refine ⟨.inr (i : Int), Ev.succ ?_, .inr ⟨⟨i, rfl⟩, by rw [drop_cons hi, List.all_cons, h, Bool.false_and]⟩⟩
        simp only [g_IndexFunc_string_string_at145_b0, Int.toNat_natCast, getE hi, Option.bind_some, nn, if_true, dlt hi, cond_true, wsucc hi hl]
        exact Ev.bind hn (Ev.cT (by rw [h]; rfl) Ev.some)
  obtain ⟨o, h1, h2⟩ := key
  rw [List.drop_zero] at h2
  unfold g_ContainsFunc_string_string_at145
  rcases h2 with ⟨rfl, h2⟩ | ⟨⟨j, rfl⟩, h2⟩
  · refine Ev.bind (x := -1) (by unfold g_IndexFunc_string_string_at145; exact Ev.bind h1 Ev.some) (Ev.some' ?_)
    rw [h2]; rfl
  · refine Ev.bind (x := (j : Int)) (by unfold g_IndexFunc_string_string_at145; exact Ev.bind h1 Ev.some) (Ev.some' ?_)
    rw [h2]; simp
theorem t_dup_ev (a b : Int) (c : Str) (l : List Str) (d : List Int) (hl : l.length ≤ 1099511627776) : Ev (fun k => t_namesErr_b0 k a b c l d false l (l.length : Int) 0) (dupB [] l) := by
  have key : ∀ x : Bool, Ev (fun k => t_namesErr_b0 k a b c l d x l (l.length : Int) ((0 : Nat) : Int)) (x || dupB (l.take 0) (l.drop 0)) := by
    refine down0 (len := l.length) (p := fun i => ∀ x : Bool, Ev (fun k => t_namesErr_b0 k a b c l d x l (l.length : Int) (i : Int)) (x || dupB (l.take i) (l.drop i))) (fun x => ?_) fun i hi ih x => ?_
    · refine Ev.succ ?_
      simp only [t_namesErr_b0]
      exact Ev.cF (dnlt _) (Ev.some' (by simp [dupB]))
    · refine Ev.succ ?_
      have h2 : i ≤ l.length := by omega
      simp only [t_namesErr_b0, Int.toNat_natCast, getE hi, Option.bind_some, nn, if_true, dlt hi, cond_true, wsucc hi hl, true_and, h2]
      rw [drop_cons hi, dupB, ← List.take_succ_eq_append_getElem hi]
      cases x
      · refine Ev.cF rfl (Ev.bind (g_Contains_ev _ _ (by rw [List.length_take]; omega)) ?_)
        simp only [Bool.false_or]
        exact ih _
      · exact Ev.cT rfl ((ih true).to (by simp))
  exact key false
def badT (n : Nd) : Bool := !(n.names.all rName) || (decide (n.kind = 2) && !isFx n.text && !rTerm n.text) || (decide (n.kind = 3) && !(opIn tabR n.text).2 && !rTerm n.text) || (decide (n.kind = 18) && !rName n.text)
def arT (n : Nd) : Bool := decide (n.kind = 3) && (opIn tabR n.text).2 && !inB (n.args.length : Int) (opIn tabR n.text).1.least (opIn tabR n.text).1.most
def namesT (n : Nd) : Int := if badT n = true then 7 else if arT n = true then 17 else if dupB [] n.names = true then 12 else 0
theorem t_namesErr_ev (n : Nd) (h1 : n.text.length ≤ 1000000) (h2 : n.names.length ≤ 1000000) : Ev (fun k => t_namesErr k n) (namesT n) := by
  unfold t_namesErr
  refine Ev.bind (t_anyBad_ev _ (by omega)) (Ev.bind (t_operatorOf_ev _) (Ev.bind (x := (badT n, arT n)) ?_ ?_))
  · unfold t_namesErr_j4 badT arT inB
    by_cases a : n.kind = 2
    · simp only [a]
      refine Ev.cT rfl (Ev.bind (x := !(n.names.all rName) || (!isFx n.text && !rTerm n.text)) ?_ (Ev.some' (by simp)))
      unfold t_namesErr_p0
      cases n.names.all rName
      · exact Ev.some
      · refine Ev.cF rfl ?_
        simp only [t_isFixed_eq, Option.bind_some]
        cases isFx n.text
        · exact Ev.bind (t_isCalled_ev _ h1) (Ev.some' (by simp))
        · exact Ev.some
    by_cases b : n.kind = 3
    · simp only [b]
      refine Ev.cF rfl (Ev.cT rfl (Ev.bind (x := !(n.names.all rName) || (!(opIn tabR n.text).2 && !rTerm n.text)) ?_ ?_))
      · unfold t_namesErr_p1
        cases n.names.all rName
        · exact Ev.some
        · refine Ev.cF rfl ?_
          cases (opIn tabR n.text).2
          · exact Ev.bind (t_isCalled_ev _ h1) (Ev.some' (by simp))
          · exact Ev.some
      · unfold t_namesErr_p2
        simp only [t_spans_eq, Option.bind_some]
        cases (opIn tabR n.text).2
        · exact Ev.some' (by simp)
        · exact Ev.some' (by simp)
    by_cases c : n.kind = 18
    · simp only [c]
      refine Ev.cF rfl (Ev.cF rfl (Ev.cT rfl (Ev.bind (x := !(n.names.all rName) || !rName n.text) ?_ (Ev.some' (by simp)))))
      unfold t_namesErr_p3
      cases n.names.all rName
      · exact Ev.some
      · exact Ev.cF rfl (Ev.bind (t_isName_ev _) (Ev.some' (by simp)))
    · refine Ev.cF (beq_eq_false_iff_ne.2 a) (Ev.cF (beq_eq_false_iff_ne.2 b) (Ev.cF (beq_eq_false_iff_ne.2 c) (Ev.some' ?_)))
      simp [a, b, c]
  · refine Ev.bind (t_dup_ev _ _ _ n.names _ (by omega)) ?_
    simp only [t_wrong_eq, Option.bind_some]
    refine Ev.bind (g_Or_ev _ (by simp)) (Ev.some' ?_)
    unfold namesT
    cases badT n <;> cases arT n <;> cases dupB [] n.names <;> rfl
def shT (n : Nd) : Shape :=
  if n.kind = 0 then Shape.mk (0, 0) (0, 0) false true else
  if n.kind = 1 ∨ n.kind = 2 then Shape.mk (0, 0) (0, 0) true false else
  if n.kind = 3 then (if (opIn tabR n.text).2 = true then Shape.mk (0, 0) ((n.args.length : Int), (n.args.length : Int)) true false else Shape.mk (0, 0) (1, 4) true false) else
  if n.kind = 4 ∨ n.kind = 5 then Shape.mk (0, 0) (0, 30) false false else
  if n.kind = 6 ∨ n.kind = 12 then Shape.mk (1, 1) (2, 2) false false else
  if n.kind = 7 ∨ n.kind = 8 ∨ n.kind = 9 ∨ n.kind = 13 then Shape.mk (1, 4) ((n.names.length : Int) + 1, (n.names.length : Int) + 1) false false else
  if n.kind = 10 ∨ n.kind = 11 then Shape.mk (1, 4) (1, 1) false false else
  if n.kind = 14 then Shape.mk (0, 0) (2, 5) false false else
  if n.kind = 16 ∨ n.kind = 17 then Shape.mk (1, 30) ((n.names.length : Int), (n.names.length : Int)) false false else
  if n.kind = 18 then Shape.mk (0, 0) (1, 1) true false else
  if n.kind = 19 ∨ n.kind = 21 then Shape.mk (0, 0) (3, 3) false false else
  if n.kind = 20 then Shape.mk (0, 0) (0, 0) false false else
  if n.kind = 22 then Shape.mk (0, 0) (2, 30) false false else
  if n.kind = 23 then Shape.mk (1, 5) (2, 2) false true else
  if n.kind = 24 then Shape.mk (1, 4) (1, 1) false false else Shape.mk (0, 0) (2, 2) false false
theorem kinds {k : Int} (h : inB k 0 28 = true) : k = 0 ∨ k = 1 ∨ k = 2 ∨ k = 3 ∨ k = 4 ∨ k = 5 ∨ k = 6 ∨ k = 7 ∨ k = 8 ∨ k = 9 ∨ k = 10 ∨ k = 11 ∨ k = 12 ∨ k = 13 ∨ k = 14 ∨ k = 15 ∨ k = 16 ∨ k = 17 ∨ k = 18 ∨ k = 19 ∨ k = 20 ∨ k = 21 ∨ k = 22 ∨ k = 23 ∨ k = 24 ∨ k = 25 ∨ k = 26 ∨ k = 27 ∨ k = 28 := by
  unfold inB at h
  rw [decide_eq_true_eq] at h
  omega
theorem t_shapeOf_ev (n : Nd) (hk : inB n.kind 0 28 = true) (h2 : n.names.length ≤ 1000000) : Ev (fun k => t_shapeOf k n) (shT n) := by
  have hw : IntKind.wrap .i64 ((n.names.length : Int) + 1) = (n.names.length : Int) + 1 := wrap64 (by omega) (by omega)
  rcases kinds hk with h | h | h | h | h | h | h | h | h | h | h | h | h | h | h | h | h | h | h | h | h | h | h | h | h | h | h | h | h
  case' inr.inr.inr.inl =>
    unfold t_shapeOf t_shapeOf_j0 shT
    simp only [h]
    refine Ev.cF rfl ?_
    refine Ev.cg (Ev.bind (t_operatorOf_ev n.text) (g := fun k (p18 : Operator × Bool) => cond p18.2 (some (Shape.mk (0, 0) ((n.args.length : Int), (n.args.length : Int)) true false)) (some (Shape.mk (0, 0) (1, 4) true false))) ?_) (fun k => rfl)
    cases (opIn tabR n.text).2 <;> exact Ev.some
  all_goals
    unfold t_shapeOf t_shapeOf_j0 t_shapeOf_j1 t_shapeOf_j2 t_shapeOf_j3 t_shapeOf_j4 t_shapeOf_j5 t_shapeOf_j6 t_shapeOf_1 shT
    simp only [h, hw]
    exact Ev.some
end Go.VL
end
section
namespace Go.VL
theorem shT_ok (n : Nd) (hk : inB n.kind 0 28 = true) : (inB (n.names.length : Int) (shT n).names.1 (shT n).names.2 && inB (n.args.length : Int) (shT n).operands.1 (shT n).operands.2) = shapeOk n := by
  have d {a b : Int} (P : Prop) [Decidable P] (h : a = b) (x y : Int) : inB a x y = inB b x y := by rw [h]
  rcases kinds hk with h | h | h | h | h | h | h | h | h | h | h | h | h | h | h | h | h | h | h | h | h | h | h | h | h | h | h | h | h
  case' inr.inr.inr.inl =>
    unfold shT shapeOk
    simp only [h]
    cases (opIn tabR n.text).2
    · show (inB _ 0 0 && inB _ 1 4) = (inB _ 0 0 && inB _ 1 4)
      simp [rShape, r_shape, r_shape_j0]
    · show (inB _ 0 0 && inB _ _ _) = (inB _ 0 0 && inB _ 0 _)
      unfold inB
      simp [rShape, r_shape, r_shape_j0]
  all_goals
    unfold shT shapeOk
    simp only [h]
    unfold inB
    rw [Bool.eq_iff_iff]
    simp [rShape, r_shape, r_shape_j0, r_shape_j1, r_shape_j2, r_shape_j3, r_shape_j4, r_shape_j5, r_shape_j6]
    try omega
def clT (n : Nd) : Bool := ((shT n).text || decide (n.text = [])) && ((shT n).number || decide (n.n = 0)) && (!decide (n.kind = 1) || plainB n.text) && (!decide (n.kind = 23) || inB n.n 0 1)
theorem clT_eq (n : Nd) (hk : inB n.kind 0 28 = true) : clT n = cleanB n := by
  rcases kinds hk with h | h | h | h | h | h | h | h | h | h | h | h | h | h | h | h | h | h | h | h | h | h | h | h | h | h | h | h | h
  case' inr.inr.inr.inl =>
    unfold clT cleanB shT
    simp only [h]
    cases (opIn tabR n.text).2 <;> simp
  all_goals
    unfold clT cleanB shT
    simp only [h]
    simp [and_comm]
theorem namesT_eq (n : Nd) : namesT n = if nameErr n ≠ 0 then nameErr n else if dupB [] n.names = true then 12 else 0 := by
  unfold namesT badT arT nameErr
  cases n.names.all rName
  · simp
  by_cases a : n.kind = 2
  · simp only [a]
    cases isFx n.text <;> cases rTerm n.text <;> simp
  by_cases b : n.kind = 3
  · simp only [b]
    cases (opIn tabR n.text).2 <;> cases rTerm n.text <;> cases inB (n.args.length : Int) (opIn tabR n.text).1.least (opIn tabR n.text).1.most <;> simp
  by_cases c : n.kind = 18
  · simp only [c]
    cases rName n.text <;> simp
  · simp [a, b, c]
theorem t_r1 {e : List Nd} {i : Nat} {acc : List Int} (h : OkTo e i acc) (hi : i ≤ 1000000) (l : List Int) : ∀ (m : Nat), m ≤ l.length → ∀ nx : Nat, nx ≤ i → ∀ tg : Bool,
    ∃ z, t_nodeErr_r1 m acc ((nx : Int) - 1) tg l = some (if plB acc nx (l.take m).reverse = true then .inr (z, tg) else .inl (z, false)) := by
  intro m
  induction m with
  | zero => intro _ nx _ tg; exact ⟨(nx : Int) - 1, by simp [t_nodeErr_r1, plB]⟩
  | succ m ih =>
    intro hm nx hnx tg
    have hm' : m < l.length := by omega
    rw [t_nodeErr_r1, getE hm', Option.bind_some, take_rev hm', plB]
    by_cases h1 : l[m] = (nx : Int) - 1
    · rw [cond_F (by rw [h1]; simp)]
      by_cases h2 : nx < 1
      · refine ⟨(nx : Int) - 1, ?_⟩
        rw [cond_T (decide_eq_true (by omega))]
        have : ¬ (1 : Int) ≤ nx := by omega
        simp [this]
      · obtain ⟨j, rfl⟩ : ∃ j, nx = j + 1 := ⟨nx - 1, by omega⟩
        have e2 : (((j + 1 : Nat) : Int) - 1) = (j : Int) := by omega
        rw [e2] at h1 ⊢
        obtain ⟨n', b, h3, h4, h5, h6, _⟩ := h.at_ j (by omega)
        obtain ⟨b, rfl⟩ : ∃ b' : Nat, b = b' := ⟨b.toNat, by omega⟩
        obtain ⟨z, hz⟩ := ih (by omega) b (by omega) tg
        refine ⟨z, ?_⟩
        rw [cond_F (decide_eq_false (by omega)), if_pos (by omega), Int.toNat_natCast, h4, Option.bind_some, wrap64 (by omega) (by omega), hz]
        have e3 : (1 : Int) ≤ ((j + 1 : Nat) : Int) := by omega
        simp only [h1, e3, decide_true, Bool.true_and, Option.getD_some]
    · refine ⟨(nx : Int) - 1, ?_⟩
      rw [cond_T (by rw [bne_iff_ne]; exact h1)]
      simp [h1]
theorem t_nodeErr_ev {e : List Nd} {i : Nat} {acc : List Int} (h : OkTo e i acc) (hi : i ≤ 1000000) {n : Nd} (hn : e[i]? = some n) (h1 : n.text.length ≤ 1000000) (h2 : n.names.length ≤ 1000000) (h3 : n.args.length ≤ 1000000) :
    Ev (fun k => t_nodeErr k e (i : Int) acc) (nodeSpec (plB acc i n.args.reverse) n) := by
  unfold t_nodeErr
  simp only [Int.toNat_natCast, hn, Option.bind_some, nn, if_true, t_spans_eq, t_wrong_eq]
  unfold nodeSpec
  by_cases hk : inB n.kind 0 28 = true
  case neg => exact Ev.to (Ev.cF (by simpa [inB] using hk) Ev.some) (if_pos (by simpa using hk)).symm
  refine Ev.to ?_ (if_neg (by simp [hk])).symm
  refine Ev.cT hk (Ev.bind (t_shapeOf_ev n hk h2) (Ev.bind0 (x := !shapeOk n) ?_ ?_))
  · rw [← shT_ok n hk]
    unfold t_nodeErr_p0 inB
    simp only [t_spans_eq, Option.bind_some]
    cases decide ((shT n).names.1 ≤ (n.names.length : Int) ∧ (n.names.length : Int) ≤ (shT n).names.2)
    · rfl
    · rfl
  cases hs : shapeOk n
  · exact Ev.some
  simp only [Bool.not_true, cond_false, Bool.true_eq_false, if_false]
  obtain ⟨z, hz⟩ := t_r1 h hi n.args n.args.length (Nat.le_refl _) i (Nat.le_refl _) true
  rw [List.take_length] at hz
  generalize plB acc (i : Int) n.args.reverse = pl at hz ⊢
  have hj : t_nodeErr_j2 acc n.kind n.n n.text n.names n.args (IntKind.wrap .i64 ((i : Int) - 1)) true = some (z, pl) := by
    unfold t_nodeErr_j2
    rw [if_pos (by omega), wrap64 (by omega) (by omega), hz]
    cases pl <;> rfl
  refine Ev.bind0 hj (Ev.bind0 (x := cleanB n) ?_ ?_)
  · rw [← clT_eq n hk]
    unfold t_nodeErr_p3 clT inB
    simp only [t_isText_eq, t_spans_eq, Option.bind_some, beq_str, bne]
    have e1 : ((n.n == 0) : Bool) = decide (n.n = 0) := by by_cases h : n.n = 0 <;> simp [h]
    have e2 : ((n.kind == 1) : Bool) = decide (n.kind = 1) := by by_cases h : n.kind = 1 <;> simp [h]
    have e3 : ((n.kind == 23) : Bool) = decide (n.kind = 23) := by by_cases h : n.kind = 23 <;> simp [h]
    simp only [e1, e2, e3]
    cases (shT n).text <;> cases (shT n).number <;> cases decide (n.text = []) <;> cases decide (n.n = 0) <;> cases decide (n.kind = 1) <;> cases plainB n.text <;> cases decide (n.kind = 23) <;> rfl
  have fin : Ev (fun k => Option.bind (t_namesErr k n) fun p => Option.bind (g_Or_api_Errno k [if (!(pl && cleanB n)) = true then 5 else 0, if (!decide (n.kind = 23) && !inB n.n 0 10000) = true then 3 else 0, p]) fun q => some q) (orL [if (!(pl && cleanB n)) = true then 5 else 0, if (!decide (n.kind = 23) && !inB n.n 0 10000) = true then 3 else 0, namesT n]) :=
    Ev.bind (t_namesErr_ev n h1 h2) (Ev.bind (g_Or_ev _ (by simp)) Ev.some)
  have hval : orL [if (!(pl && cleanB n)) = true then 5 else 0, if (!decide (n.kind = 23) && !inB n.n 0 10000) = true then 3 else 0, namesT n] =
      if (pl && cleanB n) = false then 5 else if (decide (n.kind = 0) && !inB n.n 0 10000) = true then 3 else if nameErr n ≠ 0 then nameErr n else if dupB [] n.names = true then 12 else 0 := by
    rw [← namesT_eq]
    cases hpc : (pl && cleanB n)
    · rfl
    · have hcl : cleanB n = true := by revert hpc; cases pl <;> simp
      have hrg : (!decide (n.kind = 23) && !inB n.n 0 10000) = (decide (n.kind = 0) && !inB n.n 0 10000) := by
        unfold cleanB at hcl
        simp only [Bool.and_eq_true] at hcl
        have hx := hcl.1.1.2
        by_cases a : n.kind = 0
        · simp [a]
        by_cases b : n.kind = 23
        · simp [b]
        have hx : n.n = 0 := by simpa [a, b] using hx
        simp [a, b, hx, inB]
      simp only [Bool.not_true, Bool.false_eq_true, if_false, Bool.true_eq_false, orL, if_true, hrg]
      cases (decide (n.kind = 0) && !inB n.n 0 10000)
      · simp only [Bool.false_eq_true, if_false, if_true]
        split
        · rename_i h; exact h.symm
        · rfl
      · rfl
  rw [← hval]
  refine Ev.cg fin fun k => ?_
  cases pl
  · simp only [cond_false]
    by_cases hl : n.kind = 23
    · simp only [hl]; rfl
    · rw [cond_F (beq_eq_false_iff_ne.2 hl)]
      simp only [hl, decide_false, Bool.not_false, Bool.true_and, Bool.false_and]; rfl
  · simp only [cond_true]
    by_cases hl : n.kind = 23
    · simp only [hl]; rfl
    · rw [cond_F (beq_eq_false_iff_ne.2 hl)]
      simp only [hl, decide_false, Bool.not_false, Bool.true_and]; rfl
theorem t_CheckExpr_b0_ev {e : List Nd} (hL : Lite e) : ∀ i, i ≤ e.length → ∀ acc, OkTo e i acc → Ev (fun k => t_CheckExpr_b0 k e acc (e.length : Int) (i : Int)) (scanN acc (e.drop i)) := by
  have hlen := hL.len
  refine down (fun acc h => ?_) (fun i hi ih acc h => ?_)
  · refine Ev.succ ?_
    simp only [t_CheckExpr_b0]
    exact Ev.cF (dnlt _) (Ev.some' (by simp [scanN]))
  · refine Ev.succ ?_
    obtain ⟨h1, h2, h3⟩ := hL.nd i _ (getE hi)
    simp only [t_CheckExpr_b0]
    refine Ev.cT (dlt hi) (Ev.bind (t_nodeErr_ev h (by omega) (getE hi) h1 h2 h3) ?_)
    rw [drop_cons hi, scanN, h.len]
    by_cases hc : nodeSpec (plB acc i e[i].args.reverse) e[i] = 0
    · refine Ev.cF (by rw [hc]; rfl) ?_
      have hlen2 := h.len
      have hp := nodeSpec_pl hc
      have hok := h.succ (getE hi) hp
      refine Ev.ifp (by omega) (Ev.bind0 (x := bgOf acc e[i]) ?_ (Ev.ifp (nn i) (Ev.bind0 (x := 0) ?_ ?_)))
      · unfold t_begin bgOf
        simp only [Int.toNat_natCast, getE hi, Option.bind_some, nn, if_true]
        cases hargs : e[i].args with
        | nil => simp [hlen2]
        | cons a l =>
          have ha := plB_mem h _ i (Nat.le_refl _) hp a (by rw [hargs]; simp)
          obtain ⟨n', b, h4, h5, _⟩ := h.at_ a.toNat (by omega)
          rw [cond_F (by rw [beq_eq_false_iff_ne, List.length_cons]; omega), List.getElem?_cons_zero, Option.bind_some, if_pos ha.1, List.getElem?_append_left (by omega), h5]
          simp only [h5, Option.getD_some, Option.bind_some]
      · rw [Int.toNat_natCast, List.getElem?_append_right (by omega), hlen2, Nat.sub_self]; rfl
      · have e1 : (acc ++ [0]).set ((i : Int).toNat) (bgOf acc e[i]) = acc ++ [bgOf acc e[i]] := by
          rw [Int.toNat_natCast, List.set_append_right _ _ (by omega), hlen2, Nat.sub_self]; rfl
        rw [e1, wsucc hi (by omega)]
        refine (ih _ hok).to ?_
        simp only [hc, ne_eq, not_true_eq_false, if_false]
    · refine Ev.cT (by rw [bne_iff_ne]; exact hc) (Ev.some' ?_)
      simp only [ne_eq, hc, not_false_eq_true, if_true]
end Go.VL
end
section
namespace Go.VL
inductive Tm where
  | mk (x : Nd) (cs : List Tm)
namespace Tm
mutual
def size : Tm → Nat
  | .mk _ cs => sizes cs + 1
def sizes : List Tm → Nat
  | [] => 0
  | c :: cs => size c + sizes cs
end
def roots : Nat → List Tm → List Int
  | _, [] => []
  | b, c :: cs => ((b + c.size - 1 : Nat) : Int) :: roots (b + c.size) cs
def nd (x : Nd) (b : Nat) (cs : List Tm) : Nd := { x with args := roots b cs }
mutual
def flat (b : Nat) : Tm → List Nd
  | .mk x cs => flats b cs ++ [nd x b cs]
def flats (b : Nat) : List Tm → List Nd
  | [] => []
  | c :: cs => flat b c ++ flats (b + c.size) cs
end
theorem flat_mk {b : Nat} {x : Nd} {cs : List Tm} : flat b (.mk x cs) = flats b cs ++ [nd x b cs] := by rw [flat]
theorem flats_cons {b : Nat} {c : Tm} {cs : List Tm} : flats b (c :: cs) = flat b c ++ flats (b + c.size) cs := by rw [flats]
theorem size_pos : ∀ t : Tm, 0 < t.size
  | .mk x cs => by unfold size; omega
mutual
theorem flat_len (b : Nat) : ∀ t : Tm, (flat b t).length = t.size
  | .mk x cs => by unfold flat size; rw [List.length_append, flats_len b cs]; rfl
theorem flats_len (b : Nat) : ∀ cs : List Tm, (flats b cs).length = sizes cs
  | [] => rfl
  | c :: cs => by unfold flats sizes; rw [List.length_append, flat_len b c, flats_len (b + c.size) cs]
end
theorem roots_len : ∀ (b : Nat) (cs : List Tm), (roots b cs).length = cs.length
  | _, [] => rfl
  | b, c :: cs => by unfold roots; rw [List.length_cons, List.length_cons, roots_len (b + c.size) cs]
theorem sizes_append : ∀ a b : List Tm, sizes (a ++ b) = sizes a + sizes b
  | [], b => by simp [sizes]
  | c :: a, b => by simp only [List.cons_append, sizes, sizes_append a b]; omega
theorem flats_append : ∀ (b : Nat) (l m : List Tm), flats b (l ++ m) = flats b l ++ flats (b + sizes l) m
  | b, [], m => by simp [flats, sizes]
  | b, c :: l, m => by simp only [List.cons_append, flats, sizes, flats_append (b + c.size) l m, List.append_assoc, Nat.add_assoc]
theorem roots_append : ∀ (b : Nat) (l m : List Tm), roots b (l ++ m) = roots b l ++ roots (b + sizes l) m
  | b, [], m => by simp [roots, sizes]
  | b, c :: l, m => by simp only [List.cons_append, roots, sizes, roots_append (b + c.size) l m, Nat.add_assoc]
theorem roots_get {b : Nat} {l m : List Tm} {c : Tm} : (roots b (l ++ c :: m))[l.length]? = some (((b + sizes l + c.size - 1 : Nat) : Int)) := by
  rw [roots_append, List.getElem?_append_right (by rw [roots_len]; exact Nat.le_refl _), roots_len, Nat.sub_self]
  rfl
end Tm
end Go.VL
end
section
namespace Go.VL
namespace Tm
mutual
def bgT (b : Nat) : Tm → List Int
  | .mk _ cs => bgTs b cs ++ [(b : Int)]
def bgTs (b : Nat) : List Tm → List Int
  | [] => []
  | c :: cs => bgT b c ++ bgTs (b + c.size) cs
end
theorem bgT_mk {b : Nat} {x : Nd} {cs : List Tm} : bgT b (.mk x cs) = bgTs b cs ++ [(b : Int)] := by rw [bgT]
mutual
theorem bgT_len (b : Nat) : ∀ t : Tm, (bgT b t).length = t.size
  | .mk x cs => by rw [bgT_mk]; unfold size; rw [List.length_append, bgTs_len b cs]; rfl
theorem bgTs_len (b : Nat) : ∀ cs : List Tm, (bgTs b cs).length = sizes cs
  | [] => rfl
  | c :: cs => by unfold bgTs sizes; rw [List.length_append, bgT_len b c, bgTs_len (b + c.size) cs]
end
theorem bgTs_append : ∀ (b : Nat) (l m : List Tm), bgTs b (l ++ m) = bgTs b l ++ bgTs (b + sizes l) m
  | b, [], m => by simp [bgTs, sizes]
  | b, c :: l, m => by simp only [List.cons_append, bgTs, sizes, bgTs_append (b + c.size) l m, List.append_assoc, Nat.add_assoc]
theorem bgT_root {b : Nat} {t : Tm} : (bgT b t)[t.size - 1]? = some (b : Int) := by
  cases t with
  | mk x cs =>
    rw [bgT_mk]
    have : (mk x cs).size - 1 = sizes cs := by unfold size; omega
    rw [this, List.getElem?_append_right (by rw [bgTs_len]; exact Nat.le_refl _), bgTs_len, Nat.sub_self]
    rfl
theorem sizes_one (t : Tm) : sizes [t] = t.size := by simp [sizes]
theorem flats_one (b : Nat) (t : Tm) : flats b [t] = flat b t := by simp [flats]
theorem bgTs_one (b : Nat) (t : Tm) : bgTs b [t] = bgT b t := by simp [bgTs]
theorem roots_one (b : Nat) (t : Tm) : roots b [t] = [((b + t.size - 1 : Nat) : Int)] := by simp [roots]
theorem bgTs_at {b : Nat} {l m : List Tm} {t : Tm} : (bgTs b (l ++ t :: m))[sizes l + t.size - 1]? = some ((b + sizes l : Nat) : Int) := by
  have hp := t.size_pos
  rw [bgTs_append, List.getElem?_append_right (by rw [bgTs_len]; omega), bgTs_len]
  unfold bgTs
  rw [List.getElem?_append_left (by rw [bgT_len]; omega), show sizes l + t.size - 1 - sizes l = t.size - 1 by omega, bgT_root]
theorem pl_split {ts : List Tm} {acc : List Int} (ha : acc = bgTs 0 ts) : ∀ (l : List Int) (t1 rest : List Tm), ts = t1 ++ rest → plB acc ((sizes t1 : Nat) : Int) l = true → ∃ front mid, t1 = front ++ mid ∧ l.reverse = roots (sizes front) mid
  | [], t1, rest, _, _ => ⟨t1, [], by simp, by simp [roots]⟩
  | a :: l, t1, rest, hts, hp => by
    rw [plB, Bool.and_eq_true, Bool.and_eq_true, decide_eq_true_eq, decide_eq_true_eq] at hp
    obtain ⟨⟨h1, h2⟩, h3⟩ := hp
    rcases List.eq_nil_or_concat t1 with rfl | ⟨t2, t, rfl⟩
    · simp [sizes] at h2
    rw [List.concat_eq_append] at *
    have hpos := t.size_pos
    have hsz : sizes (t2 ++ [t]) = sizes t2 + t.size := by rw [sizes_append, sizes_one]
    have hget : acc[(((sizes (t2 ++ [t]) : Nat) : Int) - 1).toNat]? = some ((sizes t2 : Nat) : Int) := by
      rw [ha, hts, List.append_assoc, hsz, show ((((sizes t2 + t.size : Nat) : Int) - 1).toNat) = sizes t2 + t.size - 1 by omega]
      have := bgTs_at (b := 0) (l := t2) (m := rest) (t := t)
      rw [Nat.zero_add] at this
      exact this
    rw [hget, Option.getD_some] at h3
    obtain ⟨front, mid, e1, e2⟩ := pl_split ha l t2 ([t] ++ rest) (by rw [hts, List.append_assoc]) h3
    refine ⟨front, mid ++ [t], by rw [e1, List.append_assoc], ?_⟩
    rw [List.reverse_cons, e2, roots_append, roots_one]
    congr 2
    rw [h1, hsz, e1, sizes_append]
    omega
def bare (n : Nd) : Nd := { n with args := [] }
theorem nd_bare {n : Nd} {b : Nat} {cs : List Tm} (h : n.args = roots b cs) : nd (bare n) b cs = n := by
  unfold nd bare; cases n; simp only at h ⊢; rw [h]
theorem row_step {ts : List Tm} {acc : List Int} {n : Nd} (ha : acc = bgTs 0 ts) (hp : plB acc (acc.length : Int) n.args.reverse = true) :
    ∃ front last, ts = front ++ last ∧ n.args = roots (sizes front) last ∧ flats 0 (front ++ [.mk (bare n) last]) = flats 0 ts ++ [n] ∧ bgTs 0 (front ++ [.mk (bare n) last]) = acc ++ [bgOf acc n] := by
  have hl : acc.length = sizes ts := by rw [ha, bgTs_len]
  rw [hl] at hp
  obtain ⟨front, last, e1, e2⟩ := pl_split ha n.args.reverse ts [] (by simp) hp
  rw [List.reverse_reverse] at e2
  refine ⟨front, last, e1, e2, ?_, ?_⟩
  · rw [flats_append, flats_one, flat_mk, nd_bare (by rw [Nat.zero_add]; exact e2), e1, flats_append, List.append_assoc]
  · rw [bgTs_append, bgTs_one, bgT_mk, ha, e1, bgTs_append, List.append_assoc]
    congr 3
    rw [Nat.zero_add]
    unfold bgOf
    rw [e2]
    cases last with
    | nil => simp [roots, bgTs, bgTs_len]
    | cons c cs =>
      simp only [roots]
      have h1 := bgTs_at (b := 0) (l := front) (m := cs) (t := c)
      rw [Nat.zero_add, bgTs_append, Nat.zero_add] at h1
      rw [Int.toNat_natCast, h1, Option.getD_some]
mutual
def pars (b : Nat) (p k : Int) : Tm → List (Int × Int)
  | .mk _ cs => parsL b ((b + sizes cs : Nat) : Int) 0 cs ++ [(p, k)]
def parsL (b : Nat) (p : Int) (k : Nat) : List Tm → List (Int × Int)
  | [] => []
  | c :: cs => pars b p k c ++ parsL (b + c.size) p (k + 1) cs
end
def parsF (b : Nat) : List Tm → List (Int × Int)
  | [] => []
  | c :: cs => pars b (-1) 0 c ++ parsF (b + c.size) cs
theorem pars_mk {b : Nat} {p k : Int} {x : Nd} {cs : List Tm} : pars b p k (.mk x cs) = parsL b ((b + sizes cs : Nat) : Int) 0 cs ++ [(p, k)] := by rw [pars]
mutual
theorem pars_len (b : Nat) (p k : Int) : ∀ t : Tm, (pars b p k t).length = t.size
  | .mk x cs => by rw [pars_mk]; unfold size; rw [List.length_append, parsL_len]; rfl
theorem parsL_len (b : Nat) (p : Int) (k : Nat) : ∀ cs : List Tm, (parsL b p k cs).length = sizes cs
  | [] => rfl
  | c :: cs => by unfold parsL sizes; rw [List.length_append, pars_len b p k c, parsL_len (b + c.size) p (k + 1) cs]
end
theorem parsF_len : ∀ (b : Nat) (cs : List Tm), (parsF b cs).length = sizes cs
  | _, [] => rfl
  | b, c :: cs => by unfold parsF sizes; rw [List.length_append, pars_len, parsF_len (b + c.size) cs]
theorem parsF_append : ∀ (b : Nat) (l m : List Tm), parsF b (l ++ m) = parsF b l ++ parsF (b + sizes l) m
  | b, [], m => by simp [parsF, sizes]
  | b, c :: l, m => by simp only [List.cons_append, parsF, sizes, parsF_append (b + c.size) l m, List.append_assoc, Nat.add_assoc]
theorem parsF_one (b : Nat) (t : Tm) : parsF b [t] = pars b (-1) 0 t := by simp [parsF]
theorem roots_par : ∀ (b : Nat) (p : Int) (k : Nat) (cs : List Tm) (j : Nat) (a : Int), (roots b cs)[j]? = some a → ∃ r : Nat, a = ((b + r : Nat) : Int) ∧ r < sizes cs ∧ (parsL b p k cs)[r]? = some (p, ((k + j : Nat) : Int))
  | b, p, k, [], j, a, h => by simp [roots] at h
  | b, p, k, c :: cs, j, a, h => by
    have hpos := c.size_pos
    cases j with
    | zero =>
      simp only [roots, List.getElem?_cons_zero, Option.some.injEq] at h
      refine ⟨c.size - 1, by rw [← h]; congr 1; omega, by simp only [sizes]; omega, ?_⟩
      unfold parsL
      rw [List.getElem?_append_left (by rw [pars_len]; omega)]
      cases c with
      | mk x ds =>
        rw [pars_mk, show (mk x ds).size - 1 = sizes ds by unfold size; omega, List.getElem?_append_right (by rw [parsL_len]; exact Nat.le_refl _), parsL_len, Nat.sub_self]
        rfl
    | succ j =>
      simp only [roots, List.getElem?_cons_succ] at h
      obtain ⟨r, h1, h2, h3⟩ := roots_par (b + c.size) p (k + 1) cs j a h
      refine ⟨c.size + r, by rw [h1, Nat.add_assoc], by simp only [sizes]; omega, ?_⟩
      unfold parsL
      rw [List.getElem?_append_right (by rw [pars_len]; omega), pars_len, show c.size + r - c.size = r by omega, h3]
      congr 3
      omega
mutual
theorem pars_of : ∀ (b : Nat) (p k : Int) (t : Tm) (q : Nat) (n : Nd) (j : Nat) (a : Int), (flat b t)[q]? = some n → n.args[j]? = some a → ∃ r : Nat, a = ((b + r : Nat) : Int) ∧ r < q ∧ (pars b p k t)[r]? = some (((b + q : Nat) : Int), (j : Int))
  | b, p, k, .mk x cs, q, n, j, a, h1, h2 => by
    rw [flat_mk] at h1
    rw [pars_mk]
    by_cases hq : q < sizes cs
    · rw [List.getElem?_append_left (by rw [flats_len]; exact hq)] at h1
      obtain ⟨r, h3, h4, h5⟩ := parsL_of b ((b + sizes cs : Nat) : Int) 0 cs q n j a h1 h2
      exact ⟨r, h3, h4, by rw [List.getElem?_append_left (by rw [parsL_len]; omega)]; exact h5⟩
    · have hlt := (List.getElem?_eq_some_iff.1 h1).1
      rw [List.length_append, flats_len] at hlt
      obtain rfl : q = sizes cs := by simp at hlt; omega
      rw [List.getElem?_append_right (by rw [flats_len]; exact Nat.le_refl _), flats_len, Nat.sub_self, List.getElem?_cons_zero, Option.some.injEq] at h1
      subst h1
      obtain ⟨r, h3, h4, h5⟩ := roots_par b ((b + sizes cs : Nat) : Int) 0 cs j a h2
      refine ⟨r, h3, h4, ?_⟩
      rw [List.getElem?_append_left (by rw [parsL_len]; exact h4), h5, Nat.zero_add]
theorem parsL_of : ∀ (b : Nat) (p : Int) (k : Nat) (cs : List Tm) (q : Nat) (n : Nd) (j : Nat) (a : Int), (flats b cs)[q]? = some n → n.args[j]? = some a → ∃ r : Nat, a = ((b + r : Nat) : Int) ∧ r < q ∧ (parsL b p k cs)[r]? = some (((b + q : Nat) : Int), (j : Int))
  | b, p, k, [], q, n, j, a, h1, h2 => by simp [flats] at h1
  | b, p, k, c :: cs, q, n, j, a, h1, h2 => by
    rw [flats_cons] at h1
    unfold parsL
    by_cases hq : q < c.size
    · rw [List.getElem?_append_left (by rw [flat_len]; exact hq)] at h1
      obtain ⟨r, h3, h4, h5⟩ := pars_of b p k c q n j a h1 h2
      exact ⟨r, h3, h4, by rw [List.getElem?_append_left (by rw [pars_len]; omega)]; exact h5⟩
    · rw [List.getElem?_append_right (by rw [flat_len]; omega), flat_len] at h1
      obtain ⟨r, h3, h4, h5⟩ := parsL_of (b + c.size) p (k + 1) cs (q - c.size) n j a h1 h2
      refine ⟨c.size + r, by rw [h3, Nat.add_assoc], by omega, ?_⟩
      rw [List.getElem?_append_right (by rw [pars_len]; omega), pars_len, show c.size + r - c.size = r by omega, h5]
      congr 3
      omega
end
theorem parsF_of : ∀ (b : Nat) (cs : List Tm) (q : Nat) (n : Nd) (j : Nat) (a : Int), (flats b cs)[q]? = some n → n.args[j]? = some a → ∃ r : Nat, a = ((b + r : Nat) : Int) ∧ r < q ∧ (parsF b cs)[r]? = some (((b + q : Nat) : Int), (j : Int))
  | b, [], q, n, j, a, h1, h2 => by simp [flats] at h1
  | b, c :: cs, q, n, j, a, h1, h2 => by
    rw [flats_cons] at h1
    unfold parsF
    by_cases hq : q < c.size
    · rw [List.getElem?_append_left (by rw [flat_len]; exact hq)] at h1
      obtain ⟨r, h3, h4, h5⟩ := pars_of b (-1) 0 c q n j a h1 h2
      exact ⟨r, h3, h4, by rw [List.getElem?_append_left (by rw [pars_len]; omega)]; exact h5⟩
    · rw [List.getElem?_append_right (by rw [flat_len]; omega), flat_len] at h1
      obtain ⟨r, h3, h4, h5⟩ := parsF_of (b + c.size) cs (q - c.size) n j a h1 h2
      refine ⟨c.size + r, by rw [h3, Nat.add_assoc], by omega, ?_⟩
      rw [List.getElem?_append_right (by rw [pars_len]; omega), pars_len, show c.size + r - c.size = r by omega, h5]
      congr 3
      omega
def Says (b : Nat) (l : List Nd) (r : Nat) (P j : Int) : Prop := ∃ (q j' : Nat) (n : Nd), P = ((b + q : Nat) : Int) ∧ j = (j' : Int) ∧ r < q ∧ l[q]? = some n ∧ n.args[j']? = some ((b + r : Nat) : Int)
theorem says_left {b : Nat} {l m : List Nd} {r : Nat} {P j : Int} (h : Says b l r P j) : Says b (l ++ m) r P j := by
  obtain ⟨q, j', n, h1, h2, h3, h4, h5⟩ := h
  exact ⟨q, j', n, h1, h2, h3, by rw [List.getElem?_append_left (List.getElem?_eq_some_iff.1 h4).1]; exact h4, h5⟩
theorem says_right {b : Nat} {l m : List Nd} {r : Nat} {P j : Int} (h : Says (b + l.length) m r P j) : Says b (l ++ m) (l.length + r) P j := by
  obtain ⟨q, j', n, h1, h2, h3, h4, h5⟩ := h
  exact ⟨l.length + q, j', n, by rw [h1, Nat.add_assoc], h2, by omega, by rw [List.getElem?_append_right (by omega), show l.length + q - l.length = q by omega]; exact h4, by rw [h5, Nat.add_assoc]⟩
theorem roots_says : ∀ (b : Nat) (cs : List Tm) (k : Nat) (c : Tm) (l m : List Tm), cs = l ++ c :: m → (roots b cs)[l.length]? = some ((b + (sizes l + c.size - 1) : Nat) : Int) := by
  intro b cs k c l m h
  have hp := c.size_pos
  rw [h, roots_get]
  congr 2
  omega
mutual
theorem pars_says : ∀ (b : Nat) (p k : Int) (t : Tm) (r : Nat) (P j : Int), (pars b p k t)[r]? = some (P, j) → (r = t.size - 1 ∧ P = p ∧ j = k) ∨ Says b (flat b t) r P j
  | b, p, k, .mk x cs, r, P, j, h => by
    rw [pars_mk] at h
    by_cases hr : r < sizes cs
    · rw [List.getElem?_append_left (by rw [parsL_len]; exact hr)] at h
      rw [flat_mk]
      rcases parsL_says b ((b + sizes cs : Nat) : Int) 0 cs r P j h with ⟨l, c, m, e1, e2, e3, e4⟩ | hs
      · right
        refine ⟨sizes cs, l.length, nd x b cs, e3, by rw [e4, Nat.zero_add], hr, ?_, ?_⟩
        · rw [List.getElem?_append_right (by rw [flats_len]; exact Nat.le_refl _), flats_len, Nat.sub_self]; rfl
        · show (roots b cs)[l.length]? = _
          rw [roots_says b cs 0 c l m e1, e2]
      · exact .inr (says_left hs)
    · have hlt := (List.getElem?_eq_some_iff.1 h).1
      rw [List.length_append, parsL_len] at hlt
      obtain rfl : r = sizes cs := by simp at hlt; omega
      rw [List.getElem?_append_right (by rw [parsL_len]; exact Nat.le_refl _), parsL_len, Nat.sub_self, List.getElem?_cons_zero] at h
      cases h
      left
      exact ⟨by unfold size; omega, rfl, rfl⟩
theorem parsL_says : ∀ (b : Nat) (p : Int) (k : Nat) (cs : List Tm) (r : Nat) (P j : Int), (parsL b p k cs)[r]? = some (P, j) →
    (∃ l c m, cs = l ++ c :: m ∧ r = sizes l + c.size - 1 ∧ P = p ∧ j = ((k + l.length : Nat) : Int)) ∨ Says b (flats b cs) r P j
  | b, p, k, [], r, P, j, h => by simp [parsL] at h
  | b, p, k, c :: cs, r, P, j, h => by
    unfold parsL at h
    rw [flats_cons]
    by_cases hr : r < c.size
    · rw [List.getElem?_append_left (by rw [pars_len]; exact hr)] at h
      rcases pars_says b p k c r P j h with ⟨e1, e2, e3⟩ | hs
      · exact .inl ⟨[], c, cs, rfl, by simp [sizes, e1], e2, by simp [e3]⟩
      · exact .inr (says_left hs)
    · rw [List.getElem?_append_right (by rw [pars_len]; omega), pars_len] at h
      rcases parsL_says (b + c.size) p (k + 1) cs (r - c.size) P j h with ⟨l, d, m, e1, e2, e3, e4⟩ | hs
      · refine .inl ⟨c :: l, d, m, by rw [e1]; rfl, ?_, e3, by rw [e4, List.length_cons]; omega⟩
        have := d.size_pos
        simp only [sizes]
        omega
      · right
        have h2 : Says (b + (flat b c).length) (flats (b + c.size) cs) (r - c.size) P j := by rw [flat_len]; exact hs
        have := says_right h2
        rw [flat_len, show c.size + (r - c.size) = r by omega] at this
        exact this
end
theorem parsF_says : ∀ (b : Nat) (cs : List Tm) (r : Nat) (P j : Int), (parsF b cs)[r]? = some (P, j) → (P = -1 ∧ j = 0) ∨ Says b (flats b cs) r P j
  | b, [], r, P, j, h => by simp [parsF] at h
  | b, c :: cs, r, P, j, h => by
    unfold parsF at h
    rw [flats_cons]
    by_cases hr : r < c.size
    · rw [List.getElem?_append_left (by rw [pars_len]; exact hr)] at h
      rcases pars_says b (-1) 0 c r P j h with ⟨e1, e2, e3⟩ | hs
      · exact .inl ⟨e2, e3⟩
      · exact .inr (says_left hs)
    · rw [List.getElem?_append_right (by rw [pars_len]; omega), pars_len] at h
      rcases parsF_says (b + c.size) cs (r - c.size) P j h with hs | hs
      · exact .inl hs
      · right
        have h2 : Says (b + (flat b c).length) (flats (b + c.size) cs) (r - c.size) P j := by rw [flat_len]; exact hs
        have := says_right h2
        rw [flat_len, show c.size + (r - c.size) = r by omega] at this
        exact this
end Tm
end Go.VL
end
section
namespace Go.VL
open Tm
theorem scan_row : ∀ (l : List Nd) (acc : List Int) (ts : List Tm) (acc' : List Int), acc = bgTs 0 ts → scanN acc l = .inl acc' → ∃ ts', flats 0 ts' = flats 0 ts ++ l ∧ acc' = bgTs 0 ts'
  | [], acc, ts, acc', ha, h => by
    rw [scanN] at h
    cases h
    exact ⟨ts, by simp, ha⟩
  | n :: l, acc, ts, acc', ha, h => by
    rw [scanN] at h
    by_cases hc : nodeSpec (plB acc acc.length n.args.reverse) n = 0
    · rw [if_neg (fun k => k hc)] at h
      obtain ⟨front, last, e1, e2, e3, e4⟩ := row_step ha (nodeSpec_pl hc)
      obtain ⟨ts', h1, h2⟩ := scan_row l _ _ acc' e4.symm h
      exact ⟨ts', by rw [h1, e3, List.append_assoc]; rfl, h2⟩
    · rw [if_pos hc] at h; cases h
theorem scan_ok : ∀ (l : List Nd) (acc acc' : List Int), scanN acc l = .inl acc' → ∀ (i : Nat) n, l[i]? = some n → nodeSpec true n = 0
  | [], _, _, _, i, n, hn => by simp at hn
  | m :: l, acc, acc', h, i, n, hn => by
    rw [scanN] at h
    by_cases hc : nodeSpec (plB acc acc.length m.args.reverse) m = 0
    · rw [if_neg (fun k => k hc)] at h
      cases i with
      | zero =>
        simp only [List.getElem?_cons_zero, Option.some.injEq] at hn
        subst hn
        rw [nodeSpec_pl hc] at hc; exact hc
      | succ i => exact scan_ok l _ acc' h i n (by simpa using hn)
    · rw [if_pos hc] at h; cases h
def fIx (a : Int) : List Int → Nat → Option Nat
  | [], _ => none
  | x :: l, j => if x = a then some j else fIx a l (j + 1)
def fPar (a : Int) : List Nd → Nat → Option (Nat × Nat)
  | [], _ => none
  | n :: l, k => match fIx a n.args 0 with
    | some j => some (k, j)
    | none => fPar a l (k + 1)
theorem fIx_some {a : Int} : ∀ {l : List Int} {j j' : Nat}, fIx a l j = some j' → ∃ d, j' = j + d ∧ l[d]? = some a
  | [], j, j', h => by simp [fIx] at h
  | x :: l, j, j', h => by
    rw [fIx] at h
    by_cases hx : x = a
    · rw [if_pos hx] at h; cases h
      exact ⟨0, rfl, by simp [hx]⟩
    · rw [if_neg hx] at h
      obtain ⟨d, e1, e2⟩ := fIx_some h
      exact ⟨d + 1, by omega, by simpa using e2⟩
theorem fIx_none {a : Int} : ∀ {l : List Int} {j : Nat}, fIx a l j = none → ∀ d : Nat, l[d]? ≠ some a
  | [], j, h, d => by simp
  | x :: l, j, h, d => by
    rw [fIx] at h
    by_cases hx : x = a
    · rw [if_pos hx] at h; cases h
    · rw [if_neg hx] at h
      cases d with
      | zero => simpa using hx
      | succ d => simpa using fIx_none h d
theorem fPar_some {a : Int} : ∀ {l : List Nd} {k k' j : Nat}, fPar a l k = some (k', j) → ∃ d n, k' = k + d ∧ l[d]? = some n ∧ n.args[j]? = some a
  | [], k, k', j, h => by simp [fPar] at h
  | n :: l, k, k', j, h => by
    rw [fPar] at h
    cases hf : fIx a n.args 0 with
    | some j' =>
      rw [hf] at h
      cases h
      obtain ⟨d, e1, e2⟩ := fIx_some hf
      exact ⟨0, n, rfl, rfl, by rw [e1, Nat.zero_add]; exact e2⟩
    | none =>
      rw [hf] at h
      obtain ⟨d, m, e1, e2, e3⟩ := fPar_some h
      exact ⟨d + 1, m, by omega, by simpa using e2, e3⟩
theorem fPar_none {a : Int} : ∀ {l : List Nd} {k : Nat}, fPar a l k = none → ∀ (d : Nat) n (j : Nat), l[d]? = some n → n.args[j]? ≠ some a
  | [], k, h, d, n, j, hn => by simp at hn
  | m :: l, k, h, d, n, j, hn => by
    rw [fPar] at h
    cases hf : fIx a m.args 0 with
    | some j' => rw [hf] at h; cases h
    | none =>
      rw [hf] at h
      cases d with
      | zero => simp only [List.getElem?_cons_zero, Option.some.injEq] at hn; subst hn; exact fIx_none hf j
      | succ d => exact fPar_none h d n j (by simpa using hn)
theorem r_Parent_b0_ev {e : List Nd} {k : Nat} {n : Nd} (hn : e[k]? = some n) (hl : n.args.length ≤ 1000000) (a : Int) : ∀ j, j ≤ n.args.length → Ev (fun f => r_Parent_b0 f e a (k : Int) (j : Int)) (match fIx a (n.args.drop j) j with | some j' => .inr ((k : Int), (j' : Int)) | none => .inl ()) := by
  refine down ?_ fun j hj ih => ?_
  · refine Ev.succ ?_
    simp only [r_Parent_b0, Int.toNat_natCast, hn, Option.bind_some, nn, if_true]
    exact Ev.cF (dnlt _) (Ev.some' (by simp [fIx]))
  · refine Ev.succ ?_
    simp only [r_Parent_b0, Int.toNat_natCast, hn, getE hj, Option.bind_some, nn, if_true, dlt hj, cond_true, wsucc hj (show n.args.length ≤ 1099511627776 by omega)]
    rw [drop_cons hj, fIx]
    by_cases h : n.args[j] = a
    · refine Ev.cT (by rw [beq_iff_eq]; exact h) (Ev.some' ?_)
      rw [if_pos h]
    · refine Ev.cF (by rw [beq_eq_false_iff_ne]; exact h) ?_
      rw [if_neg h]
      exact ih
theorem r_Parent_b1_ev {e : List Nd} (hL : Lite e) (a : Int) : ∀ k, k ≤ e.length → Ev (fun f => r_Parent_b1 f e a (k : Int)) (match fPar a (e.drop k) k with | some (k', j) => .inr ((k' : Int), (j : Int)) | none => .inl ()) := by
  have hlen := hL.len
  refine down ?_ fun k hk ih => ?_
  · refine Ev.succ ?_
    simp only [r_Parent_b1]
    exact Ev.cF (dnlt _) (Ev.some' (by simp [fPar]))
  · refine Ev.succ ?_
    simp only [r_Parent_b1]
    rw [wsucc hk (by omega)]
    have h0 := r_Parent_b0_ev (getE hk) (hL.nd k _ (getE hk)).2.2 a 0 (Nat.zero_le _)
    rw [List.drop_zero] at h0
    refine Ev.cT (dlt hk) (Ev.bind h0 ?_)
    rw [drop_cons hk, fPar]
    cases fIx a e[k].args 0 with
    | some j => simp only [sum_R]; exact Ev.some
    | none => simp only [sum_L]; exact ih
theorem r_Parent_ev {ts : List Tm} {e : List Nd} (he : e = flats 0 ts) (hL : Lite e) {i : Nat} {P j : Int} (hi : i < e.length) (hp : (parsF 0 ts)[i]? = some (P, j)) : Ev (fun k => r_Parent k e (i : Int)) (P, j) := by
  have hlen := hL.len
  unfold r_Parent
  rw [wsucc hi (by omega)]
  refine Ev.bind (r_Parent_b1_ev hL (i : Int) (i + 1) (by omega)) ?_
  cases hf : fPar (i : Int) (e.drop (i + 1)) (i + 1) with
  | some q =>
    obtain ⟨k', j'⟩ := q
    obtain ⟨d, n, e1, e2, e3⟩ := fPar_some hf
    rw [List.getElem?_drop] at e2
    rw [he] at e2
    obtain ⟨r, h1, h2, h3⟩ := parsF_of 0 ts (i + 1 + d) n j' (i : Int) e2 e3
    obtain rfl : r = i := by omega
    rw [hp] at h3
    cases h3
    simp only [sum_R]
    exact Ev.some' (by rw [e1, Nat.zero_add])
  | none =>
    simp only [sum_L]
    rcases parsF_says 0 ts i P j hp with ⟨rfl, rfl⟩ | ⟨q, j', n, h1, h2, h3, h4, h5⟩
    · exact Ev.some
    · exfalso
      rw [← he] at h4
      have := fPar_none hf (q - (i + 1)) n j' (by rw [List.getElem?_drop, show i + 1 + (q - (i + 1)) = q by omega]; exact h4)
      rw [Nat.zero_add] at h5
      exact this h5
theorem pars_last {b : Nat} {p k p' k' : Int} (t : Tm) : (pars b p k t).set (t.size - 1) (p', k') = pars b p' k' t := by
  cases t with
  | mk x cs =>
    rw [pars_mk, pars_mk, show (mk x cs).size - 1 = sizes cs by unfold size; omega, List.set_append_right _ _ (by rw [parsL_len]; exact Nat.le_refl _), parsL_len, Nat.sub_self]
    rfl
theorem t_parents_b0_ev {i : Nat} {args : List Int} (hl : args.length ≤ 1000000) (A B : List (Int × Int)) (last : List Tm) (ha : args = roots A.length last) :
    ∀ (rest : List Tm) (done : List Tm), last = done ++ rest → Ev (fun k => t_parents_b0 k ((A ++ parsL A.length (i : Int) 0 done ++ parsF (A.length + sizes done) rest ++ B).map Prod.fst) ((A ++ parsL A.length (i : Int) 0 done ++ parsF (A.length + sizes done) rest ++ B).map Prod.snd) (i : Int) args (args.length : Int) (done.length : Int))
      ((A ++ parsL A.length (i : Int) 0 last ++ B).map Prod.fst, (A ++ parsL A.length (i : Int) 0 last ++ B).map Prod.snd) := by
  intro rest
  induction rest with
  | nil =>
    intro done hd
    rw [List.append_nil] at hd
    subst hd
    refine Ev.succ ?_
    simp only [t_parents_b0]
    have : args.length = last.length := by rw [ha, roots_len]
    rw [this]
    exact Ev.cF (dnlt _) (Ev.some' (by simp [parsF]))
  | cons c rest ih =>
    intro done hd
    have hpos := c.size_pos
    have hal : args.length = last.length := by rw [ha, roots_len]
    have hdl : done.length < args.length := by rw [hal, hd]; simp
    have hget : args[done.length]? = some ((A.length + sizes done + c.size - 1 : Nat) : Int) := by rw [ha, hd]; exact roots_get
    refine Ev.succ ?_
    simp only [t_parents_b0, Int.toNat_natCast, hget, Option.bind_some, nn, if_true, wsucc hdl (show args.length ≤ 1099511627776 by omega)]
    refine Ev.cT (dlt hdl) ?_
    have hL : (A ++ parsL A.length (i : Int) 0 done).length = A.length + sizes done := by rw [List.length_append, parsL_len]
    have hset : (A ++ parsL A.length (i : Int) 0 done ++ parsF (A.length + sizes done) (c :: rest) ++ B).set (A.length + sizes done + c.size - 1) ((i : Int), (done.length : Int)) = A ++ parsL A.length (i : Int) 0 (done ++ [c]) ++ parsF (A.length + sizes (done ++ [c])) rest ++ B := by
      have e1 : parsL A.length (i : Int) 0 (done ++ [c]) = parsL A.length (i : Int) 0 done ++ pars (A.length + sizes done) (i : Int) (done.length : Int) c := by
        have gen : ∀ (d : List Tm) (b k : Nat), parsL b (i : Int) k (d ++ [c]) = parsL b (i : Int) k d ++ pars (b + sizes d) (i : Int) ((k + d.length : Nat) : Int) c := by
          intro d
          induction d with
          | nil => intro b k; simp [parsL, sizes]
          | cons x d ih =>
            intro b k
            simp only [List.cons_append, parsL, ih, List.append_assoc, sizes, Nat.add_assoc, List.length_cons]
            congr 4
            omega
        rw [gen, Nat.zero_add]
      rw [e1, sizes_append, sizes_one]
      show (A ++ parsL A.length (i : Int) 0 done ++ (pars (A.length + sizes done) (-1) 0 c ++ parsF (A.length + sizes done + c.size) rest) ++ B).set _ _ = _
      rw [List.append_assoc, List.set_append_right _ _ (by rw [hL]; omega), hL, show A.length + sizes done + c.size - 1 - (A.length + sizes done) = c.size - 1 by omega]
      rw [List.append_assoc (pars (A.length + sizes done) (-1) 0 c), List.set_append_left _ _ (by rw [pars_len]; omega), pars_last]
      simp only [List.append_assoc, Nat.add_assoc]
    have hin : A.length + sizes done + c.size - 1 < (A ++ parsL A.length (i : Int) 0 done ++ parsF (A.length + sizes done) (c :: rest) ++ B).length := by
      rw [List.length_append, List.length_append, hL, parsF_len]
      simp only [sizes]
      omega
    rw [List.getElem?_map, List.getElem?_map, getE hin]
    simp only [Option.map_some, Option.bind_some]
    have := ih (done ++ [c]) (by rw [hd, List.append_assoc]; rfl)
    rw [← hset, List.map_set, List.map_set] at this
    rw [List.length_append] at this
    exact this
theorem t_parents_b1_ev {e : List Nd} (hL : Lite e) : ∀ (l : List Nd) (acc : List Int) (ts : List Tm) (acc' : List Int) (i : Nat), acc = bgTs 0 ts → sizes ts = i → l = e.drop i → i ≤ e.length → scanN acc l = .inl acc' →
    ∃ ts', flats 0 ts' = flats 0 ts ++ l ∧ acc' = bgTs 0 ts' ∧ Ev (fun k => t_parents_b1 k ((parsF 0 ts ++ List.replicate (e.length - i) ((-1 : Int), (0 : Int))).map Prod.fst) ((parsF 0 ts ++ List.replicate (e.length - i) ((-1 : Int), (0 : Int))).map Prod.snd) e (e.length : Int) (i : Int)) ((parsF 0 ts').map Prod.fst, (parsF 0 ts').map Prod.snd) := by
  have hlen := hL.len
  intro l
  induction l with
  | nil =>
    intro acc ts acc' i ha hs hl hi h
    have : e.length ≤ i := by
      have := congrArg List.length hl
      rw [List.length_drop, List.length_nil] at this; omega
    obtain rfl : i = e.length := by omega
    refine ⟨ts, by simp, by rw [scanN] at h; cases h; exact ha, Ev.succ ?_⟩
    simp only [t_parents_b1]
    exact Ev.cF (dnlt _) (Ev.some' (by simp))
  | cons n l ih =>
    intro acc ts acc' i ha hs hl hi h
    have hlt : i < e.length := by
      have := congrArg List.length hl
      rw [List.length_drop, List.length_cons] at this; omega
    rw [drop_cons hlt] at hl
    obtain ⟨rfl, rfl⟩ := List.cons.inj hl
    rw [scanN] at h
    have hc : nodeSpec (plB acc acc.length e[i].args.reverse) e[i] = 0 := by
      by_cases hc : nodeSpec (plB acc acc.length e[i].args.reverse) e[i] = 0
      · exact hc
      · rw [if_pos hc] at h; cases h
    rw [if_neg (fun k => k hc)] at h
    obtain ⟨front, last, e1, e2, e3, e4⟩ := row_step ha (nodeSpec_pl hc)
    have hsz : sizes (front ++ [.mk (bare e[i]) last]) = i + 1 := by
      rw [sizes_append, sizes_one]
      unfold size
      rw [← hs, e1, sizes_append]; omega
    obtain ⟨ts', h1, hb, h2⟩ := ih _ _ acc' (i + 1) e4.symm hsz rfl hlt h
    refine ⟨ts', by rw [h1, e3, List.append_assoc]; rfl, hb, Ev.succ ?_⟩
    simp only [t_parents_b1, Int.toNat_natCast, getE hlt, Option.bind_some, nn, if_true]
    rw [wsucc hlt (by omega)]
    refine Ev.cT (dlt hlt) ?_
    have hrep : List.replicate (e.length - i) ((-1 : Int), (0 : Int)) = ((-1 : Int), (0 : Int)) :: List.replicate (e.length - (i + 1)) ((-1 : Int), (0 : Int)) := by
      rw [show e.length - i = (e.length - (i + 1)) + 1 by omega, List.replicate_succ]
    have hA : (parsF 0 front).length = sizes front := parsF_len 0 front
    have key := t_parents_b0_ev (i := i) (args := e[i].args) (hL.nd i _ (getE hlt)).2.2 (parsF 0 front) (List.replicate (e.length - i) ((-1 : Int), (0 : Int))) last (by rw [hA]; exact e2) last [] rfl
    have hstart : parsF 0 front ++ parsL (parsF 0 front).length (i : Int) 0 [] ++ parsF ((parsF 0 front).length + sizes []) last ++ List.replicate (e.length - i) ((-1 : Int), (0 : Int)) = parsF 0 ts ++ List.replicate (e.length - i) ((-1 : Int), (0 : Int)) := by
      rw [hA, e1, parsF_append]
      simp [parsL, sizes]
    rw [hstart] at key
    refine Ev.bind key ?_
    have hend : parsF 0 front ++ parsL (parsF 0 front).length (i : Int) 0 last ++ List.replicate (e.length - i) ((-1 : Int), (0 : Int)) = parsF 0 (front ++ [.mk (bare e[i]) last]) ++ List.replicate (e.length - (i + 1)) ((-1 : Int), (0 : Int)) := by
      rw [hA, parsF_append, parsF_one, pars_mk, hrep]
      have : sizes front + sizes last = i := by rw [← sizes_append, ← e1, hs]
      simp [this]
    rw [hend]
    exact h2
end Go.VL
end
section
namespace Go.VL
open Tm
theorem t_parents_ev {e : List Nd} (hL : Lite e) {acc' : List Int} (h : scanN [] e = .inl acc') : ∃ ts, e = flats 0 ts ∧ acc' = bgTs 0 ts ∧ Ev (fun k => t_parents k e) ((parsF 0 ts).map Prod.fst, (parsF 0 ts).map Prod.snd) := by
  have hlen := hL.len
  obtain ⟨ts', h1, hb, h2⟩ := t_parents_b1_ev hL e [] [] acc' 0 rfl rfl rfl (Nat.zero_le _) h
  refine ⟨ts', by rw [h1]; rfl, hb, ?_⟩
  unfold t_parents
  refine Ev.ifp ⟨rfl, by omega, by omega⟩ (Ev.ifp ⟨by omega, by omega, by omega⟩ ?_)
  have e1 : ((parsF 0 ([] : List Tm) ++ List.replicate (e.length - 0) ((-1 : Int), (0 : Int))).map Prod.fst) = (repOne [(-1)] (e.length : Int) : List Int) := by simp [parsF, repOne]
  have e2 : ((parsF 0 ([] : List Tm) ++ List.replicate (e.length - 0) ((-1 : Int), (0 : Int))).map Prod.snd) = List.replicate e.length (0 : Int) := by simp [parsF]
  rw [e1, e2] at h2
  exact Ev.bind h2 Ev.some
theorem par_up {ts : List Tm} {i : Nat} {P j : Int} (hp : (parsF 0 ts)[i]? = some (P, j)) : (P = -1 ∧ j = 0) ∨ ∃ q : Nat, P = (q : Int) ∧ i < q ∧ q < (flats 0 ts).length := by
  rcases parsF_says 0 ts i P j hp with h | ⟨q, j', n, h1, h2, h3, h4, h5⟩
  · exact .inl h
  · exact .inr ⟨q, by rw [h1, Nat.zero_add], h3, (List.getElem?_eq_some_iff.1 h4).1⟩
def oldF (e : List Nd) (U : List (Int × Int)) : Nat → Nat → Bool
  | 0, _ => false
  | m + 1, i => match U[i]? with
    | some (P, j) => if P < 0 then false else (decide ((e[P.toNat]?.map Nd.kind) = some 19) && decide (j = 2)) || oldF e U m P.toNat
    | none => false
section
variable {ts : List Tm} {e : List Nd}
theorem t_isLost_b0_ev (he : e = flats 0 ts) : ∀ (m i : Nat), e.length ≤ i + m → i < e.length → Ev (fun k => t_isLost_b0 k e ((parsF 0 ts).map Prod.fst) ((parsF 0 ts).map Prod.snd) (i : Int)) (if oldF e (parsF 0 ts) m i = true then .inr false else .inl ()) := by
  intro m
  induction m with
  | zero => intro i h1 h2; omega
  | succ m ih =>
    intro i h1 h2
    have hlt : i < (parsF 0 ts).length := by rw [parsF_len, ← flats_len 0 ts, ← he]; exact h2
    obtain ⟨P, j, hU⟩ : ∃ P j, (parsF 0 ts)[i]? = some (P, j) := ⟨_, _, getE hlt⟩
    refine Ev.succ ?_
    have hf : ((parsF 0 ts).map Prod.fst)[i]? = some P := by rw [List.getElem?_map, hU]; rfl
    have hs : ((parsF 0 ts).map Prod.snd)[i]? = some j := by rw [List.getElem?_map, hU]; rfl
    simp only [t_isLost_b0, Int.toNat_natCast, hf, hs, Option.bind_some, nn, if_true]
    rw [oldF, hU]
    simp only
    rcases par_up hU with ⟨rfl, rfl⟩ | ⟨q, rfl, hq, hq2⟩
    · exact Ev.cF (by rfl) Ev.some
    · have hqe : q < e.length := by rw [he]; exact hq2
      refine Ev.cT (by rw [bne_iff_ne]; omega) (Ev.ifp (by omega) ?_)
      simp only [Int.toNat_natCast, getE hqe, Option.bind_some, Option.map_some, Option.some.injEq, show ¬ (q : Int) < 0 by omega, if_false]
      have ihq := ih q (by omega) hqe
      by_cases h3 : e[q].kind = 19
      · refine Ev.cT (by rw [h3]; rfl) ?_
        by_cases h4 : j = 2
        · refine Ev.cT (by rw [h4]; rfl) (Ev.some' ?_)
          simp [h3, h4]
        · refine Ev.cF (by rw [beq_eq_false_iff_ne]; exact h4) (ihq.to ?_)
          simp [h4]
      · refine Ev.cF (by rw [beq_eq_false_iff_ne]; exact h3) (ihq.to ?_)
        simp [h3]
theorem r_old_ev (he : e = flats 0 ts) (hL : Lite e) : ∀ (m i : Nat), e.length ≤ i + m → i < e.length → ∀ P j, (parsF 0 ts)[i]? = some (P, j) → ∀ o : Bool, Ev (fun k => r_Check_b1 k e P j o) (o || oldF e (parsF 0 ts) m i) := by
  intro m
  induction m with
  | zero => intro i h1 h2; omega
  | succ m ih =>
    intro i h1 h2 P j hU o
    refine Ev.succ ?_
    rw [oldF, hU]
    simp only
    rcases par_up hU with ⟨rfl, rfl⟩ | ⟨q, rfl, hq, hq2⟩
    · simp only [r_Check_b1]
      exact Ev.cF (by rfl) (Ev.some' (by simp))
    · have hqe : q < e.length := by rw [he]; exact hq2
      have hlt : q < (parsF 0 ts).length := by rw [parsF_len, ← flats_len 0 ts]; exact hq2
      obtain ⟨P', j', hU'⟩ : ∃ P j, (parsF 0 ts)[q]? = some (P, j) := ⟨_, _, getE hlt⟩
      simp only [r_Check_b1]
      refine Ev.cT (decide_eq_true (by omega)) (Ev.bind0 (x := o || (decide (e[q].kind = 19) && decide (j = 2))) ?_ (Ev.bind (r_Parent_ev he hL hqe hU') ?_))
      · unfold r_Check_p2
        cases o
        · simp only [Int.toNat_natCast, getE hqe, Option.bind_some, cond_false, nn, if_true, Bool.false_or]
          by_cases h3 : e[q].kind = 19
          · rw [cond_T (by rw [h3]; rfl)]
            by_cases h4 : j = 2
            · simp [h3, h4]
            · simp [h4]
          · rw [cond_F (by rw [beq_eq_false_iff_ne]; exact h3)]
            simp [h3]
        · rfl
      · refine (ih q (by omega) hqe P' j' hU' _).to ?_
        simp only [Int.toNat_natCast, getE hqe, Option.map_some, Option.some.injEq, show ¬ (q : Int) < 0 by omega, if_false, Bool.or_assoc]
theorem ops_no_terms (t : Str) (h : (opIn tabR t).2 = true) : rTerm t = false := by
  have h1 : ((tabR.map (·.text)).all fun t => !rTerm t) = true := by kernel_rfl
  by_cases hm : t ∈ tabR.map (·.text)
  · simpa using List.all_eq_true.1 h1 t hm
  · rw [opIn_none hm] at h; cases h
theorem apply_op {n : Nd} (h : nodeSpec true n = 0) (hk : n.kind = 3) : (opIn tabR n.text).2 = !rTerm n.text := by
  cases ho : (opIn tabR n.text).2
  · unfold nodeSpec at h
    split at h; · cases h
    split at h; · cases h
    split at h; · cases h
    split at h; · cases h
    split at h
    · rename_i h1; exact absurd h h1
    · rename_i h1
      have h1 : nameErr n = 0 := by omega
      unfold nameErr at h1
      split at h1; · cases h1
      cases hr : rTerm n.text
      · simp [hk, ho, hr] at h1
      · rfl
  · rw [ops_no_terms _ ho]; rfl
def lostB (e : List Nd) (U : List (Int × Int)) (i : Nat) : Bool := match e[i]?, U[i]? with
  | some n, some (P, j) => if n.kind = 24 then (if P < 0 then true else match e[P.toNat]? with
      | some m => if m.kind = 3 then (opIn tabR m.text).2 else true
      | none => true) else if n.kind = 20 then !oldF e U e.length i else false
  | _, _ => false
theorem t_isLost_ev (he : e = flats 0 ts) (hL : Lite e) {i : Nat} (hi : i < e.length) : Ev (fun k => t_isLost k e (i : Int) ((parsF 0 ts).map Prod.fst) ((parsF 0 ts).map Prod.snd)) (lostB e (parsF 0 ts) i) := by
  have hlt : i < (parsF 0 ts).length := by rw [parsF_len, ← flats_len 0 ts, ← he]; exact hi
  obtain ⟨P, j, hU⟩ : ∃ P j, (parsF 0 ts)[i]? = some (P, j) := ⟨_, _, getE hlt⟩
  have hf : ((parsF 0 ts).map Prod.fst)[i]? = some P := by rw [List.getElem?_map, hU]; rfl
  unfold t_isLost lostB
  simp only [Int.toNat_natCast, getE hi, hf, Option.bind_some, nn, if_true, hU]
  by_cases h1 : e[i].kind = 24
  · refine Ev.cT (by rw [h1]; rfl) ?_
    simp only [h1, if_true]
    rcases par_up hU with ⟨rfl, rfl⟩ | ⟨q, rfl, hq, hq2⟩
    · exact Ev.cT (by rfl) Ev.some
    · have hqe : q < e.length := by rw [he]; exact hq2
      refine Ev.cF (by rw [beq_eq_false_iff_ne]; omega) (Ev.ifp (by omega) ?_)
      simp only [Int.toNat_natCast, getE hqe, Option.bind_some, show ¬ (q : Int) < 0 by omega, if_false]
      by_cases h2 : e[q].kind = 3
      · refine Ev.cF (by rw [h2]; rfl) (Ev.bind (t_operatorOf_ev _) (Ev.some' ?_))
        simp only [h2, if_true]
      · refine Ev.cT (by rw [bne_iff_ne]; exact h2) (Ev.some' ?_)
        simp only [h2, if_false]
  · refine Ev.cF (by rw [beq_eq_false_iff_ne]; exact h1) ?_
    simp only [h1, if_false]
    by_cases h2 : e[i].kind = 20
    · refine Ev.cT (by rw [h2]; rfl) (Ev.bind (t_isLost_b0_ev he e.length i (by omega) hi) ?_)
      simp only [h2, if_true]
      cases oldF e (parsF 0 ts) e.length i
      · simp only [Bool.false_eq_true, if_false, sum_L]; exact Ev.some
      · simp only [if_true, sum_R]; exact Ev.some
    · refine Ev.cF (by rw [beq_eq_false_iff_ne]; exact h2) (Ev.some' ?_)
      simp only [h2, if_false]
def fLost (e : List Nd) (U : List (Int × Int)) : Nat → Nat → Option Nat
  | 0, _ => none
  | m + 1, i => if lostB e U i = true then some i else fLost e U m (i + 1)
theorem t_CheckExpr_b1_ev (he : e = flats 0 ts) (hL : Lite e) : ∀ i, i ≤ e.length → Ev (fun k => t_CheckExpr_b1 k e ((parsF 0 ts).map Prod.fst) ((parsF 0 ts).map Prod.snd) (e.length : Int) (i : Int)) (match fLost e (parsF 0 ts) (e.length - i) i with | some j => .inr ((j : Int), 30) | none => .inl ()) := by
  have hlen := hL.len
  refine down ?_ fun i hi ih => ?_
  · refine Ev.succ ?_
    simp only [t_CheckExpr_b1]
    exact Ev.cF (dnlt _) (Ev.some' (by simp [fLost]))
  · refine Ev.succ ?_
    simp only [t_CheckExpr_b1]
    rw [wsucc hi (by omega)]
    refine Ev.cT (dlt hi) (Ev.bind (t_isLost_ev he hL hi) ?_)
    rw [show e.length - i = (e.length - (i + 1)) + 1 by omega, fLost]
    cases lostB e (parsF 0 ts) i
    · simp only [cond_false, Bool.false_eq_true, if_false]; exact ih
    · exact Ev.some
theorem r_Check_b2_ev (he : e = flats 0 ts) (hL : Lite e) (hok : ∀ (i : Nat) n, e[i]? = some n → nodeSpec true n = 0) : ∀ i, i ≤ e.length → Ev (fun k => r_Check_b2 k e (i : Int)) (match fLost e (parsF 0 ts) (e.length - i) i with | some j => .inr ((j : Int), 30) | none => .inl ()) := by
  have hlen := hL.len
  refine down ?_ fun i hi ih => ?_
  · refine Ev.succ ?_
    simp only [r_Check_b2]
    exact Ev.cF (dnlt _) (Ev.some' (by simp [fLost]))
  · refine Ev.succ ?_
    have hlt : i < (parsF 0 ts).length := by rw [parsF_len, ← flats_len 0 ts, ← he]; exact hi
    obtain ⟨P, j, hU⟩ : ∃ P j, (parsF 0 ts)[i]? = some (P, j) := ⟨_, _, getE hlt⟩
    simp only [r_Check_b2, Int.toNat_natCast, getE hi, Option.bind_some, nn, if_true]
    rw [wsucc hi (by omega)]
    refine Ev.cT (dlt hi) (Ev.bind (r_Parent_ev he hL hi hU) ?_)
    have hlam : Ev (fun k => r_Check_p0 k e P (decide (P ≥ 0))) (match e[P.toNat]? with | some m => decide (0 ≤ P) && decide (m.kind = 3) && rTerm m.text | none => false) := by
      unfold r_Check_p0
      rcases par_up hU with ⟨rfl, rfl⟩ | ⟨q, rfl, hq, hq2⟩
      · refine Ev.cF (by rfl) (Ev.some' ?_)
        cases e[(-1 : Int).toNat]? <;> rfl
      · have hqe : q < e.length := by rw [he]; exact hq2
        refine Ev.cT (decide_eq_true (by omega)) (Ev.ifp (by omega) ?_)
        simp only [Int.toNat_natCast, getE hqe, Option.bind_some, nn, decide_true, Bool.true_and]
        by_cases h2 : e[q].kind = 3
        · refine Ev.cT (by rw [h2]; rfl) (Ev.bind (r_IsTerm_ev _ (by have := (hL.nd q _ (getE hqe)).1; omega)) (Ev.some' ?_))
          simp only [h2, decide_true, Bool.true_and]
        · refine Ev.cF (by rw [beq_eq_false_iff_ne]; exact h2) (Ev.some' ?_)
          simp only [h2, decide_false, Bool.false_and]
    refine Ev.bind hlam ?_
    have hold := r_old_ev he hL e.length i (by omega) hi P j hU false
    rw [Bool.false_or] at hold
    rw [show e.length - i = (e.length - (i + 1)) + 1 by omega, fLost]
    have hl : lostB e (parsF 0 ts) i = if e[i].kind = 24 then !(match e[P.toNat]? with | some m => decide (0 ≤ P) && decide (m.kind = 3) && rTerm m.text | none => false) else if e[i].kind = 20 then !oldF e (parsF 0 ts) e.length i else false := by
      unfold lostB
      simp only [getE hi, hU]
      rcases par_up hU with ⟨rfl, rfl⟩ | ⟨q, rfl, hq, hq2⟩
      · simp only [show (-1 : Int) < 0 by omega, if_true, show ¬ (0 : Int) ≤ -1 by omega, decide_false, Bool.false_and]
        cases e[(-1 : Int).toNat]? <;> rfl
      · have hqe : q < e.length := by rw [he]; exact hq2
        simp only [Int.toNat_natCast, getE hqe, show ¬ (q : Int) < 0 by omega, if_false, nn, decide_true, Bool.true_and]
        by_cases h2 : e[q].kind = 3
        · simp only [h2, if_true, decide_true, Bool.true_and, apply_op (hok q _ (getE hqe)) h2]
        · simp only [h2, if_false, decide_false, Bool.false_and, Bool.not_false]
    rw [hl]
    generalize (match e[P.toNat]? with | some m => decide (0 ≤ P) && decide (m.kind = 3) && rTerm m.text | none => false) = lam
    refine Ev.bind0 (x := decide (e[i].kind = 24) && !lam) (by
      unfold r_Check_p1
      by_cases h1 : e[i].kind = 24
      · rw [cond_T (by rw [h1]; rfl)]; simp [h1]
      · rw [cond_F (by rw [beq_eq_false_iff_ne]; exact h1)]; simp [h1]) ?_
    by_cases h1 : e[i].kind = 24
    · simp only [h1, decide_true, Bool.true_and, if_true]
      cases lam
      · exact Ev.some
      · refine Ev.cF rfl (Ev.bind hold ?_)
        exact Ev.cF (by rfl) ih
    · simp only [h1, decide_false, Bool.false_and, cond_false, if_false]
      refine Ev.bind hold ?_
      by_cases h2 : e[i].kind = 20
      · refine Ev.cT (by rw [h2]; rfl) ?_
        simp only [h2, if_true]
        cases oldF e (parsF 0 ts) e.length i
        · exact Ev.some
        · exact ih
      · refine Ev.cF (by rw [beq_eq_false_iff_ne]; exact h2) (ih.to ?_)
        simp only [h2, if_false, Bool.false_eq_true]
end
theorem check_same (e : List Nd) (hL : Lite e) : ∃ r, Ev (fun k => t_CheckExpr k e) r ∧ Ev (fun k => r_Check k e) r := by
  have hlen := hL.len
  by_cases h0 : e.length = 0
  · refine ⟨(0, 1), ?_, ?_⟩
    · unfold t_CheckExpr
      simp only [t_wrong_eq, Option.bind_some, h0]
      refine Ev.bind (g_Or_ev _ (by simp)) ?_
      exact Ev.cT (by rfl) Ev.some
    · unfold r_Check
      simp only [h0]
      exact Ev.cT (by rfl) Ev.some
  by_cases h1 : 160 < e.length
  · refine ⟨(0, 2), ?_, ?_⟩
    · unfold t_CheckExpr
      have a : ((e.length : Int) == 0) = false := by rw [beq_eq_false_iff_ne]; omega
      have b : decide ((e.length : Int) > 160) = true := decide_eq_true (by omega)
      simp only [t_wrong_eq, Option.bind_some, a, b]
      refine Ev.bind (g_Or_ev _ (by simp)) ?_
      exact Ev.cT (by rfl) Ev.some
    · unfold r_Check
      refine Ev.cF (by rw [beq_eq_false_iff_ne]; omega) ?_
      exact Ev.cT (decide_eq_true (by omega)) Ev.some
  have a : ((e.length : Int) == 0) = false := by rw [beq_eq_false_iff_ne]; omega
  have b : decide ((e.length : Int) > 160) = false := decide_eq_false (by omega)
  have st := t_CheckExpr_b0_ev hL 0 (Nat.zero_le _) [] (OkTo.zero e)
  have sr := r_Check_b0_ev hL 0 (Nat.zero_le _) [] (OkTo.zero e)
  rw [List.drop_zero] at st sr
  have startT : ∀ r, Ev (fun k => Option.bind (t_CheckExpr_b0 k e ([] : List Int) (e.length : Int) ((0 : Nat) : Int)) (fun o => Sum.elim (fun p40 => Option.bind (t_parents k e) fun p51 => Option.bind (t_CheckExpr_b1 k e p51.1 p51.2 (e.length : Int) ((0 : Nat) : Int)) (fun o => Sum.elim (fun p58 => if 0 ≤ (IntKind.wrap .i64 ((e.length : Int) - 1)) then Option.bind (p40[(IntKind.wrap .i64 ((e.length : Int) - 1)).toNat]?) fun x65 => cond (x65 != 0) (some ((IntKind.wrap .i64 ((e.length : Int) - 1)), 15)) (some (0, 0)) else none) (fun p74 => some (p74.1, p74.2)) o)) (fun p80 => some (p80.1, p80.2)) o)) r → Ev (fun k => t_CheckExpr k e) r := by
    intro r hr
    unfold t_CheckExpr
    simp only [t_wrong_eq, Option.bind_some, a, b]
    refine Ev.bind (g_Or_ev _ (by simp)) ?_
    exact Ev.cF (by rfl) hr
  have startR : ∀ r, Ev (fun k => Option.bind (r_Check_b0 k e ((0 : Nat) : Int)) (fun o => Sum.elim (fun p9 => Option.bind (r_Check_b2 k e ((0 : Nat) : Int)) (fun o => Sum.elim (fun p81 => Option.bind (b_First k e (IntKind.wrap .i64 ((e.length : Int) - 1))) fun p87 => cond (p87 != 0) (some ((IntKind.wrap .i64 ((e.length : Int) - 1)), 15)) (some (0, 0))) (fun p89 => some (p89.1, p89.2)) o)) (fun p95 => some (p95.1, p95.2)) o)) r → Ev (fun k => r_Check k e) r := by
    intro r hr
    unfold r_Check
    exact Ev.cF a (Ev.cF b hr)
  cases hs : scanN [] e with
  | inr p =>
    rw [hs] at st sr
    refine ⟨p, startT _ (Ev.bind st ?_), startR _ (Ev.bind sr ?_)⟩
    · simp only [sum_R]; exact Ev.some
    · simp only [sum_R]; exact Ev.some
  | inl acc =>
    rw [hs] at st sr
    obtain ⟨ts, he, hacc, hpar⟩ := t_parents_ev hL hs
    have hok := scan_ok e [] acc hs
    have lt := t_CheckExpr_b1_ev he hL 0 (Nat.zero_le _)
    have lr := r_Check_b2_ev he hL hok 0 (Nat.zero_le _)
    cases hl : fLost e (parsF 0 ts) (e.length - 0) 0 with
    | some j =>
      rw [hl] at lt lr
      refine ⟨((j : Int), 30), startT _ (Ev.bind st ?_), startR _ (Ev.bind sr ?_)⟩
      · simp only [sum_L]
        refine Ev.bind hpar (Ev.bind lt ?_)
        simp only [sum_R]; exact Ev.some
      · simp only [sum_L]
        refine Ev.bind lr ?_
        simp only [sum_R]; exact Ev.some
    | none =>
      rw [hl] at lt lr
      have hOk : OkTo e e.length acc := by
        have gen : ∀ (l : List Nd) (i : Nat) (a : List Int), l = e.drop i → i ≤ e.length → OkTo e i a → scanN a l = .inl acc → OkTo e e.length acc := by
          intro l
          induction l with
          | nil =>
            intro i a hl hi ho h
            rw [scanN] at h; cases h
            have := congrArg List.length hl
            rw [List.length_drop, List.length_nil] at this
            obtain rfl : i = e.length := by omega
            exact ho
          | cons n l ih =>
            intro i a hl hi ho h
            have hlt : i < e.length := by
              have := congrArg List.length hl
              rw [List.length_drop, List.length_cons] at this; omega
            rw [drop_cons hlt] at hl
            obtain ⟨rfl, rfl⟩ := List.cons.inj hl
            rw [scanN, ho.len] at h
            by_cases hc : nodeSpec (plB a i e[i].args.reverse) e[i] = 0
            · rw [if_neg (fun k => k hc)] at h
              exact ih (i + 1) _ rfl hlt (ho.succ (getE hlt) (nodeSpec_pl hc)) h
            · rw [if_pos hc] at h; cases h
        exact gen e 0 [] rfl (Nat.zero_le _) (OkTo.zero e) hs
      obtain ⟨n, bb, h3, h4, h5, h6, _⟩ := hOk.at_ (e.length - 1) (by omega)
      have hw : IntKind.wrap .i64 ((e.length : Int) - 1) = ((e.length - 1 : Nat) : Int) := by rw [wrap64 (by omega) (by omega)]; omega
      refine ⟨if bb = 0 then (0, 0) else (((e.length - 1 : Nat) : Int), 15), startT _ (Ev.bind st ?_), startR _ (Ev.bind sr ?_)⟩
      · simp only [sum_L]
        refine Ev.bind hpar (Ev.bind lt ?_)
        simp only [sum_L, hw, Int.toNat_natCast, h4, Option.bind_some, nn, if_true]
        by_cases hb : bb = 0
        · exact Ev.cF (by rw [hb]; rfl) (Ev.some' (by simp [hb]))
        · exact Ev.cT (by rw [bne_iff_ne]; exact hb) (Ev.some' (by simp [hb]))
      · simp only [sum_L]
        refine Ev.bind lr ?_
        simp only [sum_L, hw]
        refine Ev.bind (b_First_ev hOk hlen h4) ?_
        by_cases hb : bb = 0
        · exact Ev.cF (by rw [hb]; rfl) (Ev.some' (by simp [hb]))
        · exact Ev.cT (by rw [bne_iff_ne]; exact hb) (Ev.some' (by simp [hb]))
end Go.VL
end
section
namespace Go.VL
open Go.Proofs Go.RowKit
theorem slc_clip {α : Type} (f : α → List PV) (sz : Nat) [hr : RowF f sz] (l : List α) : slcPV sz (.isl (l.map f) .unk) none (some (.int .i64 (l.length : Int))) (some (.int .i64 (l.length : Int))) = some (.isl (l.map f) .exact) := by
  have hl : lenOk sz (l.map f) := fun cs h => by
    obtain ⟨x, _, rfl⟩ := List.mem_map.1 h
    exact hr.len x
  have h0 : (0 : Int) ≤ (l.length : Int) := by omega
  simp only [slcPV, natOf]
  rw [if_pos h0]
  simp only [Int.toNat_natCast, List.length_map, Option.isSome_some, and_true]
  rw [if_pos ⟨Nat.zero_le _, Nat.le_refl _, hl⟩]
  simp only [if_true]
  rw [List.take_of_length_le (by rw [List.length_map]; exact Nat.le_refl _), List.drop_zero]
theorem pu_exact (l : List Str) : Pu (.isl (l.map strL) .exact) := by
  have h := pu_sl pu_strL l
  cases h with
  | isl _ _ h1 h2 => exact .isl _ _ h1 (by simp)
theorem clip120_c (l : List Str) {c : Ck} : PCall Tryz.prog 120 [.isl (l.map strL) c] (.isl (l.map strL) .exact) := by
  refine PCall.wk (args := [.isl (l.map strL) .unk]) ?_ (.isl .nil)
  refine PCall.of_empty (PuL.mem (.cons (pu_sl pu_strL _) .nil)) (MCall_of_W ok120 (by simp) (W_start ?_)) (pu_exact l)
  unfold ac120
  simp -implicitDefEqProofs only [go_sem, ↓reduceIte, Nat.reduceEqDiff, List.length_map, slc_clip strL 1]
  first | done | exact .pure _ (pu_exact l)
end Go.VL
end
section
set_option maxRecDepth 8000
namespace Go.VL
open Go.Proofs
theorem dop_app {α : Type} {σ : Nat → PV} {H : AH} {sz b : Nat} {x y : AE} {f : α → List PV} (hf : ∀ x, rowLike sz (f x)) (xs ys : List α) (c c2 : Ck)
    (hx : x.ev σ = .isl (xs.map f) c) (hy : wk2 (y.ev σ) = .isl (ys.map f) c2) (hok : okc H c) (hb : (xs.length + ys.length) * b ≤ 1099511627776) :
    ∃ c' H', dop (.app sz b x y) σ H = some (.isl ((xs ++ ys).map f) c', H') ∧ okc H' c' ∧ H.next ≤ H'.next ∧ (∀ i, H'.obj i = H.obj i) ∧ (∀ c3, okc H c3 → Dis c c3 → okc H' c3 ∧ Dis c' c3) := by
  have h := WO_app (P := Tryz.prog) (s := []) (Q := fun e σ' H' => ∃ c', σ' = upd σ (some 0) (.isl ((xs ++ ys).map f) c') ∧ okc H' c' ∧ H.next ≤ H'.next ∧ (∀ i, H'.obj i = H.obj i) ∧ (∀ c3, okc H c3 → Dis c c3 → okc H' c3 ∧ Dis c' c3)) (d := some 0) (l := []) (H := H) hf xs ys c c2 hx hy hok hb
    (fun c' H' h1 h2 h3 h4 => ⟨c', rfl, h1, h2, h3, h4⟩)
  have h2 : WD Tryz.prog (dop (.app sz b x y) σ H) (some 0) [] [] (fun e σ' H' => ∃ c', σ' = upd σ (some 0) (.isl ((xs ++ ys).map f) c') ∧ okc H' c' ∧ H.next ≤ H'.next ∧ (∀ i, H'.obj i = H.obj i) ∧ (∀ c3, okc H c3 → Dis c c3 → okc H' c3 ∧ Dis c' c3)) σ := by
    have h3 : WO Tryz.prog (⟨some 0, .d (.app sz b x y), none⟩ :: []) [] _ σ H := h
    rw [WO, WOps_d] at h3
    revert h3
    cases dop (.app sz b x y) σ H with
    | none => intro h3; exact h3
    | some q => intro h3; exact h3
  revert h2
  cases dop (.app sz b x y) σ H with
  | none => intro h2; exact h2.elim
  | some q =>
    intro h2
    obtain ⟨c', e, h3⟩ := (h2 : ∃ c', upd σ (some 0) q.1 = upd σ (some 0) (.isl ((xs ++ ys).map f) c') ∧ okc q.2 c' ∧ H.next ≤ q.2.next ∧ (∀ i, q.2.obj i = H.obj i) ∧ (∀ c3, okc H c3 → Dis c c3 → okc q.2 c3 ∧ Dis c' c3))
    have e2 := congrFun e 0
    simp only [upd, if_true] at e2
    exact ⟨c', q.2, by rw [← e2], h3⟩
section
variable {α : Type}
def walkL (rec : Int → List Str → α → Option α) (n : Nd) (bound : List Str) : Nat → List Int → α → Option α
  | _, [], a => some a
  | i, op :: l, a => Option.bind (t_binds n (i : Int)) fun b => if (bound.length + b.length) * 16 ≤ 1099511627776 then Option.bind (rec op (bound ++ b) a) fun a' => walkL rec n bound (i + 1) l a' else none
def walkF (step : α → Int → List Str → Option α) (e : List Nd) : Nat → Int → List Str → α → Option α
  | 0, _, _, _ => none
  | k + 1, at_, bound, a => Option.bind (step a at_ bound) fun a' => if 0 ≤ at_ then Option.bind (e[at_.toNat]?) fun n => if n.args.length ≤ 1099511627776 then walkL (walkF step e k) n bound 0 n.args a' else none else none
structure Visit (g : FuncId) (caps : List PV) (S : α → AH → Prop) (step : α → Int → List Str → Option α) : Prop where
  stable : ∀ a H H', S a H → H.next ≤ H'.next → (∀ i, H'.obj i = H.obj i) → (∀ c, okc H c → okc H' c) → S a H'
  call : ∀ a at_ bound a' H, S a H → step a at_ bound = some a' → MCall Tryz.prog g (.int .i64 at_ :: .isl (bound.map strL) .unk :: caps) H fun _ H' => S a' H'
theorem walk_loop {g : FuncId} {caps : List PV} {S : α → AH → Prop} {step : α → Int → List Str → Option α} (hv : Visit g caps S step) (e : List Nd) (k : Nat)
    (ih : ∀ (at_ : Int) (bound : List Str) (a a' : α) (H : AH), S a H → walkF step e k at_ bound a = some a' → MCall Tryz.prog 70 [exprPV e, .int .i64 at_, strsPV bound, .fn (.func g) [] caps] H fun _ H' => S a' H')
    (at_ : Int) (bound : List Str) (n : Nd) (e2 : 0 ≤ at_) (e3 : e[at_.toNat]? = some n) (e4 : n.args.length ≤ 1099511627776) :
    ∀ (l : List Int) (i : Nat) (a a' : α) (σ : Nat → PV) (H : AH), l = n.args.drop i → i ≤ n.args.length → σ 0 = exprPV e → σ 1 = .int .i64 at_ → σ 2 = strsPV bound → σ 3 = .fn (.func g) [] caps → σ 18 = intsPV n.args → σ 19 = .int .i64 n.args.length → σ 20 = .int .i64 i →
      S a H → walkL (walkF step e k) n bound i l a = some a' → ∀ (Q : Post), (∀ σ' H', S a' H' → Q (.exit 0) σ' H') → W Tryz.prog (.loop ac70_b0) Q σ H := by
  intro l
  induction l with
  | nil =>
    intro i a a' σ H hl hi s0 s1 s2 s3 s18 s19 s20 hS h Q q0
    have hii : i = n.args.length := by
      have := congrArg List.length hl
      rw [List.length_drop, List.length_nil] at this; omega
    rw [walkL] at h
    cases h
    refine W_loopK (fun K hK => W_start ?_)
    unfold ac70_b0
    have hd : decide ((i : Int) < (n.args.length : Int)) = false := decide_eq_false (by omega)
    simp -implicitDefEqProofs only [go_sem, ↓reduceIte, Nat.reduceEqDiff, s19, s20, hd]
    exact q0 _ _ hS
  | cons op l ihl =>
    intro i a a' σ H hl hi s0 s1 s2 s3 s18 s19 s20 hS h Q q0
    have hlt : i < n.args.length := by
      have := congrArg List.length hl
      rw [List.length_drop, List.length_cons] at this; omega
    have hop : n.args[i]? = some op := by
      have := congrArg (·[0]?) hl
      simpa [List.getElem?_drop] using this.symm
    have hl' : l = n.args.drop (i + 1) := by
      have := congrArg List.tail hl
      simpa using this
    rw [walkL] at h
    cases e5 : t_binds n (i : Int) with
    | none => rw [bind_N e5] at h; cases h
    | some b =>
    rw [bind_S e5] at h
    by_cases e6 : (bound.length + b.length) * 16 ≤ 1099511627776
    case neg => rw [if_neg e6] at h; cases h
    rw [if_pos e6] at h
    cases e7 : walkF step e k op (bound ++ b) a with
    | none => rw [bind_N e7] at h; cases h
    | some a1 =>
    rw [bind_S e7] at h
    refine W_loopK (fun K hK => W_start ?_)
    unfold ac70_b0
    have hd : decide ((i : Int) < (n.args.length : Int)) = true := decide_eq_true (by omega)
    simp -implicitDefEqProofs only [go_sem, ↓reduceIte, Nat.reduceEqDiff, s0, s1, s2, s3, s18, s19, s20, hd, List.getElem?_map, hop, Option.map_some]
    have hb := t_binds_c n (i : Int) e5
    have hw : IntKind.wrap .i64 ((i : Int) + 1) = ((i + 1 : Nat) : Int) := by rw [IntKind.wrap_i64]; omega
    refine ⟨fun _ => True, trivial, ?_⟩
    refine WPar_r (exprPV e) (fun H' _ => by simp -implicitDefEqProofs only [go_sem, ↓reduceIte, Nat.reduceEqDiff, s0, s1, s2, s3, s18, s19, s20, e2, e3, List.getElem?_map, Option.map_some, Nat.reduceAdd]) ?_
    refine WPar_r (.int .i64 op) (fun H' _ => by simp -implicitDefEqProofs only [go_sem, ↓reduceIte, Nat.reduceEqDiff, s0, s1, s2, s3, s18, s19, s20, e2, e3, List.getElem?_map, Option.map_some, Nat.reduceAdd]) ?_
    refine WPar_r (strsPV bound) (fun H' _ => by simp -implicitDefEqProofs only [go_sem, ↓reduceIte, Nat.reduceEqDiff, s0, s1, s2, s3, s18, s19, s20, e2, e3, List.getElem?_map, Option.map_some, Nat.reduceAdd]) ?_
    refine WPar_call (.isl (bound.map strL) .exact) (by simp -implicitDefEqProofs only [go_sem, ↓reduceIte, Nat.reduceEqDiff, s0, s1, s2, s3, s18, s19, s20, e2, e3, List.getElem?_map, Option.map_some, Nat.reduceAdd]; exact clip120_c bound) ?_
    refine WPar_r (exprPV e) (fun H' _ => by simp -implicitDefEqProofs only [go_sem, ↓reduceIte, Nat.reduceEqDiff, s0, s1, s2, s3, s18, s19, s20, e2, e3, List.getElem?_map, Option.map_some, Nat.reduceAdd]) ?_
    refine WPar_r (.int .i64 at_) (fun H' _ => by simp -implicitDefEqProofs only [go_sem, ↓reduceIte, Nat.reduceEqDiff, s0, s1, s2, s3, s18, s19, s20, e2, e3, List.getElem?_map, Option.map_some, Nat.reduceAdd]) ?_
    refine WPar_r (.iptr n.cells 0) (fun H' _ => by simp -implicitDefEqProofs only [go_sem, ↓reduceIte, Nat.reduceEqDiff, s0, s1, s2, s3, s18, s19, s20, e2, e3, List.getElem?_map, Option.map_some, Nat.reduceAdd]) ?_
    refine WPar_r (.agg n.cells) (fun H' _ => by simp -implicitDefEqProofs only [go_sem, ↓reduceIte, Nat.reduceEqDiff, s0, s1, s2, s3, s18, s19, s20, e2, e3, List.getElem?_map, Option.map_some, Nat.reduceAdd]) ?_
    refine WPar_r (.int .i64 i) (fun H' _ => by simp -implicitDefEqProofs only [go_sem, ↓reduceIte, Nat.reduceEqDiff, s0, s1, s2, s3, s18, s19, s20, e2, e3, List.getElem?_map, Option.map_some, Nat.reduceAdd]) ?_
    refine WPar_call (strsPV b) (by simp -implicitDefEqProofs only [go_sem, ↓reduceIte, Nat.reduceEqDiff, s0, s1, s2, s3, s18, s19, s20, e2, e3, List.getElem?_map, Option.map_some, Nat.reduceAdd]; exact hb) ?_
    obtain ⟨c', H', f1, f2, f3, f4, f5⟩ := dop_app (σ := (upd (upd (upd (upd (upd (upd (upd (upd (upd (upd (upd (upd (upd (upd (upd (upd σ (some 21) (PV.bool true)) (some 22) (PV.int IntKind.i64 ↑i)) (some 23) (PV.iptr [PV.int IntKind.i64 op] 0)) (some 24) (PV.int IntKind.i64 op)) (some 8) (PV.int IntKind.i64 ↑i)) (some 9) (PV.int IntKind.i64 op)) (some 25) (exprPV e)) (some 26) (.int .i64 op)) (some 27) (strsPV bound)) (some 28) (.isl (bound.map strL) .exact)) (some 29) (exprPV e)) (some 30) (.int .i64 at_)) (some 31) (.iptr n.cells 0)) (some 32) (.agg n.cells)) (some 33) (.int .i64 i)) (some 34) (strsPV b))) (H := H) (sz := 1) (b := 16) (x := AE.t 28) (y := AE.t 34) row_str bound b .exact .unk (by simp -implicitDefEqProofs only [go_sem, ↓reduceIte, Nat.reduceEqDiff, s0, s1, s2, s3, s18, s19, s20, e2, e3, List.getElem?_map, Option.map_some, Nat.reduceAdd]) (by simp -implicitDefEqProofs only [go_sem, ↓reduceIte, Nat.reduceEqDiff, s0, s1, s2, s3, s18, s19, s20, e2, e3, List.getElem?_map, Option.map_some, Nat.reduceAdd]) trivial e6
    refine WPar_d _ H' f1 trivial ?_
    refine WPar_r (.fn (.func g) [] caps) (fun H' _ => by simp -implicitDefEqProofs only [go_sem, ↓reduceIte, Nat.reduceEqDiff, s0, s1, s2, s3, s18, s19, s20, e2, e3, List.getElem?_map, Option.map_some, Nat.reduceAdd]) ?_
    have hS' : S a H' := hv.stable a H H' hS f3 f4 fun c hc => (f5 c hc .exact).1
    rw [WPar_nil]
    refine WO_start ?_
    simp -implicitDefEqProofs only [go_sem, ↓reduceIte, Nat.reduceEqDiff, s0, s1, s2, s3, s18, s19, s20, e2, e3, List.getElem?_map, Option.map_some, Nat.reduceAdd]
    refine MCall.mono (MCall.wk (ih op (bound ++ b) a a1 H' hS' e7) (.same (.same (.isl (.same .nil))))) fun r H2 hS2 => ?_
    simp -implicitDefEqProofs only [go_sem, ↓reduceIte, Nat.reduceEqDiff, s0, s1, s2, s3, s18, s19, s20, e2, e3, List.getElem?_map, Option.map_some, Nat.reduceAdd]
    refine hK _ _ ?_
    refine ihl (i + 1) a1 a' _ H2 hl' hlt ?_ ?_ ?_ ?_ ?_ ?_ ?_ hS2 h Q q0
    all_goals (simp -implicitDefEqProofs only [go_sem, ↓reduceIte, Nat.reduceEqDiff, s0, s1, s2, s3, s18, s19, s20, e2, e3, List.getElem?_map, Option.map_some, Nat.reduceAdd, hw]; try rfl)
theorem walk70 {g : FuncId} {caps : List PV} {S : α → AH → Prop} {step : α → Int → List Str → Option α} (hv : Visit g caps S step) (e : List Nd) :
    ∀ (k : Nat) (at_ : Int) (bound : List Str) (a a' : α) (H : AH), S a H → walkF step e k at_ bound a = some a' → MCall Tryz.prog 70 [exprPV e, .int .i64 at_, strsPV bound, .fn (.func g) [] caps] H fun _ H' => S a' H' := by
  intro k
  induction k with
  | zero => intro at_ bound a a' H hS h; simp only [walkF, reduceCtorEq] at h
  | succ k ih =>
    intro at_ bound a a' H hS h
    rw [walkF] at h
    cases e1 : step a at_ bound with
    | none => rw [bind_N e1] at h; cases h
    | some a1 =>
    rw [bind_S e1] at h
    by_cases e2 : 0 ≤ at_
    case neg => rw [if_neg e2] at h; cases h
    rw [if_pos e2] at h
    cases e3 : e[at_.toNat]? with
    | none => rw [bind_N e3] at h; cases h
    | some n =>
    rw [bind_S e3] at h
    by_cases e4 : n.args.length ≤ 1099511627776
    case neg => rw [if_neg e4] at h; cases h
    rw [if_pos e4] at h
    refine MCall_of_W ok70 (by simp) (W_start ?_)
    unfold ac70
    simp -implicitDefEqProofs only [go_sem, ↓reduceIte, Nat.reduceEqDiff]
    refine MCall.mono (hv.call a at_ bound a1 H hS e1) fun r H1 hS1 => ?_
    simp -implicitDefEqProofs only [go_sem, ↓reduceIte, Nat.reduceEqDiff, e2, e3]
    refine walk_loop hv e k ih at_ bound n e2 e3 e4 n.args 0 a1 a' _ H1 rfl (Nat.zero_le _) ?_ ?_ ?_ ?_ ?_ ?_ ?_ hS1 h _ ?_
    all_goals first
      | (simp -implicitDefEqProofs only [go_sem, ↓reduceIte, Nat.reduceEqDiff]; done)
      | skip
    intro σ' H' hS'
    exact hS'
end
end Go.VL
end
section
namespace Go.VL
inductive Lx : List PV → List PV → Prop where
  | nil : Lx [] []
  | same {p : PV} {l m : List PV} (h : Lx l m) : Lx (p :: l) (p :: m)
  | isl {es : List (List PV)} {c : Ck} {l m : List PV} (h : Lx l m) : Lx (.isl es c :: l) (.isl es .unk :: m)
  | agg {cs ds l m : List PV} (h0 : Lx cs ds) (h : Lx l m) : Lx (.agg cs :: l) (.agg ds :: m)
theorem Lx.get {l m : List PV} (h : Lx l m) : l.length = m.length ∧ ∀ (j : Nat) (q : PV), m[j]? = some q → ∃ p, l[j]? = some p ∧ ∀ (G : Gh) (n : Nat) (v : Value), V G n p v → V G n q v := by
  induction h with
  | nil => exact ⟨rfl, fun j q e => by simp at e⟩
  | same _ ih =>
    refine ⟨by simp [ih.1], fun j q e => ?_⟩
    cases j with
    | zero => simp at e; subst e; exact ⟨_, rfl, fun _ _ _ h => h⟩
    | succ j => simp at e; simpa using ih.2 j q e
  | isl _ ih =>
    refine ⟨by simp [ih.1], fun j q e => ?_⟩
    cases j with
    | zero => simp at e; subst e; exact ⟨_, rfl, fun _ _ _ h => h.wk⟩
    | succ j => simp at e; simpa using ih.2 j q e
  | @agg cs ds _ _ _ _ ih0 ih =>
    refine ⟨by simp [ih.1], fun j q e => ?_⟩
    cases j with
    | zero =>
      simp at e; subst e
      refine ⟨_, rfl, fun G n v h => ?_⟩
      generalize hp : PV.agg cs = p at h
      cases h with
      | agg cs' vs h1 h2 =>
        cases hp
        refine .agg ds vs (h1.trans ih0.1) fun j c x hc hx => ?_
        obtain ⟨p, e1, e2⟩ := ih0.2 j c hc
        exact e2 _ _ _ (h2 j p x e1 hx)
      | _ => cases hp
    | succ j => simp at e; simpa using ih.2 j q e
variable [Glob]
theorem MCall.wx {P : Program} {H : AH} {f : FuncId} {args args' : List PV} {k : PV → AH → Prop} (h : MCall P f args H k) (hw : Lx args' args) : MCall P f args' H k := by
  obtain ⟨h1, h2⟩ := hw.get
  refine ⟨h.enters, fun B G w vs hU hM hv => h.call B G w vs hU hM ⟨hv.1.trans h1, fun j c x hc hx => ?_⟩⟩
  obtain ⟨p, e, hp⟩ := h2 j c hc
  exact hp _ _ _ (hv.2 j p x e hx)
theorem PCall.wx {P : Program} {f : FuncId} {args args' : List PV} {r : PV} (h : PCall P f args r) (hw : Lx args' args) : PCall P f args' r := fun H => (h H).wx hw
end Go.VL
end
section
set_option maxRecDepth 8000
set_option maxHeartbeats 4000000
namespace Go.VL
open Go.Proofs
def t_isNamed (k : Nat) (n_0 : Nd) : Option Bool :=
  Option.bind (t_operatorOf k n_0.text) fun p2 => cond (n_0.kind == 2) (Option.bind (t_isFixed n_0.text) fun p5 => cond p5 (cond (n_0.kind == 3) (some (!p2.2)) (some false)) (some true)) (cond (n_0.kind == 3) (some (!p2.2)) (some false))
theorem t_isNamed_u (k : Nat) (n_0 : Nd) {r : Bool} (h : t_isNamed k n_0 = some r) : PCall Tryz.prog 80 [(.agg (Nd.cells n_0))] (.bool r) := by
  refine PCall.of_empty (PuL.mem (.cons (.agg _ (Nd.pu _)) .nil)) (MCall_of_W ok80 (by simp) (W_start ?_)) (.bool _)
  unfold t_isNamed at h
  unfold ac80
  obtain ⟨p2, e1, h⟩ := bind_E h
  simp -implicitDefEqProofs only [go_sem]
  refine mcall_pure (t_operatorOf_c k n_0.text e1) ?_
  rcases cond_E h with ⟨e3, h⟩ | ⟨e3, h⟩
  ·obtain ⟨p5, e4, h⟩ := bind_E h
   simp -implicitDefEqProofs only [go_sem, WO_store, e3]
   refine mcall_pure (t_isFixed_c n_0.text e4) ?_
   rcases cond_E h with ⟨e6, h⟩ | ⟨e6, h⟩
   ·rcases cond_E h with ⟨e7, h⟩ | ⟨e7, h⟩
    ·obtain rfl := som_E h
     simp -implicitDefEqProofs only [go_sem, e6, e7]
     exact (.pure _ (.bool _))
    ·obtain rfl := som_E h
     simp -implicitDefEqProofs only [go_sem, e6, e7]
     exact (.pure _ (.bool _))
   ·obtain rfl := som_E h
    simp -implicitDefEqProofs only [go_sem, e6]
    exact (.pure _ (.bool _))
  ·rcases cond_E h with ⟨e8, h⟩ | ⟨e8, h⟩
   ·obtain rfl := som_E h
    simp -implicitDefEqProofs only [go_sem, WO_store, e3, e8]
    exact (.pure _ (.bool _))
   ·obtain rfl := som_E h
    simp -implicitDefEqProofs only [go_sem, WO_store, e3, e8]
    exact (.pure _ (.bool _))
theorem t_isNamed_c (k : Nat) (n_0 : Nd) {r : Bool} (h : t_isNamed k n_0 = some r) : PCall Tryz.prog 80 [(.agg (Nd.cells n_0))] (.bool r) := t_isNamed_u k n_0 h
def b_NameOf (s_0 : Str) : Option (List Nd) :=
  some [(Nd.mk 2 0 s_0 [] [])]
theorem b_NameOf_u (s_0 : Str) {r : List Nd} (h : b_NameOf s_0 = some r) : PCall Tryz.prog 89 [(.str s_0)] (.isl (r.map Nd.cells) .unk) := by
  refine PCall.of_empty (PuL.mem (.cons (.str _) .nil)) (MCall_of_W ok89 (by simp) (W_start ?_)) (pu_sl Nd.pu _)
  unfold b_NameOf at h
  unfold ac89
  obtain rfl := som_E h
  simp -implicitDefEqProofs only [go_sem]
  exact (fz_sl Nd.pu [(Nd.mk 2 0 s_0 [] [])] _)
theorem b_NameOf_c (s_0 : Str) {r : List Nd} (h : b_NameOf s_0 = some r) : PCall Tryz.prog 89 [(.str s_0)] (.isl (r.map Nd.cells) .unk) := b_NameOf_u s_0 h
def b_Join_b0 : Nat → Int → Int → Int → Str → (List Str) → (List Int) → (List Int) → Int → Option (List Int)
  | 0, _, _, _, _, _, _, _, _ => none
  | k + 1, from_8, x_10_0, x_10_1, x_10_2, x_10_3, x_10_4, args_11, j_12 =>
    cond (decide (j_12 < (x_10_4.length : Int))) (if 0 ≤ j_12 then Option.bind (x_10_4[j_12.toNat]?) fun x15 => if (args_11.length + 1) * 8 ≤ 1099511627776 then b_Join_b0 k from_8 x_10_0 x_10_1 x_10_2 x_10_3 x_10_4 (args_11 ++ [(IntKind.wrap .i64 (x15 + from_8))]) (IntKind.wrap .i64 (j_12 + 1)) else none else none) (some (args_11))
def b_Join_b0l : List Nat := [11, 12, 47, 48, 49, 50, 51, 52, 53, 54, 55, 56, 57, 58, 59, 60, 61, 62, 63]
theorem b_Join_b0_W : ∀ (k : Nat) (o_x_10 : Nat) (from_8 : Int) (x_10_0 : Int) (x_10_1 : Int) (x_10_2 : Str) (x_10_3 : List Str) (x_10_4 : List Int) (args_11 : List Int) (j_12 : Int) (c_args_11_b0 : Ck) (c_p0_b0 : Ck) (c_p1_b0 : Ck) (σ0 σ : Nat → PV) (H0 H : AH) (f0 : Fr b_Join_b0l σ0 σ) (hf0 : HF [] H0 H) (sl : σ 8 = (.int .i64 from_8) ∧ σ 10 = (.ref (o_x_10) 0) ∧ σ 11 = (.isl (args_11.map intL) c_args_11_b0) ∧ σ 12 = (.int .i64 j_12) ∧ H.obj o_x_10 = some [(.int .i64 x_10_0), (.int .i64 x_10_1), (.str x_10_2), (.isl (x_10_3.map strL) .unk), (.isl (x_10_4.map intL) .unk)]) (l_o_x_10 : o_x_10 < H.next) (ok_args_11 : okc H c_args_11_b0) (ok_p0 : okc H c_p0_b0) (ok_p1 : okc H c_p1_b0) (ds_c_args_11_b0_c_p0_b0 : Dis c_args_11_b0 c_p0_b0) (ds_c_args_11_b0_c_p1_b0 : Dis c_args_11_b0 c_p1_b0) (ds_c_p0_b0_c_p1_b0 : Dis c_p0_b0 c_p1_b0) (o : List Int) (h : b_Join_b0 k from_8 x_10_0 x_10_1 x_10_2 x_10_3 x_10_4 args_11 j_12 = some o) (Q : Post) (q0 : ∀ (p : List Int) (c0 : Ck) (σ' : Nat → PV) (H' : AH), o = p → Fr b_Join_b0l σ0 σ' → HF [] H0 H' → (σ' 11 = (.isl (p.map intL) c0)) → okc H' c_p0_b0 → okc H' c_p1_b0 → Dis c_p0_b0 c_p1_b0 → Q (.exit 4) σ' H') , W Tryz.prog (.loop ac84_b0) Q σ H := by
  intro k
  induction k with
  | zero => intro o_x_10 from_8 x_10_0 x_10_1 x_10_2 x_10_3 x_10_4 args_11 j_12 c_args_11_b0 c_p0_b0 c_p1_b0 σ0 σ H0 H f0 hf0 sl l_o_x_10 ok_args_11 ok_p0 ok_p1 ds_c_args_11_b0_c_p0_b0 ds_c_args_11_b0_c_p1_b0 ds_c_p0_b0_c_p1_b0 o h Q q0; simp only [b_Join_b0, reduceCtorEq] at h
  | succ k ih =>
    intro o_x_10 from_8 x_10_0 x_10_1 x_10_2 x_10_3 x_10_4 args_11 j_12 c_args_11_b0 c_p0_b0 c_p1_b0 σ0 σ H0 H f0 hf0 sl l_o_x_10 ok_args_11 ok_p0 ok_p1 ds_c_args_11_b0_c_p0_b0 ds_c_args_11_b0_c_p1_b0 ds_c_p0_b0_c_p1_b0 o h Q q0
    obtain ⟨s8, s10, s11, s12, g_o_x_10⟩ := sl
    have n_o_x_10 := ne_next l_o_x_10
    have m_o_x_10 := ne_add l_o_x_10
    have hle0 := hf0.1
    unfold b_Join_b0 at h
    refine W_loopK (fun K hK => W_start ?_)
    unfold ac84_b0
    rcases cond_E h with ⟨e13, h⟩ | ⟨e13, h⟩
    ·obtain ⟨e14, h⟩ := if_E h
     obtain ⟨x15, e16, h⟩ := bind_E h
     obtain ⟨e21, h⟩ := if_E h
     simp -implicitDefEqProofs only [go_sem, s8, s10, s11, s12, g_o_x_10, e13, e14, e16]
     refine WO_app (f := intL) row_int args_11 ([(IntKind.wrap .i64 (x15 + from_8))] : List Int) c_args_11_b0 .exact (by simp -implicitDefEqProofs only [go_sem]) (by simp -implicitDefEqProofs only [go_sem]) (by repeat (first | assumption | exact okc.nil | exact okc.exact | apply okc.new | apply okc.put)) (by first | exact e21 | (simp only [List.length_cons, List.length_nil] ; exact e21)) (fun c17 H18 ok19 le ob26 rl20 => ?_)
     have hf27 : HF [] _ H18 := ⟨le, fun i _ _ => ob26 i⟩
     obtain ⟨ok22, ds23⟩ := rl20 c_p0_b0 (by repeat (first | assumption | exact okc.nil | exact okc.exact | apply okc.new | apply okc.put)) ds_c_args_11_b0_c_p0_b0
     obtain ⟨ok24, ds25⟩ := rl20 c_p1_b0 (by repeat (first | assumption | exact okc.nil | exact okc.exact | apply okc.new | apply okc.put)) ds_c_args_11_b0_c_p1_b0
     have n28 := ne_next (show o_x_10 < H18.next by first | omega | (simp only [AH.new_next, AH.put_next, AH.tok_next, AH.use_next]; omega))
     have m29 := ne_add (show o_x_10 < H18.next by first | omega | (simp only [AH.new_next, AH.put_next, AH.tok_next, AH.use_next]; omega))
     simp -implicitDefEqProofs only [go_sem, s12]
     refine hK _ _ ?_
     exact ih o_x_10 from_8 x_10_0 x_10_1 x_10_2 x_10_3 x_10_4 (args_11 ++ [(IntKind.wrap .i64 (x15 + from_8))]) (IntKind.wrap .i64 (j_12 + 1)) c17 c_p0_b0 c_p1_b0 _ _ _ _ (by repeat (first | exact f0 | refine Fr.upd (by decide) ?_)) (by repeat (first | exact hf0 | refine HF.new ?_ | refine HF.tokd ?_ | refine HF.used ?_ | refine HF.put (by first | (right; omega) | (left; simp only [List.mem_cons, true_or, or_true])) ?_ | refine HF.via hf27 (by first | exact fun i hi => absurd hi List.not_mem_nil | (intro i hi; simp only [List.mem_cons, List.not_mem_nil, or_false] at hi ⊢; first | exact .inl hi | omega)) ?_)) (by simp -implicitDefEqProofs only [go_sem, s8, s10, g_o_x_10, ob26, and_self]) (by first | omega | (simp only [AH.new_next, AH.put_next, AH.tok_next, AH.use_next]; omega)) (by repeat (first | assumption | exact okc.nil | exact okc.exact | apply okc.new | apply okc.put)) (by repeat (first | assumption | exact okc.nil | exact okc.exact | apply okc.new | apply okc.put)) (by repeat (first | assumption | exact okc.nil | exact okc.exact | apply okc.new | apply okc.put)) ds23 ds25 ds_c_p0_b0_c_p1_b0 _ h _ q0
    ·obtain rfl := som_E h
     simp -implicitDefEqProofs only [go_sem, s10, s12, g_o_x_10, e13]
     exact q0 _ c_args_11_b0 _ _ rfl (by repeat (first | exact f0 | refine Fr.upd (by decide) ?_)) (by repeat (first | exact hf0 | refine HF.new ?_ | refine HF.tokd ?_ | refine HF.used ?_ | refine HF.put (by first | (right; omega) | (left; simp only [List.mem_cons, true_or, or_true])) ?_)) (by simp -implicitDefEqProofs only [go_sem, s11]) (by repeat (first | assumption | exact okc.nil | exact okc.exact | apply okc.new | apply okc.put)) (by repeat (first | assumption | exact okc.nil | exact okc.exact | apply okc.new | apply okc.put)) ds_c_p0_b0_c_p1_b0
def b_Join_b1 : Nat → (List (List Nd)) → (List Nd) → Int → Int → Int → Option (List Nd)
  | 0, _, _, _, _, _ => none
  | k + 1, operands_1, out_5, i_7, from_8, k_9 =>
    if 0 ≤ i_7 then Option.bind (operands_1[i_7.toNat]?) fun x5 => cond (decide (k_9 < (x5.length : Int))) (if 0 ≤ k_9 then Option.bind (x5[k_9.toNat]?) fun x9 => Option.bind (b_OwnTexts x9.names) fun p12 => Option.bind (b_Join_b0 k from_8 x9.kind x9.n x9.text p12 x9.args ([] : List Int) 0) (fun p32 => if (out_5.length + 1) * 80 ≤ 1099511627776 then b_Join_b1 k operands_1 (out_5 ++ [(Nd.mk x9.kind x9.n x9.text p12 p32)]) i_7 from_8 (IntKind.wrap .i64 (k_9 + 1)) else none) else none) (some (out_5)) else none
def b_Join_b1l : List Nat := [5, 9, 10, 11, 12, 27, 28, 29, 30, 31, 32, 33, 34, 35, 36, 37, 38, 39, 40, 41, 42, 43, 44, 45, 46, 47, 48, 49, 50, 51, 52, 53, 54, 55, 56, 57, 58, 59, 60, 61, 62, 63, 64, 65, 66, 67, 68, 69]
theorem b_Join_b1_W : ∀ (k : Nat) (operands_1 : List (List Nd)) (out_5 : List Nd) (i_7 : Int) (from_8 : Int) (k_9 : Int) (c_out_5_b1 : Ck) (c_p0_b1 : Ck) (σ0 σ : Nat → PV) (H0 H : AH) (f0 : Fr b_Join_b1l σ0 σ) (hf0 : HF [] H0 H) (sl : σ 1 = (.isl (operands_1.map (slL Nd.cells)) .unk) ∧ σ 5 = (.isl (out_5.map Nd.cells) c_out_5_b1) ∧ σ 7 = (.int .i64 i_7) ∧ σ 8 = (.int .i64 from_8) ∧ σ 9 = (.int .i64 k_9)) (ok_out_5 : okc H c_out_5_b1) (ok_p0 : okc H c_p0_b1) (ds_c_out_5_b1_c_p0_b1 : Dis c_out_5_b1 c_p0_b1) (o : List Nd) (h : b_Join_b1 k operands_1 out_5 i_7 from_8 k_9 = some o) (Q : Post) (q0 : ∀ (p : List Nd) (c0 : Ck) (σ' : Nat → PV) (H' : AH), o = p → Fr b_Join_b1l σ0 σ' → HF [] H0 H' → (σ' 5 = (.isl (p.map Nd.cells) c0)) → okc H' c0 → okc H' c_p0_b1 → Dis c0 c_p0_b1 → Q (.exit 2) σ' H') , W Tryz.prog (.loop ac84_b1) Q σ H := by
  intro k
  induction k with
  | zero => intro operands_1 out_5 i_7 from_8 k_9 c_out_5_b1 c_p0_b1 σ0 σ H0 H f0 hf0 sl ok_out_5 ok_p0 ds_c_out_5_b1_c_p0_b1 o h Q q0; simp only [b_Join_b1, reduceCtorEq] at h
  | succ k ih =>
    intro operands_1 out_5 i_7 from_8 k_9 c_out_5_b1 c_p0_b1 σ0 σ H0 H f0 hf0 sl ok_out_5 ok_p0 ds_c_out_5_b1_c_p0_b1 o h Q q0
    obtain ⟨s1, s5, s7, s8, s9⟩ := sl
    have hle0 := hf0.1
    unfold b_Join_b1 at h
    refine W_loopK (fun K hK => W_start ?_)
    unfold ac84_b1
    obtain ⟨e4, h⟩ := if_E h
    obtain ⟨x5, e6, h⟩ := bind_E h
    rcases cond_E h with ⟨e7, h⟩ | ⟨e7, h⟩
    ·obtain ⟨e8, h⟩ := if_E h
     obtain ⟨x9, e10, h⟩ := bind_E h
     obtain ⟨p12, e11, h⟩ := bind_E h
     simp -implicitDefEqProofs only [go_sem, WO_store, s1, s7, s9, e4, e6, e7, e8, e10]
     refine mcall_pure (b_OwnTexts_c x9.names e11) ?_
     simp -implicitDefEqProofs only [go_sem, WO_store]
     obtain ⟨o30, h31, h⟩ := bind_E h
     refine b_Join_b0_W k (H.next) from_8 x9.kind x9.n x9.text p12 x9.args ([] : List Int) 0 .nil c_out_5_b1 c_p0_b1 _ _ _ _ (Fr.refl _ _) (HF.refl _ _) (by simp -implicitDefEqProofs only [go_sem, s8, and_self]) (by first | omega | (simp only [AH.new_next, AH.put_next]; omega)) (by repeat (first | assumption | exact okc.nil | exact okc.exact | apply okc.new | apply okc.put)) (by repeat (first | assumption | exact okc.nil | exact okc.exact | apply okc.new | apply okc.put)) (by repeat (first | assumption | exact okc.nil | exact okc.exact | apply okc.new | apply okc.put)) Dis.nil Dis.nil ds_c_out_5_b1_c_p0_b1 _ h31 _ ?_
     ·rintro p32 c36 σ' H35 eo fr33 hf34 s37 ok38 ok39 ds40
      rw [eo] at h
      have s41 : σ' 1 = (.isl (operands_1.map (slL Nd.cells)) .unk) := (fr33 1 (by decide)).trans (by simp -implicitDefEqProofs only [go_sem, s1])
      have s42 : σ' 5 = (.isl (out_5.map Nd.cells) c_out_5_b1) := (fr33 5 (by decide)).trans (by simp -implicitDefEqProofs only [go_sem, s5])
      have s43 : σ' 7 = (.int .i64 i_7) := (fr33 7 (by decide)).trans (by simp -implicitDefEqProofs only [go_sem, s7])
      have s44 : σ' 8 = (.int .i64 from_8) := (fr33 8 (by decide)).trans (by simp -implicitDefEqProofs only [go_sem, s8])
      have s45 : σ' 9 = (.int .i64 k_9) := (fr33 9 (by decide)).trans (by simp -implicitDefEqProofs only [go_sem, s9])
      have s46 : σ' 10 = (.ref (H.next) 0) := (fr33 10 (by decide)).trans (by simp -implicitDefEqProofs only [go_sem])
      have le := hf34.1
      simp only [AH.new_next, AH.put_next] at le
      have g47 : H35.obj (H.next) = some [(.int .i64 x9.kind), (.int .i64 x9.n), (.str x9.text), (.isl (p12.map strL) .unk), (.isl (x9.args.map intL) .unk)] := (hf34.2 _ (by first | omega | (simp only [AH.new_next, AH.put_next]; omega)) (by first | exact List.not_mem_nil | (simp only [List.mem_cons, List.not_mem_nil, or_false, not_or]; omega))).trans (by simp -implicitDefEqProofs only [go_sem])
      have n48 := ne_next (show H.next < H35.next by first | omega | (simp only [AH.new_next, AH.put_next, AH.tok_next, AH.use_next]; omega))
      have m49 := ne_add (show H.next < H35.next by first | omega | (simp only [AH.new_next, AH.put_next, AH.tok_next, AH.use_next]; omega))
      obtain ⟨e54, h⟩ := if_E h
      simp -implicitDefEqProofs only [go_sem, WO_store, s37, s42, s46, g47]
      refine WO_app (f := Nd.cells) Nd.row out_5 ([(Nd.mk x9.kind x9.n x9.text p12 p32)] : List Nd) c_out_5_b1 .exact (by simp -implicitDefEqProofs only [go_sem]) (by simp -implicitDefEqProofs only [go_sem]) (by repeat (first | assumption | exact okc.nil | exact okc.exact | apply okc.new | apply okc.put)) (by first | exact e54 | (simp only [List.length_cons, List.length_nil] ; exact e54)) (fun c50 H51 ok52 le ob57 rl53 => ?_)
      have hf58 : HF [] _ H51 := ⟨le, fun i _ _ => ob57 i⟩
      simp only [AH.put_next] at le
      obtain ⟨ok55, ds56⟩ := rl53 c_p0_b1 (by repeat (first | assumption | exact okc.nil | exact okc.exact | apply okc.new | apply okc.put)) ds40
      have n59 := ne_next (show H.next < H51.next by first | omega | (simp only [AH.new_next, AH.put_next, AH.tok_next, AH.use_next]; omega))
      have m60 := ne_add (show H.next < H51.next by first | omega | (simp only [AH.new_next, AH.put_next, AH.tok_next, AH.use_next]; omega))
      simp -implicitDefEqProofs only [go_sem, s45]
      refine hK _ _ ?_
      exact ih operands_1 (out_5 ++ [(Nd.mk x9.kind x9.n x9.text p12 p32)]) i_7 from_8 (IntKind.wrap .i64 (k_9 + 1)) c50 c_p0_b1 _ _ _ _ (by repeat (first | exact f0 | refine Fr.upd (by decide) ?_ | refine Fr.via fr33 (by decide) ?_)) (by repeat (first | exact hf0 | refine HF.new ?_ | refine HF.tokd ?_ | refine HF.used ?_ | refine HF.put (by first | (right; omega) | (left; simp only [List.mem_cons, true_or, or_true])) ?_ | refine HF.via hf34 (by first | exact fun i hi => absurd hi List.not_mem_nil | (intro i hi; simp only [List.mem_cons, List.not_mem_nil, or_false] at hi ⊢; first | exact .inl hi | omega)) ?_ | refine HF.via hf58 (by first | exact fun i hi => absurd hi List.not_mem_nil | (intro i hi; simp only [List.mem_cons, List.not_mem_nil, or_false] at hi ⊢; first | exact .inl hi | omega)) ?_)) (by simp -implicitDefEqProofs only [go_sem, s41, s43, s44, and_self]) (by repeat (first | assumption | exact okc.nil | exact okc.exact | apply okc.new | apply okc.put)) (by repeat (first | assumption | exact okc.nil | exact okc.exact | apply okc.new | apply okc.put)) ds56 _ h _ q0
    ·obtain rfl := som_E h
     simp -implicitDefEqProofs only [go_sem, s1, s7, s9, e4, e6, e7]
     exact q0 _ c_out_5_b1 _ _ rfl (by repeat (first | exact f0 | refine Fr.upd (by decide) ?_)) (by repeat (first | exact hf0 | refine HF.new ?_ | refine HF.tokd ?_ | refine HF.used ?_ | refine HF.put (by first | (right; omega) | (left; simp only [List.mem_cons, true_or, or_true])) ?_)) (by simp -implicitDefEqProofs only [go_sem, s5]) (by repeat (first | assumption | exact okc.nil | exact okc.exact | apply okc.new | apply okc.put)) (by repeat (first | assumption | exact okc.nil | exact okc.exact | apply okc.new | apply okc.put)) ds_c_out_5_b1_c_p0_b1
def b_Join_b2 : Nat → (List (List Nd)) → (List Nd) → Int → Int → Str → (List Str) → (List Int) → Int → Option (((List Nd) × Int × Int × Str × (List Str) × (List Int)))
  | 0, _, _, _, _, _, _, _, _ => none
  | k + 1, operands_1, out_5, n_6_0, n_6_1, n_6_2, n_6_3, n_6_4, i_7 =>
    cond (decide (i_7 < (operands_1.length : Int))) (Option.bind (b_Join_b1 k operands_1 out_5 i_7 (out_5.length : Int) 0) (fun p63 => if (n_6_4.length + 1) * 8 ≤ 1099511627776 then b_Join_b2 k operands_1 p63 n_6_0 n_6_1 n_6_2 n_6_3 (n_6_4 ++ [(IntKind.wrap .i64 ((p63.length : Int) - 1))]) (IntKind.wrap .i64 (i_7 + 1)) else none)) (some ((out_5, n_6_0, n_6_1, n_6_2, n_6_3, n_6_4)))
def b_Join_b2l : List Nat := [5, 7, 8, 9, 10, 11, 12, 19, 20, 21, 22, 23, 24, 25, 26, 27, 28, 29, 30, 31, 32, 33, 34, 35, 36, 37, 38, 39, 40, 41, 42, 43, 44, 45, 46, 47, 48, 49, 50, 51, 52, 53, 54, 55, 56, 57, 58, 59, 60, 61, 62, 63, 64, 65, 66, 67, 68, 69, 70, 71, 72, 73, 74, 75, 76, 77]
theorem b_Join_b2_W : ∀ (k : Nat) (o_n_6 : Nat) (operands_1 : List (List Nd)) (out_5 : List Nd) (n_6_0 : Int) (n_6_1 : Int) (n_6_2 : Str) (n_6_3 : List Str) (n_6_4 : List Int) (i_7 : Int) (c_out_5_b2 : Ck) (c_n_6_4_b2 : Ck) (σ0 σ : Nat → PV) (H0 H : AH) (f0 : Fr b_Join_b2l σ0 σ) (hf0 : HF [o_n_6] H0 H) (sl : σ 1 = (.isl (operands_1.map (slL Nd.cells)) .unk) ∧ σ 5 = (.isl (out_5.map Nd.cells) c_out_5_b2) ∧ σ 6 = (.ref (o_n_6) 0) ∧ σ 7 = (.int .i64 i_7) ∧ H.obj o_n_6 = some [(.int .i64 n_6_0), (.int .i64 n_6_1), (.str n_6_2), (.isl (n_6_3.map strL) .unk), (.isl (n_6_4.map intL) c_n_6_4_b2)]) (l_o_n_6 : o_n_6 < H.next) (ok_out_5 : okc H c_out_5_b2) (ok_n_6_4 : okc H c_n_6_4_b2) (ds_c_out_5_b2_c_n_6_4_b2 : Dis c_out_5_b2 c_n_6_4_b2) (o : ((List Nd) × Int × Int × Str × (List Str) × (List Int))) (h : b_Join_b2 k operands_1 out_5 n_6_0 n_6_1 n_6_2 n_6_3 n_6_4 i_7 = some o) (Q : Post) (q0 : ∀ (p : (List Nd) × Int × Int × Str × (List Str) × (List Int)) (c0 : Ck) (c5 : Ck) (σ' : Nat → PV) (H' : AH), o = p → Fr b_Join_b2l σ0 σ' → HF [o_n_6] H0 H' → (σ' 5 = (.isl (p.1.map Nd.cells) c0) ∧ H'.obj o_n_6 = some [(.int .i64 p.2.1), (.int .i64 p.2.2.1), (.str p.2.2.2.1), (.isl (p.2.2.2.2.1.map strL) .unk), (.isl (p.2.2.2.2.2.map intL) c5)]) → okc H' c0 → Q (.exit 0) σ' H') , W Tryz.prog (.loop ac84_b2) Q σ H := by
  intro k
  induction k with
  | zero => intro o_n_6 operands_1 out_5 n_6_0 n_6_1 n_6_2 n_6_3 n_6_4 i_7 c_out_5_b2 c_n_6_4_b2 σ0 σ H0 H f0 hf0 sl l_o_n_6 ok_out_5 ok_n_6_4 ds_c_out_5_b2_c_n_6_4_b2 o h Q q0; simp only [b_Join_b2, reduceCtorEq] at h
  | succ k ih =>
    intro o_n_6 operands_1 out_5 n_6_0 n_6_1 n_6_2 n_6_3 n_6_4 i_7 c_out_5_b2 c_n_6_4_b2 σ0 σ H0 H f0 hf0 sl l_o_n_6 ok_out_5 ok_n_6_4 ds_c_out_5_b2_c_n_6_4_b2 o h Q q0
    obtain ⟨s1, s5, s6, s7, g_o_n_6⟩ := sl
    have n_o_n_6 := ne_next l_o_n_6
    have m_o_n_6 := ne_add l_o_n_6
    have hle0 := hf0.1
    unfold b_Join_b2 at h
    refine W_loopK (fun K hK => W_start ?_)
    unfold ac84_b2
    rcases cond_E h with ⟨e3, h⟩ | ⟨e3, h⟩
    ·try simp -implicitDefEqProofs only [go_sem, s1, s5, s7, e3]
     obtain ⟨o61, h62, h⟩ := bind_E h
     refine b_Join_b1_W k operands_1 out_5 i_7 (out_5.length : Int) 0 c_out_5_b2 c_n_6_4_b2 _ _ _ _ (Fr.refl _ _) (HF.refl _ _) (by simp -implicitDefEqProofs only [go_sem, s1, s5, s7, and_self]) (by repeat (first | assumption | exact okc.nil | exact okc.exact | apply okc.new | apply okc.put)) (by repeat (first | assumption | exact okc.nil | exact okc.exact | apply okc.new | apply okc.put)) ds_c_out_5_b2_c_n_6_4_b2 _ h62 _ ?_
     ·rintro p63 c67 σ' H66 eo fr64 hf65 s69 ok68 ok70 ds71
      rw [eo] at h
      have s72 : σ' 1 = (.isl (operands_1.map (slL Nd.cells)) .unk) := (fr64 1 (by decide)).trans (by simp -implicitDefEqProofs only [go_sem, s1])
      have s73 : σ' 6 = (.ref (o_n_6) 0) := (fr64 6 (by decide)).trans (by simp -implicitDefEqProofs only [go_sem, s6])
      have s74 : σ' 7 = (.int .i64 i_7) := (fr64 7 (by decide)).trans (by simp -implicitDefEqProofs only [go_sem, s7])
      have le := hf65.1
      have g75 : H66.obj (o_n_6) = some [(.int .i64 n_6_0), (.int .i64 n_6_1), (.str n_6_2), (.isl (n_6_3.map strL) .unk), (.isl (n_6_4.map intL) c_n_6_4_b2)] := (hf65.2 _ (by first | omega | (simp only [AH.new_next, AH.put_next, AH.tok_next, AH.use_next]; omega)) (by first | exact List.not_mem_nil | (simp only [List.mem_cons, List.not_mem_nil, or_false, not_or]; omega))).trans (by simp -implicitDefEqProofs only [go_sem, g_o_n_6])
      have n76 := ne_next (show o_n_6 < H66.next by first | omega | (simp only [AH.new_next, AH.put_next, AH.tok_next, AH.use_next]; omega))
      have m77 := ne_add (show o_n_6 < H66.next by first | omega | (simp only [AH.new_next, AH.put_next, AH.tok_next, AH.use_next]; omega))
      obtain ⟨e82, h⟩ := if_E h
      simp -implicitDefEqProofs only [go_sem, s69, s73, g75]
      refine WO_app (f := intL) row_int n_6_4 ([(IntKind.wrap .i64 ((p63.length : Int) - 1))] : List Int) c_n_6_4_b2 .exact (by simp -implicitDefEqProofs only [go_sem]) (by simp -implicitDefEqProofs only [go_sem]) (by repeat (first | assumption | exact okc.nil | exact okc.exact | apply okc.new | apply okc.put)) (by first | exact e82 | (simp only [List.length_cons, List.length_nil] ; exact e82)) (fun c78 H79 ok80 le ob85 rl81 => ?_)
      have hf86 : HF [] _ H79 := ⟨le, fun i _ _ => ob85 i⟩
      obtain ⟨ok83, ds84⟩ := rl81 c67 (by repeat (first | assumption | exact okc.nil | exact okc.exact | apply okc.new | apply okc.put)) (Dis.symm ds71)
      have n87 := ne_next (show o_n_6 < H79.next by first | omega | (simp only [AH.new_next, AH.put_next, AH.tok_next, AH.use_next]; omega))
      have m88 := ne_add (show o_n_6 < H79.next by first | omega | (simp only [AH.new_next, AH.put_next, AH.tok_next, AH.use_next]; omega))
      simp -implicitDefEqProofs only [go_sem, WO_store, s73, s74, g75, ob85]
      refine hK _ _ ?_
      exact ih o_n_6 operands_1 p63 n_6_0 n_6_1 n_6_2 n_6_3 (n_6_4 ++ [(IntKind.wrap .i64 ((p63.length : Int) - 1))]) (IntKind.wrap .i64 (i_7 + 1)) c67 c78 _ _ _ _ (by repeat (first | exact f0 | refine Fr.upd (by decide) ?_ | refine Fr.via fr64 (by decide) ?_)) (by repeat (first | exact hf0 | refine HF.new ?_ | refine HF.tokd ?_ | refine HF.used ?_ | refine HF.put (by first | (right; omega) | (left; simp only [List.mem_cons, true_or])) ?_ | refine HF.via hf65 (by first | exact fun i hi => absurd hi List.not_mem_nil | (intro i hi; simp only [List.mem_cons, List.not_mem_nil, or_false] at hi ⊢; first | exact .inl hi | omega)) ?_ | refine HF.via hf86 (by first | exact fun i hi => absurd hi List.not_mem_nil | (intro i hi; simp only [List.mem_cons, List.not_mem_nil, or_false] at hi ⊢; first | exact .inl hi | omega)) ?_)) (by simp -implicitDefEqProofs only [go_sem, s69, s72, s73, and_self]) (by first | omega | (simp only [AH.put_next]; omega)) (by repeat (first | assumption | exact okc.nil | exact okc.exact | apply okc.new | apply okc.put)) (by repeat (first | assumption | exact okc.nil | exact okc.exact | apply okc.new | apply okc.put)) (Dis.symm ds84) _ h _ q0
    ·obtain rfl := som_E h
     simp -implicitDefEqProofs only [go_sem, s1, s7, e3]
     exact q0 _ c_out_5_b2 c_n_6_4_b2 _ _ rfl (by repeat (first | exact f0 | refine Fr.upd (by decide) ?_)) (by repeat (first | exact hf0 | refine HF.new ?_ | refine HF.tokd ?_ | refine HF.used ?_ | refine HF.put (by first | (right; omega) | (left; simp only [List.mem_cons, true_or, or_true])) ?_)) (by simp -implicitDefEqProofs only [go_sem, s5, g_o_n_6, and_self]) (by repeat (first | assumption | exact okc.nil | exact okc.exact | apply okc.new | apply okc.put))
def b_Join (k : Nat) (root_0 : Nd) (operands_1 : List (List Nd)) : Option (List Nd) :=
  Option.bind (b_OwnTexts root_0.names) fun p2 => Option.bind (b_Join_b2 k operands_1 ([] : List Nd) root_0.kind root_0.n root_0.text p2 ([] : List Int) 0) (fun p91 => if (p91.1.length + 1) * 80 ≤ 1099511627776 then some (p91.1 ++ [(Nd.mk p91.2.1 p91.2.2.1 p91.2.2.2.1 p91.2.2.2.2.1 p91.2.2.2.2.2)]) else none)
theorem b_Join_u (k : Nat) (root_0 : Nd) (operands_1 : List (List Nd)) {r : List Nd} (h : b_Join k root_0 operands_1 = some r) : PCall Tryz.prog 84 [(.agg (Nd.cells root_0)), (.isl (operands_1.map (slL Nd.cells)) .unk)] (.isl (r.map Nd.cells) .unk) := by
  refine PCall.of_empty (PuL.mem (.cons (.agg _ (Nd.pu _)) (.cons (pu_sl (pu_slL Nd.pu) _) .nil))) (MCall_of_W ok84 (by simp) (W_start ?_)) (pu_sl Nd.pu _)
  unfold b_Join at h
  unfold ac84
  obtain ⟨p2, e1, h⟩ := bind_E h
  simp -implicitDefEqProofs only [go_sem, WO_store]
  refine mcall_pure (b_OwnTexts_c root_0.names e1) ?_
  simp -implicitDefEqProofs only [go_sem, WO_store]
  obtain ⟨o89, h90, h⟩ := bind_E h
  refine b_Join_b2_W k (AH.empty.next + 1) operands_1 ([] : List Nd) root_0.kind root_0.n root_0.text p2 ([] : List Int) 0 .nil .nil _ _ _ _ (Fr.refl _ _) (HF.refl _ _) (by simp -implicitDefEqProofs only [go_sem, and_self]) (by first | omega | (simp only [AH.new_next, AH.put_next]; omega)) (by repeat (first | assumption | exact okc.nil | exact okc.exact | apply okc.new | apply okc.put)) (by repeat (first | assumption | exact okc.nil | exact okc.exact | apply okc.new | apply okc.put)) Dis.nil _ h90 _ ?_
  ·rintro p91 c95 c98 σ' H94 eo fr92 hf93 ⟨s97, g99⟩ ok96
   rw [eo] at h
   have s100 : σ' 6 = (.ref (AH.empty.next + 1) 0) := (fr92 6 (by decide)).trans (by simp -implicitDefEqProofs only [go_sem])
   have le := hf93.1
   simp only [AH.new_next, AH.put_next] at le
   have n102 := ne_next (show AH.empty.next + 1 < H94.next by first | omega | (simp only [AH.new_next, AH.put_next, AH.tok_next, AH.use_next]; omega))
   have m103 := ne_add (show AH.empty.next + 1 < H94.next by first | omega | (simp only [AH.new_next, AH.put_next, AH.tok_next, AH.use_next]; omega))
   obtain ⟨e108, h⟩ := if_E h
   simp -implicitDefEqProofs only [go_sem, s97, g99, s100]
   refine WO_app (f := Nd.cells) Nd.row p91.1 ([(Nd.mk p91.2.1 p91.2.2.1 p91.2.2.2.1 p91.2.2.2.2.1 p91.2.2.2.2.2)] : List Nd) c95 .exact (by simp -implicitDefEqProofs only [go_sem]) (by simp -implicitDefEqProofs only [go_sem]) (by repeat (first | assumption | exact okc.nil | exact okc.exact | apply okc.new | apply okc.put)) (by first | exact e108 | (simp only [List.length_cons, List.length_nil] ; exact e108)) (fun c104 H105 ok106 le ob109 rl107 => ?_)
   have hf110 : HF [] _ H105 := ⟨le, fun i _ _ => ob109 i⟩
   have n111 := ne_next (show AH.empty.next < H105.next by first | omega | (simp only [AH.new_next, AH.put_next, AH.tok_next, AH.use_next]; omega))
   have m112 := ne_add (show AH.empty.next < H105.next by first | omega | (simp only [AH.new_next, AH.put_next, AH.tok_next, AH.use_next]; omega))
   have n113 := ne_next (show AH.empty.next + 1 < H105.next by first | omega | (simp only [AH.new_next, AH.put_next, AH.tok_next, AH.use_next]; omega))
   have m114 := ne_add (show AH.empty.next + 1 < H105.next by first | omega | (simp only [AH.new_next, AH.put_next, AH.tok_next, AH.use_next]; omega))
   obtain rfl := som_E h
   simp -implicitDefEqProofs only [go_sem]
   exact (fz_sl Nd.pu (p91.1 ++ [(Nd.mk p91.2.1 p91.2.2.1 p91.2.2.2.1 p91.2.2.2.2.1 p91.2.2.2.2.2)]) _)
theorem b_Join_c (k : Nat) (root_0 : Nd) (operands_1 : List (List Nd)) {c1 : Ck} {r : List Nd} (h : b_Join k root_0 operands_1 = some r) : PCall Tryz.prog 84 [(.agg (Nd.cells root_0)), (.isl (operands_1.map (slL Nd.cells)) c1)] (.isl (r.map Nd.cells) .unk) := (b_Join_u k root_0 operands_1 h).wk (.same (.isl .nil))
def b_Apply (k : Nat) (operator_0 : Str) (operands_1 : List (List Nd)) : Option (List Nd) :=
  Option.bind (b_Join k (Nd.mk 3 0 operator_0 [] []) operands_1) fun p2 => some p2
theorem b_Apply_u (k : Nat) (operator_0 : Str) (operands_1 : List (List Nd)) {r : List Nd} (h : b_Apply k operator_0 operands_1 = some r) : PCall Tryz.prog 88 [(.str operator_0), (.isl (operands_1.map (slL Nd.cells)) .unk)] (.isl (r.map Nd.cells) .unk) := by
  refine PCall.of_empty (PuL.mem (.cons (.str _) (.cons (pu_sl (pu_slL Nd.pu) _) .nil))) (MCall_of_W ok88 (by simp) (W_start ?_)) (pu_sl Nd.pu _)
  unfold b_Apply at h
  unfold ac88
  obtain ⟨p2, e1, h⟩ := bind_E h
  simp -implicitDefEqProofs only [go_sem]
  refine mcall_pure (PCall.wx (b_Join_c k (Nd.mk 3 0 operator_0 [] []) operands_1 e1) (.agg (.same (.same (.same (.isl (.isl .nil))))) (.same .nil))) ?_
  obtain rfl := som_E h
  simp -implicitDefEqProofs only [go_sem]
  exact (fz_sl Nd.pu p2 _)
theorem b_Apply_c (k : Nat) (operator_0 : Str) (operands_1 : List (List Nd)) {c1 : Ck} {r : List Nd} (h : b_Apply k operator_0 operands_1 = some r) : PCall Tryz.prog 88 [(.str operator_0), (.isl (operands_1.map (slL Nd.cells)) c1)] (.isl (r.map Nd.cells) .unk) := (b_Apply_u k operator_0 operands_1 h).wk (.same (.isl .nil))
def l_Sum (k : Nat) : Option (List Nd) :=
  Option.bind (b_NameOf ([97] : Str)) fun p2 => Option.bind (b_NameOf ([98] : Str)) fun p4 => Option.bind (b_NameOf ([99] : Str)) fun p6 => Option.bind (b_Apply k ([42] : Str) [p4, p6]) fun p8 => Option.bind (b_Apply k ([43] : Str) [p2, p8]) fun p10 => some p10
theorem l_Sum_u (k : Nat) {r : List Nd} (h : l_Sum k = some r) : PCall Tryz.prog 45 [] (.isl (r.map Nd.cells) .unk) := by
  refine PCall.of_empty (PuL.mem .nil) (MCall_of_W ok45 (by simp) (W_start ?_)) (pu_sl Nd.pu _)
  unfold l_Sum at h
  unfold ac45
  obtain ⟨p2, e1, h⟩ := bind_E h
  simp -implicitDefEqProofs only [go_sem]
  refine mcall_pure (b_NameOf_c ([97] : Str) e1) ?_
  obtain ⟨p4, e3, h⟩ := bind_E h
  simp -implicitDefEqProofs only [go_sem]
  refine mcall_pure (b_NameOf_c ([98] : Str) e3) ?_
  obtain ⟨p6, e5, h⟩ := bind_E h
  simp -implicitDefEqProofs only [go_sem]
  refine mcall_pure (b_NameOf_c ([99] : Str) e5) ?_
  obtain ⟨p8, e7, h⟩ := bind_E h
  simp -implicitDefEqProofs only [go_sem]
  refine mcall_pure (b_Apply_c k ([42] : Str) [p4, p6] e7) ?_
  obtain ⟨p10, e9, h⟩ := bind_E h
  simp -implicitDefEqProofs only [go_sem]
  refine mcall_pure (b_Apply_c k ([43] : Str) [p2, p8] e9) ?_
  obtain rfl := som_E h
  simp -implicitDefEqProofs only [go_sem]
  exact (fz_sl Nd.pu p10 _)
theorem l_Sum_c (k : Nat) {r : List Nd} (h : l_Sum k = some r) : PCall Tryz.prog 45 [] (.isl (r.map Nd.cells) .unk) := l_Sum_u k  h
end Go.VL
end
section
set_option maxRecDepth 8000
namespace Go.VL
open Go.Proofs
def freeStep (k : Nat) (e : List Nd) (out : List Str) (at_ : Int) (bound : List Str) : Option (List Str) :=
  if 0 ≤ at_ then Option.bind (e[at_.toNat]?) fun n => Option.bind (t_isNamed k n) fun b => cond b (Option.bind (g_Contains_string_string k bound n.text) fun c => cond c (some out) (if (out.length + 1) * 16 ≤ 1099511627776 then some (out ++ [n.text]) else none)) (some out) else none
def FreeS (e : List Nd) (o0 o1 : Nat) (out : List Str) (H : AH) : Prop := o0 < H.next ∧ o1 < H.next ∧ o0 ≠ o1 ∧ H.obj o0 = some [exprPV e] ∧ ∃ v ids, H.obj o1 = some [v] ∧ RowN H strL 1 out v ids ∧ o0 ∉ ids ∧ o1 ∉ ids
theorem free_visit (k : Nat) (e : List Nd) (o0 o1 : Nat) : Visit 118 [.ref o0 0, .ref o1 0] (FreeS e o0 o1) (freeStep k e) where
  stable := by
    rintro a H H' ⟨h1, h2, h3, h4, v, ids, h5, h6, h7, h8⟩ hn ho hc
    exact ⟨by omega, by omega, h3, (ho _).trans h4, v, ids, (ho _).trans h5, h6.hf (M := []) ⟨hn, fun i _ _ => ho i⟩ (fun _ _ h => by cases h), h7, h8⟩
  call := by
    rintro a at_ bound a' H ⟨h1, h2, h3, h4, v, ids, h5, h6, h7, h8⟩ h
    unfold freeStep at h
    by_cases e1 : 0 ≤ at_
    case neg => rw [if_neg e1] at h; cases h
    rw [if_pos e1] at h
    cases e2 : e[at_.toNat]? with
    | none => rw [bind_N e2] at h; cases h
    | some n =>
    rw [bind_S e2] at h
    cases e3 : t_isNamed k n with
    | none => rw [bind_N e3] at h; cases h
    | some b =>
    rw [bind_S e3] at h
    refine MCall_of_W ok118 (by simp) (W_start ?_)
    unfold ac118
    simp -implicitDefEqProofs only [go_sem, ↓reduceIte, Nat.reduceEqDiff, h4, e1, e2, List.getElem?_map, Option.map_some, Nat.reduceAdd]
    refine mcall_pure (t_isNamed_c k n e3) ?_
    cases b with
    | false =>
      rw [cond_F rfl] at h; cases h
      simp -implicitDefEqProofs only [go_sem, ↓reduceIte, Nat.reduceEqDiff, h4, e1, e2, List.getElem?_map, Option.map_some, Nat.reduceAdd]
      exact ⟨h1, h2, h3, h4, v, ids, h5, h6, h7, h8⟩
    | true =>
      rw [cond_T rfl] at h
      cases e4 : g_Contains_string_string k bound n.text with
      | none => rw [bind_N e4] at h; cases h
      | some c =>
      rw [bind_S e4] at h
      simp -implicitDefEqProofs only [go_sem, ↓reduceIte, Nat.reduceEqDiff, h4, e1, e2, List.getElem?_map, Option.map_some, Nat.reduceAdd]
      refine mcall_pure (g_Contains_string_string_c k bound n.text e4) ?_
      cases c with
      | true =>
        rw [cond_T rfl] at h; cases h
        simp -implicitDefEqProofs only [go_sem, ↓reduceIte, Nat.reduceEqDiff, h4, e1, e2, List.getElem?_map, Option.map_some, Nat.reduceAdd]
        exact ⟨h1, h2, h3, h4, v, ids, h5, h6, h7, h8⟩
      | false =>
        rw [cond_F rfl] at h
        by_cases e5 : (a.length + 1) * 16 ≤ 1099511627776
        case neg => rw [if_neg e5] at h; cases h
        rw [if_pos e5] at h; cases h
        simp -implicitDefEqProofs only [go_sem, ↓reduceIte, Nat.reduceEqDiff, h4, e1, e2, List.getElem?_map, Option.map_some, Nat.reduceAdd]
        refine WS_parS ?_
        simp -implicitDefEqProofs only [go_sem, ↓reduceIte, Nat.reduceEqDiff, h4, h5, e1, e2, List.getElem?_map, Option.map_some, Nat.reduceAdd]
        refine WO_rowapp (f := strL) row_str a [n.text] .exact (by simp -implicitDefEqProofs only [go_sem, ↓reduceIte, Nat.reduceEqDiff]) h6 (by simp -implicitDefEqProofs only [go_sem, ↓reduceIte, Nat.reduceEqDiff]) (by simp) (by simpa using e5) (fun v' ids' H' g1 g2 g3 g4 => ?_)
        have k0 : H'.obj o0 = some [exprPV e] := (g3.2 o0 h1 h7).trans h4
        have k1 : H'.obj o1 = some [v] := (g3.2 o1 h2 h8).trans h5
        have n0 : ¬ o0 ∈ ids' := fun hm => by
          rcases g2 o0 hm with q | q
          · exact h7 q
          · omega
        have n1 : ¬ o1 ∈ ids' := fun hm => by
          rcases g2 o1 hm with q | q
          · exact h8 q
          · omega
        have g1' := g1
        rcases g1 with ⟨_, q, _⟩ | ⟨id, cap, junk, rfl, rfl, q1, q2, q3, q4⟩
        · simp at q
        · have hid : id ≠ o1 := fun e => n1 (by rw [e]; exact List.mem_singleton.2 rfl)
          simp -implicitDefEqProofs only [go_sem, WO_store, ↓reduceIte, Nat.reduceEqDiff, k1, List.length_cons, List.length_nil, Nat.reduceAdd, Nat.le_refl]
          refine ⟨Nat.lt_of_lt_of_le h1 g3.1, Nat.lt_of_lt_of_le h2 g3.1, h3, ?_, _, [id], ?_, g1'.put n1, n0, n1⟩
          · show (if o0 = o1 then _ else H'.obj o0) = _
            rw [if_neg h3]; exact k0
          · show (if o1 = o1 then _ else H'.obj o1) = _
            rw [if_pos rfl]
end Go.VL
end
section
namespace Go.VL
open Go.Proofs Go.RowKit
section
variable {B : Nat → Prop} {G : Gh} {H : AH} {w w' : World}
theorem HM.putRow (hM : HM B H G w) {id b : Nat} {cs cs' : List PV} {arr : Array Value} {t : TypeId} (d : Array (List UInt8)) (n : Nat) (os : Array Obj) (ho : H.obj id = some cs) (hm : G.m id = some b) (hb : w.heap[b]? = some (.cells arr t (0, 0)))
    (hV : Vs G H.next cs' (Sort.putCells encStr 0 d arr)) : HM B (H.put id cs') G (Sort.grow (Sort.putRow encStr (Sort.ahead w n) b 0 d) os) ∧ Tr B w (Sort.grow (Sort.putRow encStr (Sort.ahead w n) b 0 d) os) := by
  obtain ⟨h1, h2⟩ := hM.putObj ho hm hb hV
  have hh : (Sort.putRow encStr (Sort.ahead w n) b 0 d).heap = (w.setRow b (Sort.putCells encStr 0 d arr)).heap := by
    apply Array.ext_getElem?
    intro k
    by_cases hk : k = b
    · subst hk
      rw [setRow_heap w k arr _ t (0, 0) hb]
      show (w.heap.modify k _)[k]? = _
      rw [Array.getElem?_modify, if_pos rfl, hb]
      rfl
    · rw [setRow_other w b k _ hk]
      show (w.heap.modify b _)[k]? = _
      rw [Array.getElem?_modify, if_neg (Ne.symm hk)]
  have hB : Below (w.setRow b (Sort.putCells encStr 0 d arr)).heap.size (w.setRow b (Sort.putCells encStr 0 d arr)) (Sort.grow (Sort.putRow encStr (Sort.ahead w n) b 0 d) os) := by
    refine ⟨rfl, rfl, rfl, ?_, fun k hk => ?_⟩
    · rw [Sort.size_grow, hh]; exact Nat.le_add_right _ _
    · rw [← hh] at hk ⊢
      rw [Sort.heap_grow_old _ _ hk]
  exact ⟨h1.below hB, (Tr.setRow h2 _).trans (Tr.below hB)⟩
theorem str_V {n : Nat} {s : List UInt8} {v : Value} (h : V G n (.str s) v) : v = .string ⟨s.toArray⟩ := by cases h; rfl
theorem msl_V {n id off len cap sz : Nat} {v : Value} (h : V G n (.msl id off len cap sz) v) : ∃ b, id < n ∧ G.m id = some b ∧ v = .slice (some ⟨b, off, none⟩) len cap := by
  cases h with
  | msl _ _ _ _ _ b h1 h2 => exact ⟨b, h1, h2, rfl⟩
theorem flat_strL (l : List Str) : (l.map strL).flatten = l.map PV.str := by
  induction l with
  | nil => rfl
  | cons s l ih => rw [List.map_cons, List.flatten_cons, ih]; rfl
theorem holds_row {l : List Str} {junk : List PV} {arr : Array Value} {b : Nat} {t : TypeId} (hb : w.heap[b]? = some (.cells arr t (0, 0))) (hV : Vs G H.next ((l.map strL).flatten ++ junk) arr) : Sort.Holds encStr w b 0 l.toArray := by
  intro j hj
  have hj' : j < l.length := by simpa using hj
  have hlt : j < arr.size := by rw [hV.1, List.length_append, flat_strL, List.length_map]; omega
  have hv := str_V (hV.2 j (.str l[j]) arr[j] (by rw [flat_strL, List.getElem?_append_left (by simpa using hj')]; simp [hj']) (by simp [hlt]))
  refine ⟨?_, ?_⟩
  · have : arr[j]? = some arr[j] := by simp [hlt]
    simp only [World.cell?, hb, Nat.zero_add, this, hv]
    simp [encStr, hj']
  · simp [World.frozen?, hb]
theorem put_Vs {n : Nat} {l m : List Str} {junk : List PV} {arr : Array Value} (hl : m.length = l.length) (hV : Vs G n ((l.map strL).flatten ++ junk) arr) : Vs G n ((m.map strL).flatten ++ junk) (Sort.putCells encStr 0 m.toArray arr) := by
  rw [flat_strL] at hV ⊢
  have hs := hV.1
  rw [List.length_append, List.length_map] at hs
  refine ⟨by simp [Sort.putCells, hs, hl], fun j c x hc hx => ?_⟩
  simp only [Sort.putCells, Array.getElem?_mapIdx, Option.map_eq_some_iff] at hx
  obtain ⟨y, hy, rfl⟩ := hx
  by_cases hj : j < m.length
  · rw [List.getElem?_append_left (by simpa using hj)] at hc
    simp [hj] at hc
    subst hc
    have h2 : 0 ≤ j ∧ j < 0 + m.toArray.size := by simpa using hj
    rw [if_pos h2]
    simp [encStr, hj]
    exact .str _
  · have h2 : ¬ (0 ≤ j ∧ j < 0 + m.toArray.size) := by simp; omega
    rw [if_neg h2]
    rw [List.getElem?_append_right (by simp; omega), List.length_map, hl] at hc
    refine hV.2 j c y ?_ hy
    rw [List.getElem?_append_right (by simp; omega), List.length_map]
    exact hc
end
def sortS (l : List Str) : List Str := l.mergeSort fun x y => decide (x ≤ y)
theorem sort66 {H : AH} {l : List Str} {v : PV} {ids : List Nat} (h : RowN H strL 1 l v ids) (hl : l.length < 4611686018427387904) : MCall Tryz.prog 66 [v] H fun _ H' => RowN H' strL 1 (sortS l) v ids ∧ HF ids H H' ∧ ∀ c, okc H c → okc H' c := by
  refine ⟨⟨_, Tryz.func66, rfl, by kernel_rfl⟩, fun B G w vs hU hM hv => ?_⟩
  obtain ⟨u, rfl, hu⟩ : ∃ u, vs = #[u] ∧ V G H.next v u := by
    obtain ⟨h1, h2⟩ := hv
    match vs, h1, h2 with
    | ⟨[u]⟩, _, h2 => exact ⟨u, rfl, h2 0 v u rfl rfl⟩
  rcases h with ⟨rfl, rfl, rfl⟩ | ⟨id, cap, junk, rfl, rfl, h2, h3, h4, h5⟩
  · rw [nil_V hu]
    refine (Tryz.slices_Sort_string_none none 0 w).mono ?_
    rintro e w' ⟨rfl, rfl⟩
    exact ⟨.tup [], _, H, G, rfl, Tr.refl _ _, Ext.refl _ _ _, Nat.le_refl _, hM, .tup [] #[] rfl (fun j c x e => by simp at e), .inl ⟨rfl, by simp [sortS], rfl⟩, HF.refl _ _, fun _ h => h⟩
  · obtain ⟨b, _, hm, rfl⟩ := msl_V hu
    obtain ⟨_, b', arr, t, k1, k2, k3, k4, k5⟩ := hM.obj id _ h4
    obtain rfl : b' = b := by rw [hm] at k1; exact (Option.some.inj k1).symm
    have hlt := hM.lt k3
    refine (Tryz.slices_Sort_string b' 0 cap l w (holds_row k3 k4) hlt hl).mono ?_
    rintro e w' ⟨rfl, n, os, rfl⟩
    have hlen : (sortS l).length = l.length := List.length_mergeSort _
    obtain ⟨e1, e2⟩ := hM.putRow (cs' := ((sortS l).map strL).flatten ++ junk) (sortS l).toArray n os h4 hm k3 (put_Vs hlen k4)
    refine ⟨.tup [], _, H.put id (((sortS l).map strL).flatten ++ junk), G, rfl, e2, Ext.refl _ _ _, Nat.le_refl _, e1, .tup [] #[] rfl (fun j c x e => by simp at e), .inr ⟨id, cap, junk, rfl, by rw [hlen], by rw [hlen]; exact h2, h3, ?_, by rw [hlen]; exact h5⟩, HF.put (.inl (List.mem_singleton.2 rfl)) (HF.refl _ _), fun c hc => hc.put⟩
    show (if id = id then some _ else _) = _
    rw [if_pos rfl]
theorem compact_le (l : List Str) : (Lib.compact l).length ≤ l.length := Lib.compact_length_le l
theorem compact119 {H : AH} {l : List Str} {v : PV} {ids : List Nat} (h : RowN H strL 1 l v ids) (hl : l.length < 4611686018427387904) : MCall Tryz.prog 119 [v] H fun r H' => RowN H' strL 1 (Lib.compact l) r ids ∧ HF ids H H' ∧ ∀ c, okc H c → okc H' c := by
  refine ⟨⟨_, Tryz.func119, rfl, by kernel_rfl⟩, fun B G w vs hU hM hv => ?_⟩
  obtain ⟨u, rfl, hu⟩ : ∃ u, vs = #[u] ∧ V G H.next v u := by
    obtain ⟨h1, h2⟩ := hv
    match vs, h1, h2 with
    | ⟨[u]⟩, _, h2 => exact ⟨u, rfl, h2 0 v u rfl rfl⟩
  rcases h with ⟨rfl, rfl, rfl⟩ | ⟨id, cap, junk, rfl, rfl, h2, h3, h4, h5⟩
  · rw [nil_V hu]
    refine (Tryz.slices_Compact_string_empty none 0 w).mono ?_
    rintro e w' ⟨rfl, rfl⟩
    exact ⟨.isl [] .nil, _, H, G, rfl, Tr.refl _ _, Ext.refl _ _ _, Nat.le_refl _, hM, nil_V hu ▸ hu, .inl ⟨rfl, rfl, rfl⟩, HF.refl _ _, fun _ h => h⟩
  · obtain ⟨b, _, hm, rfl⟩ := msl_V hu
    obtain ⟨_, b', arr, t, k1, k2, k3, k4, k5⟩ := hM.obj id _ h4
    obtain rfl : b' = b := by rw [hm] at k1; exact (Option.some.inj k1).symm
    refine (Tryz.slices_Compact_string b' 0 cap l w (holds_row k3 k4) (by omega) h2).mono ?_
    rintro e w' ⟨rfl, q, rfl⟩
    have hc := compact_le l
    have hlen : (Lib.compact l ++ List.replicate (l.length - (Lib.compact l).length) []).length = l.length := by rw [List.length_append, List.length_replicate]; omega
    obtain ⟨e1, e2⟩ := hM.putRow (cs' := ((Lib.compact l ++ List.replicate (l.length - (Lib.compact l).length) []).map strL).flatten ++ junk) (Lib.compact l ++ List.replicate (l.length - (Lib.compact l).length) []).toArray q #[] h4 hm k3 (put_Vs hlen k4)
    rw [Sort.grow_empty] at e1 e2
    refine ⟨.msl id 0 (Lib.compact l).length cap 1, _, H.put id (((Lib.compact l ++ List.replicate (l.length - (Lib.compact l).length) []).map strL).flatten ++ junk), G, rfl, e2, Ext.refl _ _ _, Nat.le_refl _, e1, .msl _ _ _ _ _ b' h3 hm, .inr ⟨id, cap, (List.replicate (l.length - (Lib.compact l).length) ([] : Str)).map PV.str ++ junk, rfl, rfl, by omega, h3, ?_, ?_⟩, HF.put (.inl (List.mem_singleton.2 rfl)) (HF.refl _ _), fun c hc => hc.put⟩
    · show (if id = id then some _ else _) = _
      rw [if_pos rfl, flat_strL, List.map_append, flat_strL, List.append_assoc]
    · rw [List.length_append, List.length_map, List.length_replicate, h5]
      omega
end Go.VL
end
