/- Part 5 of the proof: what the theorem rests on. -/
import Derived.Test.YthebklihgmhgoaaGreatDoorKa4
import Derived.Below
import Derived.Shelf.Spec.SlicesGrow
import Derived.Shelf.Strings.Builder1
import Derived.Shelf.Strings.Builder2
import Derived.Shelf.Strings.OnBuilder
import Derived.Shelf.Small.Bits
import Derived.Shelf.Strings.Builder2Cap
import Derived.Shelf.Strconv.Itoa0
import Derived.Shelf.Strconv.Itoa1
import Derived.Shelf.LaysM
import Derived.Shelf.Strconv.Itoa2
import Derived.Shelf.Strconv.Itoa3
import Derived.Shelf.Strings.Search1
import Derived.Shelf.Strings.Search2
import Derived.Shelf.Strings.Cut
import Derived.Shelf.Strings.Shaped
import Derived.Shelf.Sort.Plain
import Derived.Shelf.GgClosure.StringsIndexFunc
import Derived.Ground.GgwProg
import Derived.Shelf.GgClosure.StringsIndexFuncTop
import Derived.Shelf.Strings.Prefix
import Derived.Shelf.Strings.Fields
import Derived.Shelf.Unicode.Latin
import Derived.Shelf.Bits.Mul64
import Derived.Shelf.Unicode.Is16White
import Derived.Shelf.Unicode.IsSpaceAny
import Derived.Shelf.Unicode.Is16WhiteD
import Derived.Shelf.Unicode.IsSpaceAnyD
import Derived.Shelf.Strings.FieldsAny
import Derived.Shelf.Strings.FieldsFuncAny
import Derived.Shelf.Unicode.Is16Any
import Derived.Shelf.Unicode.Is32Any
import Derived.Shelf.Unicode.ExclAny
import Derived.Shelf.Strings.FuncGrows
import Derived.Shelf.Slices.Equal
import Derived.Ground.Names2Prog
import Derived.Shelf.Slices.Clone
import Derived.Shelf.Slices.CompactS
import Derived.Shelf.Slices.Cells
import Derived.Shelf.Slices.In.SortNone
import Derived.Shelf.Slices.Empties2
import Derived.Test.YthebklihgmhgoaaGreatDoorProg
import Derived.KernelRfl
import Derived.Laws.RangeAny
import Derived.IntWalk
import Derived.Test.YthebklihgmhgoaaGreatDoorRows
import Derived.RangeFuncOwn
import Derived.TacticsIn
import Derived.TacticsInMore
import Derived.LoopIn
import Derived.Walk
import Derived.WalkKit
set_option linter.unusedVariables false
set_option linter.unusedSectionVars false
set_option linter.unusedSimpArgs false
section
namespace Go.VL
def bgOf (acc : List Int) (n : Nd) : Int := match n.args with
  | [] => acc.length
  | a :: _ => acc[a.toNat]?.getD 0
def plB (acc : List Int) : Int → List Int → Bool
  | _, [] => true
  | next, a :: l => decide (a = next - 1) && decide (1 ≤ next) && plB acc (acc[(next - 1).toNat]?.getD 0) l
structure OkTo (e : List Nd) (i : Nat) (acc : List Int) : Prop where
  len : acc.length = i
  le : i ≤ e.length
  at_ : ∀ j, j < i → ∃ n b, e[j]? = some n ∧ acc[j]? = some b ∧ 0 ≤ b ∧ b ≤ (j : Int) ∧ (n.args = [] → b = (j : Int)) ∧ ∀ a l, n.args = a :: l → 0 ≤ a ∧ a < (j : Int) ∧ acc[a.toNat]? = some b
structure Lite (e : List Nd) : Prop where
  len : e.length ≤ 1000000
  nd : ∀ (i : Nat) n, e[i]? = some n → n.text.length ≤ 1000000 ∧ n.names.length ≤ 1000000 ∧ n.args.length ≤ 1000000
theorem OkTo.rng {e : List Nd} {i : Nat} {acc : List Int} (h : OkTo e i acc) {j : Nat} {b : Int} (hb : acc[j]? = some b) : j < i ∧ 0 ≤ b ∧ b ≤ (j : Int) := by
  have hj : j < i := by have := (List.getElem?_eq_some_iff.1 hb).1; have := h.len; omega
  obtain ⟨n, b', h1, h2, h3, h4, _⟩ := h.at_ j hj
  rw [hb] at h2; cases h2
  exact ⟨hj, h3, h4⟩
theorem b_First_b0_ev {e : List Nd} {i : Nat} {acc : List Int} (h : OkTo e i acc) (hi : i ≤ 1000000) : ∀ (j : Nat) (b : Int), acc[j]? = some b → Ev (fun k => b_First_b0 k e (j : Int)) (.inl b) := by
  intro j
  induction j using Nat.strongRecOn with
  | _ j ih =>
    intro b hb
    obtain ⟨hj, hb0, hb1⟩ := h.rng hb
    obtain ⟨n, b', h1, h2, _, _, h5, h6⟩ := h.at_ j hj
    rw [hb] at h2; cases h2
    refine Ev.succ ?_
    simp only [b_First_b0, Int.toNat_natCast, nn, if_true, h1, Option.bind_some, b_Between_eq]
    cases hargs : n.args with
    | nil =>
      refine Ev.cF (by simp) (Ev.some' ?_)
      rw [h5 hargs]
    | cons a l =>
      obtain ⟨h7, h8, h9⟩ := h6 a l hargs
      refine Ev.cT (by simp) ?_
      simp only [List.getElem?_cons_zero, Option.bind_some]
      rw [wrap64 (by omega) (by omega)]
      refine Ev.cT (decide_eq_true (by omega)) ?_
      have := ih a.toNat (by omega) b h9
      rwa [Int.toNat_of_nonneg h7] at this
theorem b_First_ev {e : List Nd} {i : Nat} {acc : List Int} (h : OkTo e i acc) (hi : i ≤ 1000000) {j : Nat} {b : Int} (hb : acc[j]? = some b) : Ev (fun k => b_First k e (j : Int)) b := by
  unfold b_First
  refine Ev.cF (decide_eq_false (by omega)) (Ev.bind (b_First_b0_ev h hi j b hb) ?_)
  simp only [sum_L]
  exact Ev.some
theorem take_rev {α : Type} {l : List α} {m : Nat} (h : m < l.length) : (l.take (m + 1)).reverse = l[m] :: (l.take m).reverse := by
  rw [List.take_succ_eq_append_getElem h, List.reverse_append]; rfl
theorem r_placed_b0_ev {e : List Nd} {i : Nat} {acc : List Int} (h : OkTo e i acc) (hi : i ≤ 1000000) {n : Nd} (hn : e[i]? = some n) (hl : n.args.length ≤ 1000000) : ∀ (m : Nat), m ≤ n.args.length → ∀ nx : Nat, nx ≤ i →
    Ev (fun k => r_placed_b0 k e (i : Int) (nx : Int) ((m : Int) - 1)) (if plB acc nx (n.args.take m).reverse = true then .inl () else .inr false) := by
  intro m
  induction m with
  | zero =>
    intro _ nx hnx
    refine Ev.succ ?_
    simp only [r_placed_b0]
    exact Ev.cF (by rfl) (Ev.some' (by simp [plB]))
  | succ m ih =>
    intro hm nx hnx
    have hm' : m < n.args.length := by omega
    refine Ev.succ ?_
    have e1 : (((m + 1 : Nat) : Int) - 1) = (m : Int) := by omega
    simp only [e1, r_placed_b0, Int.toNat_natCast, nn, if_true, hn, Option.bind_some, getE hm']
    rw [take_rev hm', plB]
    refine Ev.cT (by simp) ?_
    rw [wrap64 (x := (nx : Int) - 1) (by omega) (by omega), wrap64 (x := (m : Int) - 1) (by omega) (by omega)]
    by_cases h1 : n.args[m] = (nx : Int) - 1
    · refine Ev.cF (by rw [h1]; simp) ?_
      by_cases h2 : nx < 1
      · refine Ev.cT (decide_eq_true (by omega)) (Ev.some' ?_)
        have : ¬ (1 : Int) ≤ nx := by omega
        simp [this]
      · refine Ev.cF (decide_eq_false (by omega)) ?_
        obtain ⟨j, rfl⟩ : ∃ j, nx = j + 1 := ⟨nx - 1, by omega⟩
        have e2 : (((j + 1 : Nat) : Int) - 1) = (j : Int) := by omega
        rw [e2] at h1 ⊢
        obtain ⟨n', b, h3, h4, h5, h6, _⟩ := h.at_ j (by omega)
        refine Ev.bind (b_First_ev h hi h4) ?_
        obtain ⟨b, rfl⟩ : ∃ b' : Nat, b = b' := ⟨b.toNat, by omega⟩
        refine (ih (by omega) b (by omega)).to ?_
        have e3 : (1 : Int) ≤ ((j + 1 : Nat) : Int) := by omega
        simp only [h1, e3, decide_true, Bool.true_and, Int.toNat_natCast, h4, Option.getD_some]
    · refine Ev.cT (by rw [bne_iff_ne]; exact h1) (Ev.some' ?_)
      simp [h1]
theorem r_placed_ev {e : List Nd} {i : Nat} {acc : List Int} (h : OkTo e i acc) (hi : i ≤ 1000000) {n : Nd} (hn : e[i]? = some n) (hl : n.args.length ≤ 1000000) : Ev (fun k => r_placed k e (i : Int)) (plB acc i n.args.reverse) := by
  unfold r_placed
  simp only [Int.toNat_natCast, nn, if_true, hn, Option.bind_some]
  rw [wrap64 (by omega) (by omega)]
  have := r_placed_b0_ev h hi hn hl n.args.length (Nat.le_refl _) i (Nat.le_refl _)
  rw [List.take_length] at this
  refine Ev.bind this ?_
  cases plB acc i n.args.reverse
  · simp only [Bool.false_eq_true, if_false, sum_R]; exact Ev.some
  · simp only [if_true, sum_L]; exact Ev.some
theorem plB_mem {e : List Nd} {i : Nat} {acc : List Int} (h : OkTo e i acc) : ∀ (l : List Int) (nx : Nat), nx ≤ i → plB acc nx l = true → ∀ a ∈ l, 0 ≤ a ∧ a < (nx : Int)
  | [], _, _, _, a, ha => by cases ha
  | a :: l, nx, hnx, hp, x, hx => by
    rw [plB, Bool.and_eq_true, Bool.and_eq_true, decide_eq_true_eq, decide_eq_true_eq] at hp
    obtain ⟨⟨h1, h2⟩, h3⟩ := hp
    rcases List.mem_cons.1 hx with rfl | hx
    · omega
    · obtain ⟨j, rfl⟩ : ∃ j, nx = j + 1 := ⟨nx - 1, by omega⟩
      have e2 : (((j + 1 : Nat) : Int) - 1) = (j : Int) := by omega
      obtain ⟨n', b, h4, h5, h6, h7, _⟩ := h.at_ j (by omega)
      rw [e2, Int.toNat_natCast, h5, Option.getD_some] at h3
      obtain ⟨b, rfl⟩ : ∃ b' : Nat, b = b' := ⟨b.toNat, by omega⟩
      have := plB_mem h l b (by omega) h3 x hx
      omega
theorem OkTo.zero (e : List Nd) : OkTo e 0 [] := ⟨rfl, Nat.zero_le _, fun j hj => absurd hj (Nat.not_lt_zero _)⟩
theorem OkTo.succ {e : List Nd} {i : Nat} {acc : List Int} (h : OkTo e i acc) {n : Nd} (hn : e[i]? = some n) (hp : plB acc i n.args.reverse = true) : OkTo e (i + 1) (acc ++ [bgOf acc n]) := by
  have hmem := plB_mem h _ i (Nat.le_refl _) hp
  have hlen := h.len
  refine ⟨by simp [hlen], (List.getElem?_eq_some_iff.1 hn).1, fun j hj => ?_⟩
  have old : ∀ (m : Nat) (b : Int), acc[m]? = some b → (acc ++ [bgOf acc n])[m]? = some b := fun m b e => by
    rw [List.getElem?_append_left (List.getElem?_eq_some_iff.1 e).1]; exact e
  by_cases hj' : j < i
  · obtain ⟨n', b, h1, h2, h3, h4, h5, h6⟩ := h.at_ j hj'
    exact ⟨n', b, h1, old _ _ h2, h3, h4, h5, fun a l ha => ⟨(h6 a l ha).1, (h6 a l ha).2.1, old _ _ (h6 a l ha).2.2⟩⟩
  · obtain rfl : j = i := by omega
    have hnew : (acc ++ [bgOf acc n])[j]? = some (bgOf acc n) := by rw [List.getElem?_append_right (by omega), hlen, Nat.sub_self]; rfl
    cases hargs : n.args with
    | nil =>
      have e1 : bgOf acc n = (j : Int) := by unfold bgOf; rw [hargs]; simp [hlen]
      exact ⟨n, _, hn, hnew, by omega, by omega, fun _ => e1, fun a l ha => by rw [hargs] at ha; cases ha⟩
    | cons a l =>
      have ha := hmem a (by rw [hargs]; simp)
      obtain ⟨n', b, h1, h2, h3, h4, h5, h6⟩ := h.at_ a.toNat (by omega)
      have e1 : bgOf acc n = b := by unfold bgOf; rw [hargs]; simp only [h2, Option.getD_some]
      rw [e1] at hnew old ⊢
      refine ⟨n, b, hn, hnew, h3, by omega, (fun h => by rw [hargs] at h; cases h), fun a' l' ha' => ?_⟩
      rw [hargs] at ha'; cases ha'
      exact ⟨ha.1, ha.2, old _ _ h2⟩
def scanN : List Int → List Nd → List Int ⊕ (Int × Int)
  | acc, [] => .inl acc
  | acc, n :: l => if nodeSpec (plB acc acc.length n.args.reverse) n ≠ 0 then .inr ((acc.length : Int), nodeSpec (plB acc acc.length n.args.reverse) n) else scanN (acc ++ [bgOf acc n]) l
theorem nodeSpec_pl {n : Nd} {pl : Bool} (h : nodeSpec pl n = 0) : pl = true := by
  cases pl with
  | true => rfl
  | false =>
    exfalso
    unfold nodeSpec at h
    simp only [Bool.false_and, if_true] at h
    split at h
    · cases h
    · split at h <;> cases h
theorem r_Check_b0_ev {e : List Nd} (hL : Lite e) : ∀ i, i ≤ e.length → ∀ acc, OkTo e i acc → Ev (fun k => r_Check_b0 k e (i : Int)) (match scanN acc (e.drop i) with | .inl _ => .inl () | .inr r => .inr r) := by
  have hlen := hL.len
  refine down (fun acc h => ?_) (fun i hi ih acc h => ?_)
  · refine Ev.succ ?_
    simp only [r_Check_b0]
    exact Ev.cF (dnlt _) (Ev.some' (by simp [scanN]))
  · refine Ev.succ ?_
    obtain ⟨h1, h2, h3⟩ := hL.nd i _ (getE hi)
    simp only [r_Check_b0]
    refine Ev.cT (dlt hi) (Ev.bind (r_nodeErr_ev e i e[i] _ (getE hi) (r_placed_ev h (by omega) (getE hi) h3) h1 h2 h3) ?_)
    rw [drop_cons hi, scanN, h.len]
    by_cases hc : nodeSpec (plB acc i e[i].args.reverse) e[i] = 0
    · refine Ev.cF (by rw [hc]; rfl) ?_
      rw [wsucc hi (by omega)]
      refine (ih _ (h.succ (getE hi) (nodeSpec_pl hc))).to ?_
      simp only [hc, ne_eq, not_true_eq_false, if_false]
    · refine Ev.cT (by rw [bne_iff_ne]; exact hc) (Ev.some' ?_)
      simp only [ne_eq, hc, not_false_eq_true, if_true]
end Go.VL
end
section
namespace Go.VL
theorem chunks_flat' {sz : Nat} : ∀ (es : List (List PV)) (rest : List PV), (∀ cs ∈ es, cs.length = sz) → chunks sz es.length (es.flatten ++ rest) = es
  | [], rest, _ => by simp [chunks]
  | c :: es, rest, h => by
    have hc := h c (List.mem_cons_self ..)
    have ih := chunks_flat' es rest fun cs hcs => h cs (List.mem_cons_of_mem _ hcs)
    unfold chunks at ih ⊢
    rw [List.length_cons, List.range_succ_eq_map, List.map_cons, List.map_map, List.flatten_cons, List.append_assoc]
    congr 1
    · rw [Nat.zero_mul, List.drop_zero, ← hc, List.take_left]
    · conv => rhs; rw [← ih]
      refine List.map_congr_left fun i _ => ?_
      simp only [Function.comp]
      rw [show (i + 1) * sz = sz + i * sz by rw [Nat.add_mul, Nat.one_mul, Nat.add_comm], ← List.drop_drop]
      congr 2
      rw [← hc, List.drop_left]
theorem flat_length {α : Type} {sz : Nat} {f : α → List PV} (hf : ∀ x, (f x).length = sz) : ∀ l : List α, ((l.map f).flatten).length = l.length * sz
  | [] => by simp
  | x :: l => by rw [List.map_cons, List.flatten_cons, List.length_append, hf, flat_length hf l, List.length_cons, Nat.succ_mul, Nat.add_comm]
theorem flat_drop {α : Type} {sz : Nat} {f : α → List PV} (hf : ∀ x, (f x).length = sz) : ∀ (l : List α) (i : Nat), ((l.map f).flatten).drop (i * sz) = ((l.drop i).map f).flatten
  | l, 0 => by simp
  | [], i + 1 => by simp
  | x :: l, i + 1 => by
    rw [List.map_cons, List.flatten_cons, Nat.succ_mul, Nat.add_comm, ← List.drop_drop]
    have : List.drop sz (f x ++ (l.map f).flatten) = (l.map f).flatten := by rw [← hf x, List.drop_left]
    rw [this, flat_drop hf l i, List.drop_succ_cons]
theorem putCells_mid (A fa B vs : List PV) {j : Nat} (h : j + vs.length ≤ fa.length) : putCells (A ++ (fa ++ B)) (A.length + j) vs = A ++ (putCells fa j vs ++ B) := by
  have h1 : j - fa.length = 0 := by omega
  have h2 : A.length + j + vs.length - A.length = j + vs.length := by omega
  have h3 : j + vs.length - fa.length = 0 := by omega
  have h4 : A.take (A.length + j) = A := List.take_of_length_le (by omega)
  have h5 : A.drop (A.length + j + vs.length) = [] := List.drop_eq_nil_of_le (by omega)
  have h6 : A.length + j - A.length = j := by omega
  simp only [putCells, List.take_append, List.drop_append, h1, h2, h3, h4, h5, h6, List.take_zero, List.drop_zero, List.append_nil, List.nil_append, List.append_assoc]
theorem flat_len' (z : List PV) : ∀ n, ((List.replicate n z).flatten).length = n * z.length
  | 0 => by simp
  | n + 1 => by rw [List.replicate_succ, List.flatten_cons, List.length_append, flat_len' z n, Nat.add_mul, Nat.one_mul, Nat.add_comm]
theorem drop_get {α : Type} {l : List α} {i : Nat} {x : α} (h : l[i]? = some x) : l.drop i = x :: l.drop (i + 1) := by
  have hlt := (List.getElem?_eq_some_iff.1 h).1
  rw [List.drop_eq_getElem_cons hlt]
  congr 1
  exact (List.getElem?_eq_some_iff.1 h).2
def RowN {α : Type} (H : AH) (f : α → List PV) (sz : Nat) (l : List α) (v : PV) (ids : List Nat) : Prop :=
  (v = .isl [] .nil ∧ l = [] ∧ ids = []) ∨ ∃ id cap junk, ids = [id] ∧ v = .msl id 0 l.length cap sz ∧ l.length ≤ cap ∧ id < H.next ∧ H.obj id = some ((l.map f).flatten ++ junk) ∧ junk.length = (cap - l.length) * sz
def Nw (H : AH) (ids ids' : List Nat) : Prop := ∀ i ∈ ids', i ∈ ids ∨ H.next ≤ i
theorem Nw.refl {H : AH} {ids : List Nat} : Nw H ids ids := fun _ h => .inl h
theorem Nw.trans {H H' : AH} {a b c : List Nat} (h : Nw H a b) (hn : H.next ≤ H'.next) (k : Nw H' b c) : Nw H a c := fun i hi => by
  rcases k i hi with q | q
  · exact h i q
  · exact .inr (Nat.le_trans hn q)
theorem Nw.via {H H' : AH} {M N c : List Nat} (h : ∀ i ∈ N, i ∈ M ∨ H.next ≤ i) (hn : H.next ≤ H'.next) (k : Nw H' N c) : Nw H M c := fun i hi => by
  rcases k i hi with q | q
  · exact h i q
  · exact .inr (Nat.le_trans hn q)
def Dj (a b : List Nat) : Prop := ∀ i ∈ a, i ∉ b
theorem Dj.nil {b : List Nat} : Dj [] b := fun _ h => by cases h
theorem Dj.symm {a b : List Nat} (h : Dj a b) : Dj b a := fun i hi hj => h i hj hi
section
variable {α : Type} {H H' : AH} {f : α → List PV} {sz : Nat} {l : List α} {v : PV} {ids : List Nat}
theorem RowN.nil : RowN H f sz ([] : List α) (.isl [] .nil) [] := .inl ⟨rfl, rfl, rfl⟩
theorem RowN.lt (h : RowN H f sz l v ids) : ∀ i ∈ ids, i < H.next := by
  rcases h with ⟨_, _, rfl⟩ | ⟨id, cap, junk, rfl, _, _, h, _⟩
  · intro i hi; cases hi
  · intro i hi; rw [List.mem_singleton.1 hi]; exact h
theorem RowN.hf {M : List Nat} (h : RowN H f sz l v ids) (hf : HF M H H') (hd : Dj ids M) : RowN H' f sz l v ids := by
  rcases h with ⟨h1, h2, h3⟩ | ⟨id, cap, junk, rfl, h1, h2, h3, h4, h5⟩
  · exact .inl ⟨h1, h2, h3⟩
  · exact .inr ⟨id, cap, junk, rfl, h1, h2, Nat.lt_of_lt_of_le h3 hf.1, (hf.2 id h3 (hd id (List.mem_singleton.2 rfl))).trans h4, h5⟩
theorem RowN.new {cs : List PV} (h : RowN H f sz l v ids) : RowN (H.new cs) f sz l v ids := h.hf (M := []) (HF.new (HF.refl _ _)) (fun _ _ h => by cases h)
theorem RowN.put {id : Nat} {cs : List PV} (h : RowN H f sz l v ids) (hn : id ∉ ids) : RowN (H.put id cs) f sz l v ids :=
  h.hf (M := [id]) (HF.put (.inl (List.mem_singleton.2 rfl)) (HF.refl _ _)) (fun i hi hj => hn (List.mem_singleton.1 hj ▸ hi))
theorem RowN.lenv (h : RowN H f sz l v ids) : lenPV v = some (.int .i64 l.length) := by
  rcases h with ⟨rfl, rfl, _⟩ | ⟨id, cap, junk, rfl, rfl, _⟩
  · rfl
  · rfl
theorem RowN.at (h : RowN H f sz l v ids) {i : Nat} {x : α} (hx : l[i]? = some x) : ∃ id cap junk, ids = [id] ∧ v = .msl id 0 l.length cap sz ∧ l.length ≤ cap ∧ id < H.next ∧ H.obj id = some ((l.map f).flatten ++ junk) ∧ junk.length = (cap - l.length) * sz := by
  rcases h with ⟨_, rfl, _⟩ | h
  · simp at hx
  · exact h
theorem RowN.content [hr : RowF f sz] (h : RowN H f sz l v ids) {i : Nat} {x : α} (hx : l[i]? = some x) :
    ∃ id C, ids = [id] ∧ id < H.next ∧ H.obj id = some C ∧ (∀ j c, (f x)[j]? = some c → C[i * sz + j]? = some c) ∧ (∀ j, j ≤ sz → i * sz + j ≤ C.length) ∧ (C.drop (i * sz)).take sz = f x ∧
      ∀ k n, 0 ≤ n → n.toNat = i → idxPV sz v (.int k n) = some (.ref id (i * sz)) := by
  obtain ⟨id, cap, junk, rfl, rfl, h2, h3, h4, h5⟩ := h.at hx
  have hlt := (List.getElem?_eq_some_iff.1 hx).1
  have hd : ((l.map f).flatten ++ junk).drop (i * sz) = f x ++ (((l.drop (i + 1)).map f).flatten ++ junk) := by
    rw [List.drop_append_of_le_length (by rw [flat_length hr.len]; exact Nat.mul_le_mul_right _ (by omega)), flat_drop hr.len, drop_get hx]
    simp
  have hlen : i * sz + sz ≤ ((l.map f).flatten ++ junk).length := by
    rw [List.length_append, flat_length hr.len]
    have : (i + 1) * sz ≤ l.length * sz := Nat.mul_le_mul_right _ hlt
    rw [Nat.succ_mul] at this
    omega
  refine ⟨id, _, rfl, h3, h4, fun j c hc => ?_, fun j hj => by omega, ?_, fun k n hn he => ?_⟩
  · rw [← List.getElem?_drop, hd]
    have hj : j < (f x).length := (List.getElem?_eq_some_iff.1 hc).1
    rw [List.getElem?_append_left hj]; exact hc
  · rw [hd, List.take_append_of_le_length (by rw [hr.len]; exact Nat.le_refl _), List.take_of_length_le (by rw [hr.len]; exact Nat.le_refl _)]
  · subst he
    have h6 : n < (l.length : Int) := by omega
    simp [idxPV, hn, h6]
theorem RowN.fz (hp : ∀ x, ∀ c ∈ f x, Pu c) [hr : RowF f sz] (h : RowN H f sz l v ids) : Fz H v (.isl (l.map f) .unk) := by
  rcases h with ⟨rfl, rfl, _⟩ | ⟨id, cap, junk, rfl, rfl, h2, h3, h4, h5⟩
  · exact fz_sl hp [] .nil
  · refine .msl id 0 l.length cap sz _ _ (fun i j => ((l.map f)[i]?.bind (·[j]?)).getD .any) h4 (by simp) h2 (fun i cs e => ?_) (fun i cs e j c ec => ?_) (fun i cs e j c ec => ?_)
    · simp only [List.getElem?_map, Option.map_eq_some_iff] at e
      obtain ⟨x, _, rfl⟩ := e
      exact hr.len x
    · have e' := e
      simp only [List.getElem?_map, Option.map_eq_some_iff] at e
      obtain ⟨x, hx, rfl⟩ := e
      have hrow : RowN H f sz l (.msl id 0 l.length cap sz) [id] := .inr ⟨id, cap, junk, rfl, rfl, h2, h3, h4, h5⟩
      obtain ⟨id', C, e1, _, e2, e3, _⟩ := hrow.content hx
      cases e1
      rw [h4] at e2
      cases e2
      rw [e', Option.bind_some, ec, Option.getD_some, Nat.zero_add]
      exact e3 j c ec
    · rw [e, Option.bind_some, ec, Option.getD_some]
      simp only [List.getElem?_map, Option.map_eq_some_iff] at e
      obtain ⟨x, _, rfl⟩ := e
      exact .pure _ (hp x c (List.mem_of_getElem? ec))
end
variable [Glob]
section
variable {P : Program} {Q : Post} {σ : Nat → PV} {s : List Fm} {α : Type} {H : AH} {f : α → List PV} {sz : Nat} {v : PV} {ids : List Nat}
theorem WO_rowapp {d : Option Nat} {b : Nat} {x y : AE} {l : List AOp} [hr : RowF f sz] (hf : ∀ x, rowLike sz (f x)) (xs ys : List α) (c2 : Ck)
    (hx : x.ev σ = v) (hrow : RowN H f sz xs v ids) (hy : y.ev σ = .isl (ys.map f) c2) (hs : 0 < ys.length) (hb : (xs.length + ys.length) * b ≤ 1099511627776)
    (h : ∀ (v' : PV) (ids' : List Nat) (H' : AH), RowN H' f sz (xs ++ ys) v' ids' → Nw H ids ids' → HF ids H H' → (∀ c3, okc H c3 → okc H' c3) → WO P l s Q (upd σ d v') H') :
    WO P (⟨d, .n (.app sz b x y), none⟩ :: l) s Q σ H := by
  show WOps P _ _ σ H
  rw [WOps_n]
  simp only [nop, hx, hy]
  have h0 : ¬ ((ys.map f).length = 0) := by rw [List.length_map]; omega
  have fresh : ∀ (es : List (List PV)), es = xs.map f → freshApp sz b H es (ys.map f) (fun p H' => WOps P l (unst P s Q .normal) (upd σ d p) H') := by
    intro es he cap hcap
    subst he
    simp only [List.length_map] at hcap ⊢
    refine h _ [H.next] _ (.inr ⟨H.next, cap, List.replicate ((cap - (xs.length + ys.length)) * sz) .any, rfl, by rw [List.length_append], by rw [List.length_append]; exact hcap, Nat.lt_succ_self _, ?_, by rw [List.length_replicate, List.length_append]⟩) (fun i hi => .inr (by rw [List.mem_singleton.1 hi]; exact Nat.le_refl _)) (HF.new (HF.refl _ _)) (fun c3 k => k.new)
    show (if H.next = H.next then some _ else _) = _
    rw [if_pos rfl, List.map_append]
  rcases hrow with ⟨rfl, rfl, rfl⟩ | ⟨id, cap, junk, rfl, rfl, h2, h3, h4, h5⟩
  · simp only [nopApp, rowOf]
    rw [if_neg h0]
    split
    · exact fresh [] rfl
    · rename_i hno; exact (hno ⟨szOk_map hf ([] : List α), szOk_map hf ys, by simpa using hb⟩).elim
  · have hfl := flat_length (f := f) hr.len xs
    have hrow : rowOf sz H (.msl id 0 xs.length cap sz) = some (xs.map f) := by
      simp only [rowOf, h4]
      rw [if_pos ⟨trivial, by rw [List.length_append, hfl]; omega⟩, List.drop_zero]
      have := chunks_flat' (sz := sz) (xs.map f) junk (fun cs hcs => by obtain ⟨x, _, rfl⟩ := List.mem_map.1 hcs; exact hr.len x)
      rw [List.length_map] at this
      rw [this]
    simp only [nopApp, hrow]
    have : rowOf sz H (.isl (ys.map f) c2) = some (ys.map f) := rfl
    simp only [this]
    rw [if_neg h0, if_pos ⟨szOk_map hf xs, szOk_map hf ys, by simpa using hb⟩]
    simp only [List.length_map]
    by_cases hc : xs.length + ys.length ≤ cap
    · rw [if_pos hc, h4]
      have hsz : cap - xs.length = (cap - (xs.length + ys.length)) + ys.length := by omega
      have h6 : 0 + (xs.length + ys.length) * sz ≤ ((xs.map f).flatten ++ junk).length := by
        rw [List.length_append, hfl, h5, Nat.add_mul, hsz, Nat.add_mul]; omega
      simp only
      rw [if_pos h6]
      have hyl := flat_length (f := f) hr.len ys
      have hput : putCells ((xs.map f).flatten ++ junk) (0 + xs.length * sz) (ys.map f).flatten = ((xs ++ ys).map f).flatten ++ junk.drop (ys.length * sz) := by
        rw [Nat.zero_add, putCells, ← hfl, List.take_left, hyl, ← List.drop_drop, List.drop_left, List.map_append, List.flatten_append]
      rw [hput]
      refine h _ [id] _ (.inr ⟨id, cap, junk.drop (ys.length * sz), rfl, by rw [List.length_append], by rw [List.length_append]; exact hc, h3, ?_, ?_⟩) Nw.refl (HF.put (.inl (List.mem_singleton.2 rfl)) (HF.refl _ _)) (fun c3 k => k.put)
      · show (if id = id then some _ else _) = _
        rw [if_pos rfl]
      · rw [List.length_drop, h5, List.length_append, hsz, Nat.add_mul]
        omega
    · rw [if_neg hc, if_pos h2]
      have hfr := fresh _ rfl
      intro cap' hcap'
      exact hfr cap' hcap'
theorem WO_mkrow {d : Option Nat} {bytes : Nat} {zero : List PV} {x y : AE} {l : List AOp} [hr : RowF f sz] (z : α) (hz : f z = zero) {k k' : IntKind} {n c : Int} (hx : x.ev σ = .int k n) (hy : y.ev σ = .int k' c)
    (hb : 0 ≤ n ∧ n ≤ c ∧ c ≤ 1099511627776 ∧ bytes * c ≤ 1099511627776) (hs : 0 < sz)
    (h : ∀ (v' : PV) (ids' : List Nat) (H' : AH), RowN H' f sz (List.replicate n.toNat z) v' ids' → Nw H [] ids' → HF [] H H' → (∀ c3, okc H c3 → okc H' c3) → WO P l s Q (upd σ d v') H') :
    WO P (⟨d, .d (.mksl sz bytes zero x y), none⟩ :: l) s Q σ H := by
  show WD P (dop (.mksl sz bytes zero x y) σ H) d l s Q σ
  simp only [dop, hx, hy]
  rw [if_pos ⟨hb.1, hb.2.1, hb.2.2.1, hb.2.2.2, by rw [← hz, hr.len], hs⟩]
  show WO P l s Q (upd σ d _) _
  have hn : (List.replicate n.toNat z).length = n.toNat := List.length_replicate
  refine h _ [H.next] _ (.inr ⟨H.next, c.toNat, (List.replicate (c.toNat - n.toNat) zero).flatten, rfl, by rw [hn], by rw [hn]; omega, Nat.lt_succ_self _, ?_, ?_⟩) (fun i hi => .inr (by rw [List.mem_singleton.1 hi]; exact Nat.le_refl _)) (HF.new (HF.refl _ _)) (fun c3 k => k.new)
  · show (if H.next = H.next then some _ else _) = _
    rw [if_pos rfl, List.map_replicate, hz, ← List.flatten_append, List.replicate_append_replicate]
    congr 3
    omega
  · rw [hn, flat_len', ← hz, hr.len]
theorem WO_rowset {d : Option Nat} {n : Nat} {x w : AE} {l : List AOp} [hr : RowF f sz] {xs : List α} {id o i j : Nat} {a y : α} {vs : List PV}
    (hx : x.ev σ = .ref id o) (hid : ids = [id]) (ho : o = i * sz + j) (hrow : RowN H f sz xs v ids) (ha : xs[i]? = some a) (hv : cellsOf (w.ev σ) = some vs) (hl : vs.length = n) (hone : vs.all PV.one = true) (hj : j + n ≤ sz) (hy : putCells (f a) j vs = f y)
    (h : ∀ H' : AH, RowN H' f sz (xs.set i y) v ids → HF ids H H' → (∀ c3, okc H c3 → okc H' c3) → WO P l s Q (upd σ d .any) H') :
    WO P (⟨d, .d (.store n x w), none⟩ :: l) s Q σ H := by
  obtain ⟨id', cap, junk, e1, rfl, h2, h3, h4, h5⟩ := hrow.at ha
  subst hid
  cases e1
  have hlt := (List.getElem?_eq_some_iff.1 ha).1
  have hfl := flat_length (f := f) hr.len xs
  have hle : o + n ≤ ((xs.map f).flatten ++ junk).length := by
    rw [List.length_append, hfl, ho]
    have : (i + 1) * sz ≤ xs.length * sz := Nat.mul_le_mul_right _ hlt
    rw [Nat.succ_mul] at this
    omega
  show WD P (dop (.store n x w) σ H) d l s Q σ
  simp only [dop, hx, hv, h4]
  rw [if_pos ⟨hl, hle, hone⟩]
  show WO P l s Q (upd σ d .any) _
  have hxs : xs = xs.take i ++ a :: xs.drop (i + 1) := by rw [← drop_get ha, List.take_append_drop]
  have hA : ((xs.take i).map f).flatten.length = i * sz := by rw [flat_length hr.len, List.length_take]; congr 1; omega
  have hput : putCells ((xs.map f).flatten ++ junk) o vs = ((xs.set i y).map f).flatten ++ junk := by
    have e2 : (xs.map f).flatten ++ junk = ((xs.take i).map f).flatten ++ (f a ++ (((xs.drop (i + 1)).map f).flatten ++ junk)) := by
      conv => lhs; rw [hxs]
      simp
    have e3 : xs.set i y = xs.take i ++ y :: xs.drop (i + 1) := by rw [List.set_eq_take_append_cons_drop, if_pos hlt]
    rw [e2, e3, ho, ← hA, putCells_mid _ _ _ _ (by rw [hr.len, hl]; exact hj), hy]
    simp
  rw [hput]
  refine h _ (.inr ⟨id, cap, junk, rfl, by rw [List.length_set], by rw [List.length_set]; exact h2, h3, ?_, by rw [List.length_set]; exact h5⟩) (HF.put (.inl (List.mem_singleton.2 rfl)) (HF.refl _ _)) (fun c3 k => k.put)
  show (if id = id then some _ else _) = _
  rw [if_pos rfl]
end
end Go.VL
end
section
namespace Go.VL
open Go.RowKit
variable [Glob]
section
variable {P : Program} {B : Nat → Prop} {G : Gh} {H : AH} {w w' : World}
theorem HM.below (hM : HM B H G w) (h : Below w.heap.size w w') : HM B H G w' := by
  have hlt : ∀ b arr t fr, w.heap[b]? = some (.cells arr t fr) → b < w.heap.size := fun b arr t fr e => (Array.getElem?_eq_some_iff.1 e).1
  exact {
    glob := hM.glob
    imm := fun a x e => by
      have hc := hM.imm a x e
      exact (World.cell?_of_block (h.block _ (World.block_lt_of_cell? w a hc))).trans hc
    obj := fun id cs e => by
      obtain ⟨k0, b, arr, t, k1, k2, k3, k4, k5⟩ := hM.obj id cs e
      exact ⟨k0, b, arr, t, k1, k2, (h.block b (hlt _ _ _ _ k3)).trans k3, k4, k5⟩
    inj := hM.inj
    tok := fun k e => by
      obtain ⟨k0, b, o, arr, t, k1, k2, k3, k5⟩ := hM.tok k e
      exact ⟨k0, b, o, arr, t, k1, k2, (h.block b (hlt _ _ _ _ k3)).trans k3, k5⟩
    tinj := hM.tinj
    tobj := hM.tobj }
theorem Tr.below (h : Below w.heap.size w w') : Tr B w w' :=
  ⟨h.size, fun b hb _ => h.block b hb, h.os, h.tape, h.output, fun b o e _ => (h.block b (Array.getElem?_eq_some_iff.1 e).1).trans e⟩
theorem pcall_of {f : FuncId} {args : List PV} {r : PV} (he : Enters P f)
    (h : ∀ (w : World) (G : Gh) (vs : Array Value), (∀ a x, Glob.gc a = some x → w.cell? a = some x) → (∀ a x, G.F a = some x → w.cell? a = some x) → Vs G 0 args vs → Calls P f vs w fun e w' => ∃ v, e = .returned v ∧ Below w.heap.size w w' ∧ ∀ G n, V G n r v)
    (hp : ∀ a ∈ args, Pu a) : PCall P f args r := by
  intro H
  refine ⟨he, fun B G w vs hU hM hv => ?_⟩
  have hv' : Vs ⟨G.F, fun _ => none, fun _ => none⟩ 0 args vs := ⟨hv.1, fun j c x hc hx => V.pure (G := G) (G' := ⟨G.F, fun _ => none, fun _ => none⟩) (n' := 0) (fun (_ : Addr) (_ : Value) e => e) (hv.2 j c x hc hx) (hp c (List.mem_of_getElem? hc))⟩
  refine (h w ⟨G.F, fun _ => none, fun _ => none⟩ vs (fun a x e => hM.imm a x (hM.glob a x e)) hM.imm hv').mono ?_
  rintro e w' ⟨v, h1, h2, h3⟩
  exact ⟨r, v, H, G, h1, Tr.below h2, Ext.refl B _ G, Nat.le_refl _, hM.below h2, h3 G _, rfl, rfl⟩
theorem Vs.str2 {n : Nat} {s t : List UInt8} {vs : Array Value} (h : Vs G n [.str s, .str t] vs) : vs = #[.string ⟨s.toArray⟩, .string ⟨t.toArray⟩] := by
  obtain ⟨h1, h2⟩ := h
  match vs, h1, h2 with
  | ⟨[v, u]⟩, _, h2 =>
    have a := h2 0 (.str s) v rfl rfl
    have b := h2 1 (.str t) u rfl rfl
    cases a; cases b
    rfl
theorem Vs.int1 {n : Nat} {k : IntKind} {x : Int} {vs : Array Value} (h : Vs G n [.int k x] vs) : vs = #[.int k x] := by
  obtain ⟨h1, h2⟩ := h
  match vs, h1, h2 with
  | ⟨[v]⟩, _, h2 =>
    have := h2 0 (.int k x) v rfl rfl
    cases this
    rfl
theorem Vs.strint {n : Nat} {s : List UInt8} {k : IntKind} {x : Int} {vs : Array Value} (h : Vs G n [.str s, .int k x] vs) : vs = #[.string ⟨s.toArray⟩, .int k x] := by
  obtain ⟨h1, h2⟩ := h
  match vs, h1, h2 with
  | ⟨[v, u]⟩, _, h2 =>
    have a := h2 0 (.str s) v rfl rfl
    have b := h2 1 (.int k x) u rfl rfl
    cases a; cases b
    rfl
theorem Vs.strsstr {n : Nat} {l : List (List UInt8)} {t : List UInt8} {vs : Array Value} (hi : ∀ a x, G.F a = some x → w.cell? a = some x) (h : Vs G n [.isl (l.map strL) .unk, .str t] vs) :
    (∃ ad cap, l.length ≤ cap ∧ vs = #[.slice ad l.length cap, .string ⟨t.toArray⟩] ∧ (l ≠ [] → ∃ b o, ad = some ⟨b, o, none⟩ ∧ b < w.heap.size ∧ ∀ (j : Nat) (x : ByteArray), (l.map fun s => (⟨s.toArray⟩ : ByteArray))[j]? = some x → w.cell? ⟨b, o + j, none⟩ = some (.string x))) := by
  obtain ⟨h1, h2⟩ := h
  match vs, h1, h2 with
  | ⟨[v, u]⟩, _, h2 =>
    have a := h2 0 _ v rfl rfl
    have b := h2 1 (.str t) u rfl rfl
    cases b
    generalize hes : l.map strL = es at a
    have hl : l.length = es.length := by rw [← hes]; simp
    cases a with
    | isl _ _ sz ad cap f k1 k2 k3 k4 k5 =>
      refine ⟨ad, cap, by omega, by rw [hl], fun hne => ?_⟩
      have hne' : es ≠ [] := fun e => hne (List.eq_nil_of_length_eq_zero (by rw [hl, e]; rfl))
      obtain ⟨bk, o, rfl, k6⟩ := k3 hne'
      have get : ∀ j s, l[j]? = some s → es[j]? = some (strL s) := fun j s e => by rw [← hes, List.getElem?_map, e]; rfl
      have hsz : sz = 1 := by
        obtain ⟨s, l', rfl⟩ := List.exists_cons_of_ne_nil hne
        have := k1 0 _ (get 0 s rfl)
        exact this.symm
      subst hsz
      have cell : ∀ j s, l[j]? = some s → w.cell? ⟨bk, o + j, none⟩ = some (.string ⟨s.toArray⟩) := fun j s e => by
        have e1 := get j s e
        have e2 := k6 j _ e1 0 (.str s) rfl
        have e3 := k4 j _ 0 (.str s) e1 rfl
        generalize f j 0 = v at e2 e3
        cases e3
        have := hi _ _ e2
        simpa using this
      refine ⟨bk, o, rfl, ?_, fun j x e => ?_⟩
      · obtain ⟨s, l', rfl⟩ := List.exists_cons_of_ne_nil hne
        exact World.block_lt_of_cell? w _ (cell 0 s rfl)
      · simp only [List.getElem?_map, Option.map_eq_some_iff] at e
        obtain ⟨s, e1, rfl⟩ := e
        exact cell j s e1
end
end Go.VL
end
section
namespace Go.Proofs
open Go.Shelf
def Tryz.lays156_ren : Go.Shelf.Ren := ⟨fun | 156 => 151 | 165 => 191 | 166 => 192 | 169 => 193 | 240 => 208 | 241 => 209 | 276 => 215 | 277 => 216 | n => n, fun | 31 => 37 | 9 => 9 | 3 => 3 | 4 => 4 | 0 => 0 | 20 => 20 | 72 => 204 | 76 => 208 | 70 => 202 | 37 => 141 | 75 => 207 | 127 => 220 | 164 => 231 | 5 => 5 | 80 => 149 | n => n, fun | n => n⟩
theorem Tryz.lays156 : Go.Proofs.Lays.n156 Tryz.prog Tryz.lays156_ren := {
  mixed := by kernel_rfl
  f156 := Tryz.func151.trans (congrArg some (by kernel_rfl))
  f165 := Tryz.func191.trans (congrArg some (by kernel_rfl))
  f166 := Tryz.func192.trans (congrArg some (by kernel_rfl))
  f169 := Tryz.func193.trans (congrArg some (by kernel_rfl))
  f240 := Tryz.func208.trans (congrArg some (by kernel_rfl))
  f241 := Tryz.func209.trans (congrArg some (by kernel_rfl))
  f276 := Tryz.func215.trans (congrArg some (by kernel_rfl))
  f277 := Tryz.func216.trans (congrArg some (by kernel_rfl))
  t0 := Tryz.underlying0
  a0 := Tryz.isAgg0
  z0 := Tryz.sizeOf0
  v0 := Tryz.zeroValue0
  t3 := Tryz.underlying3
  a3 := Tryz.isAgg3
  z3 := Tryz.sizeOf3
  v3 := Tryz.zeroValue3
  t4 := Tryz.underlying4
  a4 := Tryz.isAgg4
  z4 := Tryz.sizeOf4
  v4 := Tryz.zeroValue4
  t9 := Tryz.underlying9
  a9 := Tryz.isAgg9
  z9 := Tryz.sizeOf9
  v9 := Tryz.zeroValue9
  t20 := Tryz.underlying20
  a20 := Tryz.isAgg20
  z20 := Tryz.sizeOf20
  v20 := Tryz.zeroValue20
  t31 := Tryz.underlying37
  a31 := Tryz.isAgg37
  z31 := Tryz.sizeOf37
  v31 := Tryz.zeroValue37
  t37 := Tryz.underlying141
  a37 := Tryz.isAgg141
  z37 := Tryz.sizeOf141
  v37 := Tryz.zeroValue141
  t70 := Tryz.underlying202
  a70 := Tryz.isAgg202
  z70 := Tryz.sizeOf202
  v70 := Tryz.zeroValue202
  t72 := Tryz.underlying204
  a72 := Tryz.isAgg204
  z72 := Tryz.sizeOf204
  v72 := Tryz.zeroValue204
  t75 := Tryz.underlying207
  a75 := Tryz.isAgg207
  z75 := Tryz.sizeOf207
  v75 := Tryz.zeroValue207
  t76 := Tryz.underlying208
  a76 := Tryz.isAgg208
  z76 := Tryz.sizeOf208
  v76 := Tryz.zeroValue208
  t127 := Tryz.underlying220
  a127 := Tryz.isAgg220
  z127 := Tryz.sizeOf220
  v127 := Tryz.zeroValue220
  t164 := Tryz.underlying231
  a164 := Tryz.isAgg231
  z164 := Tryz.sizeOf231
  v164 := Tryz.zeroValue231 }
theorem Tryz.Builder_Extra_156 : Builder.Extra Tryz.prog Tryz.lays156_ren := {
  sizeBuilder := by kernel_rfl
  liesBuilder := by kernel_rfl
  t5 := Tryz.underlying5
  a5 := Tryz.isAgg5
  z5 := Tryz.sizeOf5
  v5 := Tryz.zeroValue5
  infoByte := by kernel_rfl
  cellsByte := by kernel_rfl
  sizeByte := by kernel_rfl
  neB5 := by decide }
open Go.RowKit in
theorem Tryz.strings_Join_none (a : Option Addr) (c : Nat) (sep : ByteArray) (w : World) :
    Calls Tryz.prog 151 #[.slice a 0 c, .string sep] w fun e w' => e = .returned (.string ⟨#[]⟩) ∧ w' = w := Any.strings_Join_none Tryz.lays156 Tryz.Builder_Extra_156 a c sep w
open Go.RowKit in
theorem Tryz.strings_Join (bk o c : Nat) (xs : List ByteArray) (sep : ByteArray) (w : World) (hcells : ∀ (j : Nat) x, xs[j]? = some x → w.cell? ⟨bk, o + j, none⟩ = some (.string x)) (hbk : bk < w.heap.size) (hN : xs.length ≤ 140737488355328) (hcap : xs.length ≤ c) (hlen : (Lib.join (xs.map (·.data.toList)) sep.data.toList).length ≤ 140737488355328) :
    Calls Tryz.prog 151 #[.slice (some ⟨bk, o, none⟩) xs.length c, .string sep] w fun e w' => e = .returned (.string ⟨(Lib.join (xs.map (·.data.toList)) sep.data.toList).toArray⟩) ∧ Below w.heap.size w w' := Any.strings_Join Tryz.lays156 Tryz.Builder_Extra_156 bk o c xs sep w hcells hbk hN hcap hlen
def Tryz.laysM246_ren : Go.Shelf.Ren := ⟨fun | 246 => 210 | 283 => 217 | 284 => 218 | 285 => 219 | 286 => 220 | 129 => 178 | 317 => 227 | 318 => 228 | 319 => 229 | 320 => 230 | 337 => 233 | 338 => 234 | n => n, fun | 2 => 2 | 3 => 3 | 9 => 9 | 4 => 4 | 171 => 234 | 0 => 0 | 53 => 183 | 37 => 141 | 5 => 5 | 173 => 236 | 212 => 250 | 51 => 181 | 20 => 20 | 213 => 251 | 46 => 138 | 232 => 255 | 233 => 256 | n => n, fun | 17 => 3 | 18 => 4 | 19 => 5 | n => n⟩
def Tryz.laysM243_ren : Go.Shelf.Ren := ⟨fun | 243 => 194 | 246 => 210 | 283 => 217 | 284 => 218 | 285 => 219 | 286 => 220 | 129 => 178 | 317 => 227 | 318 => 228 | 319 => 229 | 320 => 230 | 337 => 233 | 338 => 234 | n => n, fun | 3 => 3 | 9 => 9 | 2 => 2 | 4 => 4 | 171 => 234 | 0 => 0 | 53 => 183 | 37 => 141 | 5 => 5 | 173 => 236 | 212 => 250 | 51 => 181 | 20 => 20 | 213 => 251 | 46 => 138 | 232 => 255 | 233 => 256 | n => n, fun | 17 => 3 | 18 => 4 | 19 => 5 | n => n⟩
def Tryz.laysM171_ren : Go.Shelf.Ren := ⟨fun | 171 => 152 | 243 => 194 | 246 => 210 | 283 => 217 | 284 => 218 | 285 => 219 | 286 => 220 | 129 => 178 | 317 => 227 | 318 => 228 | 319 => 229 | 320 => 230 | 337 => 233 | 338 => 234 | n => n, fun | 3 => 3 | 9 => 9 | 2 => 2 | 4 => 4 | 171 => 234 | 0 => 0 | 53 => 183 | 37 => 141 | 5 => 5 | 173 => 236 | 212 => 250 | 51 => 181 | 20 => 20 | 213 => 251 | 46 => 138 | 232 => 255 | 233 => 256 | n => n, fun | 17 => 3 | 18 => 4 | 19 => 5 | n => n⟩
def Tryz.lays171_ren : Go.Shelf.Ren := ⟨fun | 171 => 152 | 243 => 194 | 246 => 210 | 283 => 217 | 284 => 218 | 285 => 219 | 286 => 220 | 129 => 178 | 317 => 227 | 318 => 228 | 319 => 229 | 320 => 230 | 337 => 233 | 338 => 234 | n => n, fun | 3 => 3 | 9 => 9 | 2 => 2 | 4 => 4 | 171 => 234 | 0 => 0 | 53 => 183 | 37 => 141 | 5 => 5 | 173 => 236 | 212 => 250 | 51 => 181 | 20 => 20 | 213 => 251 | 46 => 138 | 232 => 255 | 233 => 256 | n => n, fun | 17 => 3 | 18 => 4 | 19 => 5 | n => n⟩
theorem Tryz.lays171 : Go.Proofs.Lays.n171 Tryz.prog Tryz.lays171_ren := {
  mixed := by kernel_rfl
  f129 := Tryz.func178.trans (congrArg some (by kernel_rfl))
  f171 := Tryz.func152.trans (congrArg some (by kernel_rfl))
  f243 := Tryz.func194.trans (congrArg some (by kernel_rfl))
  f246 := Tryz.func210.trans (congrArg some (by kernel_rfl))
  f283 := Tryz.func217.trans (congrArg some (by kernel_rfl))
  f284 := Tryz.func218.trans (congrArg some (by kernel_rfl))
  f285 := Tryz.func219.trans (congrArg some (by kernel_rfl))
  f286 := Tryz.func220.trans (congrArg some (by kernel_rfl))
  f317 := Tryz.func227.trans (congrArg some (by kernel_rfl))
  f318 := Tryz.func228.trans (congrArg some (by kernel_rfl))
  f319 := Tryz.func229.trans (congrArg some (by kernel_rfl))
  f320 := Tryz.func230.trans (congrArg some (by kernel_rfl))
  f337 := Tryz.func233.trans (congrArg some (by kernel_rfl))
  f338 := Tryz.func234.trans (congrArg some (by kernel_rfl))
  t0 := Tryz.underlying0
  a0 := Tryz.isAgg0
  z0 := Tryz.sizeOf0
  v0 := Tryz.zeroValue0
  t2 := Tryz.underlying2
  a2 := Tryz.isAgg2
  z2 := Tryz.sizeOf2
  v2 := Tryz.zeroValue2
  t3 := Tryz.underlying3
  a3 := Tryz.isAgg3
  z3 := Tryz.sizeOf3
  v3 := Tryz.zeroValue3
  t4 := Tryz.underlying4
  a4 := Tryz.isAgg4
  z4 := Tryz.sizeOf4
  v4 := Tryz.zeroValue4
  t5 := Tryz.underlying5
  a5 := Tryz.isAgg5
  z5 := Tryz.sizeOf5
  v5 := Tryz.zeroValue5
  t9 := Tryz.underlying9
  a9 := Tryz.isAgg9
  z9 := Tryz.sizeOf9
  v9 := Tryz.zeroValue9
  t20 := Tryz.underlying20
  a20 := Tryz.isAgg20
  z20 := Tryz.sizeOf20
  v20 := Tryz.zeroValue20
  t37 := Tryz.underlying141
  a37 := Tryz.isAgg141
  z37 := Tryz.sizeOf141
  v37 := Tryz.zeroValue141
  t46 := Tryz.underlying138
  a46 := Tryz.isAgg138
  z46 := Tryz.sizeOf138
  v46 := Tryz.zeroValue138
  t51 := Tryz.underlying181
  a51 := Tryz.isAgg181
  z51 := Tryz.sizeOf181
  v51 := Tryz.zeroValue181
  t53 := Tryz.underlying183
  a53 := Tryz.isAgg183
  z53 := Tryz.sizeOf183
  v53 := Tryz.zeroValue183
  t171 := Tryz.underlying234
  a171 := Tryz.isAgg234
  z171 := Tryz.sizeOf234
  v171 := Tryz.zeroValue234
  t173 := Tryz.underlying236
  a173 := Tryz.isAgg236
  z173 := Tryz.sizeOf236
  v173 := Tryz.zeroValue236
  t212 := Tryz.underlying250
  a212 := Tryz.isAgg250
  z212 := Tryz.sizeOf250
  v212 := Tryz.zeroValue250
  t213 := Tryz.underlying251
  a213 := Tryz.isAgg251
  z213 := Tryz.sizeOf251
  t232 := Tryz.underlying255
  a232 := Tryz.isAgg255
  z232 := Tryz.sizeOf255
  v232 := Tryz.zeroValue255
  t233 := Tryz.underlying256
  a233 := Tryz.isAgg256
  z233 := Tryz.sizeOf256
  v233 := Tryz.zeroValue256
  g17 := by kernel_rfl
  g18 := by kernel_rfl
  g19 := by kernel_rfl }
open Go.RowKit Go.Sort Go.Lib in
theorem Tryz.strconv_Itoa_small (i : Nat) (hi : i < 100) (w : World) :
    Calls Tryz.prog 152 #[.int .i64 i] w fun e w' => e = .returned (.string ⟨(Lib.decDigits i).toArray⟩) ∧ w' = w := Any.strconv_Itoa_small Tryz.lays171 i hi w
def Tryz.lays219_ren : Go.Shelf.Ren := ⟨fun | 219 => 214 | 217 => 223 | 225 => 224 | 224 => 225 | 267 => 226 | 266 => 231 | 314 => 232 | n => n, fun | 9 => 9 | 3 => 3 | 4 => 4 | 5 => 5 | 46 => 138 | 146 => 197 | 51 => 181 | n => n, fun | 1 => 2 | n => n⟩
theorem Tryz.lays219 : Go.Proofs.Lays.n219 Tryz.prog Tryz.lays219_ren := {
  mixed := by kernel_rfl
  f217 := Tryz.func223.trans (congrArg some (by kernel_rfl))
  f219 := Tryz.func214.trans (congrArg some (by kernel_rfl))
  f224 := Tryz.func225.trans (congrArg some (by kernel_rfl))
  f225 := Tryz.func224.trans (congrArg some (by kernel_rfl))
  f266 := Tryz.func231.trans (congrArg some (by kernel_rfl))
  f267 := Tryz.func226.trans (congrArg some (by kernel_rfl))
  f314 := Tryz.func232.trans (congrArg some (by kernel_rfl))
  t3 := Tryz.underlying3
  a3 := Tryz.isAgg3
  z3 := Tryz.sizeOf3
  v3 := Tryz.zeroValue3
  t4 := Tryz.underlying4
  a4 := Tryz.isAgg4
  z4 := Tryz.sizeOf4
  v4 := Tryz.zeroValue4
  t5 := Tryz.underlying5
  a5 := Tryz.isAgg5
  z5 := Tryz.sizeOf5
  v5 := Tryz.zeroValue5
  t9 := Tryz.underlying9
  a9 := Tryz.isAgg9
  z9 := Tryz.sizeOf9
  v9 := Tryz.zeroValue9
  t46 := Tryz.underlying138
  a46 := Tryz.isAgg138
  z46 := Tryz.sizeOf138
  v46 := Tryz.zeroValue138
  t51 := Tryz.underlying181
  a51 := Tryz.isAgg181
  z51 := Tryz.sizeOf181
  v51 := Tryz.zeroValue181
  t146 := Tryz.underlying197
  a146 := Tryz.isAgg197
  z146 := Tryz.sizeOf197
  v146 := Tryz.zeroValue197
  g1 := by kernel_rfl }
open Go.RowKit Go.Lib in
theorem Tryz.stringslite_Index_one (s : ByteArray) (c : UInt8) (w : World) :
    Calls Tryz.prog 214 #[.string s, .string ⟨#[c]⟩] w fun e w' => e = .returned (.int .i64 (Lib.indexByte s.data.toList c)) ∧ w' = w := Any.stringslite_Index_one Tryz.lays219 s c w
def Tryz.lays190_ren : Go.Shelf.Ren := ⟨fun | 190 => 66 | 125 => 117 | 258 => 116 | 128 => 177 | 129 => 178 | 302 => 168 | 303 => 169 | 304 => 170 | 305 => 171 | 306 => 172 | 307 => 173 | 308 => 174 | 309 => 175 | 310 => 176 | 333 => 197 | 329 => 198 | 330 => 199 | 334 => 200 | 335 => 201 | 336 => 202 | 344 => 212 | n => n, fun | 31 => 37 | 9 => 9 | 3 => 3 | 46 => 138 | 0 => 0 | 51 => 181 | 53 => 183 | 4 => 4 | 183 => 174 | 182 => 173 | 131 => 178 | 5 => 5 | 218 => 210 | 222 => 214 | 228 => 223 | 229 => 30 | n => n, fun | n => n⟩
theorem Tryz.lays190 : Go.Proofs.Lays.n190 Tryz.prog Tryz.lays190_ren := {
  mixed := by kernel_rfl
  f125 := Tryz.func117.trans (congrArg some (by kernel_rfl))
  f128 := Tryz.func177.trans (congrArg some (by kernel_rfl))
  f129 := Tryz.func178.trans (congrArg some (by kernel_rfl))
  f190 := Tryz.func66.trans (congrArg some (by kernel_rfl))
  f258 := Tryz.func116.trans (congrArg some (by kernel_rfl))
  f302 := Tryz.func168.trans (congrArg some (by kernel_rfl))
  f303 := Tryz.func169.trans (congrArg some (by kernel_rfl))
  f304 := Tryz.func170.trans (congrArg some (by kernel_rfl))
  f305 := Tryz.func171.trans (congrArg some (by kernel_rfl))
  f306 := Tryz.func172.trans (congrArg some (by kernel_rfl))
  f307 := Tryz.func173.trans (congrArg some (by kernel_rfl))
  f308 := Tryz.func174.trans (congrArg some (by kernel_rfl))
  f309 := Tryz.func175.trans (congrArg some (by kernel_rfl))
  f310 := Tryz.func176.trans (congrArg some (by kernel_rfl))
  f329 := Tryz.func198.trans (congrArg some (by kernel_rfl))
  f330 := Tryz.func199.trans (congrArg some (by kernel_rfl))
  f333 := Tryz.func197.trans (congrArg some (by kernel_rfl))
  f334 := Tryz.func200.trans (congrArg some (by kernel_rfl))
  f335 := Tryz.func201.trans (congrArg some (by kernel_rfl))
  f336 := Tryz.func202.trans (congrArg some (by kernel_rfl))
  f344 := Tryz.func212.trans (congrArg some (by kernel_rfl))
  t0 := Tryz.underlying0
  a0 := Tryz.isAgg0
  z0 := Tryz.sizeOf0
  v0 := Tryz.zeroValue0
  t3 := Tryz.underlying3
  a3 := Tryz.isAgg3
  z3 := Tryz.sizeOf3
  v3 := Tryz.zeroValue3
  t4 := Tryz.underlying4
  a4 := Tryz.isAgg4
  z4 := Tryz.sizeOf4
  v4 := Tryz.zeroValue4
  t5 := Tryz.underlying5
  a5 := Tryz.isAgg5
  z5 := Tryz.sizeOf5
  v5 := Tryz.zeroValue5
  t9 := Tryz.underlying9
  a9 := Tryz.isAgg9
  z9 := Tryz.sizeOf9
  v9 := Tryz.zeroValue9
  t31 := Tryz.underlying37
  a31 := Tryz.isAgg37
  z31 := Tryz.sizeOf37
  v31 := Tryz.zeroValue37
  t46 := Tryz.underlying138
  a46 := Tryz.isAgg138
  z46 := Tryz.sizeOf138
  v46 := Tryz.zeroValue138
  t51 := Tryz.underlying181
  a51 := Tryz.isAgg181
  z51 := Tryz.sizeOf181
  v51 := Tryz.zeroValue181
  t53 := Tryz.underlying183
  a53 := Tryz.isAgg183
  z53 := Tryz.sizeOf183
  v53 := Tryz.zeroValue183
  t131 := Tryz.underlying178
  a131 := Tryz.isAgg178
  z131 := Tryz.sizeOf178
  v131 := Tryz.zeroValue178
  t182 := Tryz.underlying173
  a182 := Tryz.isAgg173
  z182 := Tryz.sizeOf173
  v182 := Tryz.zeroValue173
  t183 := Tryz.underlying174
  a183 := Tryz.isAgg174
  z183 := Tryz.sizeOf174
  v183 := Tryz.zeroValue174
  t218 := Tryz.underlying210
  a218 := Tryz.isAgg210
  z218 := Tryz.sizeOf210
  v218 := Tryz.zeroValue210
  t222 := Tryz.underlying214
  a222 := Tryz.isAgg214
  z222 := Tryz.sizeOf214
  v222 := Tryz.zeroValue214
  t228 := Tryz.underlying223
  a228 := Tryz.isAgg223
  z228 := Tryz.sizeOf223
  v228 := Tryz.zeroValue223
  t229 := Tryz.underlying30
  a229 := Tryz.isAgg30
  z229 := Tryz.sizeOf30
  v229 := Tryz.zeroValue30 }
open Go.Sort Go.RowKit in
theorem Tryz.slices_Sort_string (blk off cap : Nat) (ss : List (List UInt8)) (w : World) (hH : Holds encStr w blk off ss.toArray) (hblk : blk < w.heap.size) (hsz : ss.length < 4611686018427387904) :
    Calls Tryz.prog 66 #[.slice (some ⟨blk, off, none⟩) ss.length cap] w fun e w' =>
      e = .returned (.tuple #[]) ∧ ∃ n os, w' = grow (putRow encStr (Sort.ahead w n) blk off (ss.mergeSort fun x y => decide (x ≤ y)).toArray) os := Any.slices_Sort_string Tryz.lays190 blk off cap ss w hH hblk hsz
def Tryz.laysGw17_ren : Go.Shelf.Ren := ⟨fun | 17 => 143 | 15 => 185 | 20 => 206 | n => n, fun | 9 => 9 | 23 => 152 | 4 => 4 | 3 => 3 | 0 => 0 | 21 => 21 | n => n, fun | n => n⟩
theorem Tryz.laysGw17 : Go.Proofs.LaysGw.n17 Tryz.prog Tryz.laysGw17_ren := {
  mixed := by kernel_rfl
  f15 := Tryz.func185.trans (congrArg some (by kernel_rfl))
  f17 := Tryz.func143.trans (congrArg some (by kernel_rfl))
  f20 := Tryz.func206.trans (congrArg some (by kernel_rfl))
  t0 := Tryz.underlying0
  a0 := Tryz.isAgg0
  z0 := Tryz.sizeOf0
  v0 := Tryz.zeroValue0
  i0 := by kernel_rfl
  t3 := Tryz.underlying3
  a3 := Tryz.isAgg3
  z3 := Tryz.sizeOf3
  v3 := Tryz.zeroValue3
  i3 := by kernel_rfl
  t4 := Tryz.underlying4
  a4 := Tryz.isAgg4
  z4 := Tryz.sizeOf4
  v4 := Tryz.zeroValue4
  i4 := by kernel_rfl
  t9 := Tryz.underlying9
  a9 := Tryz.isAgg9
  z9 := Tryz.sizeOf9
  v9 := Tryz.zeroValue9
  i9 := by kernel_rfl
  t21 := Tryz.underlying21
  a21 := Tryz.isAgg21
  z21 := Tryz.sizeOf21
  v21 := Tryz.zeroValue21
  i21 := by kernel_rfl
  t23 := Tryz.underlying152
  a23 := Tryz.isAgg152
  z23 := Tryz.sizeOf152
  v23 := Tryz.zeroValue152
  i23 := by kernel_rfl }
def Tryz.lays264_ren : Go.Shelf.Ren := ⟨fun | 264 => 189 | n => n, fun | 53 => 183 | 46 => 138 | n => n, fun | n => n⟩
theorem Tryz.lays264 : Go.Proofs.Lays.n264 Tryz.prog Tryz.lays264_ren := {
  mixed := by kernel_rfl
  f264 := Tryz.func189.trans (congrArg some (by kernel_rfl))
  t46 := Tryz.underlying138
  a46 := Tryz.isAgg138
  z46 := Tryz.sizeOf138
  v46 := Tryz.zeroValue138
  t53 := Tryz.underlying183
  a53 := Tryz.isAgg183
  z53 := Tryz.sizeOf183
  v53 := Tryz.zeroValue183 }
open Go.RowKit Go.Lib in
theorem Tryz.bits_Mul64 (x y : Nat) (hx : x < 18446744073709551616) (hy : y < 18446744073709551616) (w : World) :
    Calls Tryz.prog 189 #[.int .u64 x, .int .u64 y] w fun e w' => e = .returned (.tuple #[.int .u64 ((x * y / 18446744073709551616 : Nat) : Int), .int .u64 ((x * y % 18446744073709551616 : Nat) : Int)]) ∧ w' = w := Any.bits_Mul64 Tryz.lays264 x y hx hy w
open Go.RowKit Go.Lib in
theorem Tryz.strings_ContainsFunc_grows (g : Nat) (lb : Array Value) (eg : ∀ args w, (callFunc g args).run Tryz.prog w = .ok (.enter g args) w) (p : Nat → Bool) (s : ByteArray) (w : World) (hp : PredGrows Tryz.prog g lb p w) :
    Calls Tryz.prog 143 #[.string s, .func (.func g) #[] lb] w fun e w' => e = .returned (.bool (decide (0 ≤ Lib.idxFunc p true s))) ∧ Below w.heap.size w w' := Any.strings_ContainsFunc_grows Tryz.laysGw17 g lb eg p s w hp
def Tryz.lays194_ren : Go.Shelf.Ren := ⟨fun | 194 => 119 | n => n, fun | 31 => 37 | 9 => 9 | 3 => 3 | 4 => 4 | 0 => 0 | n => n, fun | n => n⟩
theorem Tryz.lays194 : Go.Proofs.Lays.n194 Tryz.prog Tryz.lays194_ren := {
  mixed := by kernel_rfl
  f194 := Tryz.func119.trans (congrArg some (by kernel_rfl))
  t0 := Tryz.underlying0
  a0 := Tryz.isAgg0
  z0 := Tryz.sizeOf0
  v0 := Tryz.zeroValue0
  t3 := Tryz.underlying3
  a3 := Tryz.isAgg3
  z3 := Tryz.sizeOf3
  v3 := Tryz.zeroValue3
  t4 := Tryz.underlying4
  a4 := Tryz.isAgg4
  z4 := Tryz.sizeOf4
  v4 := Tryz.zeroValue4
  t9 := Tryz.underlying9
  a9 := Tryz.isAgg9
  z9 := Tryz.sizeOf9
  v9 := Tryz.zeroValue9
  t31 := Tryz.underlying37
  a31 := Tryz.isAgg37
  z31 := Tryz.sizeOf37
  v31 := Tryz.zeroValue37 }
open Go.RowKit Go.Lib Go.Sort in
theorem Tryz.slices_Compact_string (blk off cap : Nat) (zs : List (List UInt8)) (w : World) (hH : Holds encStr w blk off zs.toArray) (hsz : zs.length ≤ 9223372036854775807) (hcap : zs.length ≤ cap) :
    Calls Tryz.prog 119 #[.slice (some ⟨blk, off, none⟩) zs.length cap] w fun e w' => e = .returned (.slice (some ⟨blk, off, none⟩) (Lib.compact zs).length cap) ∧ ∃ q, w' = putRow encStr (Sort.ahead w q) blk off (Lib.compact zs ++ List.replicate (zs.length - (Lib.compact zs).length) []).toArray := Any.slices_Compact_string Tryz.lays194 blk off cap zs w hH hsz hcap
open Go.RowKit Go.Lib Go.Sort in
theorem Tryz.slices_Compact_string_empty (a : Option Addr) (cap : Nat) (w : World) :
    Calls Tryz.prog 119 #[.slice a 0 cap] w fun e w' => e = .returned (.slice a 0 cap) ∧ w' = w := Any.slices_Compact_string_empty Tryz.lays194 a cap w
open Go.RowKit Go.Sort in
theorem Tryz.slices_Sort_string_none (p : Option Addr) (cap : Nat) (w : World) :
    Calls Tryz.prog 66 #[.slice p 0 cap] w fun e w' => e = .returned (.tuple #[]) ∧ w' = w := Any.slices_Sort_string_none Tryz.lays190 p cap w
def Tryz.growOp_ren : Go.Shelf.Ren := ⟨fun | 4 => 167 | n => n, fun | 22 => 93 | 25 => 46 | 3 => 3 | 4 => 4 | 9 => 9 | 20 => 20 | 0 => 0 | n => n, fun | n => n⟩
theorem Tryz.growOp : Go.Proofs.Lays8.n4 Tryz.prog Tryz.growOp_ren := {
  mixed := by kernel_rfl
  f4 := ⟨Tryz.f167.name, by decide, Tryz.func167.trans (congrArg some (by kernel_rfl))⟩
  t0 := Tryz.underlying0
  a0 := Tryz.isAgg0
  z0 := Tryz.sizeOf0
  v0 := Tryz.zeroValue0
  t3 := Tryz.underlying3
  a3 := Tryz.isAgg3
  z3 := Tryz.sizeOf3
  v3 := Tryz.zeroValue3
  t4 := Tryz.underlying4
  a4 := Tryz.isAgg4
  z4 := Tryz.sizeOf4
  v4 := Tryz.zeroValue4
  t9 := Tryz.underlying9
  a9 := Tryz.isAgg9
  z9 := Tryz.sizeOf9
  v9 := Tryz.zeroValue9
  t20 := Tryz.underlying20
  a20 := Tryz.isAgg20
  z20 := Tryz.sizeOf20
  v20 := Tryz.zeroValue20
  t22 := Tryz.underlying93
  a22 := Tryz.isAgg93
  z22 := Tryz.sizeOf93
  v22 := Tryz.zeroValue93 }
end Go.Proofs
end
section
namespace Go.VL
open Go.Proofs Go.RowKit
theorem join_c (l : List Str) (sep : Str) {c : Ck} (h1 : l.length ≤ 1099511627776) (h2 : (Lib.join l sep).length ≤ 140737488355328) : PCall Tryz.prog 151 [.isl (l.map strL) c, .str sep] (.str (Lib.join l sep)) := by
  refine PCall.wk (args := [.isl (l.map strL) .unk, .str sep]) ?_ (.isl (.same .nil))
  refine pcall_of ⟨_, Tryz.func151, rfl, by kernel_rfl⟩ (fun w G vs hg hi hv => ?_) (PuL.mem (.cons (pu_sl pu_strL _) (.cons (.str _) .nil)))
  obtain ⟨ad, cap, hc, rfl, hcells⟩ := Vs.strsstr hi hv
  by_cases h0 : l = []
  · subst h0
    refine (Tryz.strings_Join_none ad cap ⟨sep.toArray⟩ w).mono ?_
    rintro e w' ⟨rfl, rfl⟩
    exact ⟨_, rfl, Below.refl _ _, fun G n => .str _⟩
  · obtain ⟨b, o, rfl, hb, hx⟩ := hcells h0
    have e1 : (l.map fun s => (⟨s.toArray⟩ : ByteArray)).map (·.data.toList) = l := by simp [Function.comp_def]
    have key := Tryz.strings_Join b o cap (l.map fun s => ⟨s.toArray⟩) ⟨sep.toArray⟩ w hx hb (by simp; omega) (by simp; exact hc) (by rw [e1]; exact h2)
    rw [e1, List.length_map] at key
    refine key.mono ?_
    rintro e w' ⟨rfl, hb'⟩
    exact ⟨_, rfl, hb', fun G n => .str _⟩
theorem itoa_small_c (n : Int) (h : 0 ≤ n ∧ n < 100) : PCall Tryz.prog 152 [.int .i64 n] (.str (Lib.decDigits n.toNat)) := by
  refine pcall_of ⟨_, Tryz.func152, rfl, by kernel_rfl⟩ (fun w G vs hg hi hv => ?_) (PuL.mem (.cons (.int _ _) .nil))
  rw [Vs.int1 hv]
  have e1 : n = ((n.toNat : Nat) : Int) := by omega
  have key := Tryz.strconv_Itoa_small n.toNat (by omega) w
  rw [← e1] at key
  refine key.mono ?_
  rintro e w' ⟨rfl, rfl⟩
  exact ⟨_, rfl, Below.refl _ _, fun G n => .str _⟩
theorem index_one_c (s : Str) (c : UInt8) : PCall Tryz.prog 214 [.str s, .str [c]] (.int .i64 (Lib.indexByte s c)) := by
  refine pcall_of ⟨_, Tryz.func214, rfl, by kernel_rfl⟩ (fun w G vs hg hi hv => ?_) (PuL.mem (.cons (.str _) (.cons (.str _) .nil)))
  rw [Vs.str2 hv]
  refine (Tryz.stringslite_Index_one ⟨s.toArray⟩ c w).mono ?_
  rintro e w' ⟨rfl, rfl⟩
  exact ⟨_, rfl, Below.refl _ _, fun G n => .int _ _⟩
end Go.VL
end
section
namespace Go.VL
open Go.Proofs Go.RowKit
def idx1 (s sep : Str) : Option Int := match sep with
  | [c] => some (Lib.indexByte s c)
  | _ => none
theorem idx1_c (s sep : Str) {r : Int} (h : idx1 s sep = some r) : PCall Tryz.prog 214 [.str s, .str sep] (.int .i64 r) := by
  match sep, h with
  | [c], h => cases h; exact index_one_c s c
def noFields (s : Str) : Option (List Str) := none
theorem noFields_c (s : Str) {r : List Str} (h : noFields s = some r) : PCall Tryz.prog 203 [.str s, .fn (.func 204) [] []] (.isl (r.map strL) .unk) := by cases h
end Go.VL
end
section
set_option maxRecDepth 8000
set_option maxHeartbeats 4000000
namespace Go.VL
open Go.Proofs
def g_Fields_b0 : Nat → Str → Int → Int → Int → Int → Option ((Int × Int))
  | 0, _, _, _, _, _ => none
  | k + 1, s_0, n_3, wasSpace_4, setBits_5, i_6 =>
    cond (decide (i_6 < (s_0.length : Int))) (if 0 ≤ i_6 then Option.bind (s_0[i_6.toNat]?) fun x3 => if 0 ≤ (x3.toNat : Int) ∧ (x3.toNat : Int) < 256 then Option.bind (tab0[x3.toNat]?) fun x6 => g_Fields_b0 k s_0 (IntKind.wrap .i64 (n_3 + (IntKind.wrap .i64 ((BitVec.ofInt (IntKind.bits .i64) wasSpace_4 &&& BitVec.ofInt (IntKind.bits .i64) (IntKind.wrap .i64 ((BitVec.ofInt (IntKind.bits .i64) (if IntKind.signed .i64 = true then -1 else IntKind.max .i64) ^^^ BitVec.ofInt (IntKind.bits .i64) (IntKind.wrap .i64 x6)).toNat))).toNat)))) (IntKind.wrap .i64 x6) (IntKind.wrap .u8 ((BitVec.ofInt (IntKind.bits .u8) setBits_5 ||| BitVec.ofInt (IntKind.bits .u8) (x3.toNat : Int)).toNat)) (IntKind.wrap .i64 (i_6 + 1)) else none else none) (some ((n_3, setBits_5)))
def g_Fields_b0l : List Nat := [3, 4, 5, 6, 7, 8, 13, 14, 15, 16, 17, 18, 19, 20, 21, 22, 23, 24, 25, 26, 27, 28, 29, 30, 31, 32, 33, 34, 35]
theorem g_Fields_b0_W : ∀ (k : Nat) (s_0 : Str) (n_3 : Int) (wasSpace_4 : Int) (setBits_5 : Int) (i_6 : Int) (σ0 σ : Nat → PV) (H : AH) (f0 : Fr g_Fields_b0l σ0 σ) (sl : σ 0 = (.str s_0) ∧ σ 3 = (.int .i64 n_3) ∧ σ 4 = (.int .i64 wasSpace_4) ∧ σ 5 = (.int .u8 setBits_5) ∧ σ 6 = (.int .i64 i_6)) (o : (Int × Int)) (h : g_Fields_b0 k s_0 n_3 wasSpace_4 setBits_5 i_6 = some o) (Q : Post) (q0 : ∀ (p : Int × Int) (σ' : Nat → PV), o = p → Fr g_Fields_b0l σ0 σ' → (σ' 3 = (.int .i64 p.1) ∧ σ' 5 = (.int .u8 p.2)) → Q (.exit 0) σ' H) , W Tryz.prog (.loop ac180_b0) Q σ H := by
  intro k
  induction k with
  | zero => intro s_0 n_3 wasSpace_4 setBits_5 i_6 σ0 σ H f0 sl o h Q q0; simp only [g_Fields_b0, reduceCtorEq] at h
  | succ k ih =>
    intro s_0 n_3 wasSpace_4 setBits_5 i_6 σ0 σ H f0 sl o h Q q0
    obtain ⟨s0, s3, s4, s5, s6⟩ := sl
    unfold g_Fields_b0 at h
    refine W_loopK (fun K hK => W_start ?_)
    unfold ac180_b0
    rcases cond_E h with ⟨e1, h⟩ | ⟨e1, h⟩
    ·obtain ⟨e2, h⟩ := if_E h
     obtain ⟨x3, e4, h⟩ := bind_E h
     obtain ⟨e5, h⟩ := if_E h
     obtain ⟨x6, e7, h⟩ := bind_E h
     simp -implicitDefEqProofs only [go_sem, s0, s3, s4, s5, s6, e1, e2, e4, e5, e7]
     refine hK _ _ ?_
     exact ih s_0 (IntKind.wrap .i64 (n_3 + (IntKind.wrap .i64 ((BitVec.ofInt (IntKind.bits .i64) wasSpace_4 &&& BitVec.ofInt (IntKind.bits .i64) (IntKind.wrap .i64 ((BitVec.ofInt (IntKind.bits .i64) (if IntKind.signed .i64 = true then -1 else IntKind.max .i64) ^^^ BitVec.ofInt (IntKind.bits .i64) (IntKind.wrap .i64 x6)).toNat))).toNat)))) (IntKind.wrap .i64 x6) (IntKind.wrap .u8 ((BitVec.ofInt (IntKind.bits .u8) setBits_5 ||| BitVec.ofInt (IntKind.bits .u8) (x3.toNat : Int)).toNat)) (IntKind.wrap .i64 (i_6 + 1)) _ _ _ (by repeat (first | exact f0 | refine Fr.upd (by decide) ?_)) (by simp -implicitDefEqProofs only [go_sem, s0, and_self]) _ h _ q0
    ·obtain rfl := som_E h
     simp -implicitDefEqProofs only [go_sem, s0, s6, e1]
     exact q0 _ _ rfl (by repeat (first | exact f0 | refine Fr.upd (by decide) ?_)) (by simp -implicitDefEqProofs only [go_sem, s3, s5, and_self])
def g_Fields_b1 : Nat → Str → Int → Option Int
  | 0, _, _ => none
  | k + 1, s_0, i_12 =>
    cond (decide (i_12 < (s_0.length : Int))) (if 0 ≤ i_12 then Option.bind (s_0[i_12.toNat]?) fun x30 => if 0 ≤ (x30.toNat : Int) ∧ (x30.toNat : Int) < 256 then Option.bind (tab0[x30.toNat]?) fun x33 => cond (x33 != 0) (g_Fields_b1 k s_0 (IntKind.wrap .i64 (i_12 + 1))) (some (i_12)) else none else none) (some (i_12))
def g_Fields_b1l : List Nat := [12, 42, 43, 44, 45, 46, 47, 48, 49, 50, 51, 52, 53, 54, 55]
theorem g_Fields_b1_W : ∀ (k : Nat) (s_0 : Str) (i_12 : Int) (σ0 σ : Nat → PV) (H : AH) (f0 : Fr g_Fields_b1l σ0 σ) (sl : σ 0 = (.str s_0) ∧ σ 12 = (.int .i64 i_12)) (o : Int) (h : g_Fields_b1 k s_0 i_12 = some o) (Q : Post) (q0 : ∀ (p : Int) (σ' : Nat → PV), o = p → Fr g_Fields_b1l σ0 σ' → (σ' 12 = (.int .i64 p)) → Q (.exit 2) σ' H) , W Tryz.prog (.loop ac180_b1) Q σ H := by
  intro k
  induction k with
  | zero => intro s_0 i_12 σ0 σ H f0 sl o h Q q0; simp only [g_Fields_b1, reduceCtorEq] at h
  | succ k ih =>
    intro s_0 i_12 σ0 σ H f0 sl o h Q q0
    obtain ⟨s0, s12⟩ := sl
    unfold g_Fields_b1 at h
    refine W_loopK (fun K hK => W_start ?_)
    unfold ac180_b1
    rcases cond_E h with ⟨e28, h⟩ | ⟨e28, h⟩
    ·obtain ⟨e29, h⟩ := if_E h
     obtain ⟨x30, e31, h⟩ := bind_E h
     obtain ⟨e32, h⟩ := if_E h
     obtain ⟨x33, e34, h⟩ := bind_E h
     rcases cond_E h with ⟨e35, h⟩ | ⟨e35, h⟩
     ·try simp -implicitDefEqProofs only [go_sem, s0, s12, e28, e29, e31, e32, e34, e35]
      refine hK _ _ ?_
      exact ih s_0 (IntKind.wrap .i64 (i_12 + 1)) _ _ _ (by repeat (first | exact f0 | refine Fr.upd (by decide) ?_)) (by simp -implicitDefEqProofs only [go_sem, s0, and_self]) _ h _ q0
     ·obtain rfl := som_E h
      simp -implicitDefEqProofs only [go_sem, s0, s12, e28, e29, e31, e32, e34, e35]
      exact q0 _ _ rfl (by repeat (first | exact f0 | refine Fr.upd (by decide) ?_)) (by simp -implicitDefEqProofs only [go_sem, s12])
    ·obtain rfl := som_E h
     simp -implicitDefEqProofs only [go_sem, s0, s12, e28]
     exact q0 _ _ rfl (by repeat (first | exact f0 | refine Fr.upd (by decide) ?_)) (by simp -implicitDefEqProofs only [go_sem, s12])
def g_Fields_b2 : Nat → Str → Int → Option Int
  | 0, _, _ => none
  | k + 1, s_0, i_12 =>
    cond (decide (i_12 < (s_0.length : Int))) (if 0 ≤ i_12 then Option.bind (s_0[i_12.toNat]?) fun x73 => if 0 ≤ (x73.toNat : Int) ∧ (x73.toNat : Int) < 256 then Option.bind (tab0[x73.toNat]?) fun x76 => cond (x76 != 0) (g_Fields_b2 k s_0 (IntKind.wrap .i64 (i_12 + 1))) (some (i_12)) else none else none) (some (i_12))
def g_Fields_b2l : List Nat := [12, 80, 81, 82, 83, 84, 85, 86, 87, 88, 89, 90, 91, 92, 93]
theorem g_Fields_b2_W : ∀ (k : Nat) (s_0 : Str) (i_12 : Int) (σ0 σ : Nat → PV) (H : AH) (f0 : Fr g_Fields_b2l σ0 σ) (sl : σ 0 = (.str s_0) ∧ σ 12 = (.int .i64 i_12)) (o : Int) (h : g_Fields_b2 k s_0 i_12 = some o) (Q : Post) (q0 : ∀ (p : Int) (σ' : Nat → PV), o = p → Fr g_Fields_b2l σ0 σ' → (σ' 12 = (.int .i64 p)) → Q (.exit 6) σ' H) , W Tryz.prog (.loop ac180_b2) Q σ H := by
  intro k
  induction k with
  | zero => intro s_0 i_12 σ0 σ H f0 sl o h Q q0; simp only [g_Fields_b2, reduceCtorEq] at h
  | succ k ih =>
    intro s_0 i_12 σ0 σ H f0 sl o h Q q0
    obtain ⟨s0, s12⟩ := sl
    unfold g_Fields_b2 at h
    refine W_loopK (fun K hK => W_start ?_)
    unfold ac180_b2
    rcases cond_E h with ⟨e71, h⟩ | ⟨e71, h⟩
    ·obtain ⟨e72, h⟩ := if_E h
     obtain ⟨x73, e74, h⟩ := bind_E h
     obtain ⟨e75, h⟩ := if_E h
     obtain ⟨x76, e77, h⟩ := bind_E h
     rcases cond_E h with ⟨e78, h⟩ | ⟨e78, h⟩
     ·try simp -implicitDefEqProofs only [go_sem, s0, s12, e71, e72, e74, e75, e77, e78]
      refine hK _ _ ?_
      exact ih s_0 (IntKind.wrap .i64 (i_12 + 1)) _ _ _ (by repeat (first | exact f0 | refine Fr.upd (by decide) ?_)) (by simp -implicitDefEqProofs only [go_sem, s0, and_self]) _ h _ q0
     ·obtain rfl := som_E h
      simp -implicitDefEqProofs only [go_sem, s0, s12, e71, e72, e74, e75, e77, e78]
      exact q0 _ _ rfl (by repeat (first | exact f0 | refine Fr.upd (by decide) ?_)) (by simp -implicitDefEqProofs only [go_sem, s12])
    ·obtain rfl := som_E h
     simp -implicitDefEqProofs only [go_sem, s0, s12, e71]
     exact q0 _ _ rfl (by repeat (first | exact f0 | refine Fr.upd (by decide) ?_)) (by simp -implicitDefEqProofs only [go_sem, s12])
def g_Fields_b3 : Nat → Str → (List Str) → Int → Int → Int → Option (((List Str) × Int × Int))
  | 0, _, _, _, _, _ => none
  | k + 1, s_0, a_9, na_10, fieldStart_11, i_12 =>
    cond (decide (i_12 < (s_0.length : Int))) (if 0 ≤ i_12 then Option.bind (s_0[i_12.toNat]?) fun x48 => if 0 ≤ (x48.toNat : Int) ∧ (x48.toNat : Int) < 256 then Option.bind (tab0[x48.toNat]?) fun x51 => cond (x51 == 0) (g_Fields_b3 k s_0 a_9 na_10 fieldStart_11 (IntKind.wrap .i64 (i_12 + 1))) (if 0 ≤ fieldStart_11 ∧ fieldStart_11 ≤ i_12 ∧ i_12.toNat ≤ s_0.length then if 0 ≤ na_10 then Option.bind (a_9[na_10.toNat]?) fun x56 => Option.bind (g_Fields_b2 k s_0 (IntKind.wrap .i64 (i_12 + 1))) (fun p81 => g_Fields_b3 k s_0 (a_9.set na_10.toNat ((s_0.take i_12.toNat).drop fieldStart_11.toNat)) (IntKind.wrap .i64 (na_10 + 1)) p81 p81) else none else none) else none else none) (some ((a_9, na_10, fieldStart_11)))
def g_Fields_b3l : List Nat := [10, 11, 12, 57, 58, 59, 60, 61, 62, 63, 64, 65, 66, 67, 68, 69, 70, 71, 72, 73, 74, 75, 76, 77, 78, 79, 80, 81, 82, 83, 84, 85, 86, 87, 88, 89, 90, 91, 92, 93, 94]
theorem g_Fields_b3_W : ∀ (k : Nat) (v_a_9 : PV) (ids_a_9 : List Nat) (M : List Nat) (s_0 : Str) (a_9 : List Str) (na_10 : Int) (fieldStart_11 : Int) (i_12 : Int) (σ0 σ : Nat → PV) (H0 H : AH) (f0 : Fr g_Fields_b3l σ0 σ) (hf0 : HF M H0 H) (sl : σ 0 = (.str s_0) ∧ σ 9 = v_a_9 ∧ σ 10 = (.int .i64 na_10) ∧ σ 11 = (.int .i64 fieldStart_11) ∧ σ 12 = (.int .i64 i_12)) (r_a_9 : RowN H strL 1 a_9 v_a_9 ids_a_9) (nw_a_9 : Nw H0 M ids_a_9) (o : ((List Str) × Int × Int)) (h : g_Fields_b3 k s_0 a_9 na_10 fieldStart_11 i_12 = some o) (Q : Post) (q0 : ∀ (p : (List Str) × Int × Int) (v0 : PV) (ids0 : List Nat) (σ' : Nat → PV) (H' : AH), o = p → Fr g_Fields_b3l σ0 σ' → HF M H0 H' → (σ' 9 = v0 ∧ σ' 10 = (.int .i64 p.2.1) ∧ σ' 11 = (.int .i64 p.2.2)) → RowN H' strL 1 p.1 v0 ids0 → Nw H0 M ids0 → Q (.exit 4) σ' H') , W Tryz.prog (.loop ac180_b3) Q σ H := by
  intro k
  induction k with
  | zero => intro v_a_9 ids_a_9 M s_0 a_9 na_10 fieldStart_11 i_12 σ0 σ H0 H f0 hf0 sl r_a_9 nw_a_9 o h Q q0; simp only [g_Fields_b3, reduceCtorEq] at h
  | succ k ih =>
    intro v_a_9 ids_a_9 M s_0 a_9 na_10 fieldStart_11 i_12 σ0 σ H0 H f0 hf0 sl r_a_9 nw_a_9 o h Q q0
    obtain ⟨s0, s9, s10, s11, s12⟩ := sl
    have hle0 := hf0.1
    unfold g_Fields_b3 at h
    refine W_loopK (fun K hK => W_start ?_)
    unfold ac180_b3
    rcases cond_E h with ⟨e46, h⟩ | ⟨e46, h⟩
    ·obtain ⟨e47, h⟩ := if_E h
     obtain ⟨x48, e49, h⟩ := bind_E h
     obtain ⟨e50, h⟩ := if_E h
     obtain ⟨x51, e52, h⟩ := bind_E h
     rcases cond_E h with ⟨e53, h⟩ | ⟨e53, h⟩
     ·try simp -implicitDefEqProofs only [go_sem, s0, s12, e46, e47, e49, e50, e52, e53]
      refine hK _ _ ?_
      exact ih v_a_9 ids_a_9 M s_0 a_9 na_10 fieldStart_11 (IntKind.wrap .i64 (i_12 + 1)) _ _ _ _ (by repeat (first | exact f0 | refine Fr.upd (by decide) ?_)) (by repeat (first | exact hf0 | refine HF.new ?_ | refine HF.tokd ?_ | refine HF.used ?_ | refine HF.put (by first | (right; omega) | (left; simp only [List.mem_cons, true_or, or_true])) ?_)) (by simp -implicitDefEqProofs only [go_sem, s0, s9, s10, s11, and_self]) (by repeat (first | exact r_a_9 | apply RowN.new | refine RowN.put ?_ (fun hm => by have := RowN.lt r_a_9 _ hm; omega))) nw_a_9 _ h _ q0
     ·obtain ⟨e54, h⟩ := if_E h
      obtain ⟨e55, h⟩ := if_E h
      obtain ⟨x56, e57, h⟩ := bind_E h
      obtain ⟨w58, w59, hidw58, hil, w60, hC, hL, hD, hI⟩ := RowN.content r_a_9 e57
      have w61 := ne_next hil
      have w62 := ne_add hil
      have w63 : idxPV 1 v_a_9 (.int .i64 na_10) = some (.ref w58 (na_10.toNat)) := by simpa using hI .i64 na_10 (by first | omega | decide) (by first | rfl | omega)
      have w58c0 : w59[na_10.toNat]? = some (.str x56) := by simpa using hC 0 _ rfl
      clear hC hL hD hI
      simp -implicitDefEqProofs only [go_sem, s0, s9, s10, s11, s12, e46, e47, e49, e50, e52, e53, e54, w63]
      refine WO_rowset (f := strL) (id := w58) (o := na_10.toNat) (i := na_10.toNat) (j := 0) (a := x56) (y := ((s_0.take i_12.toNat).drop fieldStart_11.toNat)) (vs := [(.str ((s_0.take i_12.toNat).drop fieldStart_11.toNat))]) (by simp -implicitDefEqProofs only [go_sem]) hidw58 (by omega) (by repeat (first | exact r_a_9 | apply RowN.new | refine RowN.put ?_ (fun hm => by have := RowN.lt r_a_9 _ hm; omega))) e57 (by simp -implicitDefEqProofs only [go_sem]) rfl rfl (by first | decide | (simp only [List.length_cons, List.length_nil]; omega)) rfl (fun H66 r67 hf69 ok70 => ?_)
      have le := hf69.1
      simp -implicitDefEqProofs only [go_sem, s10, s12]
      obtain ⟨o79, h80, h⟩ := bind_E h
      refine g_Fields_b2_W k s_0 (IntKind.wrap .i64 (i_12 + 1)) _ _ _ (Fr.refl _ _) (by simp -implicitDefEqProofs only [go_sem, s0, and_self]) _ h80 _ ?_
      ·rintro p81 σ' eo fr82 s85
       rw [eo] at h
       have s86 : σ' 0 = (.str s_0) := (fr82 0 (by decide)).trans (by simp -implicitDefEqProofs only [go_sem, s0])
       have s87 : σ' 9 = v_a_9 := (fr82 9 (by decide)).trans (by simp -implicitDefEqProofs only [go_sem, s9])
       have s88 : σ' 10 = (.int .i64 (IntKind.wrap .i64 (na_10 + 1))) := (fr82 10 (by decide)).trans (by simp -implicitDefEqProofs only [go_sem])
       simp -implicitDefEqProofs only [go_sem, s85]
       refine hK _ _ ?_
       exact ih v_a_9 ids_a_9 M s_0 (a_9.set na_10.toNat ((s_0.take i_12.toNat).drop fieldStart_11.toNat)) (IntKind.wrap .i64 (na_10 + 1)) p81 p81 _ _ _ _ (by repeat (first | exact f0 | refine Fr.upd (by decide) ?_ | refine Fr.via fr82 (by decide) ?_)) (by repeat (first | exact hf0 | refine HF.new ?_ | refine HF.tokd ?_ | refine HF.used ?_ | refine HF.put (by first | (right; omega) | (left; simp only [List.mem_cons, true_or, or_true])) ?_ | refine HF.via hf69 nw_a_9 ?_)) (by simp -implicitDefEqProofs only [go_sem, s85, s86, s87, s88, and_self]) (by repeat (first | exact r67 | apply RowN.new | refine RowN.put ?_ (fun hm => by have := RowN.lt r67 _ hm; omega))) nw_a_9 _ h _ q0
    ·obtain rfl := som_E h
     simp -implicitDefEqProofs only [go_sem, s0, s12, e46]
     exact q0 _ v_a_9 ids_a_9 _ _ rfl (by repeat (first | exact f0 | refine Fr.upd (by decide) ?_)) (by repeat (first | exact hf0 | refine HF.new ?_ | refine HF.tokd ?_ | refine HF.used ?_ | refine HF.put (by first | (right; omega) | (left; simp only [List.mem_cons, true_or, or_true])) ?_)) (by simp -implicitDefEqProofs only [go_sem, s9, s10, s11, and_self]) (by repeat (first | exact r_a_9 | apply RowN.new | refine RowN.put ?_ (fun hm => by have := RowN.lt r_a_9 _ hm; omega))) nw_a_9
def g_Fields (k : Nat) (s_0 : Str) : Option (List Str) :=
  Option.bind (g_Fields_b0 k s_0 0 1 0 0) (fun p10 => cond (decide (p10.2 ≥ 128)) (Option.bind (noFields s_0) fun p19 => some p19) (if 0 ≤ p10.1 ∧ p10.1 ≤ 1099511627776 ∧ 16 * p10.1 ≤ 1099511627776 then Option.bind (g_Fields_b1 k s_0 0) (fun p38 => Option.bind (g_Fields_b3 k s_0 (List.replicate p10.1.toNat []) 0 p38 p38) (fun p91 => cond (decide (p91.2.2 < (s_0.length : Int))) (if 0 ≤ p91.2.2 ∧ p91.2.2.toNat ≤ s_0.length then if 0 ≤ p91.2.1 then Option.bind (p91.1[p91.2.1.toNat]?) fun x106 => some (p91.1.set p91.2.1.toNat (s_0.drop p91.2.2.toNat)) else none else none) (some p91.1))) else none))
theorem g_Fields_u (k : Nat) (s_0 : Str) {r : List Str} (h : g_Fields k s_0 = some r) : PCall Tryz.prog 180 [(.str s_0)] (.isl (r.map strL) .unk) := by
  refine PCall.of_empty (PuL.mem (.cons (.str _) .nil)) (MCall_of_W ok180 (by simp) (W_start ?_)) (pu_sl pu_strL _)
  unfold g_Fields at h
  unfold ac180
  simp -implicitDefEqProofs only [go_sem]
  obtain ⟨o8, h9, h⟩ := bind_E h
  refine g_Fields_b0_W k s_0 0 1 0 0 _ _ _ (Fr.refl _ _) (by simp -implicitDefEqProofs only [go_sem, and_self]) _ h9 _ ?_
  ·rintro p10 σ' eo fr11 ⟨s14, s15⟩
   rw [eo] at h
   have s16 : σ' 0 = (.str s_0) := (fr11 0 (by decide)).trans (by simp -implicitDefEqProofs only [go_sem])
   rcases cond_E h with ⟨e17, h⟩ | ⟨e17, h⟩
   ·obtain ⟨p19, e18, h⟩ := bind_E h
    simp -implicitDefEqProofs only [go_sem, s15, s16, e17]
    refine mcall_pure (noFields_c s_0 e18) ?_
    obtain rfl := som_E h
    simp -implicitDefEqProofs only [go_sem]
    exact (fz_sl pu_strL p19 _)
   ·obtain ⟨e20, h⟩ := if_E h
    simp -implicitDefEqProofs only [go_sem, s14, s15, e17]
    refine WO_mkrow (f := strL) (k := .i64) (n := p10.1) (k' := .i64) (c := p10.1) [] rfl (by simp -implicitDefEqProofs only [go_sem]) (by simp -implicitDefEqProofs only [go_sem]) (by omega) (by decide) (fun v21 ids22 H23 r24 nw25 hf26 ok27 => ?_)
    have le := hf26.1
    simp -implicitDefEqProofs only [go_sem]
    obtain ⟨o36, h37, h⟩ := bind_E h
    refine g_Fields_b1_W k s_0 0 _ _ _ (Fr.refl _ _) (by simp -implicitDefEqProofs only [go_sem, s16, and_self]) _ h37 _ ?_
    ·rintro p38 σ' eo fr39 s42
     rw [eo] at h
     have s43 : σ' 0 = (.str s_0) := (fr39 0 (by decide)).trans (by simp -implicitDefEqProofs only [go_sem, s16])
     have s44 : σ' 9 = v21 := (fr39 9 (by decide)).trans (by simp -implicitDefEqProofs only [go_sem])
     have s45 : σ' 10 = (.int .i64 0) := (fr39 10 (by decide)).trans (by simp -implicitDefEqProofs only [go_sem])
     simp -implicitDefEqProofs only [go_sem, s42]
     obtain ⟨o89, h90, h⟩ := bind_E h
     refine g_Fields_b3_W k v21 ids22 (ids22 ++ []) s_0 (List.replicate p10.1.toNat []) 0 p38 p38 _ _ _ _ (Fr.refl _ _) (HF.refl _ _) (by simp -implicitDefEqProofs only [go_sem, s42, s43, s44, s45, and_self]) (by repeat (first | exact r24 | apply RowN.new | refine RowN.put ?_ (fun hm => by have := RowN.lt r24 _ hm; omega))) (fun i hi => Or.inl (by simp only [List.mem_append, hi, true_or])) _ h90 _ ?_
     ·rintro p91 v95 ids96 σ' H94 eo fr92 hf93 ⟨s99, s100, s101⟩ r97 nw98
      rw [eo] at h
      have s102 : σ' 0 = (.str s_0) := (fr92 0 (by decide)).trans (by simp -implicitDefEqProofs only [go_sem, s43])
      have le := hf93.1
      rcases cond_E h with ⟨e103, h⟩ | ⟨e103, h⟩
      ·obtain ⟨e104, h⟩ := if_E h
       obtain ⟨e105, h⟩ := if_E h
       obtain ⟨x106, e107, h⟩ := bind_E h
       obtain ⟨w108, w109, hidw108, hil, w110, hC, hL, hD, hI⟩ := RowN.content r97 e107
       have w111 := ne_next hil
       have w112 := ne_add hil
       have w113 : idxPV 1 v95 (.int .i64 p91.2.1) = some (.ref w108 (p91.2.1.toNat)) := by simpa using hI .i64 p91.2.1 (by first | omega | decide) (by first | rfl | omega)
       have w108c0 : w109[p91.2.1.toNat]? = some (.str x106) := by simpa using hC 0 _ rfl
       clear hC hL hD hI
       simp -implicitDefEqProofs only [go_sem, s99, s100, s101, s102, e103, e104, w113]
       refine WO_rowset (f := strL) (id := w108) (o := p91.2.1.toNat) (i := p91.2.1.toNat) (j := 0) (a := x106) (y := (s_0.drop p91.2.2.toNat)) (vs := [(.str (s_0.drop p91.2.2.toNat))]) (by simp -implicitDefEqProofs only [go_sem]) hidw108 (by omega) (by repeat (first | exact r97 | apply RowN.new | refine RowN.put ?_ (fun hm => by have := RowN.lt r97 _ hm; omega))) e107 (by simp -implicitDefEqProofs only [go_sem]) rfl rfl (by first | decide | (simp only [List.length_cons, List.length_nil]; omega)) rfl (fun H116 r117 hf119 ok120 => ?_)
       have le := hf119.1
       obtain rfl := som_E h
       simp -implicitDefEqProofs only [go_sem, s99]
       exact (RowN.fz pu_strL (by repeat (first | exact r117 | apply RowN.new | refine RowN.put ?_ (fun hm => by have := RowN.lt r117 _ hm; omega))))
      ·obtain rfl := som_E h
       simp -implicitDefEqProofs only [go_sem, s99, s101, s102, e103]
       exact (RowN.fz pu_strL (by repeat (first | exact r97 | apply RowN.new | refine RowN.put ?_ (fun hm => by have := RowN.lt r97 _ hm; omega))))
theorem g_Fields_c (k : Nat) (s_0 : Str) {r : List Str} (h : g_Fields k s_0 = some r) : PCall Tryz.prog 180 [(.str s_0)] (.isl (r.map strL) .unk) := g_Fields_u k s_0 h
def t_reserved (k : Nat) : Option (List Str) :=
  Option.bind (g_Fields k ([65, 83, 83, 85, 77, 69, 32, 65, 83, 83, 85, 77, 80, 84, 73, 79, 78, 32, 65, 88, 73, 79, 77, 32, 66, 89, 32, 67, 65, 83, 69, 32, 67, 72, 79, 79, 83, 69, 32, 67, 79, 78, 83, 84, 65, 78, 84, 32, 67, 79, 78, 83, 84, 65, 78, 84, 83, 32, 68, 69, 70, 32, 68, 69, 70, 73, 78, 69, 32, 68, 69, 70, 83, 32, 68, 79, 77, 65, 73, 78, 32, 69, 76, 83, 69, 32, 69, 78, 65, 66, 76, 69, 68, 32, 69, 88, 67, 69, 80, 84, 32, 69, 88, 84, 69, 78, 68, 83, 32, 70, 65, 76, 83, 69, 32, 72, 65, 86, 69, 32, 72, 73, 68, 69, 32, 73, 70, 32, 73, 78, 32, 73, 78, 83, 84, 65, 78, 67, 69, 32, 76, 65, 77, 66, 68, 65, 32, 76, 69, 77, 77, 65, 32, 76, 69, 84, 32, 76, 79, 67, 65, 76, 32, 77, 79, 68, 85, 76, 69, 32, 78, 69, 87, 32, 79, 66, 86, 73, 79, 85, 83, 32, 79, 77, 73, 84, 84, 69, 68, 32, 79, 84, 72, 69, 82, 32, 80, 73, 67, 75, 32, 80, 82, 79, 79, 70, 32, 80, 82, 79, 80, 79, 83, 73, 84, 73, 79, 78, 32, 80, 82, 79, 86, 69, 32, 81, 69, 68, 32, 82, 69, 67, 85, 82, 83, 73, 86, 69, 32, 83, 85, 66, 83, 69, 84, 32, 83, 85, 70, 70, 73, 67, 69, 83, 32, 84, 65, 75, 69, 32, 84, 72, 69, 78, 32, 84, 72, 69, 79, 82, 69, 77, 32, 84, 82, 85, 69, 32, 85, 78, 67, 72, 65, 78, 71, 69, 68, 32, 85, 78, 73, 79, 78, 32, 85, 83, 69, 32, 86, 65, 82, 73, 65, 66, 76, 69, 32, 86, 65, 82, 73, 65, 66, 76, 69, 83, 32, 87, 73, 84, 72, 32, 87, 73, 84, 78, 69, 83, 83, 32, 66, 79, 79, 76, 69, 65, 78, 32, 83, 84, 82, 73, 78, 71] : Str)) fun p2 => some p2
theorem t_reserved_u (k : Nat) {r : List Str} (h : t_reserved k = some r) : PCall Tryz.prog 126 [] (.isl (r.map strL) .unk) := by
  refine PCall.of_empty (PuL.mem .nil) (MCall_of_W ok126 (by simp) (W_start ?_)) (pu_sl pu_strL _)
  unfold t_reserved at h
  unfold ac126
  obtain ⟨p2, e1, h⟩ := bind_E h
  simp -implicitDefEqProofs only [go_sem]
  refine mcall_pure (g_Fields_c k ([65, 83, 83, 85, 77, 69, 32, 65, 83, 83, 85, 77, 80, 84, 73, 79, 78, 32, 65, 88, 73, 79, 77, 32, 66, 89, 32, 67, 65, 83, 69, 32, 67, 72, 79, 79, 83, 69, 32, 67, 79, 78, 83, 84, 65, 78, 84, 32, 67, 79, 78, 83, 84, 65, 78, 84, 83, 32, 68, 69, 70, 32, 68, 69, 70, 73, 78, 69, 32, 68, 69, 70, 83, 32, 68, 79, 77, 65, 73, 78, 32, 69, 76, 83, 69, 32, 69, 78, 65, 66, 76, 69, 68, 32, 69, 88, 67, 69, 80, 84, 32, 69, 88, 84, 69, 78, 68, 83, 32, 70, 65, 76, 83, 69, 32, 72, 65, 86, 69, 32, 72, 73, 68, 69, 32, 73, 70, 32, 73, 78, 32, 73, 78, 83, 84, 65, 78, 67, 69, 32, 76, 65, 77, 66, 68, 65, 32, 76, 69, 77, 77, 65, 32, 76, 69, 84, 32, 76, 79, 67, 65, 76, 32, 77, 79, 68, 85, 76, 69, 32, 78, 69, 87, 32, 79, 66, 86, 73, 79, 85, 83, 32, 79, 77, 73, 84, 84, 69, 68, 32, 79, 84, 72, 69, 82, 32, 80, 73, 67, 75, 32, 80, 82, 79, 79, 70, 32, 80, 82, 79, 80, 79, 83, 73, 84, 73, 79, 78, 32, 80, 82, 79, 86, 69, 32, 81, 69, 68, 32, 82, 69, 67, 85, 82, 83, 73, 86, 69, 32, 83, 85, 66, 83, 69, 84, 32, 83, 85, 70, 70, 73, 67, 69, 83, 32, 84, 65, 75, 69, 32, 84, 72, 69, 78, 32, 84, 72, 69, 79, 82, 69, 77, 32, 84, 82, 85, 69, 32, 85, 78, 67, 72, 65, 78, 71, 69, 68, 32, 85, 78, 73, 79, 78, 32, 85, 83, 69, 32, 86, 65, 82, 73, 65, 66, 76, 69, 32, 86, 65, 82, 73, 65, 66, 76, 69, 83, 32, 87, 73, 84, 72, 32, 87, 73, 84, 78, 69, 83, 83, 32, 66, 79, 79, 76, 69, 65, 78, 32, 83, 84, 82, 73, 78, 71] : Str) e1) ?_
  obtain rfl := som_E h
  simp -implicitDefEqProofs only [go_sem]
  exact (fz_sl pu_strL p2 _)
theorem t_reserved_c (k : Nat) {r : List Str} (h : t_reserved k = some r) : PCall Tryz.prog 126 [] (.isl (r.map strL) .unk) := t_reserved_u k  h
end Go.VL
end
section
namespace Go.VL
open Go.Proofs Go.RowKit
def resL : List Str := (t_reserved 800).getD []
theorem resL_some : t_reserved 800 = some resL := by
  have h : (t_reserved 800).isSome = true := by kernel_rfl
  rw [resL]; cases h1 : t_reserved 800 with
  | none => rw [h1] at h; cases h
  | some r => rfl
theorem resL_c : PCall Tryz.prog 126 [] (.isl (resL.map strL) .unk) := t_reserved_c 800 resL_some
end Go.VL
end
section
set_option maxRecDepth 8000
set_option maxHeartbeats 4000000
namespace Go.VL
open Go.Proofs
def t_isName_p0 (k : Nat) (s_0 : Str) (t_10 : Bool) : Option Bool :=
  cond t_10 (some (true)) (Option.bind (g_HasPrefix_125 s_0 ([87, 70, 95] : Str)) fun p5 => cond p5 (some (true)) (Option.bind (g_HasPrefix_125 s_0 ([83, 70, 95] : Str)) fun p8 => cond p8 (some (true)) (Option.bind (g_Contains_string_string k resL s_0) fun p11 => some (p11))))
def t_isName_p0l : List Nat := [11, 12, 13, 14, 15, 16, 17, 18, 19, 20, 21, 22]
theorem t_isName_p0_W (k : Nat) : ∀ (s_0 : Str) (t_10 : Bool) (σ0 σ : Nat → PV) (H : AH) (f0 : Fr t_isName_p0l σ0 σ) (sl : σ 0 = (.str s_0) ∧ σ 10 = (.bool t_10)) (o : Bool) (h : t_isName_p0 k s_0 t_10 = some o) (Q : Post) (q0 : ∀ (p : Bool) (σ' : Nat → PV), o = p → Fr t_isName_p0l σ0 σ' → (σ' 22 = (.bool p)) → Q .normal σ' H) , WOps Tryz.prog ac77_p0 (Q .normal) σ H := by
  intro s_0 t_10 σ0 σ H f0 sl o h Q q0
  obtain ⟨s0, s10⟩ := sl
  unfold t_isName_p0 at h
  refine WO_start ?_
  unfold ac77_p0
  rcases cond_E h with ⟨e3, h⟩ | ⟨e3, h⟩
  ·obtain rfl := som_E h
   simp -implicitDefEqProofs only [go_sem, s10, e3]
   exact q0 _ _ rfl (by repeat (first | exact f0 | refine Fr.upd (by decide) ?_)) (by simp -implicitDefEqProofs only [go_sem])
  ·obtain ⟨p5, e4, h⟩ := bind_E h
   simp -implicitDefEqProofs only [go_sem, s0, s10, e3]
   refine mcall_pure (g_HasPrefix_125_c s_0 ([87, 70, 95] : Str) e4) ?_
   rcases cond_E h with ⟨e6, h⟩ | ⟨e6, h⟩
   ·obtain rfl := som_E h
    simp -implicitDefEqProofs only [go_sem, s10, e3, e6]
    exact q0 _ _ rfl (by repeat (first | exact f0 | refine Fr.upd (by decide) ?_)) (by simp -implicitDefEqProofs only [go_sem])
   ·obtain ⟨p8, e7, h⟩ := bind_E h
    simp -implicitDefEqProofs only [go_sem, s0, s10, e3, e6]
    refine mcall_pure (g_HasPrefix_125_c s_0 ([83, 70, 95] : Str) e7) ?_
    rcases cond_E h with ⟨e9, h⟩ | ⟨e9, h⟩
    ·obtain rfl := som_E h
     simp -implicitDefEqProofs only [go_sem, e9]
     exact q0 _ _ rfl (by repeat (first | exact f0 | refine Fr.upd (by decide) ?_)) (by simp -implicitDefEqProofs only [go_sem])
    ·try simp -implicitDefEqProofs only [go_sem, e9]
     refine mcall_pure (resL_c ) ?_
     obtain ⟨p11, e10, h⟩ := bind_E h
     simp -implicitDefEqProofs only [go_sem, s0]
     refine mcall_pure (g_Contains_string_string_c k resL s_0 e10) ?_
     obtain rfl := som_E h
     simp -implicitDefEqProofs only [go_sem]
     exact q0 _ _ rfl (by repeat (first | exact f0 | refine Fr.upd (by decide) ?_)) (by simp -implicitDefEqProofs only [go_sem])
def t_isName_p1 (c_5 : Int) (t_34 : Bool) : Option Bool :=
  cond t_34 (some (true)) (Option.bind (t_spans (IntKind.wrap .i64 c_5) 65 90) fun p29 => some (p29))
theorem t_isName_p1_W : ∀ (c_5 : Int) (t_34 : Bool) (σ0 σ : Nat → PV) (H : AH) (f0 : Fr [35, 36, 37, 38] σ0 σ) (sl : σ 5 = (.int .u8 c_5) ∧ σ 34 = (.bool t_34)) (o : Bool) (h : t_isName_p1 c_5 t_34 = some o) (Q : Post) (q0 : ∀ (p : Bool) (σ' : Nat → PV), o = p → Fr [35, 36, 37, 38] σ0 σ' → (σ' 38 = (.bool p)) → Q .normal σ' H) , WOps Tryz.prog ac77_p1 (Q .normal) σ H := by
  intro c_5 t_34 σ0 σ H f0 sl o h Q q0
  obtain ⟨s5, s34⟩ := sl
  unfold t_isName_p1 at h
  refine WO_start ?_
  unfold ac77_p1
  rcases cond_E h with ⟨e27, h⟩ | ⟨e27, h⟩
  ·obtain rfl := som_E h
   simp -implicitDefEqProofs only [go_sem, s34, e27]
   exact q0 _ _ rfl (by repeat (first | exact f0 | refine Fr.upd (by decide) ?_)) (by simp -implicitDefEqProofs only [go_sem])
  ·obtain ⟨p29, e28, h⟩ := bind_E h
   simp -implicitDefEqProofs only [go_sem, s5, s34, e27]
   refine mcall_pure (t_spans_c (IntKind.wrap .i64 c_5) 65 90 e28) ?_
   obtain rfl := som_E h
   simp -implicitDefEqProofs only [go_sem, s34, e27]
   exact q0 _ _ rfl (by repeat (first | exact f0 | refine Fr.upd (by decide) ?_)) (by simp -implicitDefEqProofs only [go_sem])
def t_isName_b0 : Nat → Int → (List Int) → Int → Int → Option (Int ⊕ Bool)
  | 0, _, _, _, _ => none
  | k + 1, letters_3, t_24, t_25, t_26 =>
    cond (decide (t_26 < t_25)) (if 0 ≤ t_26 then Option.bind (t_24[t_26.toNat]?) fun x23 => Option.bind (t_spans (IntKind.wrap .i64 x23) 97 122) fun p26 => Option.bind (t_isName_p1 x23 p26) (fun p32 => cond p32 (t_isName_b0 k (IntKind.wrap .i64 (letters_3 + 1)) t_24 t_25 (IntKind.wrap .i64 (t_26 + 1))) (Option.bind (t_spans (IntKind.wrap .i64 x23) 48 57) fun p44 => cond p44 (t_isName_b0 k letters_3 t_24 t_25 (IntKind.wrap .i64 (t_26 + 1))) (cond (x23 != 95) (some (.inr (false))) (t_isName_b0 k letters_3 t_24 t_25 (IntKind.wrap .i64 (t_26 + 1)))))) else none) (some (.inl letters_3))
def t_isName_b0l : List Nat := [2, 3, 5, 26, 27, 28, 29, 30, 31, 32, 33, 34, 35, 36, 37, 38, 39, 40, 41, 42, 43, 44, 45, 46, 47, 48, 49, 50]
theorem t_isName_b0_W : ∀ (k : Nat) (letters_3 : Int) (t_24 : List Int) (t_25 : Int) (t_26 : Int) (σ0 σ : Nat → PV) (H : AH) (f0 : Fr t_isName_b0l σ0 σ) (sl : σ 3 = (.int .i64 letters_3) ∧ σ 24 = (.isl (t_24.map u8L) .unk) ∧ σ 25 = (.int .i64 t_25) ∧ σ 26 = (.int .i64 t_26)) (o : Int ⊕ Bool) (h : t_isName_b0 k letters_3 t_24 t_25 t_26 = some o) (Q : Post) (q0 : ∀ (p : Int) (σ' : Nat → PV), o = .inl p → Fr t_isName_b0l σ0 σ' → (σ' 3 = (.int .i64 p)) → Q (.exit 0) σ' H) (q1 : ∀ (p : Bool) (σ' : Nat → PV), o = .inr (p) → Fr t_isName_b0l σ0 σ' → (σ' 2 = (.bool p)) → Q .ret σ' H) , W Tryz.prog (.loop ac77_b0) Q σ H := by
  intro k
  induction k with
  | zero => intro letters_3 t_24 t_25 t_26 σ0 σ H f0 sl o h Q q0 q1; simp only [t_isName_b0, reduceCtorEq] at h
  | succ k ih =>
    intro letters_3 t_24 t_25 t_26 σ0 σ H f0 sl o h Q q0 q1
    obtain ⟨s3, s24, s25, s26⟩ := sl
    unfold t_isName_b0 at h
    refine W_loopK (fun K hK => W_start ?_)
    unfold ac77_b0
    rcases cond_E h with ⟨e21, h⟩ | ⟨e21, h⟩
    ·obtain ⟨e22, h⟩ := if_E h
     obtain ⟨x23, e24, h⟩ := bind_E h
     obtain ⟨p26, e25, h⟩ := bind_E h
     simp -implicitDefEqProofs only [go_sem, s24, s25, s26, e21, e22, e24]
     refine mcall_pure (t_spans_c (IntKind.wrap .i64 x23) 97 122 e25) ?_
     simp -implicitDefEqProofs only [go_sem]
     obtain ⟨o30, h31, h⟩ := bind_E h
     refine t_isName_p1_W x23 p26 _ _ _ (Fr.refl _ _) (by simp -implicitDefEqProofs only [go_sem, and_self]) _ h31 _ ?_
     ·rintro p32 σ' eo fr33 s36
      rw [eo] at h
      have s37 : σ' 3 = (.int .i64 letters_3) := (fr33 3 (by decide)).trans (by simp -implicitDefEqProofs only [go_sem, s3])
      have s38 : σ' 5 = (.int .u8 x23) := (fr33 5 (by decide)).trans (by simp -implicitDefEqProofs only [go_sem])
      have s39 : σ' 24 = (.isl (t_24.map u8L) .unk) := (fr33 24 (by decide)).trans (by simp -implicitDefEqProofs only [go_sem, s24])
      have s40 : σ' 25 = (.int .i64 t_25) := (fr33 25 (by decide)).trans (by simp -implicitDefEqProofs only [go_sem, s25])
      have s41 : σ' 26 = (.int .i64 t_26) := (fr33 26 (by decide)).trans (by simp -implicitDefEqProofs only [go_sem, s26])
      rcases cond_E h with ⟨e42, h⟩ | ⟨e42, h⟩
      ·try simp -implicitDefEqProofs only [go_sem, s36, s37, s41, e42]
       refine hK _ _ ?_
       exact ih (IntKind.wrap .i64 (letters_3 + 1)) t_24 t_25 (IntKind.wrap .i64 (t_26 + 1)) _ _ _ (by repeat (first | exact f0 | refine Fr.upd (by decide) ?_ | refine Fr.via fr33 (by decide) ?_)) (by simp -implicitDefEqProofs only [go_sem, s39, s40, and_self]) _ h _ q0 q1
      ·obtain ⟨p44, e43, h⟩ := bind_E h
       simp -implicitDefEqProofs only [go_sem, s36, s38, e42]
       refine mcall_pure (t_spans_c (IntKind.wrap .i64 x23) 48 57 e43) ?_
       rcases cond_E h with ⟨e45, h⟩ | ⟨e45, h⟩
       ·try simp -implicitDefEqProofs only [go_sem, s41, e45]
        refine hK _ _ ?_
        exact ih letters_3 t_24 t_25 (IntKind.wrap .i64 (t_26 + 1)) _ _ _ (by repeat (first | exact f0 | refine Fr.upd (by decide) ?_ | refine Fr.via fr33 (by decide) ?_)) (by simp -implicitDefEqProofs only [go_sem, s37, s39, s40, and_self]) _ h _ q0 q1
       ·rcases cond_E h with ⟨e46, h⟩ | ⟨e46, h⟩
        ·obtain rfl := som_E h
         simp -implicitDefEqProofs only [go_sem, s38, e45, e46]
         exact q1 _ _ rfl (by repeat (first | exact f0 | refine Fr.upd (by decide) ?_ | refine Fr.via fr33 (by decide) ?_)) (by simp -implicitDefEqProofs only [go_sem])
        ·try simp -implicitDefEqProofs only [go_sem, s38, s41, e45, e46]
         refine hK _ _ ?_
         exact ih letters_3 t_24 t_25 (IntKind.wrap .i64 (t_26 + 1)) _ _ _ (by repeat (first | exact f0 | refine Fr.upd (by decide) ?_ | refine Fr.via fr33 (by decide) ?_)) (by simp -implicitDefEqProofs only [go_sem, s37, s39, s40, and_self]) _ h _ q0 q1
    ·obtain rfl := som_E h
     simp -implicitDefEqProofs only [go_sem, s25, s26, e21]
     exact q0 _ _ rfl (by repeat (first | exact f0 | refine Fr.upd (by decide) ?_)) (by simp -implicitDefEqProofs only [go_sem, s3])
def t_isName (k : Nat) (s_0 : Str) : Option Bool :=
  Option.bind (t_spans (s_0.length : Int) 1 24) fun p2 => Option.bind (t_isName_p0 k s_0 (!p2)) (fun p14 => cond p14 (some false) (Option.bind (t_isName_b0 k 0 (bytesI s_0) ((bytesI s_0).length : Int) 0) (fun o => Sum.elim (fun p49 => some (decide (p49 > 0))) (fun p54 => some p54) o)))
theorem t_isName_u (k : Nat) (s_0 : Str) {r : Bool} (h : t_isName k s_0 = some r) : PCall Tryz.prog 77 [(.str s_0)] (.bool r) := by
  refine PCall.of_empty (PuL.mem (.cons (.str _) .nil)) (MCall_of_W ok77 (by simp) (W_start ?_)) (.bool _)
  unfold t_isName at h
  unfold ac77
  obtain ⟨p2, e1, h⟩ := bind_E h
  simp -implicitDefEqProofs only [go_sem]
  refine mcall_pure (t_spans_c (s_0.length : Int) 1 24 e1) ?_
  simp -implicitDefEqProofs only [go_sem]
  obtain ⟨o12, h13, h⟩ := bind_E h
  refine t_isName_p0_W k s_0 (!p2) _ _ _ (Fr.refl _ _) (by simp -implicitDefEqProofs only [go_sem, and_self]) _ h13 _ ?_
  ·rintro p14 σ' eo fr15 s18
   rw [eo] at h
   have s19 : σ' 0 = (.str s_0) := (fr15 0 (by decide)).trans (by simp -implicitDefEqProofs only [go_sem])
   rcases cond_E h with ⟨e20, h⟩ | ⟨e20, h⟩
   ·obtain rfl := som_E h
    simp -implicitDefEqProofs only [go_sem, s18, e20]
    exact (.pure _ (.bool _))
   ·try simp -implicitDefEqProofs only [go_sem, s18, s19, e20]
    obtain ⟨o47, h48, h⟩ := bind_E h
    refine t_isName_b0_W k 0 (bytesI s_0) ((bytesI s_0).length : Int) 0 _ _ _ (Fr.refl _ _) (by simp -implicitDefEqProofs only [go_sem, and_self]) _ h48 _ ?_ ?_
    ·rintro p49 σ' eo fr50 s53
     subst eo
     rw [sum_L] at h
     obtain rfl := som_E h
     simp -implicitDefEqProofs only [go_sem, s53]
     exact (.pure _ (.bool _))
    ·rintro p54 σ' eo fr55 s58
     subst eo
     rw [sum_R] at h
     obtain rfl := som_E h
     simp -implicitDefEqProofs only [go_sem, s58]
     exact (.pure _ (.bool _))
theorem t_isName_c (k : Nat) (s_0 : Str) {r : Bool} (h : t_isName k s_0 = some r) : PCall Tryz.prog 77 [(.str s_0)] (.bool r) := t_isName_u k s_0 h
def t_isCalled (k : Nat) (s_0 : Str) : Option Bool :=
  cond (decide ((s_0.length : Int) > 49)) (some false) (Option.bind (idx1 s_0 ([33] : Str)) fun p5 => cond (decide (p5 ≥ 0)) (if 0 ≤ p5 ∧ p5.toNat ≤ s_0.length then if 0 ≤ (IntKind.wrap .i64 (p5 + 1)) ∧ (IntKind.wrap .i64 (p5 + 1)).toNat ≤ s_0.length then Option.bind (t_isName k (s_0.take p5.toNat)) fun p10 => cond p10 (Option.bind (t_isName k (s_0.drop (IntKind.wrap .i64 (p5 + 1)).toNat)) fun p13 => some p13) (some false) else none else none) (Option.bind (t_isName k s_0) fun p15 => cond p15 (some true) (some false)))
theorem t_isCalled_u (k : Nat) (s_0 : Str) {r : Bool} (h : t_isCalled k s_0 = some r) : PCall Tryz.prog 146 [(.str s_0)] (.bool r) := by
  refine PCall.of_empty (PuL.mem (.cons (.str _) .nil)) (MCall_of_W ok146 (by simp) (W_start ?_)) (.bool _)
  unfold t_isCalled at h
  unfold ac146
  rcases cond_E h with ⟨e1, h⟩ | ⟨e1, h⟩
  ·obtain rfl := som_E h
   simp -implicitDefEqProofs only [go_sem, e1]
   exact (.pure _ (.bool _))
  ·try simp -implicitDefEqProofs only [go_sem, e1]
   refine MCall_of_W ok187 (by simp) (W_start ?_)
   unfold ac187
   simp -implicitDefEqProofs only [go_sem]
   refine MCall_of_W ok207 (by simp) (W_start ?_)
   unfold ac207
   obtain ⟨p5, e4, h⟩ := bind_E h
   simp -implicitDefEqProofs only [go_sem]
   refine mcall_pure (idx1_c s_0 ([33] : Str) e4) ?_
   rcases cond_E h with ⟨e6, h⟩ | ⟨e6, h⟩
   ·try simp -implicitDefEqProofs only [go_sem, e6]
    refine WS_parS ?_
    obtain ⟨e7, h⟩ := if_E h
    obtain ⟨e8, h⟩ := if_E h
    obtain ⟨p10, e9, h⟩ := bind_E h
    simp -implicitDefEqProofs only [go_sem, e7, e8]
    refine mcall_pure (t_isName_c k (s_0.take p5.toNat) e9) ?_
    rcases cond_E h with ⟨e11, h⟩ | ⟨e11, h⟩
    ·obtain ⟨p13, e12, h⟩ := bind_E h
     simp -implicitDefEqProofs only [go_sem, e11]
     refine mcall_pure (t_isName_c k (s_0.drop (IntKind.wrap .i64 (p5 + 1)).toNat) e12) ?_
     obtain rfl := som_E h
     simp -implicitDefEqProofs only [go_sem]
     exact (.pure _ (.bool _))
    ·obtain rfl := som_E h
     simp -implicitDefEqProofs only [go_sem, e11]
     exact (.pure _ (.bool _))
   ·obtain ⟨p15, e14, h⟩ := bind_E h
    simp -implicitDefEqProofs only [go_sem, e6]
    refine mcall_pure (t_isName_c k s_0 e14) ?_
    rcases cond_E h with ⟨e16, h⟩ | ⟨e16, h⟩
    ·obtain rfl := som_E h
     simp -implicitDefEqProofs only [go_sem, e16]
     exact (.pure _ (.bool _))
    ·obtain rfl := som_E h
     simp -implicitDefEqProofs only [go_sem, e16]
     exact (.pure _ (.bool _))
theorem t_isCalled_c (k : Nat) (s_0 : Str) {r : Bool} (h : t_isCalled k s_0 = some r) : PCall Tryz.prog 146 [(.str s_0)] (.bool r) := t_isCalled_u k s_0 h
end Go.VL
end
section
namespace Go.VL
open Go.Proofs Go.RowKit
theorem Vs.strfn {G : Gh} {n : Nat} {s : List UInt8} {g : FuncId} {vs : Array Value} (h : Vs G n [.str s, .fn (.func g) [] []] vs) : vs = #[.string ⟨s.toArray⟩, .func (.func g) #[] #[]] := by
  obtain ⟨h1, h2⟩ := h
  match vs, h1, h2 with
  | ⟨[v, u]⟩, _, h2 =>
    have e1 := h2 0 (.str s) v rfl rfl
    have e2 := h2 1 (.fn (.func g) [] []) u rfl rfl
    cases e1
    cases e2 with
    | fn g cs ds vs us h1 _ h3 _ =>
      have a1 : vs = #[] := Array.size_eq_zero_iff.1 h1
      have a2 : us = #[] := Array.size_eq_zero_iff.1 h3
      rw [a1, a2]
theorem predGrows {g : FuncId} {p : Nat → Bool} (hp : ∀ x : Nat, x ≤ 1114111 → PCall Tryz.prog g [.int .i32 x] (.bool (p x))) {w : World} (hg : ∀ a x, Glob.gc a = some x → w.cell? a = some x) : PredGrows Tryz.prog g #[] p w := by
  intro W x hx hb
  have hM : MCall Tryz.prog g [.int .i32 x] AH.empty fun v _ => v = .bool (p x) := MCall.mono (hp x hx AH.empty) fun v H' q => q.1
  refine (MCall.top hM (fun a y e => (World.cell?_of_block (hb.block _ (World.block_lt_of_cell? w a (hg a y e)))).trans (hg a y e)) (vs := #[encR x] ++ #[]) ?_)
  exact ⟨rfl, fun j c y e e' => by
    match j, e, e' with
    | 0, e, e' => cases e; cases e'; exact .int _ _⟩
theorem containsFunc_c {g : FuncId} (p : Nat → Bool) (he : ∀ args w, (callFunc g args).run Tryz.prog w = .ok (.enter g args) w) (hp : ∀ x : Nat, x ≤ 1114111 → PCall Tryz.prog g [.int .i32 x] (.bool (p x))) (s : Str) :
    PCall Tryz.prog 143 [.str s, .fn (.func g) [] []] (.bool (decide (0 ≤ Lib.idxFunc p true ⟨s.toArray⟩))) := by
  refine pcall_of ⟨_, Tryz.func143, rfl, by kernel_rfl⟩ (fun w G vs hg hi hv => ?_) (PuL.mem (.cons (.str _) (.cons (.fn _ _ _ (PuL.mem .nil) (PuL.mem .nil)) .nil)))
  rw [Vs.strfn hv]
  refine (Tryz.strings_ContainsFunc_grows g #[] he p ⟨s.toArray⟩ w (predGrows hp hg)).mono ?_
  rintro e w' ⟨rfl, hb⟩
  exact ⟨_, rfl, hb, fun G n => .bool _⟩
def mul64 (x y : Int) : Int × Int := (((x.toNat * y.toNat / 18446744073709551616 : Nat) : Int), ((x.toNat * y.toNat % 18446744073709551616 : Nat) : Int))
theorem Vs.two64 {G : Gh} {n : Nat} {x y : Int} {k k' : IntKind} {vs : Array Value} (h : Vs G n [.int k x, .int k' y] vs) : vs = #[.int k x, .int k' y] := by
  obtain ⟨h1, h2⟩ := h
  match vs, h1, h2 with
  | ⟨[v, u]⟩, _, h2 =>
    have e1 := h2 0 (.int k x) v rfl rfl
    have e2 := h2 1 (.int k' y) u rfl rfl
    cases e1; cases e2; rfl
theorem mul64_c (x y : Int) (h : (0 ≤ x ∧ x < 18446744073709551616) ∧ (0 ≤ y ∧ y < 18446744073709551616)) : PCall Tryz.prog 189 [.int .u64 x, .int .u64 y] (.tup [.int .u64 (mul64 x y).1, .int .u64 (mul64 x y).2]) := by
  refine pcall_of ⟨_, Tryz.func189, rfl, by kernel_rfl⟩ (fun w G vs hg hi hv => ?_) (PuL.mem (.cons (.int _ _) (.cons (.int _ _) .nil)))
  rw [Vs.two64 hv]
  obtain ⟨a, rfl⟩ : ∃ a : Nat, x = a := ⟨x.toNat, by omega⟩
  obtain ⟨b, rfl⟩ : ∃ b : Nat, y = b := ⟨y.toNat, by omega⟩
  refine (Tryz.bits_Mul64 a b (by omega) (by omega) w).mono ?_
  rintro e w' ⟨rfl, rfl⟩
  refine ⟨_, rfl, Below.refl _ _, fun G n => ?_⟩
  refine .tup _ _ rfl fun j c y e e' => ?_
  match j, e, e' with
  | 0, e, e' => cases e; cases e'; exact .int _ _
  | 1, e, e' => cases e; cases e'; exact .int _ _
end Go.VL
end
section
namespace Go.VL
open Go.Proofs Go.RowKit
theorem idxFrom_any (p : Nat → Bool) (hp : ∀ x, 128 ≤ x → p x = true) (s : Str) : ∀ (f pos : Nat), s.length ≤ pos + f →
    decide (0 ≤ Lib.idxFuncFrom p true ⟨s.toArray⟩ f pos) = (s.drop pos).any (fun c => p c.toNat)
  | 0, pos, h => by rw [List.drop_eq_nil_of_le (by omega)]; rfl
  | f + 1, pos, h => by
    have hsz : (⟨s.toArray⟩ : ByteArray).size = s.length := rfl
    by_cases hlt : pos < s.length
    · have hlt' : pos < (⟨s.toArray⟩ : ByteArray).size := hlt
      have hget : (⟨s.toArray⟩ : ByteArray)[pos]'hlt' = s[pos] := rfl
      rw [List.drop_eq_getElem_cons hlt, List.any_cons]
      simp only [Lib.idxFuncFrom, hsz, hlt, if_true]
      by_cases ha : (s[pos]).toNat < 128
      · rw [decode_ascii ⟨s.toArray⟩ pos hlt' (by rw [hget]; exact ha), hget]
        by_cases hq : p (s[pos]).toNat = true
        · simp only [hq, if_true, Bool.true_or]
          exact decide_eq_true (by omega)
        · simp only [hq, Bool.false_or]
          exact idxFrom_any p hp s f (pos + 1) (by omega)
      · have hd := decode_high ⟨s.toArray⟩ pos hlt' (by rw [hget]; omega)
        rw [if_pos (hp _ hd.1), hp _ (by omega), Bool.true_or]
        exact decide_eq_true (by omega)
    · rw [List.drop_eq_nil_of_le (by omega), Lib.idxFuncFrom_end _ _ _ _ _ (by rw [hsz]; exact hlt)]; rfl
theorem idx_any (p : Nat → Bool) (hp : ∀ x, 128 ≤ x → p x = true) (s : Str) : decide (0 ≤ Lib.idxFunc p true ⟨s.toArray⟩) = s.any (fun c => p c.toNat) := by
  have h := idxFrom_any p hp s s.length 0 (by omega)
  rw [List.drop_zero] at h
  exact h
def oddR (x : Nat) : Bool := bif decide (32 ≤ x) && decide (x ≤ 126) then x == 34 || x == 92 else true
theorem oddR_some (x : Nat) (h : x ≤ 1114111) : t_isText_1 (x : Int) = some (oddR x) := by
  have hw : IntKind.wrap .i64 (x : Int) = x := IntWalk.i64_in _ (by omega)
  unfold t_isText_1 t_spans oddR
  rw [hw]
  by_cases h1 : 32 ≤ x
  · have h1' : (32 : Int) ≤ x := by omega
    by_cases h2 : x ≤ 126
    · have h2' : (x : Int) ≤ 126 := by omega
      have e1 : ((x : Int) == 34) = (x == 34) := by rw [Bool.eq_iff_iff]; simp only [beq_iff_eq]; omega
      have e2 : ((x : Int) == 92) = (x == 92) := by rw [Bool.eq_iff_iff]; simp only [beq_iff_eq]; omega
      simp only [h1, h1', h2, h2', decide_true, cond_true, Bool.and_true, Option.bind_some, e1, e2]
      cases x == 34 <;> rfl
    · have h2' : ¬ (x : Int) ≤ 126 := by omega
      simp [h1, h1', h2, h2']
  · have h1' : ¬ (32 : Int) ≤ x := by omega
    simp [h1, h1']
def odds (s : Str) : Bool := s.any (fun c => oddR c.toNat)
theorem odds_c (s : Str) : PCall Tryz.prog 143 [.str s, .fn (.func 142) [] []] (.bool (odds s)) := by
  have h := containsFunc_c (g := 142) oddR (fun args w => by kernel_rfl) (fun x hx => t_isText_1_c _ (oddR_some x hx)) s
  rw [idx_any oddR (fun x hx => by
    have h2 : ¬ x ≤ 126 := by omega
    simp [oddR, h2]) s] at h
  exact h
end Go.VL
end
section
set_option maxRecDepth 8000
set_option maxHeartbeats 4000000
namespace Go.VL
open Go.Proofs
def t_isText (s_0 : Str) : Option Bool :=
  cond (decide ((s_0.length : Int) ≤ 40)) (some (!(odds s_0))) (some false)
theorem t_isText_u (s_0 : Str) {r : Bool} (h : t_isText s_0 = some r) : PCall Tryz.prog 92 [(.str s_0)] (.bool r) := by
  refine PCall.of_empty (PuL.mem (.cons (.str _) .nil)) (MCall_of_W ok92 (by simp) (W_start ?_)) (.bool _)
  unfold t_isText at h
  unfold ac92
  rcases cond_E h with ⟨e1, h⟩ | ⟨e1, h⟩
  ·try simp -implicitDefEqProofs only [go_sem, e1]
   refine mcall_pure (odds_c s_0) ?_
   obtain rfl := som_E h
   simp -implicitDefEqProofs only [go_sem]
   exact (.pure _ (.bool _))
  ·obtain rfl := som_E h
   simp -implicitDefEqProofs only [go_sem, e1]
   exact (.pure _ (.bool _))
theorem t_isText_c (s_0 : Str) {r : Bool} (h : t_isText s_0 = some r) : PCall Tryz.prog 92 [(.str s_0)] (.bool r) := t_isText_u s_0 h
end Go.VL
end
section
namespace Go.VL
variable [Glob]
section
variable {P : Program} {Q : Post} {σ : Nat → PV} {s : List Fm} {α β : Type} {H : AH} {f : α → List PV} {sz : Nat} {g : β → List PV} {sz2 : Nat}
def Mk (f : α → List PV) (sz : Nat) (xs : List α) (H : AH) (v : PV) (H' : AH) : Prop := ∃ ids, RowN H' f sz xs v ids ∧ Nw H [] ids ∧ HF [] H H' ∧ ∀ c3, okc H c3 → okc H' c3
def RowMk (P : Program) (g : FuncId) (args : List PV) (f : α → List PV) (sz : Nat) (xs : List α) : Prop := ∀ H, MCall P g args H (Mk f sz xs H)
theorem MC_row {d : Option Nat} {g : FuncId} {args : List PV} {l : List AOp} {xs : List α} (hm : RowMk P g args f sz xs)
    (h : ∀ (v' : PV) (ids' : List Nat) (H' : AH), RowN H' f sz xs v' ids' → Nw H [] ids' → HF [] H H' → (∀ c3, okc H c3 → okc H' c3) → WO P l s Q (upd σ d v') H') : MC P g args d l s Q σ H :=
  MCall.mono (hm H) fun v H' ⟨ids, h1, h2, h3, h4⟩ => h v ids H' h1 h2 h3 h4
theorem mk_mksl {bytes : Nat} {zero : List PV} {x y : AE} [hr : RowF f sz] (z : α) (hz : f z = zero) {k k' : IntKind} {n : Int} (hx : x.ev σ = .int k n) (hy : y.ev σ = .int k' n)
    (hb : 0 ≤ n ∧ n ≤ 1099511627776 ∧ bytes * n ≤ 1099511627776) (hs : 0 < sz) : WOp P (.d (.mksl sz bytes zero x y)) (Mk f sz (List.replicate n.toNat z) H) σ H := by
  have h := WO_mkrow (P := P) (s := []) (Q := fun e σ' H' => ∃ v, σ' = upd σ (some 0) v ∧ Mk f sz (List.replicate n.toNat z) H v H') (d := some 0) (l := []) (H := H) (bytes := bytes) (x := x) (y := y) z hz hx hy ⟨hb.1, Int.le_refl _, hb.2.1, hb.2.2⟩ hs
    (fun v' ids' H' h1 h2 h3 h4 => ⟨v', rfl, ids', h1, h2, h3, h4⟩)
  have h2 : WD P (dop (.mksl sz bytes zero x y) σ H) (some 0) [] [] (fun e σ' H' => ∃ v, σ' = upd σ (some 0) v ∧ Mk f sz (List.replicate n.toNat z) H v H') σ := h
  show (match dop (.mksl sz bytes zero x y) σ H with | some (p, H') => Mk f sz (List.replicate n.toNat z) H p H' | none => False)
  revert h2
  cases dop (.mksl sz bytes zero x y) σ H with
  | none => intro h2; exact h2
  | some q =>
    intro h2
    obtain ⟨v, e, h3⟩ := (h2 : ∃ v, upd σ (some 0) q.1 = upd σ (some 0) v ∧ Mk f sz (List.replicate n.toNat z) H v q.2)
    have e2 := congrFun e 0
    simp only [upd, if_true] at e2
    show Mk f sz (List.replicate n.toNat z) H q.1 q.2
    rw [e2]; exact h3
theorem mk_call {g : FuncId} {fs cs args : List PV} {es : List AE} {xs : List α} (hm : RowMk P g args f sz xs) (ha : fs ++ evs σ es ++ cs = args) : WOp P (.call (.c (.fn (.func g) fs cs)) es) (Mk f sz xs H) σ H := by
  show MCall P g (fs ++ evs σ es ++ cs) H _
  rw [ha]; exact hm H
def PureL (P : Program) : List (AOp × Bool) → (Nat → PV) → (Nat → PV) → Prop
  | [], _, _ => True
  | (o, d) :: l, val, σ => (d = true ∨ (o.g = none ∧ ∀ H, WOp P o.k (fun r H'' => r = val 0 ∧ H'' = H) σ H)) ∧ PureL P l (fun i => val (i + 1)) (upd σ o.dst (val 0))
theorem PureL.at {P : Program} : ∀ {pr : List (AOp × Bool)} {val σ : Nat → PV} (h : PureL P pr val σ) (i : Nat) (o : AOp), pr[i]? = some (o, false) → gOn o (slF pr val σ i) ∧ ∀ H, WOp P o.k (fun r H'' => r = val i ∧ H'' = H) (slF pr val σ i) H
  | (o, d) :: l, val, σ, h, 0, o', e => by
    cases e
    rcases h.1 with h1 | ⟨h1, h2⟩
    · cases h1
    · refine ⟨?_, h2⟩
      unfold gOn; rw [h1]; trivial
  | (o, d) :: l, val, σ, h, i + 1, o', e => PureL.at (pr := l) h.2 i o' e
theorem par_rows2 {ms : List Nat} {pr : List (AOp × Bool)} {K : (Nat → PV) → AH → Prop} {a b : Nat} {oa ob : AOp} {xs : List α} {ys : List β} (valf : PV → PV → Nat → PV) (hr : rems pr = [a, b]) (hne : a ≠ b)
    (pra : pr[a]? = some (oa, true)) (prb : pr[b]? = some (ob, true)) (ha : ∀ x y, valf x y a = x) (hb : ∀ x y, valf x y b = y)
    (agA : ∀ x x' y i, i ≠ a → befB ms a i = false → valf x y i = valf x' y i) (agB : ∀ x y y' i, i ≠ b → befB ms b i = false → valf x y i = valf x y' i)
    (pure : ∀ x y, PureL P pr (valf x y) σ)
    (mkA : ∀ y H, gOn oa (slF pr (valf ud y) σ a) ∧ WOp P oa.k (Mk f sz xs H) (slF pr (valf ud y) σ a) H)
    (mkB : ∀ x H, gOn ob (slF pr (valf x ud) σ b) ∧ WOp P ob.k (Mk g sz2 ys H) (slF pr (valf x ud) σ b) H)
    (hend : ∀ va vb ida idb H2, RowN H2 f sz xs va ida → RowN H2 g sz2 ys vb idb → Dj ida idb → Nw H [] ida → Nw H [] idb → HF [] H H2 → (∀ c3, okc H c3 → okc H2 c3) → K (slF pr (valf va vb) σ pr.length) H2) :
    ∃ val : Nat → PV, WSp P ms pr K σ (rems pr).length (rems pr) val H := by
  refine ⟨valf ud ud, ?_⟩
  rw [hr]
  have hpure : ∀ (rem : List Nat) (x y : PV) (H : AH) (i : Nat) (o : AOp), pr[i]? = some (o, false) → (∀ s ∈ rem, befB ms s i = false) →
      (gOff o (slF pr (valf x y) σ i) ∧ valf x y i = ud) ∨ (gOn o (slF pr (valf x y) σ i) ∧ WOp P o.k (fun r H'' => r = valf x y i ∧ H'' = H) (slF pr (valf x y) σ i) H) :=
    fun rem x y H i o e _ => .inr ⟨((pure x y).at i o e).1, ((pure x y).at i o e).2 H⟩
  have hfa : [a, b].filter (· != a) = [b] := by simp [Ne.symm hne]
  have hfb : [a, b].filter (· != b) = [a] := by simp [hne]
  have hj : ∀ {ida idb : List Nat} {H1 : AH}, (∀ i ∈ ida, i < H1.next) → Nw H1 [] idb → Dj ida idb := fun h1 h2 i hi hj => by
    rcases h2 i hj with q | q
    · cases q
    · have := h1 i hi; omega
  have hnw : ∀ {H1 : AH} {idb : List Nat}, HF [] H H1 → Nw H1 [] idb → Nw H [] idb := fun h1 h2 i hi => by
    rcases h2 i hi with q | q
    · exact .inl q
    · exact .inr (Nat.le_trans h1.1 q)
  have hft : ∀ {H1 H2 : AH}, HF [] H H1 → HF [] H1 H2 → HF [] H H2 := fun h1 h2 => ⟨Nat.le_trans h1.1 h2.1, fun i hi hm => (h2.2 i (Nat.lt_of_lt_of_le hi h1.1) hm).trans (h1.2 i hi hm)⟩
  unfold WSp
  refine ⟨hpure _ ud ud H, (fun e => by cases e), fun j hj' o e hbj => ?_⟩
  rcases List.mem_cons.1 hj' with rfl | hj'
  · rw [pra] at e; cases e
    refine ⟨(mkA ud H).1, WOp_mono (fun va H1 hm => ?_) (mkA ud H).2⟩
    obtain ⟨ida, a1, a2, a3, a4⟩ := hm
    refine ⟨valf va ud, fun i hi hbi => ?_, ha _ _, ?_⟩
    · exact agA _ _ _ i (fun q => hi (q ▸ List.mem_cons_self ..)) (hbi _ (List.mem_cons_self ..))
    · rw [hfa]
      unfold WSp
      refine ⟨hpure _ va ud H1, (fun e => by cases e), fun j hj2 o e hbj => ?_⟩
      rw [List.mem_singleton.1 hj2] at e ⊢
      rw [prb] at e; cases e
      refine ⟨(mkB va H1).1, WOp_mono (fun vb H2 hm => ?_) (mkB va H1).2⟩
      obtain ⟨idb, b1, b2, b3, b4⟩ := hm
      refine ⟨valf va vb, fun i hi hbi => agB _ _ _ i (fun q => hi (q ▸ List.mem_cons_self ..)) (hbi _ (List.mem_cons_self ..)), hb _ _, ?_⟩
      have hf : [b].filter (· != b) = [] := by simp
      rw [hf]
      unfold WSp
      exact ⟨hpure _ va vb H2, fun _ => hend va vb ida idb H2 (a1.hf b3 Dj.nil.symm) b1 (hj (fun i hi => a1.lt i hi) b2) a2 (hnw a3 b2) (hft a3 b3) (fun c3 h => b4 c3 (a4 c3 h)), rfl⟩
  · rw [List.mem_singleton.1 hj'] at e ⊢
    rw [prb] at e; cases e
    refine ⟨(mkB ud H).1, WOp_mono (fun vb H1 hm => ?_) (mkB ud H).2⟩
    obtain ⟨idb, b1, b2, b3, b4⟩ := hm
    refine ⟨valf ud vb, fun i hi hbi => ?_, hb _ _, ?_⟩
    · exact agB _ _ _ i (fun q => hi (q ▸ List.mem_cons_of_mem _ (List.mem_cons_self ..))) (hbi _ (List.mem_cons_of_mem _ (List.mem_cons_self ..)))
    · rw [hfb]
      unfold WSp
      refine ⟨hpure _ ud vb H1, (fun e => by cases e), fun j hj2 o e hbj => ?_⟩
      rw [List.mem_singleton.1 hj2] at e ⊢
      rw [pra] at e; cases e
      refine ⟨(mkA vb H1).1, WOp_mono (fun va H2 hm => ?_) (mkA vb H1).2⟩
      obtain ⟨ida, a1, a2, a3, a4⟩ := hm
      refine ⟨valf va vb, fun i hi hbi => agA _ _ _ i (fun q => hi (q ▸ List.mem_cons_self ..)) (hbi _ (List.mem_cons_self ..)), ha _ _, ?_⟩
      have hf : [a].filter (· != a) = [] := by simp
      rw [hf]
      unfold WSp
      exact ⟨hpure _ va vb H2, fun _ => hend va vb ida idb H2 a1 (b1.hf a3 Dj.nil.symm) (Dj.symm (hj (fun i hi => b1.lt i hi) a2)) (hnw b3 a2) b2 (hft b3 a3) (fun c3 h => a4 c3 (b4 c3 h)), rfl⟩
theorem WS_par2 {ms : List Nat} {pr : List (AOp × Bool)} {post : List AOp} (h : ∃ val : Nat → PV, WSp P ms pr (fun σ H => WO P post s Q σ H) σ (rems pr).length (rems pr) val H) : WS P (.par2 ms pr post) s Q σ H := h
end
end Go.VL
end
section
namespace Go.VL
open Go.Proofs Go.RowKit
theorem nil_V {G : Gh} {m : Nat} {v : Value} (h : V G m (.isl [] .nil) v) : v = .slice none 0 0 := by
  generalize hp : PV.isl [] .nil = p at h
  cases h with
  | isl es c sz ad cap f h1 h2 h3 h4 h5 =>
    cases hp
    have q1 := h5.1
    have q2 := h5.2.2
    rw [q1, q2]; rfl
  | _ => cases hp
theorem Vs.nilint {G : Gh} {m : Nat} {n : Int} {vs : Array Value} (h : Vs G m [.isl [] .nil, .int .i64 n] vs) : vs = #[.slice none 0 0, .int .i64 n] := by
  obtain ⟨h1, h2⟩ := h
  match vs, h1, h2 with
  | ⟨[v, u]⟩, _, h2 =>
    have e1 := h2 0 (.isl [] .nil) v rfl rfl
    have e2 := h2 1 (.int .i64 n) u rfl rfl
    cases e2
    have e3 := nil_V e1
    rw [e3]
theorem zsize (zs : Array Value) (k : Nat) : (Builtin.zeroCells zs k).size = k * zs.size := by simp [Builtin.zeroCells]
theorem grow167_c (n : Int) (h : 0 < n ∧ n ≤ 1000000) : RowMk Tryz.prog 167 [.isl [] .nil, .int .i64 n] Operator.cells 7 [] := by
  intro H
  refine ⟨⟨_, Tryz.func167, rfl, by kernel_rfl⟩, fun B G w vs hU hM hv => ?_⟩
  obtain ⟨n, rfl⟩ : ∃ k : Nat, n = k := ⟨n.toNat, by omega⟩
  rw [Vs.nilint hv]
  obtain ⟨i0, hi0, hq⟩ : ∃ i0, Tryz.prog.info? (Tryz.growOp_ren.t 25) = some i0 ∧ (i0.zero.map fun z => z.cells.size) = some 7 ∧ i0.size = 7 ∧ i0.bytes = 64 := by
    have h : (Tryz.prog.info? (Tryz.growOp_ren.t 25)).map (fun i0 => ((i0.zero.map fun z => z.cells.size), i0.size, i0.bytes)) = some (some 7, 7, 64) := by kernel_rfl
    cases hi : Tryz.prog.info? (Tryz.growOp_ren.t 25) with
    | none => rw [hi] at h; cases h
    | some i0 => rw [hi] at h; simp only [Option.map_some, Option.some.injEq, Prod.mk.injEq] at h; exact ⟨i0, rfl, h.1, h.2.1, h.2.2⟩
  obtain ⟨hz, hs, hb⟩ := hq
  obtain ⟨z, hz0, hz1⟩ := Option.map_eq_some_iff.1 hz
  have key := Any8.slices_Grow_grow Tryz.growOp i0 z hi0 hz0 (by omega) none 0 0 n [] w (Nat.le_refl _) (by omega) (by rw [hb]; omega) (by omega) (by simp) (fun _ => rfl) (fun a e => by cases e)
  have hge := grownCap_ge w (0 + n) 0 (Tryz.growOp_ren.t 25)
  refine key.mono ?_
  rintro e w' ⟨rfl, rfl⟩
  obtain ⟨G', e1, e2, e3⟩ := HM.newObj (w := w.drew) hU hM.drew (Tryz.growOp_ren.t 25) (Vs.rep_any (G := G) H.next (grownCap w (0 + n) 0 (Tryz.growOp_ren.t 25) * 7) _ (by
    show ((#[] : Array Value) ++ Builtin.zeroCells z.cells (0 + n - 0) ++ Builtin.zeroCells z.cells (grownCap w (0 + n) 0 (Tryz.growOp_ren.t 25) - (0 + n))).size = _
    rw [Array.size_append, Array.size_append, zsize, zsize, hz1]
    simp only [Array.size_empty]; omega))
  refine ⟨_, _, _, G', rfl, Tr.drewAlloc w _, e1, Nat.le_succ _, e2, .msl H.next 0 0 _ 7 _ (Nat.lt_succ_self _) e3, [H.next], .inr ⟨H.next, _, List.replicate (grownCap w (0 + n) 0 (Tryz.growOp_ren.t 25) * 7) .any, rfl, rfl, Nat.zero_le _, Nat.lt_succ_self _, ?_, ?_⟩, ?_, (HF.refl _ _).new, fun c3 hc => hc.new⟩
  · show (if H.next = H.next then some _ else _) = _
    rw [if_pos rfl]; rfl
  · rw [List.length_replicate, List.length_nil, Nat.sub_zero]
  · intro i hi; rw [List.mem_singleton.1 hi]; exact .inr (Nat.le_refl _)
end Go.VL
end
section
set_option maxRecDepth 8000
set_option maxHeartbeats 4000000
namespace Go.VL
open Go.Proofs
def t_table_1_b0 : Nat → Int → Int → (List Operator) → (List Str) → Int → Int → Option (List Operator)
  | 0, _, _, _, _, _, _ => none
  | k + 1, low_0, high_1, out_7, t_10, t_11, t_12 =>
    cond (decide (t_12 < t_11)) (if 0 ≤ t_12 then Option.bind (t_10[t_12.toNat]?) fun x3 => if (out_7.length + 1) * 64 ≤ 1099511627776 then t_table_1_b0 k low_0 high_1 (out_7 ++ [(Operator.mk x3 0 low_0 high_1 false 1 1)]) t_10 t_11 (IntKind.wrap .i64 (t_12 + 1)) else none else none) (some (out_7))
def t_table_1_b0l : List Nat := [7, 9, 12, 13, 14, 15, 16, 17, 18, 19, 20, 21, 22, 23]
theorem t_table_1_b0_W : ∀ (k : Nat) (low_0 : Int) (high_1 : Int) (out_7 : List Operator) (t_10 : List Str) (t_11 : Int) (t_12 : Int) (c_out_7_b0 : Ck) (σ0 σ : Nat → PV) (H0 H : AH) (f0 : Fr t_table_1_b0l σ0 σ) (hf0 : HF [] H0 H) (sl : σ 0 = (.int .i64 low_0) ∧ σ 1 = (.int .i64 high_1) ∧ σ 7 = (.isl (out_7.map Operator.cells) c_out_7_b0) ∧ σ 10 = (.isl (t_10.map strL) .unk) ∧ σ 11 = (.int .i64 t_11) ∧ σ 12 = (.int .i64 t_12)) (ok_out_7 : okc H c_out_7_b0) (o : List Operator) (h : t_table_1_b0 k low_0 high_1 out_7 t_10 t_11 t_12 = some o) (Q : Post) (q0 : ∀ (p : List Operator) (c0 : Ck) (σ' : Nat → PV) (H' : AH), o = p → Fr t_table_1_b0l σ0 σ' → HF [] H0 H' → (σ' 7 = (.isl (p.map Operator.cells) c0)) → Q (.exit 0) σ' H') , W Tryz.prog (.loop ac113_b0) Q σ H := by
  intro k
  induction k with
  | zero => intro low_0 high_1 out_7 t_10 t_11 t_12 c_out_7_b0 σ0 σ H0 H f0 hf0 sl ok_out_7 o h Q q0; simp only [t_table_1_b0, reduceCtorEq] at h
  | succ k ih =>
    intro low_0 high_1 out_7 t_10 t_11 t_12 c_out_7_b0 σ0 σ H0 H f0 hf0 sl ok_out_7 o h Q q0
    obtain ⟨s0, s1, s7, s10, s11, s12⟩ := sl
    have hle0 := hf0.1
    unfold t_table_1_b0 at h
    refine W_loopK (fun K hK => W_start ?_)
    unfold ac113_b0
    rcases cond_E h with ⟨e1, h⟩ | ⟨e1, h⟩
    ·obtain ⟨e2, h⟩ := if_E h
     obtain ⟨x3, e4, h⟩ := bind_E h
     obtain ⟨e9, h⟩ := if_E h
     simp -implicitDefEqProofs only [go_sem, s0, s1, s7, s10, s11, s12, e1, e2, e4]
     refine WO_app (f := Operator.cells) Operator.row out_7 ([(Operator.mk x3 0 low_0 high_1 false 1 1)] : List Operator) c_out_7_b0 .exact (by simp -implicitDefEqProofs only [go_sem]) (by simp -implicitDefEqProofs only [go_sem]) (by repeat (first | assumption | exact okc.nil | exact okc.exact | apply okc.new | apply okc.put)) (by first | exact e9 | (simp only [List.length_cons, List.length_nil] ; exact e9)) (fun c5 H6 ok7 le ob10 rl8 => ?_)
     have hf11 : HF [] _ H6 := ⟨le, fun i _ _ => ob10 i⟩
     simp -implicitDefEqProofs only [go_sem, s12]
     refine hK _ _ ?_
     exact ih low_0 high_1 (out_7 ++ [(Operator.mk x3 0 low_0 high_1 false 1 1)]) t_10 t_11 (IntKind.wrap .i64 (t_12 + 1)) c5 _ _ _ _ (by repeat (first | exact f0 | refine Fr.upd (by decide) ?_)) (by repeat (first | exact hf0 | refine HF.new ?_ | refine HF.tokd ?_ | refine HF.used ?_ | refine HF.put (by first | (right; omega) | (left; simp only [List.mem_cons, true_or, or_true])) ?_ | refine HF.via hf11 (by first | exact fun i hi => absurd hi List.not_mem_nil | (intro i hi; simp only [List.mem_cons, List.not_mem_nil, or_false] at hi ⊢; first | exact .inl hi | omega)) ?_)) (by simp -implicitDefEqProofs only [go_sem, s0, s1, s10, s11, and_self]) (by repeat (first | assumption | exact okc.nil | exact okc.exact | apply okc.new | apply okc.put)) _ h _ q0
    ·obtain rfl := som_E h
     simp -implicitDefEqProofs only [go_sem, s11, s12, e1]
     exact q0 _ c_out_7_b0 _ _ rfl (by repeat (first | exact f0 | refine Fr.upd (by decide) ?_)) (by repeat (first | exact hf0 | refine HF.new ?_ | refine HF.tokd ?_ | refine HF.used ?_ | refine HF.put (by first | (right; omega) | (left; simp only [List.mem_cons, true_or, or_true])) ?_)) (by simp -implicitDefEqProofs only [go_sem, s7])
def t_table_1 (k : Nat) (low_0 : Int) (high_1 : Int) (texts_2 : List Str) : Option (List Operator) :=
  Option.bind (t_table_1_b0 k low_0 high_1 ([] : List Operator) texts_2 (texts_2.length : Int) 0) (fun p14 => some p14)
theorem t_table_1_u (k : Nat) (low_0 : Int) (high_1 : Int) (texts_2 : List Str) {r : List Operator} (h : t_table_1 k low_0 high_1 texts_2 = some r) : PCall Tryz.prog 113 [(.int .i64 low_0), (.int .i64 high_1), (.isl (texts_2.map strL) .unk)] (.isl (r.map Operator.cells) .unk) := by
  refine PCall.of_empty (PuL.mem (.cons (.int _ _) (.cons (.int _ _) (.cons (pu_sl pu_strL _) .nil)))) (MCall_of_W ok113 (by simp) (W_start ?_)) (pu_sl Operator.pu _)
  unfold t_table_1 at h
  unfold ac113
  simp -implicitDefEqProofs only [go_sem]
  obtain ⟨o12, h13, h⟩ := bind_E h
  refine t_table_1_b0_W k low_0 high_1 ([] : List Operator) texts_2 (texts_2.length : Int) 0 .nil _ _ _ _ (Fr.refl _ _) (HF.refl _ _) (by simp -implicitDefEqProofs only [go_sem, and_self]) (by repeat (first | assumption | exact okc.nil | exact okc.exact | apply okc.new | apply okc.put)) _ h13 _ ?_
  ·rintro p14 c18 σ' H17 eo fr15 hf16 s19
   rw [eo] at h
   have le := hf16.1
   obtain rfl := som_E h
   simp -implicitDefEqProofs only [go_sem, s19]
   exact (fz_sl Operator.pu p14 _)
theorem t_table_1_c (k : Nat) (low_0 : Int) (high_1 : Int) (texts_2 : List Str) {c2 : Ck} {r : List Operator} (h : t_table_1 k low_0 high_1 texts_2 = some r) : PCall Tryz.prog 113 [(.int .i64 low_0), (.int .i64 high_1), (.isl (texts_2.map strL) c2)] (.isl (r.map Operator.cells) .unk) := (t_table_1_u k low_0 high_1 texts_2 h).wk (.same (.same (.isl .nil)))
def t_table_2_b0 : Nat → Int → Int → Bool → (List Operator) → (List Str) → Int → Int → Option (List Operator)
  | 0, _, _, _, _, _, _, _ => none
  | k + 1, low_0, high_1, left_2, out_9, t_12, t_13, t_14 =>
    cond (decide (t_14 < t_13)) (if 0 ≤ t_14 then Option.bind (t_12[t_14.toNat]?) fun x3 => if (out_9.length + 1) * 64 ≤ 1099511627776 then t_table_2_b0 k low_0 high_1 left_2 (out_9 ++ [(Operator.mk x3 1 low_0 high_1 left_2 2 2)]) t_12 t_13 (IntKind.wrap .i64 (t_14 + 1)) else none else none) (some (out_9))
def t_table_2_b0l : List Nat := [9, 11, 14, 15, 16, 17, 18, 19, 20, 21, 22, 23, 24, 25, 26]
theorem t_table_2_b0_W : ∀ (k : Nat) (low_0 : Int) (high_1 : Int) (left_2 : Bool) (out_9 : List Operator) (t_12 : List Str) (t_13 : Int) (t_14 : Int) (c_out_9_b0 : Ck) (σ0 σ : Nat → PV) (H0 H : AH) (f0 : Fr t_table_2_b0l σ0 σ) (hf0 : HF [] H0 H) (sl : σ 0 = (.int .i64 low_0) ∧ σ 1 = (.int .i64 high_1) ∧ σ 2 = (.bool left_2) ∧ σ 9 = (.isl (out_9.map Operator.cells) c_out_9_b0) ∧ σ 12 = (.isl (t_12.map strL) .unk) ∧ σ 13 = (.int .i64 t_13) ∧ σ 14 = (.int .i64 t_14)) (ok_out_9 : okc H c_out_9_b0) (o : List Operator) (h : t_table_2_b0 k low_0 high_1 left_2 out_9 t_12 t_13 t_14 = some o) (Q : Post) (q0 : ∀ (p : List Operator) (c0 : Ck) (σ' : Nat → PV) (H' : AH), o = p → Fr t_table_2_b0l σ0 σ' → HF [] H0 H' → (σ' 9 = (.isl (p.map Operator.cells) c0)) → Q (.exit 0) σ' H') , W Tryz.prog (.loop ac114_b0) Q σ H := by
  intro k
  induction k with
  | zero => intro low_0 high_1 left_2 out_9 t_12 t_13 t_14 c_out_9_b0 σ0 σ H0 H f0 hf0 sl ok_out_9 o h Q q0; simp only [t_table_2_b0, reduceCtorEq] at h
  | succ k ih =>
    intro low_0 high_1 left_2 out_9 t_12 t_13 t_14 c_out_9_b0 σ0 σ H0 H f0 hf0 sl ok_out_9 o h Q q0
    obtain ⟨s0, s1, s2, s9, s12, s13, s14⟩ := sl
    have hle0 := hf0.1
    unfold t_table_2_b0 at h
    refine W_loopK (fun K hK => W_start ?_)
    unfold ac114_b0
    rcases cond_E h with ⟨e1, h⟩ | ⟨e1, h⟩
    ·obtain ⟨e2, h⟩ := if_E h
     obtain ⟨x3, e4, h⟩ := bind_E h
     obtain ⟨e9, h⟩ := if_E h
     simp -implicitDefEqProofs only [go_sem, s0, s1, s2, s9, s12, s13, s14, e1, e2, e4]
     refine WO_app (f := Operator.cells) Operator.row out_9 ([(Operator.mk x3 1 low_0 high_1 left_2 2 2)] : List Operator) c_out_9_b0 .exact (by simp -implicitDefEqProofs only [go_sem]) (by simp -implicitDefEqProofs only [go_sem]) (by repeat (first | assumption | exact okc.nil | exact okc.exact | apply okc.new | apply okc.put)) (by first | exact e9 | (simp only [List.length_cons, List.length_nil] ; exact e9)) (fun c5 H6 ok7 le ob10 rl8 => ?_)
     have hf11 : HF [] _ H6 := ⟨le, fun i _ _ => ob10 i⟩
     simp -implicitDefEqProofs only [go_sem, s14]
     refine hK _ _ ?_
     exact ih low_0 high_1 left_2 (out_9 ++ [(Operator.mk x3 1 low_0 high_1 left_2 2 2)]) t_12 t_13 (IntKind.wrap .i64 (t_14 + 1)) c5 _ _ _ _ (by repeat (first | exact f0 | refine Fr.upd (by decide) ?_)) (by repeat (first | exact hf0 | refine HF.new ?_ | refine HF.tokd ?_ | refine HF.used ?_ | refine HF.put (by first | (right; omega) | (left; simp only [List.mem_cons, true_or, or_true])) ?_ | refine HF.via hf11 (by first | exact fun i hi => absurd hi List.not_mem_nil | (intro i hi; simp only [List.mem_cons, List.not_mem_nil, or_false] at hi ⊢; first | exact .inl hi | omega)) ?_)) (by simp -implicitDefEqProofs only [go_sem, s0, s1, s2, s12, s13, and_self]) (by repeat (first | assumption | exact okc.nil | exact okc.exact | apply okc.new | apply okc.put)) _ h _ q0
    ·obtain rfl := som_E h
     simp -implicitDefEqProofs only [go_sem, s13, s14, e1]
     exact q0 _ c_out_9_b0 _ _ rfl (by repeat (first | exact f0 | refine Fr.upd (by decide) ?_)) (by repeat (first | exact hf0 | refine HF.new ?_ | refine HF.tokd ?_ | refine HF.used ?_ | refine HF.put (by first | (right; omega) | (left; simp only [List.mem_cons, true_or, or_true])) ?_)) (by simp -implicitDefEqProofs only [go_sem, s9])
def t_table_2 (k : Nat) (low_0 : Int) (high_1 : Int) (left_2 : Bool) (texts_3 : List Str) : Option (List Operator) :=
  Option.bind (t_table_2_b0 k low_0 high_1 left_2 ([] : List Operator) texts_3 (texts_3.length : Int) 0) (fun p14 => some p14)
theorem t_table_2_u (k : Nat) (low_0 : Int) (high_1 : Int) (left_2 : Bool) (texts_3 : List Str) {r : List Operator} (h : t_table_2 k low_0 high_1 left_2 texts_3 = some r) : PCall Tryz.prog 114 [(.int .i64 low_0), (.int .i64 high_1), (.bool left_2), (.isl (texts_3.map strL) .unk)] (.isl (r.map Operator.cells) .unk) := by
  refine PCall.of_empty (PuL.mem (.cons (.int _ _) (.cons (.int _ _) (.cons (.bool _) (.cons (pu_sl pu_strL _) .nil))))) (MCall_of_W ok114 (by simp) (W_start ?_)) (pu_sl Operator.pu _)
  unfold t_table_2 at h
  unfold ac114
  simp -implicitDefEqProofs only [go_sem]
  obtain ⟨o12, h13, h⟩ := bind_E h
  refine t_table_2_b0_W k low_0 high_1 left_2 ([] : List Operator) texts_3 (texts_3.length : Int) 0 .nil _ _ _ _ (Fr.refl _ _) (HF.refl _ _) (by simp -implicitDefEqProofs only [go_sem, and_self]) (by repeat (first | assumption | exact okc.nil | exact okc.exact | apply okc.new | apply okc.put)) _ h13 _ ?_
  ·rintro p14 c18 σ' H17 eo fr15 hf16 s19
   rw [eo] at h
   have le := hf16.1
   obtain rfl := som_E h
   simp -implicitDefEqProofs only [go_sem, s19]
   exact (fz_sl Operator.pu p14 _)
theorem t_table_2_c (k : Nat) (low_0 : Int) (high_1 : Int) (left_2 : Bool) (texts_3 : List Str) {c3 : Ck} {r : List Operator} (h : t_table_2 k low_0 high_1 left_2 texts_3 = some r) : PCall Tryz.prog 114 [(.int .i64 low_0), (.int .i64 high_1), (.bool left_2), (.isl (texts_3.map strL) c3)] (.isl (r.map Operator.cells) .unk) := (t_table_2_u k low_0 high_1 left_2 texts_3 h).wk (.same (.same (.same (.isl .nil))))
def t_table_i115_b0 : Nat → Int → (List (List Operator)) → Int → Option Int
  | 0, _, _, _ => none
  | k + 1, size_3, t_9, t_11 =>
    cond (decide (t_11 < 24)) (if 0 ≤ t_11 then Option.bind (t_9[t_11.toNat]?) fun x50 => cond (decide ((IntKind.wrap .i64 (size_3 + (x50.length : Int))) < 0)) (none) (t_table_i115_b0 k (IntKind.wrap .i64 (size_3 + (x50.length : Int))) t_9 (IntKind.wrap .i64 (t_11 + 1))) else none) (some (size_3))
def t_table_i115_b0l : List Nat := [3, 5, 11, 12, 13, 14, 15, 16, 17, 18, 19, 20, 21, 22]
theorem t_table_i115_b0_W : ∀ (k : Nat) (size_3 : Int) (t_9 : List (List Operator)) (t_11 : Int) (c_t_9_b0 : Ck) (σ0 σ : Nat → PV) (H : AH) (f0 : Fr t_table_i115_b0l σ0 σ) (sl : σ 3 = (.int .i64 size_3) ∧ σ 9 = (.isl (t_9.map (slL Operator.cells)) c_t_9_b0) ∧ σ 10 = (.int .i64 24) ∧ σ 11 = (.int .i64 t_11)) (o : Int) (h : t_table_i115_b0 k size_3 t_9 t_11 = some o) (Q : Post) (q0 : ∀ (p : Int) (σ' : Nat → PV), o = p → Fr t_table_i115_b0l σ0 σ' → (σ' 3 = (.int .i64 p)) → Q (.exit 0) σ' H) , W Tryz.prog (.loop ac115_b0) Q σ H := by
  intro k
  induction k with
  | zero => intro size_3 t_9 t_11 c_t_9_b0 σ0 σ H f0 sl o h Q q0; simp only [t_table_i115_b0, reduceCtorEq] at h
  | succ k ih =>
    intro size_3 t_9 t_11 c_t_9_b0 σ0 σ H f0 sl o h Q q0
    obtain ⟨s3, s9, s10, s11⟩ := sl
    unfold t_table_i115_b0 at h
    refine W_loopK (fun K hK => W_start ?_)
    unfold ac115_b0
    rcases cond_E h with ⟨e48, h⟩ | ⟨e48, h⟩
    ·obtain ⟨e49, h⟩ := if_E h
     obtain ⟨x50, e51, h⟩ := bind_E h
     rcases cond_E h with ⟨e52, h⟩ | ⟨e52, h⟩
     ·cases h
     ·try simp -implicitDefEqProofs only [go_sem, s3, s9, s10, s11, e48, e49, e51, e52]
      refine hK _ _ ?_
      exact ih (IntKind.wrap .i64 (size_3 + (x50.length : Int))) t_9 (IntKind.wrap .i64 (t_11 + 1)) c_t_9_b0 _ _ _ (by repeat (first | exact f0 | refine Fr.upd (by decide) ?_)) (by simp -implicitDefEqProofs only [go_sem, s9, s10, and_self]) _ h _ q0
    ·obtain rfl := som_E h
     simp -implicitDefEqProofs only [go_sem, s10, s11, e48]
     exact q0 _ _ rfl (by repeat (first | exact f0 | refine Fr.upd (by decide) ?_)) (by simp -implicitDefEqProofs only [go_sem, s3])
def t_table_i115_b1 : Nat → (List Operator) → (List (List Operator)) → Int → Option (List Operator)
  | 0, _, _, _ => none
  | k + 1, newslice_6, t_25, t_27 =>
    cond (decide (t_27 < 24)) (if 0 ≤ t_27 then Option.bind (t_25[t_27.toNat]?) fun x71 => if 0 < x71.length ∧ (newslice_6.length + x71.length) * 64 ≤ 1099511627776 then t_table_i115_b1 k (newslice_6 ++ x71) t_25 (IntKind.wrap .i64 (t_27 + 1)) else none else none) (some (newslice_6))
def t_table_i115_b1l : List Nat := [6, 8, 27, 28, 29, 30, 31, 32, 33, 34]
theorem t_table_i115_b1_W : ∀ (k : Nat) (v_newslice_6 : PV) (ids_newslice_6 : List Nat) (M : List Nat) (newslice_6 : List Operator) (t_25 : List (List Operator)) (t_27 : Int) (c_t_25_b1 : Ck) (σ0 σ : Nat → PV) (H0 H : AH) (f0 : Fr t_table_i115_b1l σ0 σ) (hf0 : HF M H0 H) (sl : σ 6 = v_newslice_6 ∧ σ 25 = (.isl (t_25.map (slL Operator.cells)) c_t_25_b1) ∧ σ 26 = (.int .i64 24) ∧ σ 27 = (.int .i64 t_27)) (r_newslice_6 : RowN H Operator.cells 7 newslice_6 v_newslice_6 ids_newslice_6) (nw_newslice_6 : Nw H0 M ids_newslice_6) (o : List Operator) (h : t_table_i115_b1 k newslice_6 t_25 t_27 = some o) (Q : Post) (q0 : ∀ (p : List Operator) (v0 : PV) (ids0 : List Nat) (σ' : Nat → PV) (H' : AH), o = p → Fr t_table_i115_b1l σ0 σ' → HF M H0 H' → (σ' 6 = v0) → RowN H' Operator.cells 7 p v0 ids0 → Nw H0 M ids0 → Q (.exit 2) σ' H') , W Tryz.prog (.loop ac115_b1) Q σ H := by
  intro k
  induction k with
  | zero => intro v_newslice_6 ids_newslice_6 M newslice_6 t_25 t_27 c_t_25_b1 σ0 σ H0 H f0 hf0 sl r_newslice_6 nw_newslice_6 o h Q q0; simp only [t_table_i115_b1, reduceCtorEq] at h
  | succ k ih =>
    intro v_newslice_6 ids_newslice_6 M newslice_6 t_25 t_27 c_t_25_b1 σ0 σ H0 H f0 hf0 sl r_newslice_6 nw_newslice_6 o h Q q0
    obtain ⟨s6, s25, s26, s27⟩ := sl
    have hle0 := hf0.1
    unfold t_table_i115_b1 at h
    refine W_loopK (fun K hK => W_start ?_)
    unfold ac115_b1
    rcases cond_E h with ⟨e69, h⟩ | ⟨e69, h⟩
    ·obtain ⟨e70, h⟩ := if_E h
     obtain ⟨x71, e72, h⟩ := bind_E h
     obtain ⟨e73, h⟩ := if_E h
     simp -implicitDefEqProofs only [go_sem, s6, s25, s26, s27, e69, e70, e72]
     refine WO_rowapp (f := Operator.cells) (v := v_newslice_6) Operator.row newslice_6 (x71 : List Operator) .unk (by simp -implicitDefEqProofs only [go_sem]) (by repeat (first | exact r_newslice_6 | apply RowN.new | refine RowN.put ?_ (fun hm => by have := RowN.lt r_newslice_6 _ hm; omega))) (by simp -implicitDefEqProofs only [go_sem]) e73.1 e73.2 (fun v74 ids75 H76 r77 nw78 hf79 ok80 => ?_)
     have le := hf79.1
     simp -implicitDefEqProofs only [go_sem, s27]
     refine hK _ _ ?_
     exact ih v74 ids75 M (newslice_6 ++ x71) t_25 (IntKind.wrap .i64 (t_27 + 1)) c_t_25_b1 _ _ _ _ (by repeat (first | exact f0 | refine Fr.upd (by decide) ?_)) (by repeat (first | exact hf0 | refine HF.new ?_ | refine HF.tokd ?_ | refine HF.used ?_ | refine HF.put (by first | (right; omega) | (left; simp only [List.mem_cons, true_or, or_true])) ?_ | refine HF.via hf79 nw_newslice_6 ?_)) (by simp -implicitDefEqProofs only [go_sem, s25, s26, and_self]) (by repeat (first | exact r77 | apply RowN.new | refine RowN.put ?_ (fun hm => by have := RowN.lt r77 _ hm; omega))) (Nw.trans nw_newslice_6 (by first | omega | (simp only [AH.new_next, AH.put_next, AH.tok_next, AH.use_next]; omega)) nw78) _ h _ q0
    ·obtain rfl := som_E h
     simp -implicitDefEqProofs only [go_sem, s26, s27, e69]
     exact q0 _ v_newslice_6 ids_newslice_6 _ _ rfl (by repeat (first | exact f0 | refine Fr.upd (by decide) ?_)) (by repeat (first | exact hf0 | refine HF.new ?_ | refine HF.tokd ?_ | refine HF.used ?_ | refine HF.put (by first | (right; omega) | (left; simp only [List.mem_cons, true_or, or_true])) ?_)) (by simp -implicitDefEqProofs only [go_sem, s6]) (by repeat (first | exact r_newslice_6 | apply RowN.new | refine RowN.put ?_ (fun hm => by have := RowN.lt r_newslice_6 _ hm; omega))) nw_newslice_6
def t_table_b0 : Nat → (List Operator) → Int → Int → Option (List Operator)
  | 0, _, _, _ => none
  | k + 1, out_3, t_79, t_80 =>
    cond (decide (t_80 < t_79)) (if 0 ≤ t_80 then Option.bind (out_3[t_80.toNat]?) fun x95 => cond (x95.text == ([92, 88] : Str)) (t_table_b0 k (out_3.set t_80.toNat (Operator.mk x95.text x95.fix x95.low x95.high x95.left x95.least 4)) t_79 (IntKind.wrap .i64 (t_80 + 1))) (t_table_b0 k out_3 t_79 (IntKind.wrap .i64 (t_80 + 1))) else none) (some (out_3))
def t_table_b0l : List Nat := [4, 80, 81, 82, 83, 84, 85, 86, 87, 88, 89, 90, 91, 92, 93]
theorem t_table_b0_W : ∀ (k : Nat) (v_out_3 : PV) (ids_out_3 : List Nat) (M : List Nat) (out_3 : List Operator) (t_79 : Int) (t_80 : Int) (σ0 σ : Nat → PV) (H0 H : AH) (f0 : Fr t_table_b0l σ0 σ) (hf0 : HF M H0 H) (sl : σ 3 = v_out_3 ∧ σ 79 = (.int .i64 t_79) ∧ σ 80 = (.int .i64 t_80)) (r_out_3 : RowN H Operator.cells 7 out_3 v_out_3 ids_out_3) (nw_out_3 : Nw H0 M ids_out_3) (o : List Operator) (h : t_table_b0 k out_3 t_79 t_80 = some o) (Q : Post) (q0 : ∀ (p : List Operator) (v0 : PV) (ids0 : List Nat) (σ' : Nat → PV) (H' : AH), o = p → Fr t_table_b0l σ0 σ' → HF M H0 H' → (σ' 3 = v0) → RowN H' Operator.cells 7 p v0 ids0 → Nw H0 M ids0 → Q (.exit 0) σ' H') , W Tryz.prog (.loop ac65_b0) Q σ H := by
  intro k
  induction k with
  | zero => intro v_out_3 ids_out_3 M out_3 t_79 t_80 σ0 σ H0 H f0 hf0 sl r_out_3 nw_out_3 o h Q q0; simp only [t_table_b0, reduceCtorEq] at h
  | succ k ih =>
    intro v_out_3 ids_out_3 M out_3 t_79 t_80 σ0 σ H0 H f0 hf0 sl r_out_3 nw_out_3 o h Q q0
    obtain ⟨s3, s79, s80⟩ := sl
    have hle0 := hf0.1
    unfold t_table_b0 at h
    refine W_loopK (fun K hK => W_start ?_)
    unfold ac65_b0
    rcases cond_E h with ⟨e93, h⟩ | ⟨e93, h⟩
    ·obtain ⟨e94, h⟩ := if_E h
     obtain ⟨x95, e96, h⟩ := bind_E h
     obtain ⟨w97, w98, hidw97, hil, w99, hC, hL, hD, hI⟩ := RowN.content r_out_3 e96
     have w100 := ne_next hil
     have w101 := ne_add hil
     have w102 : idxPV 7 v_out_3 (.int .i64 t_80) = some (.ref w97 (t_80.toNat * 7)) := by simpa using hI .i64 t_80 (by first | omega | decide) (by first | rfl | omega)
     have w97c0 : w98[t_80.toNat * 7]? = some (.str x95.text) := by simpa using hC 0 _ rfl
     have w97c1 : w98[t_80.toNat * 7 + 1]? = some (.int .i64 x95.fix) := by simpa using hC 1 _ rfl
     have w97c2 : w98[t_80.toNat * 7 + 2]? = some (.int .i64 x95.low) := by simpa using hC 2 _ rfl
     have w97c3 : w98[t_80.toNat * 7 + 3]? = some (.int .i64 x95.high) := by simpa using hC 3 _ rfl
     have w97c4 : w98[t_80.toNat * 7 + 4]? = some (.bool x95.left) := by simpa using hC 4 _ rfl
     have w97c5 : w98[t_80.toNat * 7 + 5]? = some (.int .i64 x95.least) := by simpa using hC 5 _ rfl
     have w97c6 : w98[t_80.toNat * 7 + 6]? = some (.int .i64 x95.most) := by simpa using hC 6 _ rfl
     have w97l : t_80.toNat * 7 + 7 ≤ w98.length := by simpa using hL 7 (Nat.le_refl _)
     have w97d : List.take 7 (List.drop (t_80.toNat * 7) w98) = Operator.cells x95 := hD
     clear hC hL hD hI
     rcases cond_E h with ⟨e103, h⟩ | ⟨e103, h⟩
     ·try simp -implicitDefEqProofs only [go_sem, s3, s79, s80, e93, w99, w102, w97c0, e103]
      refine WO_rowset (f := Operator.cells) (id := w97) (o := t_80.toNat * 7 + 6) (i := t_80.toNat) (j := 6) (a := x95) (y := (Operator.mk x95.text x95.fix x95.low x95.high x95.left x95.least 4)) (vs := [(.int .i64 4)]) (by simp -implicitDefEqProofs only [go_sem]) hidw97 (by omega) (by repeat (first | exact r_out_3 | apply RowN.new | refine RowN.put ?_ (fun hm => by have := RowN.lt r_out_3 _ hm; omega))) e96 (by simp -implicitDefEqProofs only [go_sem]) rfl rfl (by first | decide | (simp only [List.length_cons, List.length_nil]; omega)) rfl (fun H106 r107 hf109 ok110 => ?_)
      have le := hf109.1
      simp -implicitDefEqProofs only [go_sem, s80]
      refine hK _ _ ?_
      exact ih v_out_3 ids_out_3 M (out_3.set t_80.toNat (Operator.mk x95.text x95.fix x95.low x95.high x95.left x95.least 4)) t_79 (IntKind.wrap .i64 (t_80 + 1)) _ _ _ _ (by repeat (first | exact f0 | refine Fr.upd (by decide) ?_)) (by repeat (first | exact hf0 | refine HF.new ?_ | refine HF.tokd ?_ | refine HF.used ?_ | refine HF.put (by first | (right; omega) | (left; simp only [List.mem_cons, true_or, or_true])) ?_ | refine HF.via hf109 nw_out_3 ?_)) (by simp -implicitDefEqProofs only [go_sem, s3, s79, and_self]) (by repeat (first | exact r107 | apply RowN.new | refine RowN.put ?_ (fun hm => by have := RowN.lt r107 _ hm; omega))) nw_out_3 _ h _ q0
     ·try simp -implicitDefEqProofs only [go_sem, s3, s79, s80, e93, w99, w102, w97c0, e103]
      refine hK _ _ ?_
      exact ih v_out_3 ids_out_3 M out_3 t_79 (IntKind.wrap .i64 (t_80 + 1)) _ _ _ _ (by repeat (first | exact f0 | refine Fr.upd (by decide) ?_)) (by repeat (first | exact hf0 | refine HF.new ?_ | refine HF.tokd ?_ | refine HF.used ?_ | refine HF.put (by first | (right; omega) | (left; simp only [List.mem_cons, true_or, or_true])) ?_)) (by simp -implicitDefEqProofs only [go_sem, s3, s79, and_self]) (by repeat (first | exact r_out_3 | apply RowN.new | refine RowN.put ?_ (fun hm => by have := RowN.lt r_out_3 _ hm; omega))) nw_out_3 _ h _ q0
    ·obtain rfl := som_E h
     simp -implicitDefEqProofs only [go_sem, s79, s80, e93]
     exact q0 _ v_out_3 ids_out_3 _ _ rfl (by repeat (first | exact f0 | refine Fr.upd (by decide) ?_)) (by repeat (first | exact hf0 | refine HF.new ?_ | refine HF.tokd ?_ | refine HF.used ?_ | refine HF.put (by first | (right; omega) | (left; simp only [List.mem_cons, true_or, or_true])) ?_)) (by simp -implicitDefEqProofs only [go_sem, s3]) (by repeat (first | exact r_out_3 | apply RowN.new | refine RowN.put ?_ (fun hm => by have := RowN.lt r_out_3 _ hm; omega))) nw_out_3
def t_table (k : Nat) : Option (List Operator) :=
  Option.bind (t_table_1 k 4 4 [([126] : Str)]) fun p2 => Option.bind (t_table_1 k 4 15 [([69, 78, 65, 66, 76, 69, 68] : Str), ([85, 78, 67, 72, 65, 78, 71, 69, 68] : Str), ([91, 93] : Str), ([60, 62] : Str)]) fun p4 => Option.bind (t_table_1 k 8 8 [([83, 85, 66, 83, 69, 84] : Str), ([85, 78, 73, 79, 78] : Str)]) fun p6 => Option.bind (t_table_1 k 9 9 [([68, 79, 77, 65, 73, 78] : Str)]) fun p8 => Option.bind (t_table_1 k 12 12 [([45, 46] : Str)]) fun p10 => Option.bind (t_table_2 k 1 1 false [([61, 62] : Str)]) fun p12 => Option.bind (t_table_2 k 2 2 false [([60, 61, 62] : Str), ([126, 62] : Str)]) fun p14 => Option.bind (t_table_2 k 3 3 true [([47, 92] : Str), ([92, 47] : Str)]) fun p16 => Option.bind (t_table_2 k 5 5 false [([61] : Str), ([35] : Str), ([60] : Str), ([60, 61] : Str), ([62] : Str), ([62, 61] : Str), ([92, 105, 110] : Str), ([92, 110, 111, 116, 105, 110] : Str), ([92, 115, 117, 98, 115, 101, 116, 101, 113] : Str), ([92, 115, 113, 115, 117, 98, 115, 101, 116, 101, 113] : Str)]) fun p18 => Option.bind (t_table_2 k 6 6 true [([64, 64] : Str)]) fun p20 => Option.bind (t_table_2 k 7 7 false [([58, 62] : Str)]) fun p22 => Option.bind (t_table_2 k 5 14 true [([92, 99, 100, 111, 116] : Str)]) fun p24 => Option.bind (t_table_2 k 8 8 true [([92, 99, 117, 112] : Str), ([92, 99, 97, 112] : Str)]) fun p26 => Option.bind (t_table_2 k 8 8 false [([92] : Str)]) fun p28 => Option.bind (t_table_2 k 9 9 false [([46, 46] : Str)]) fun p30 => Option.bind (t_table_2 k 10 10 true [([43] : Str), ([40, 43, 41] : Str)]) fun p32 => Option.bind (t_table_2 k 10 11 false [([37] : Str)]) fun p34 => Option.bind (t_table_2 k 10 13 false [([92, 88] : Str)]) fun p36 => Option.bind (t_table_2 k 11 11 true [([45] : Str), ([40, 45, 41] : Str)]) fun p38 => Option.bind (t_table_2 k 13 13 true [([42] : Str)]) fun p40 => Option.bind (t_table_2 k 13 13 false [([92, 100, 105, 118] : Str)]) fun p42 => Option.bind (t_table_2 k 13 13 true [([92, 111] : Str)]) fun p44 => Option.bind (t_table_2 k 14 14 false [([94] : Str)]) fun p46 => Option.bind (t_table_i115_b0 k 0 [p2, p4, p6, p8, p10, p12, p14, p16, p18, p20, p22, p24, p26, p28, p30, p32, p34, p36, p38, p40, p42, p44, p46, [(Operator.mk ([39] : Str) 2 15 15 false 1 1)]] 0) (fun p55 => if 0 < p55 ∧ p55 ≤ 1000000 then Option.bind (t_table_i115_b1 k ([] : List Operator) [p2, p4, p6, p8, p10, p12, p14, p16, p18, p20, p22, p24, p26, p28, p30, p32, p34, p36, p38, p40, p42, p44, p46, [(Operator.mk ([39] : Str) 2 15 15 false 1 1)]] 0) (fun p83 => Option.bind (t_table_b0 k p83 (p83.length : Int) 0) (fun p113 => some p113)) else none)
theorem t_table_u (k : Nat) {r : List Operator} (h : t_table k = some r) : PCall Tryz.prog 65 [] (.isl (r.map Operator.cells) .unk) := by
  refine PCall.of_empty (PuL.mem .nil) (MCall_of_W ok65 (by simp) (W_start ?_)) (pu_sl Operator.pu _)
  unfold t_table at h
  unfold ac65
  obtain ⟨p2, e1, h⟩ := bind_E h
  simp -implicitDefEqProofs only [go_sem]
  refine mcall_pure (t_table_1_c k 4 4 [([126] : Str)] e1) ?_
  obtain ⟨p4, e3, h⟩ := bind_E h
  simp -implicitDefEqProofs only [go_sem]
  refine mcall_pure (t_table_1_c k 4 15 [([69, 78, 65, 66, 76, 69, 68] : Str), ([85, 78, 67, 72, 65, 78, 71, 69, 68] : Str), ([91, 93] : Str), ([60, 62] : Str)] e3) ?_
  obtain ⟨p6, e5, h⟩ := bind_E h
  simp -implicitDefEqProofs only [go_sem]
  refine mcall_pure (t_table_1_c k 8 8 [([83, 85, 66, 83, 69, 84] : Str), ([85, 78, 73, 79, 78] : Str)] e5) ?_
  obtain ⟨p8, e7, h⟩ := bind_E h
  simp -implicitDefEqProofs only [go_sem]
  refine mcall_pure (t_table_1_c k 9 9 [([68, 79, 77, 65, 73, 78] : Str)] e7) ?_
  obtain ⟨p10, e9, h⟩ := bind_E h
  simp -implicitDefEqProofs only [go_sem]
  refine mcall_pure (t_table_1_c k 12 12 [([45, 46] : Str)] e9) ?_
  obtain ⟨p12, e11, h⟩ := bind_E h
  simp -implicitDefEqProofs only [go_sem]
  refine mcall_pure (t_table_2_c k 1 1 false [([61, 62] : Str)] e11) ?_
  obtain ⟨p14, e13, h⟩ := bind_E h
  simp -implicitDefEqProofs only [go_sem]
  refine mcall_pure (t_table_2_c k 2 2 false [([60, 61, 62] : Str), ([126, 62] : Str)] e13) ?_
  obtain ⟨p16, e15, h⟩ := bind_E h
  simp -implicitDefEqProofs only [go_sem]
  refine mcall_pure (t_table_2_c k 3 3 true [([47, 92] : Str), ([92, 47] : Str)] e15) ?_
  obtain ⟨p18, e17, h⟩ := bind_E h
  simp -implicitDefEqProofs only [go_sem]
  refine mcall_pure (t_table_2_c k 5 5 false [([61] : Str), ([35] : Str), ([60] : Str), ([60, 61] : Str), ([62] : Str), ([62, 61] : Str), ([92, 105, 110] : Str), ([92, 110, 111, 116, 105, 110] : Str), ([92, 115, 117, 98, 115, 101, 116, 101, 113] : Str), ([92, 115, 113, 115, 117, 98, 115, 101, 116, 101, 113] : Str)] e17) ?_
  obtain ⟨p20, e19, h⟩ := bind_E h
  simp -implicitDefEqProofs only [go_sem]
  refine mcall_pure (t_table_2_c k 6 6 true [([64, 64] : Str)] e19) ?_
  obtain ⟨p22, e21, h⟩ := bind_E h
  simp -implicitDefEqProofs only [go_sem]
  refine mcall_pure (t_table_2_c k 7 7 false [([58, 62] : Str)] e21) ?_
  obtain ⟨p24, e23, h⟩ := bind_E h
  simp -implicitDefEqProofs only [go_sem]
  refine mcall_pure (t_table_2_c k 5 14 true [([92, 99, 100, 111, 116] : Str)] e23) ?_
  obtain ⟨p26, e25, h⟩ := bind_E h
  simp -implicitDefEqProofs only [go_sem]
  refine mcall_pure (t_table_2_c k 8 8 true [([92, 99, 117, 112] : Str), ([92, 99, 97, 112] : Str)] e25) ?_
  obtain ⟨p28, e27, h⟩ := bind_E h
  simp -implicitDefEqProofs only [go_sem]
  refine mcall_pure (t_table_2_c k 8 8 false [([92] : Str)] e27) ?_
  obtain ⟨p30, e29, h⟩ := bind_E h
  simp -implicitDefEqProofs only [go_sem]
  refine mcall_pure (t_table_2_c k 9 9 false [([46, 46] : Str)] e29) ?_
  obtain ⟨p32, e31, h⟩ := bind_E h
  simp -implicitDefEqProofs only [go_sem]
  refine mcall_pure (t_table_2_c k 10 10 true [([43] : Str), ([40, 43, 41] : Str)] e31) ?_
  obtain ⟨p34, e33, h⟩ := bind_E h
  simp -implicitDefEqProofs only [go_sem]
  refine mcall_pure (t_table_2_c k 10 11 false [([37] : Str)] e33) ?_
  obtain ⟨p36, e35, h⟩ := bind_E h
  simp -implicitDefEqProofs only [go_sem]
  refine mcall_pure (t_table_2_c k 10 13 false [([92, 88] : Str)] e35) ?_
  obtain ⟨p38, e37, h⟩ := bind_E h
  simp -implicitDefEqProofs only [go_sem]
  refine mcall_pure (t_table_2_c k 11 11 true [([45] : Str), ([40, 45, 41] : Str)] e37) ?_
  obtain ⟨p40, e39, h⟩ := bind_E h
  simp -implicitDefEqProofs only [go_sem]
  refine mcall_pure (t_table_2_c k 13 13 true [([42] : Str)] e39) ?_
  obtain ⟨p42, e41, h⟩ := bind_E h
  simp -implicitDefEqProofs only [go_sem]
  refine mcall_pure (t_table_2_c k 13 13 false [([92, 100, 105, 118] : Str)] e41) ?_
  obtain ⟨p44, e43, h⟩ := bind_E h
  simp -implicitDefEqProofs only [go_sem]
  refine mcall_pure (t_table_2_c k 13 13 true [([92, 111] : Str)] e43) ?_
  obtain ⟨p46, e45, h⟩ := bind_E h
  simp -implicitDefEqProofs only [go_sem]
  refine mcall_pure (t_table_2_c k 14 14 false [([94] : Str)] e45) ?_
  simp -implicitDefEqProofs only [go_sem]
  refine MCall_of_W ok115 (by simp) (W_start ?_)
  unfold ac115
  simp -implicitDefEqProofs only [go_sem]
  obtain ⟨o53, h54, h⟩ := bind_E h
  refine t_table_i115_b0_W k 0 [p2, p4, p6, p8, p10, p12, p14, p16, p18, p20, p22, p24, p26, p28, p30, p32, p34, p36, p38, p40, p42, p44, p46, [(Operator.mk ([39] : Str) 2 15 15 false 1 1)]] 0 .exact _ _ _ (Fr.refl _ _) (by simp -implicitDefEqProofs only [go_sem, and_self]) _ h54 _ ?_
  ·rintro p55 σ' eo fr56 s59
   rw [eo] at h
   have s60 : σ' 0 = (.isl ([p2, p4, p6, p8, p10, p12, p14, p16, p18, p20, p22, p24, p26, p28, p30, p32, p34, p36, p38, p40, p42, p44, p46, [(Operator.mk ([39] : Str) 2 15 15 false 1 1)]].map (slL Operator.cells)) .exact) := (fr56 0 (by decide)).trans (by simp -implicitDefEqProofs only [go_sem])
   obtain ⟨e61, h⟩ := if_E h
   simp -implicitDefEqProofs only [go_sem, s59]
   refine MC_row (f := Operator.cells) (xs := ([] : List Operator)) (grow167_c p55 e61) (fun v62 ids63 H64 r65 nw66 hf67 ok68 => ?_)
   have le := hf67.1
   simp -implicitDefEqProofs only [go_sem, s60]
   obtain ⟨o81, h82, h⟩ := bind_E h
   refine t_table_i115_b1_W k v62 ids63 (ids63 ++ []) ([] : List Operator) [p2, p4, p6, p8, p10, p12, p14, p16, p18, p20, p22, p24, p26, p28, p30, p32, p34, p36, p38, p40, p42, p44, p46, [(Operator.mk ([39] : Str) 2 15 15 false 1 1)]] 0 .exact _ _ _ _ (Fr.refl _ _) (HF.refl _ _) (by simp -implicitDefEqProofs only [go_sem, and_self]) (by repeat (first | exact r65 | apply RowN.new | refine RowN.put ?_ (fun hm => by have := RowN.lt r65 _ hm; omega))) (fun i hi => Or.inl (by simp only [List.mem_append, hi, true_or])) _ h82 _ ?_
   ·rintro p83 v87 ids88 σ' H86 eo fr84 hf85 s91 r89 nw90
    rw [eo] at h
    have le := hf85.1
    have w92 := RowN.lenv r89
    simp -implicitDefEqProofs only [go_sem, s91, w92]
    obtain ⟨o111, h112, h⟩ := bind_E h
    refine t_table_b0_W k v87 ids88 (ids88 ++ []) p83 (p83.length : Int) 0 _ _ _ _ (Fr.refl _ _) (HF.refl _ _) (by simp -implicitDefEqProofs only [go_sem, and_self]) (by repeat (first | exact r89 | apply RowN.new | refine RowN.put ?_ (fun hm => by have := RowN.lt r89 _ hm; omega))) (fun i hi => Or.inl (by simp only [List.mem_append, hi, true_or])) _ h112 _ ?_
    ·rintro p113 v117 ids118 σ' H116 eo fr114 hf115 s121 r119 nw120
     rw [eo] at h
     have le := hf115.1
     obtain rfl := som_E h
     simp -implicitDefEqProofs only [go_sem, s121]
     exact (RowN.fz Operator.pu (by repeat (first | exact r119 | apply RowN.new | refine RowN.put ?_ (fun hm => by have := RowN.lt r119 _ hm; omega))))
theorem t_table_c (k : Nat) {r : List Operator} (h : t_table k = some r) : PCall Tryz.prog 65 [] (.isl (r.map Operator.cells) .unk) := t_table_u k  h
end Go.VL
end
section
namespace Go.VL
open Go.Proofs Go.RowKit
def tabL : List Operator := (t_table 100).getD []
theorem tabL_some : t_table 100 = some tabL := by
  have h : (t_table 100).isSome = true := by kernel_rfl
  rw [tabL]; cases h1 : t_table 100 with
  | none => rw [h1] at h; cases h
  | some r => rfl
theorem tabL_c : PCall Tryz.prog 65 [] (.isl (tabL.map Operator.cells) .unk) := t_table_c 100 tabL_some
end Go.VL
end
section
set_option maxRecDepth 8000
set_option maxHeartbeats 4000000
namespace Go.VL
open Go.Proofs
def t_operatorOf (k : Nat) (text_0 : Str) : Option (Operator × Bool) :=
  Option.bind (g_IndexFunc_api_Operator_api_Operator_at112 k tabL text_0) fun p2 => cond (decide (p2 < 0)) (some ((Operator.mk [] 0 0 0 false 0 0), false)) (if 0 ≤ p2 then Option.bind (tabL[p2.toNat]?) fun x5 => some (x5, true) else none)
theorem t_operatorOf_u (k : Nat) (text_0 : Str) {r : Operator × Bool} (h : t_operatorOf k text_0 = some r) : PCall Tryz.prog 63 [(.str text_0)] (.tup [(.agg (Operator.cells r.1)), (.bool r.2)]) := by
  refine PCall.of_empty (PuL.mem (.cons (.str _) .nil)) (MCall_of_W ok63 (by simp) (W_start ?_)) (.tup _ (PuL.mem (.cons (.agg _ (Operator.pu _)) (.cons (.bool _) .nil))))
  unfold t_operatorOf at h
  unfold ac63
  simp -implicitDefEqProofs only [go_sem]
  refine mcall_pure (tabL_c ) ?_
  obtain ⟨p2, e1, h⟩ := bind_E h
  simp -implicitDefEqProofs only [go_sem]
  refine mcall_frz (g_IndexFunc_api_Operator_api_Operator_at112_c k tabL text_0 e1) (.cons (fz_sl Operator.pu _ _) (.cons (fz_fn (.cons (fz_ref (by simp -implicitDefEqProofs only [go_sem]) (.cons (.pure _ (.str _)) .nil)) .nil)) .nil)) (.cons (pu_sl Operator.pu _) (.cons (.fn _ _ _ (PuL.mem .nil) (PuL.mem (.cons (.iptr _ _ (PuL.mem (.cons (.str _) .nil))) .nil))) .nil)) (.int _ _) ?_
  rcases cond_E h with ⟨e3, h⟩ | ⟨e3, h⟩
  ·obtain rfl := som_E h
   simp -implicitDefEqProofs only [go_sem, WO_store, e3]
   exact (fz_tup (.cons (fz_agg (.cons (.pure _ (.str _)) (.cons (.pure _ (.int _ _)) (.cons (.pure _ (.int _ _)) (.cons (.pure _ (.int _ _)) (.cons (.pure _ (.bool _)) (.cons (.pure _ (.int _ _)) (.cons (.pure _ (.int _ _)) .nil)))))))) (.cons (.pure _ (.bool _)) .nil)))
  ·obtain ⟨e4, h⟩ := if_E h
   obtain ⟨x5, e6, h⟩ := bind_E h
   obtain rfl := som_E h
   simp -implicitDefEqProofs only [go_sem, WO_store, e3, e4, e6]
   exact (fz_tup (.cons (fz_agg (.cons (.pure _ (.str _)) (.cons (.pure _ (.int _ _)) (.cons (.pure _ (.int _ _)) (.cons (.pure _ (.int _ _)) (.cons (.pure _ (.bool _)) (.cons (.pure _ (.int _ _)) (.cons (.pure _ (.int _ _)) .nil)))))))) (.cons (.pure _ (.bool _)) .nil)))
theorem t_operatorOf_c (k : Nat) (text_0 : Str) {r : Operator × Bool} (h : t_operatorOf k text_0 = some r) : PCall Tryz.prog 63 [(.str text_0)] (.tup [(.agg (Operator.cells r.1)), (.bool r.2)]) := t_operatorOf_u k text_0 h
end Go.VL
end
section
set_option maxRecDepth 8000
set_option maxHeartbeats 4000000
namespace Go.VL
open Go.Proofs
def g_Mul (x_0 : Int) (y_1 : Int) : Option (Int × Int) :=
  if (0 ≤ x_0 ∧ x_0 < 18446744073709551616) ∧ (0 ≤ y_1 ∧ y_1 < 18446744073709551616) then some ((mul64 x_0 y_1).1, (mul64 x_0 y_1).2) else none
theorem g_Mul_u (x_0 : Int) (y_1 : Int) {r : Int × Int} (h : g_Mul x_0 y_1 = some r) : PCall Tryz.prog 147 [(.int .u64 x_0), (.int .u64 y_1)] (.tup [(.int .u64 r.1), (.int .u64 r.2)]) := by
  refine PCall.of_empty (PuL.mem (.cons (.int _ _) (.cons (.int _ _) .nil))) (MCall_of_W ok147 (by simp) (W_start ?_)) (.tup _ (PuL.mem (.cons (.int _ _) (.cons (.int _ _) .nil))))
  unfold g_Mul at h
  unfold ac147
  obtain ⟨e1, h⟩ := if_E h
  simp -implicitDefEqProofs only [go_sem]
  refine mcall_pure (mul64_c x_0 y_1 (by assumption)) ?_
  obtain rfl := som_E h
  simp -implicitDefEqProofs only [go_sem]
  exact (fz_tup (.cons (.pure _ (.int _ _)) (.cons (.pure _ (.int _ _)) .nil)))
theorem g_Mul_c (x_0 : Int) (y_1 : Int) {r : Int × Int} (h : g_Mul x_0 y_1 = some r) : PCall Tryz.prog 147 [(.int .u64 x_0), (.int .u64 y_1)] (.tup [(.int .u64 r.1), (.int .u64 r.2)]) := g_Mul_u x_0 y_1 h
end Go.VL
end
section
namespace Go.VL
open Go.Proofs Go.RowKit
theorem WPar_pure {P : Program} {K : (Nat → PV) → AH → Prop} {σ : Nat → PV} {H : AH} {d : Option Nat} {k : RK} {l : List (AOp × Bool)} (p : PV) (h : ∀ H', rop k σ H' = some p)
    (hn : WPar P (fun _ => True) l K (upd σ d p) H) : WPar P (fun _ => True) ((⟨d, .r k, none⟩, false) :: l) K σ H := by
  unfold WPar
  refine .inr ⟨trivial, p, fun H' _ => ?_, hn⟩
  show (match rop k σ H' with | some q => (q = p ∧ H' = H') | none => False)
  rw [h H']; exact ⟨rfl, rfl⟩
theorem flat_one : ∀ l : List PV, (l.map fun c => [c]).flatten = l
  | [] => rfl
  | a :: l => by rw [List.map_cons, List.flatten_cons, flat_one l]; rfl
theorem chunks_one (l rest : List PV) : chunks 1 l.length (l ++ rest) = l.map fun c => [c] := by
  have h := chunks_flat' (sz := 1) (l.map fun c => [c]) rest (by simp)
  rw [List.length_map, flat_one] at h
  exact h
theorem flat_rep1 (x : PV) : ∀ m, (List.replicate m [x]).flatten = List.replicate m x
  | 0 => rfl
  | m + 1 => by rw [List.replicate_succ, List.flatten_cons, flat_rep1 x m]; rfl
theorem loop94 (x : Int) (id n : Nat) (H0 : AH) (Q : Post) (hn : n ≤ 1000000)
    (hx : ∀ σ' H', σ' 7 = .msl id 0 n n 1 → H'.obj id = some (List.replicate n (.int .i64 x)) → H'.next = H0.next → (∀ i, i ≠ id → H'.obj i = H0.obj i) → (∀ k, H'.live k = H0.live k) → Q (.exit 0) σ' H') :
    ∀ (d m : Nat) (σ : Nat → PV) (H : AH) (rest : List PV), n - m ≤ d → m ≤ n → (m = 0 → n = 0) → σ 7 = .msl id 0 n n 1 → σ 8 = .int .i64 m → H.obj id = some (List.replicate m (.int .i64 x) ++ rest) → rest.length = n - m →
      H.next = H0.next → (∀ i, i ≠ id → H.obj i = H0.obj i) → (∀ k, H.live k = H0.live k) → W Tryz.prog (.loop ac94_b0) Q σ H := by
  intro d
  induction d with
  | zero =>
    intro m σ H rest hd hm h0 h7 h8 ho hr h1 h2 h3
    have e : m = n := by omega
    subst e
    have c1 : decide ((m : Int) < (m : Int)) = false := decide_eq_false (by omega)
    refine W_loopK (fun K hK => W_start ?_)
    unfold ac94_b0
    simp -implicitDefEqProofs only [go_sem, ↓reduceIte, Nat.reduceEqDiff, h7, h8, c1]
    have hr0 : rest = [] := List.eq_nil_of_length_eq_zero (by omega)
    subst hr0
    refine hx _ _ ?_ (by rw [ho, List.append_nil]) h1 h2 h3
    simp only [upd_some, Nat.reduceEqDiff, ↓reduceIte, h7]
  | succ d ih =>
    intro m σ H rest hd hm h0 h7 h8 ho hr h1 h2 h3
    by_cases hmn : m = n
    · exact ih m σ H rest (by omega) hm h0 h7 h8 ho hr h1 h2 h3
    have c1 : decide ((m : Int) < (n : Int)) = true := decide_eq_true (by omega)
    refine W_loopK (fun K hK => W_start ?_)
    unfold ac94_b0
    simp -implicitDefEqProofs only [go_sem, ↓reduceIte, Nat.reduceEqDiff, h7, h8, c1]
    refine ⟨fun _ => True, trivial, ?_⟩
    refine WPar_pure (.int .i64 m) (fun H' => by simp [rop, AE.ev, upd, h7, h8]) ?_
    refine WPar_pure (.msl id 0 n n 1) (fun H' => by simp [rop, AE.ev, upd, h7, h8]) ?_
    refine WPar_pure (.int .i64 m) (fun H' => by simp [rop, AE.ev, upd, h7, h8]) ?_
    refine WPar_pure (.msl id m (n - m) (n - m) 1) (fun H' => by simp [rop, AE.ev, upd, slcPV, natOf, h7, h8]; omega) ?_
    refine WPar_pure (.msl id 0 n n 1) (fun H' => by simp [rop, AE.ev, upd, h7, h8]) ?_
    refine WPar_pure (.int .i64 m) (fun H' => by simp [rop, AE.ev, upd, h7, h8]) ?_
    refine WPar_pure (.msl id 0 m n 1) (fun H' => by simp [rop, AE.ev, upd, slcPV, natOf, h7, h8]; omega) ?_
    have hch : chunks 1 m (List.replicate m (.int .i64 x) ++ rest) = List.replicate m [.int .i64 x] := by
      have h := chunks_one (List.replicate m (.int .i64 x)) rest
      rw [List.length_replicate, List.map_replicate] at h
      exact h
    unfold WPar
    refine .inr ⟨trivial, .int .i64 (min m (n - m) : Nat), H.put id (List.replicate (m + min m (n - m)) (.int .i64 x) ++ rest.drop (min m (n - m))), ?_, trivial, ?_⟩
    · have hy : rowOf 1 H (PV.msl id 0 m n 1) = some (List.replicate m [.int .i64 x]) := by
        have hl : 0 + m * 1 ≤ (List.replicate m (PV.int .i64 x) ++ rest).length := by rw [List.length_append, List.length_replicate]; omega
        simp only [rowOf, ho]
        rw [if_pos ⟨trivial, hl⟩, List.drop_zero, hch]
      have hsz : szOk 1 (List.replicate m [PV.int .i64 x]) := fun cs hcs => by
        rw [(List.mem_replicate.1 hcs).2]
        exact ⟨rfl, fun c hc => by rw [List.mem_singleton.1 hc]; rfl⟩
      have hle : m + (n - m) * 1 ≤ (List.replicate m (PV.int .i64 x) ++ rest).length := by rw [List.length_append, List.length_replicate]; omega
      have hput : putCells (List.replicate m (PV.int .i64 x) ++ rest) m ((List.replicate m [PV.int .i64 x]).take (n - m)).flatten = List.replicate (m + min m (n - m)) (.int .i64 x) ++ rest.drop (min m (n - m)) := by
        rw [List.take_replicate, flat_rep1]
        unfold putCells
        rw [List.length_replicate]
        have e1 : (List.replicate m (PV.int .i64 x) ++ rest).take m = List.replicate m (PV.int .i64 x) := by
          rw [List.take_append_of_le_length (by rw [List.length_replicate]; omega), List.take_of_length_le (by rw [List.length_replicate]; omega)]
        have e2 : (List.replicate m (PV.int .i64 x) ++ rest).drop (m + min (n - m) m) = rest.drop (min m (n - m)) := by
          rw [List.drop_append, List.length_replicate, List.drop_eq_nil_of_le (by rw [List.length_replicate]; omega), List.nil_append]
          congr 1
          omega
        rw [e1, e2, List.replicate_append_replicate, Nat.min_comm m]
      simp only [WOp, nop, AE.ev, upd_some, Nat.reduceEqDiff, ↓reduceIte, hy]
      simp only [ho]
      rw [if_pos ⟨trivial, hsz, hle⟩]
      refine ⟨?_, by rw [hput]⟩
      rw [List.length_replicate]
    · have hm2 : (m : Int) + ((min m (n - m) : Nat) : Int) = ((m + min m (n - m) : Nat) : Int) := by omega
      have hw : IntKind.wrap .i64 ((m : Int) + ((min m (n - m) : Nat) : Int)) = ((m + min m (n - m) : Nat) : Int) := by
        rw [hm2]; exact IntWalk.i64_in _ (by omega)
      unfold WPar
      refine WO_start ?_
      simp -implicitDefEqProofs only [go_sem, ↓reduceIte, Nat.reduceEqDiff, h7, h8, hw]
      refine hK _ _ (ih (m + min m (n - m)) _ _ (rest.drop (min m (n - m))) (by omega) (by omega) (by omega) ?_ ?_ ?_ (by rw [List.length_drop]; omega) h1 ?_ h3)
      · simp only [upd_some, Nat.reduceEqDiff, ↓reduceIte, h7]
      · simp only [upd_some, Nat.reduceEqDiff, ↓reduceIte]
      · show (if id = id then some _ else _) = _
        rw [if_pos rfl]
      · intro i hi
        show (if i = id then some _ else _) = _
        rw [if_neg hi]; exact h2 i hi
section
variable {P : Program} {Q : Post} {σ : Nat → PV} {s : List Fm} {H : AH}
theorem WO_mk1 {d : Option Nat} {x y : AE} {l : List AOp} {k k' : IntKind} {n : Nat} (hx : x.ev σ = .int k n) (hy : y.ev σ = .int k' n) (hb : n ≤ 1000000)
    (h : WO P l s Q (upd σ d (.msl H.next 0 n n 1)) (H.new (List.replicate n (.int .i64 0)))) : WO P (⟨d, .d (.mksl 1 8 [.int .i64 0] x y), none⟩ :: l) s Q σ H := by
  show WD P (dop (.mksl 1 8 [.int .i64 0] x y) σ H) d l s Q σ
  simp only [dop, hx, hy]
  rw [if_pos ⟨by omega, by omega, by omega, by omega, rfl, by decide⟩]
  rw [Int.toNat_natCast, flat_rep1]
  exact h
theorem WO_copy {d : Option Nat} {x y : AE} {l : List AOp} {id off len cap sz : Nat} {fs : List (List PV)} {cs : List PV} (hx : x.ev σ = .msl id off len cap sz) (hy : rowOf sz H (y.ev σ) = some fs) (ho : H.obj id = some cs)
    (hsz : szOk sz fs) (hle : off + len * sz ≤ cs.length)
    (h : WO P l s Q (upd σ d (.int .i64 (min fs.length len : Nat))) (H.put id (putCells cs off (fs.take len).flatten))) : WO P (⟨d, .n (.copy sz x y), none⟩ :: l) s Q σ H := by
  show WOps P _ _ σ H
  rw [WOps_n]
  simp only [nop, hx, hy, ho]
  rw [if_pos ⟨trivial, hsz, hle⟩]
  exact h
end
theorem rep94 (x : Int) (n : Int) (hn : 0 ≤ n ∧ n ≤ 1000000) : RowMk Tryz.prog 94 [.isl [[.int .i64 x]] .exact, .int .i64 n] intL 1 (List.replicate n.toNat x) := by
  intro H
  obtain ⟨n, rfl⟩ : ∃ k : Nat, n = k := ⟨n.toNat, by omega⟩
  refine MCall_of_W ok94 (by simp) (W_start ?_)
  unfold ac94
  have c1 : decide ((n : Int) < 0) = false := decide_eq_false (by omega)
  have c2 : IntKind.wrap .u64 1 = 1 := by decide
  have c3 : IntKind.wrap .u64 (n : Int) = n := IntWalk.u64_in _ (by omega)
  have c4 : IntKind.wrap .i64 (n : Int) = n := IntWalk.i64_in _ (by omega)
  have hm : g_Mul 1 n = some ((0 : Int), (n : Int)) := by
    unfold g_Mul mul64
    rw [if_pos ⟨⟨by omega, by omega⟩, by omega, by omega⟩]
    have e1 : ((1 : Int).toNat * ((n : Nat) : Int).toNat / 18446744073709551616 : Nat) = 0 := by
      rw [Int.toNat_natCast]; show (1 * n) / _ = 0; omega
    have e2 : ((1 : Int).toNat * ((n : Nat) : Int).toNat % 18446744073709551616 : Nat) = n := by
      rw [Int.toNat_natCast]; show (1 * n) % _ = n; omega
    rw [e1, e2]; rfl
  have hc := g_Mul_c 1 n hm
  have d1 : decide ((n : Int) > 9223372036854775807) = false := decide_eq_false (by omega)
  unfold ac94_j0 ac94_j1
  simp -implicitDefEqProofs only [go_sem, ↓reduceIte, Nat.reduceEqDiff, Nat.reduceAdd, List.length_cons, List.length_nil, c1, c2, c3, c4, d1]
  refine MCall.mono (hc H) fun v H' hv => ?_
  obtain ⟨rfl, rfl⟩ := hv
  have d0 : decide ((0 : Int) > 0) = false := by decide
  simp -implicitDefEqProofs only [go_sem, ↓reduceIte, Nat.reduceEqDiff, Nat.reduceAdd, List.length_cons, List.length_nil, c1, c2, c3, c4, d0, d1]
  refine WO_mk1 (k := .i64) (k' := .i64) (n := n) (by simp only [go_sem, ↓reduceIte, Nat.reduceEqDiff]) (by simp only [go_sem, ↓reduceIte, Nat.reduceEqDiff]) (by omega) ?_
  have hob : (H'.new (List.replicate n (PV.int .i64 0))).obj H'.next = some (List.replicate n (PV.int .i64 0)) := by
    show (if H'.next = H'.next then some _ else _) = _
    rw [if_pos rfl]
  simp -implicitDefEqProofs only [go_sem, ↓reduceIte, Nat.reduceEqDiff, Nat.reduceAdd]
  refine WO_copy (id := H'.next) (off := 0) (len := n) (cap := n) (fs := [[.int .i64 x]]) (cs := List.replicate n (.int .i64 0)) (by simp only [go_sem, ↓reduceIte, Nat.reduceEqDiff]) (by simp only [go_sem, ↓reduceIte, Nat.reduceEqDiff]; rfl) hob
    (by intro cs hcs; rw [List.mem_singleton.1 hcs]; exact ⟨rfl, fun c hc => by rw [List.mem_singleton.1 hc]; rfl⟩) (by rw [List.length_replicate]; omega) ?_
  have hput : putCells (List.replicate n (PV.int .i64 0)) 0 (([[PV.int .i64 x]] : List (List PV)).take n).flatten = List.replicate (min 1 n) (.int .i64 x) ++ List.replicate (n - min 1 n) (.int .i64 0) := by
    cases n with
    | zero => rfl
    | succ n =>
      have e : min 1 (n + 1) = 1 := by omega
      rw [e, List.take_of_length_le (by simp)]
      simp [putCells, List.replicate_succ]
  rw [hput]
  have e1 : (min ([[PV.int .i64 x]] : List (List PV)).length n : Nat) = min 1 n := rfl
  rw [e1]
  simp -implicitDefEqProofs only [go_sem, ↓reduceIte, Nat.reduceEqDiff, Nat.reduceAdd]
  have hput2 : ∀ cs : List PV, (((H'.new (List.replicate n (PV.int .i64 0))).put H'.next cs).obj H'.next) = some cs := fun cs => by
    show (if H'.next = H'.next then some _ else _) = _
    rw [if_pos rfl]
  refine loop94 x H'.next n ((H'.new (List.replicate n (PV.int .i64 0)))) _ (by omega) (fun σ' H2 k7 ko kn kob kl => ?_) n (min 1 n) _ _ (List.replicate (n - min 1 n) (.int .i64 0)) (by omega) (by omega) (by omega) ?_ ?_ (hput2 _) (by rw [List.length_replicate]) rfl
    (fun i hi => ?_) (fun k => rfl)
  · show WE Tryz.prog (.exit 0) _ _ σ' H2
    simp -implicitDefEqProofs only [go_sem, ↓reduceIte, Nat.reduceEqDiff, Nat.reduceAdd, k7]
    refine ⟨[H'.next], .inr ⟨H'.next, n, [], rfl, by rw [List.length_replicate], by rw [List.length_replicate]; omega, by rw [kn]; exact Nat.lt_succ_self _, ?_, ?_⟩, fun i hi => .inr (by rw [List.mem_singleton.1 hi]; exact Nat.le_refl _), ⟨by rw [kn]; exact Nat.le_succ _, fun i hi _ => ?_⟩, fun c3 hc => ?_⟩
    · rw [ko, List.append_nil, List.map_replicate]
      exact congrArg some (flat_rep1 (PV.int .i64 x) n).symm
    · rw [List.length_replicate]; simp
    · rw [kob i (by omega)]
      show (if i = H'.next then some _ else _) = _
      rw [if_neg (by omega)]
    · cases c3 with
      | unk => exact hc
      | tok t => exact ⟨by rw [kl]; exact hc.1, by rw [kn]; exact Nat.lt_succ_of_lt hc.2⟩
      | nil => trivial
      | exact => trivial
  · simp only [upd_some, Nat.reduceEqDiff, ↓reduceIte]
  · simp only [upd_some, Nat.reduceEqDiff, ↓reduceIte]
  · show (if i = H'.next then some _ else _) = _
    rw [if_neg hi]
def repOne (l : List Int) (n : Int) : List Int := List.replicate n.toNat (l.headD 0)
theorem rep94c (l : List Int) (n : Int) (h : l.length = 1 ∧ 0 ≤ n ∧ n ≤ 1000000) : RowMk Tryz.prog 94 [.isl (l.map intL) .exact, .int .i64 n] intL 1 (repOne l n) := by
  match l, h with
  | [x], h => exact rep94 x n h.2
end Go.VL
end
section
set_option maxRecDepth 8000
set_option maxHeartbeats 4000000
namespace Go.VL
open Go.Proofs
def t_parents_b0 : Nat → (List Int) → (List Int) → Int → (List Int) → Int → Int → Option (((List Int) × (List Int)))
  | 0, _, _, _, _, _, _ => none
  | k + 1, up_4, place_5, i_6, t_25, t_26, t_27 =>
    cond (decide (t_27 < t_26)) (if 0 ≤ t_27 then Option.bind (t_25[t_27.toNat]?) fun x21 => if 0 ≤ x21 then Option.bind (up_4[x21.toNat]?) fun x24 => Option.bind (place_5[x21.toNat]?) fun x41 => t_parents_b0 k (up_4.set x21.toNat i_6) (place_5.set x21.toNat t_27) i_6 t_25 t_26 (IntKind.wrap .i64 (t_27 + 1)) else none else none) (some ((up_4, place_5)))
def t_parents_b0l : List Nat := [8, 9, 27, 28, 29, 30, 31, 32, 33, 34, 35, 36, 37, 38, 39, 40]
theorem t_parents_b0_W : ∀ (k : Nat) (v_up_4 : PV) (ids_up_4 : List Nat) (v_place_5 : PV) (ids_place_5 : List Nat) (M : List Nat) (up_4 : List Int) (place_5 : List Int) (i_6 : Int) (t_25 : List Int) (t_26 : Int) (t_27 : Int) (σ0 σ : Nat → PV) (H0 H : AH) (f0 : Fr t_parents_b0l σ0 σ) (hf0 : HF M H0 H) (sl : σ 4 = v_up_4 ∧ σ 5 = v_place_5 ∧ σ 6 = (.int .i64 i_6) ∧ σ 25 = (.isl (t_25.map intL) .unk) ∧ σ 26 = (.int .i64 t_26) ∧ σ 27 = (.int .i64 t_27)) (r_up_4 : RowN H intL 1 up_4 v_up_4 ids_up_4) (nw_up_4 : Nw H0 M ids_up_4) (r_place_5 : RowN H intL 1 place_5 v_place_5 ids_place_5) (nw_place_5 : Nw H0 M ids_place_5) (dj_up_4_place_5 : Dj ids_up_4 ids_place_5) (o : ((List Int) × (List Int))) (h : t_parents_b0 k up_4 place_5 i_6 t_25 t_26 t_27 = some o) (Q : Post) (q0 : ∀ (p : (List Int) × (List Int)) (v0 : PV) (ids0 : List Nat) (v1 : PV) (ids1 : List Nat) (σ' : Nat → PV) (H' : AH), o = p → Fr t_parents_b0l σ0 σ' → HF M H0 H' → (σ' 4 = v0 ∧ σ' 5 = v1) → RowN H' intL 1 p.1 v0 ids0 → Nw H0 M ids0 → RowN H' intL 1 p.2 v1 ids1 → Nw H0 M ids1 → Dj ids0 ids1 → Q (.exit 2) σ' H') , W Tryz.prog (.loop ac50_b0) Q σ H := by
  intro k
  induction k with
  | zero => intro v_up_4 ids_up_4 v_place_5 ids_place_5 M up_4 place_5 i_6 t_25 t_26 t_27 σ0 σ H0 H f0 hf0 sl r_up_4 nw_up_4 r_place_5 nw_place_5 dj_up_4_place_5 o h Q q0; simp only [t_parents_b0, reduceCtorEq] at h
  | succ k ih =>
    intro v_up_4 ids_up_4 v_place_5 ids_place_5 M up_4 place_5 i_6 t_25 t_26 t_27 σ0 σ H0 H f0 hf0 sl r_up_4 nw_up_4 r_place_5 nw_place_5 dj_up_4_place_5 o h Q q0
    obtain ⟨s4, s5, s6, s25, s26, s27⟩ := sl
    have hle0 := hf0.1
    unfold t_parents_b0 at h
    refine W_loopK (fun K hK => W_start ?_)
    unfold ac50_b0
    rcases cond_E h with ⟨e19, h⟩ | ⟨e19, h⟩
    ·obtain ⟨e20, h⟩ := if_E h
     obtain ⟨x21, e22, h⟩ := bind_E h
     obtain ⟨e23, h⟩ := if_E h
     obtain ⟨x24, e25, h⟩ := bind_E h
     obtain ⟨w26, w27, hidw26, hil, w28, hC, hL, hD, hI⟩ := RowN.content r_up_4 e25
     have w29 := ne_next hil
     have w30 := ne_add hil
     have w31 : idxPV 1 v_up_4 (.int .i64 x21) = some (.ref w26 (x21.toNat)) := by simpa using hI .i64 x21 (by first | omega | decide) (by first | rfl | omega)
     have w26c0 : w27[x21.toNat]? = some (.int .i64 x24) := by simpa using hC 0 _ rfl
     clear hC hL hD hI
     simp -implicitDefEqProofs only [go_sem, s4, s5, s6, s25, s26, s27, e19, e20, e22, w31]
     refine WO_rowset (f := intL) (id := w26) (o := x21.toNat) (i := x21.toNat) (j := 0) (a := x24) (y := i_6) (vs := [(.int .i64 i_6)]) (by simp -implicitDefEqProofs only [go_sem]) hidw26 (by omega) (by repeat (first | exact r_up_4 | apply RowN.new | refine RowN.put ?_ (fun hm => by have := RowN.lt r_up_4 _ hm; omega))) e25 (by simp -implicitDefEqProofs only [go_sem]) rfl rfl (by first | decide | (simp only [List.length_cons, List.length_nil]; omega)) rfl (fun H34 r35 hf37 ok38 => ?_)
     have le := hf37.1
     have r39 := RowN.hf (by repeat (first | exact r_place_5 | apply RowN.new | refine RowN.put ?_ (fun hm => by have := RowN.lt r_place_5 _ hm; omega))) hf37 (Dj.symm dj_up_4_place_5)
     obtain ⟨x41, e42, h⟩ := bind_E h
     obtain ⟨w43, w44, hidw43, hil, w45, hC, hL, hD, hI⟩ := RowN.content r39 e42
     have w46 := ne_next hil
     have w47 := ne_add hil
     have w48 : idxPV 1 v_place_5 (.int .i64 x21) = some (.ref w43 (x21.toNat)) := by simpa using hI .i64 x21 (by first | omega | decide) (by first | rfl | omega)
     have w43c0 : w44[x21.toNat]? = some (.int .i64 x41) := by simpa using hC 0 _ rfl
     clear hC hL hD hI
     simp -implicitDefEqProofs only [go_sem, w48]
     refine WO_rowset (f := intL) (id := w43) (o := x21.toNat) (i := x21.toNat) (j := 0) (a := x41) (y := t_27) (vs := [(.int .i64 t_27)]) (by simp -implicitDefEqProofs only [go_sem]) hidw43 (by omega) (by repeat (first | exact r39 | apply RowN.new | refine RowN.put ?_ (fun hm => by have := RowN.lt r39 _ hm; omega))) e42 (by simp -implicitDefEqProofs only [go_sem]) rfl rfl (by first | decide | (simp only [List.length_cons, List.length_nil]; omega)) rfl (fun H51 r52 hf54 ok55 => ?_)
     have le := hf54.1
     have r56 := RowN.hf (by repeat (first | exact r35 | apply RowN.new | refine RowN.put ?_ (fun hm => by have := RowN.lt r35 _ hm; omega))) hf54 dj_up_4_place_5
     simp -implicitDefEqProofs only [go_sem, s27]
     refine hK _ _ ?_
     exact ih v_up_4 ids_up_4 v_place_5 ids_place_5 M (up_4.set x21.toNat i_6) (place_5.set x21.toNat t_27) i_6 t_25 t_26 (IntKind.wrap .i64 (t_27 + 1)) _ _ _ _ (by repeat (first | exact f0 | refine Fr.upd (by decide) ?_)) (by repeat (first | exact hf0 | refine HF.new ?_ | refine HF.tokd ?_ | refine HF.used ?_ | refine HF.put (by first | (right; omega) | (left; simp only [List.mem_cons, true_or, or_true])) ?_ | refine HF.via hf37 nw_up_4 ?_ | refine HF.via hf54 nw_place_5 ?_)) (by simp -implicitDefEqProofs only [go_sem, s4, s5, s6, s25, s26, and_self]) (by repeat (first | exact r56 | apply RowN.new | refine RowN.put ?_ (fun hm => by have := RowN.lt r56 _ hm; omega))) nw_up_4 (by repeat (first | exact r52 | apply RowN.new | refine RowN.put ?_ (fun hm => by have := RowN.lt r52 _ hm; omega))) nw_place_5 dj_up_4_place_5 _ h _ q0
    ·obtain rfl := som_E h
     simp -implicitDefEqProofs only [go_sem, s26, s27, e19]
     exact q0 _ v_up_4 ids_up_4 v_place_5 ids_place_5 _ _ rfl (by repeat (first | exact f0 | refine Fr.upd (by decide) ?_)) (by repeat (first | exact hf0 | refine HF.new ?_ | refine HF.tokd ?_ | refine HF.used ?_ | refine HF.put (by first | (right; omega) | (left; simp only [List.mem_cons, true_or, or_true])) ?_)) (by simp -implicitDefEqProofs only [go_sem, s4, s5, and_self]) (by repeat (first | exact r_up_4 | apply RowN.new | refine RowN.put ?_ (fun hm => by have := RowN.lt r_up_4 _ hm; omega))) nw_up_4 (by repeat (first | exact r_place_5 | apply RowN.new | refine RowN.put ?_ (fun hm => by have := RowN.lt r_place_5 _ hm; omega))) nw_place_5 dj_up_4_place_5
def t_parents_b1 : Nat → (List Int) → (List Int) → (List Nd) → Int → Int → Option (((List Int) × (List Int)))
  | 0, _, _, _, _, _ => none
  | k + 1, up_4, place_5, t_17, t_18, t_19 =>
    cond (decide (t_19 < t_18)) (if 0 ≤ t_19 then Option.bind (t_17[t_19.toNat]?) fun x17 => Option.bind (t_parents_b0 k up_4 place_5 t_19 x17.args (x17.args.length : Int) 0) (fun p60 => t_parents_b1 k p60.1 p60.2 t_17 t_18 (IntKind.wrap .i64 (t_19 + 1))) else none) (some ((up_4, place_5)))
def t_parents_b1l : List Nat := [6, 7, 8, 9, 19, 20, 21, 22, 23, 24, 25, 26, 27, 28, 29, 30, 31, 32, 33, 34, 35, 36, 37, 38, 39, 40, 41]
theorem t_parents_b1_W : ∀ (k : Nat) (v_up_4 : PV) (ids_up_4 : List Nat) (v_place_5 : PV) (ids_place_5 : List Nat) (M : List Nat) (up_4 : List Int) (place_5 : List Int) (t_17 : List Nd) (t_18 : Int) (t_19 : Int) (σ0 σ : Nat → PV) (H0 H : AH) (f0 : Fr t_parents_b1l σ0 σ) (hf0 : HF M H0 H) (sl : σ 4 = v_up_4 ∧ σ 5 = v_place_5 ∧ σ 17 = (.isl (t_17.map Nd.cells) .unk) ∧ σ 18 = (.int .i64 t_18) ∧ σ 19 = (.int .i64 t_19)) (r_up_4 : RowN H intL 1 up_4 v_up_4 ids_up_4) (nw_up_4 : Nw H0 M ids_up_4) (r_place_5 : RowN H intL 1 place_5 v_place_5 ids_place_5) (nw_place_5 : Nw H0 M ids_place_5) (dj_up_4_place_5 : Dj ids_up_4 ids_place_5) (o : ((List Int) × (List Int))) (h : t_parents_b1 k up_4 place_5 t_17 t_18 t_19 = some o) (Q : Post) (q0 : ∀ (p : (List Int) × (List Int)) (v0 : PV) (ids0 : List Nat) (v1 : PV) (ids1 : List Nat) (σ' : Nat → PV) (H' : AH), o = p → Fr t_parents_b1l σ0 σ' → HF M H0 H' → (σ' 4 = v0 ∧ σ' 5 = v1) → RowN H' intL 1 p.1 v0 ids0 → Nw H0 M ids0 → RowN H' intL 1 p.2 v1 ids1 → Nw H0 M ids1 → Dj ids0 ids1 → Q (.exit 0) σ' H') , W Tryz.prog (.loop ac50_b1) Q σ H := by
  intro k
  induction k with
  | zero => intro v_up_4 ids_up_4 v_place_5 ids_place_5 M up_4 place_5 t_17 t_18 t_19 σ0 σ H0 H f0 hf0 sl r_up_4 nw_up_4 r_place_5 nw_place_5 dj_up_4_place_5 o h Q q0; simp only [t_parents_b1, reduceCtorEq] at h
  | succ k ih =>
    intro v_up_4 ids_up_4 v_place_5 ids_place_5 M up_4 place_5 t_17 t_18 t_19 σ0 σ H0 H f0 hf0 sl r_up_4 nw_up_4 r_place_5 nw_place_5 dj_up_4_place_5 o h Q q0
    obtain ⟨s4, s5, s17, s18, s19⟩ := sl
    have hle0 := hf0.1
    unfold t_parents_b1 at h
    refine W_loopK (fun K hK => W_start ?_)
    unfold ac50_b1
    rcases cond_E h with ⟨e15, h⟩ | ⟨e15, h⟩
    ·obtain ⟨e16, h⟩ := if_E h
     obtain ⟨x17, e18, h⟩ := bind_E h
     simp -implicitDefEqProofs only [go_sem, s17, s18, s19, e15, e16, e18]
     rw [WO_store]
     simp -implicitDefEqProofs only [go_sem]
     obtain ⟨o58, h59, h⟩ := bind_E h
     refine t_parents_b0_W k v_up_4 ids_up_4 v_place_5 ids_place_5 (ids_up_4 ++ (ids_place_5 ++ [])) up_4 place_5 t_19 x17.args (x17.args.length : Int) 0 _ _ _ _ (Fr.refl _ _) (HF.refl _ _) (by simp -implicitDefEqProofs only [go_sem, s4, s5, and_self]) (by repeat (first | exact r_up_4 | apply RowN.new | refine RowN.put ?_ (fun hm => by have := RowN.lt r_up_4 _ hm; omega))) (fun i hi => Or.inl (by simp only [List.mem_append, hi, true_or])) (by repeat (first | exact r_place_5 | apply RowN.new | refine RowN.put ?_ (fun hm => by have := RowN.lt r_place_5 _ hm; omega))) (fun i hi => Or.inl (by simp only [List.mem_append, hi, true_or, or_true])) dj_up_4_place_5 _ h59 _ ?_
     ·rintro p60 v64 ids65 v69 ids70 σ' H63 eo fr61 hf62 ⟨s68, s73⟩ r66 nw67 r71 nw72 dj74
      rw [eo] at h
      have s75 : σ' 17 = (.isl (t_17.map Nd.cells) .unk) := (fr61 17 (by decide)).trans (by simp -implicitDefEqProofs only [go_sem, s17])
      have s76 : σ' 18 = (.int .i64 t_18) := (fr61 18 (by decide)).trans (by simp -implicitDefEqProofs only [go_sem, s18])
      have s77 : σ' 19 = (.int .i64 t_19) := (fr61 19 (by decide)).trans (by simp -implicitDefEqProofs only [go_sem, s19])
      have le := hf62.1
      simp only [AH.new_next, AH.put_next] at le
      simp -implicitDefEqProofs only [go_sem, s77]
      refine hK _ _ ?_
      exact ih v64 ids65 v69 ids70 M p60.1 p60.2 t_17 t_18 (IntKind.wrap .i64 (t_19 + 1)) _ _ _ _ (by repeat (first | exact f0 | refine Fr.upd (by decide) ?_ | refine Fr.via fr61 (by decide) ?_)) (by repeat (first | exact hf0 | refine HF.new ?_ | refine HF.tokd ?_ | refine HF.used ?_ | refine HF.put (by first | (right; omega) | (left; simp only [List.mem_cons, true_or, or_true])) ?_ | refine HF.via hf62 (List.forall_mem_append.2 ⟨nw_up_4, (List.forall_mem_append.2 ⟨nw_place_5, (fun _ h => absurd h List.not_mem_nil)⟩)⟩) ?_)) (by simp -implicitDefEqProofs only [go_sem, s68, s73, s75, s76, and_self]) (by repeat (first | exact r66 | apply RowN.new | refine RowN.put ?_ (fun hm => by have := RowN.lt r66 _ hm; omega))) (Nw.via (List.forall_mem_append.2 ⟨nw_up_4, (List.forall_mem_append.2 ⟨nw_place_5, (fun _ h => absurd h List.not_mem_nil)⟩)⟩) (by first | omega | (simp only [AH.new_next, AH.put_next]; omega)) nw67) (by repeat (first | exact r71 | apply RowN.new | refine RowN.put ?_ (fun hm => by have := RowN.lt r71 _ hm; omega))) (Nw.via (List.forall_mem_append.2 ⟨nw_up_4, (List.forall_mem_append.2 ⟨nw_place_5, (fun _ h => absurd h List.not_mem_nil)⟩)⟩) (by first | omega | (simp only [AH.new_next, AH.put_next]; omega)) nw72) dj74 _ h _ q0
    ·obtain rfl := som_E h
     simp -implicitDefEqProofs only [go_sem, s18, s19, e15]
     exact q0 _ v_up_4 ids_up_4 v_place_5 ids_place_5 _ _ rfl (by repeat (first | exact f0 | refine Fr.upd (by decide) ?_)) (by repeat (first | exact hf0 | refine HF.new ?_ | refine HF.tokd ?_ | refine HF.used ?_ | refine HF.put (by first | (right; omega) | (left; simp only [List.mem_cons, true_or, or_true])) ?_)) (by simp -implicitDefEqProofs only [go_sem, s4, s5, and_self]) (by repeat (first | exact r_up_4 | apply RowN.new | refine RowN.put ?_ (fun hm => by have := RowN.lt r_up_4 _ hm; omega))) nw_up_4 (by repeat (first | exact r_place_5 | apply RowN.new | refine RowN.put ?_ (fun hm => by have := RowN.lt r_place_5 _ hm; omega))) nw_place_5 dj_up_4_place_5
def t_parents (k : Nat) (e_0 : List Nd) : Option ((List Int) × (List Int)) :=
  if [(-1)].length = 1 ∧ 0 ≤ (e_0.length : Int) ∧ (e_0.length : Int) ≤ 1000000 then if 0 ≤ (e_0.length : Int) ∧ (e_0.length : Int) ≤ 1099511627776 ∧ 8 * (e_0.length : Int) ≤ 1099511627776 then Option.bind (t_parents_b1 k (repOne [(-1)] (e_0.length : Int) : List Int) (List.replicate e_0.length 0) e_0 (e_0.length : Int) 0) (fun p80 => some (p80.1, p80.2)) else none else none
theorem t_parents_u (k : Nat) (e_0 : List Nd) {r : (List Int) × (List Int)} (h : t_parents k e_0 = some r) : PCall Tryz.prog 50 [(.isl (e_0.map Nd.cells) .unk)] (.tup [(.isl (r.1.map intL) .unk), (.isl (r.2.map intL) .unk)]) := by
  refine PCall.of_empty (PuL.mem (.cons (pu_sl Nd.pu _) .nil)) (MCall_of_W ok50 (by simp) (W_start ?_)) (.tup _ (PuL.mem (.cons (pu_sl pu_intL _) (.cons (pu_sl pu_intL _) .nil))))
  unfold t_parents at h
  unfold ac50
  obtain ⟨e13, h⟩ := if_E h
  obtain ⟨e14, h⟩ := if_E h
  simp -implicitDefEqProofs only [go_sem]
  refine WS_par2 (par_rows2 (a := 3) (b := 6) (f := intL) (sz := 1) (xs := (repOne [(-1)] (e_0.length : Int) : List Int)) (g := intL) (sz2 := 1) (ys := (List.replicate e_0.length 0)) (fun x y i => match i with | 0 => (.isl ([(-1)].map intL) .exact) | 1 => (.isl (e_0.map Nd.cells) .unk) | 2 => (.int .i64 (e_0.length : Int)) | 3 => x | 4 => (.isl (e_0.map Nd.cells) .unk) | 5 => (.int .i64 (e_0.length : Int)) | 6 => y | 7 => x | _ => ud) rfl (by decide) rfl rfl (fun _ _ => rfl) (fun _ _ => rfl) (by
    intro x x' y i h1 h2
    rcases i with _ | i
    · first | rfl | exact absurd rfl h1 | exact absurd h2 (by decide)
    rcases i with _ | i
    · first | rfl | exact absurd rfl h1 | exact absurd h2 (by decide)
    rcases i with _ | i
    · first | rfl | exact absurd rfl h1 | exact absurd h2 (by decide)
    rcases i with _ | i
    · first | rfl | exact absurd rfl h1 | exact absurd h2 (by decide)
    rcases i with _ | i
    · first | rfl | exact absurd rfl h1 | exact absurd h2 (by decide)
    rcases i with _ | i
    · first | rfl | exact absurd rfl h1 | exact absurd h2 (by decide)
    rcases i with _ | i
    · first | rfl | exact absurd rfl h1 | exact absurd h2 (by decide)
    rcases i with _ | i
    · first | rfl | exact absurd rfl h1 | exact absurd h2 (by decide)
    rfl) (by
    intro x y y' i h1 h2
    rcases i with _ | i
    · first | rfl | exact absurd rfl h1 | exact absurd h2 (by decide)
    rcases i with _ | i
    · first | rfl | exact absurd rfl h1 | exact absurd h2 (by decide)
    rcases i with _ | i
    · first | rfl | exact absurd rfl h1 | exact absurd h2 (by decide)
    rcases i with _ | i
    · first | rfl | exact absurd rfl h1 | exact absurd h2 (by decide)
    rcases i with _ | i
    · first | rfl | exact absurd rfl h1 | exact absurd h2 (by decide)
    rcases i with _ | i
    · first | rfl | exact absurd rfl h1 | exact absurd h2 (by decide)
    rcases i with _ | i
    · first | rfl | exact absurd rfl h1 | exact absurd h2 (by decide)
    rcases i with _ | i
    · first | rfl | exact absurd rfl h1 | exact absurd h2 (by decide)
    rfl) (by
    intro x y
    refine ⟨.inr ⟨rfl, fun H => by (try simp -implicitDefEqProofs only [WOp, List.map, go_sem]); first | done | exact ⟨rfl, rfl⟩⟩, ?_⟩
    refine ⟨.inr ⟨rfl, fun H => by (try simp -implicitDefEqProofs only [WOp, List.map, go_sem]); first | done | exact ⟨rfl, rfl⟩⟩, ?_⟩
    refine ⟨.inr ⟨rfl, fun H => by (try simp -implicitDefEqProofs only [WOp, List.map, go_sem]); first | done | exact ⟨rfl, rfl⟩⟩, ?_⟩
    refine ⟨.inl rfl, ?_⟩
    refine ⟨.inr ⟨rfl, fun H => by (try simp -implicitDefEqProofs only [WOp, List.map, go_sem]); first | done | exact ⟨rfl, rfl⟩⟩, ?_⟩
    refine ⟨.inr ⟨rfl, fun H => by (try simp -implicitDefEqProofs only [WOp, List.map, go_sem]); first | done | exact ⟨rfl, rfl⟩⟩, ?_⟩
    refine ⟨.inl rfl, ?_⟩
    refine ⟨.inr ⟨rfl, fun H => by (try simp -implicitDefEqProofs only [WOp, List.map, go_sem]); first | done | exact ⟨rfl, rfl⟩⟩, ?_⟩
    exact trivial) (fun y H => ⟨trivial, mk_call (rep94c [(-1)] (e_0.length : Int) e13) (by simp -implicitDefEqProofs only [slF, evs, List.map, List.nil_append, List.append_nil, go_sem])⟩) (fun x H => ⟨trivial, mk_mksl (f := intL) (k := .i64) (k' := .i64) (n := (e_0.length : Int)) 0 rfl (by simp -implicitDefEqProofs only [slF, List.map, go_sem]) (by simp -implicitDefEqProofs only [slF, List.map, go_sem]) e14 (by decide)⟩) (fun v1 v8 ids2 ids9 H3 r4 r10 dj12 nw5 nw11 hf6 ok7 => ?_))
  simp only [slF, List.length_cons, List.length_nil, Nat.reduceAdd]
  have le := hf6.1
  simp -implicitDefEqProofs only [go_sem]
  obtain ⟨o78, h79, h⟩ := bind_E h
  refine t_parents_b1_W k v1 ids2 v8 ids9 (ids2 ++ (ids9 ++ [])) (repOne [(-1)] (e_0.length : Int) : List Int) (List.replicate e_0.length 0) e_0 (e_0.length : Int) 0 _ _ _ _ (Fr.refl _ _) (HF.refl _ _) (by simp -implicitDefEqProofs only [go_sem, and_self]) (by repeat (first | exact r4 | apply RowN.new | refine RowN.put ?_ (fun hm => by have := RowN.lt r4 _ hm; omega))) (fun i hi => Or.inl (by simp only [List.mem_append, hi, true_or])) (by repeat (first | exact r10 | apply RowN.new | refine RowN.put ?_ (fun hm => by have := RowN.lt r10 _ hm; omega))) (fun i hi => Or.inl (by simp only [List.mem_append, hi, true_or, or_true])) dj12 _ h79 _ ?_
  ·rintro p80 v84 ids85 v89 ids90 σ' H83 eo fr81 hf82 ⟨s88, s93⟩ r86 nw87 r91 nw92 dj94
   rw [eo] at h
   have le := hf82.1
   obtain rfl := som_E h
   simp -implicitDefEqProofs only [go_sem, s88, s93]
   exact (fz_tup (.cons (RowN.fz pu_intL (by repeat (first | exact r86 | apply RowN.new | refine RowN.put ?_ (fun hm => by have := RowN.lt r86 _ hm; omega)))) (.cons (RowN.fz pu_intL (by repeat (first | exact r91 | apply RowN.new | refine RowN.put ?_ (fun hm => by have := RowN.lt r91 _ hm; omega)))) .nil)))
theorem t_parents_c (k : Nat) (e_0 : List Nd) {c0 : Ck} {r : (List Int) × (List Int)} (h : t_parents k e_0 = some r) : PCall Tryz.prog 50 [(.isl (e_0.map Nd.cells) c0)] (.tup [(.isl (r.1.map intL) .unk), (.isl (r.2.map intL) .unk)]) := (t_parents_u k e_0 h).wk (.isl .nil)
end Go.VL
end
section
namespace Go.VL
open Go.Proofs Go.RowKit
set_option maxRecDepth 100000
theorem enters141 : Enters Tryz.prog 141 := ⟨_, Tryz.func141, rfl, by kernel_rfl⟩
theorem backs141 : Backs Tryz.prog 141 1 false := by
  intro l m bx n J Jx W hn hc hY h0
  refine callsIn_of_wp Tryz.func141 rfl trivial ?_ rfl
  simp only [Tryz.ntmps141, List.size_toArray, List.length_cons, List.length_nil, Nat.reduceAdd, Nat.reduceSub, Array.replicate_succ, Array.replicate_zero, List.push_toArray, List.append_toArray, List.nil_append, List.cons_append]
  obtain ⟨ad0, cap0, hc0⟩ := hc
  gi_wp2
  gi_loopw [3] (fun v3 wr => ∃ k : Nat, v3 = .int .i64 ((k : Int) - 1) ∧ k ≤ n ∧ J k wr) (fun v3 wr => (RowKit.intOf v3 + 1).toNat)
  case atStart => exact ⟨n, rfl, Nat.le_refl _, h0⟩
  case round =>
    obtain ⟨k, rfl, hk, hJ⟩ := hrel
    cases k with
    | zero =>
      have c1 : ¬ (0 : Int) ≤ ((0 : Nat) : Int) - 1 := by omega
      gi_wp2
      go_end0
      exact ⟨⟨_, rfl⟩, .inl hJ⟩
    | succ k =>
      obtain ⟨b, o, cap, vs, hb, hkn, hvs, hld, fn, tmps, assign, body, hy, hR⟩ := hY k wr hJ
      have e1 : ((k + 1 : Nat) : Int) - 1 = (k : Int) := by omega
      rw [e1]
      have c1 : (0 : Int) ≤ (k : Int) := by omega
      have c2 : (k : Int) < (n : Int) := by omega
      have hld' : wr.cell? ⟨b, o + k, none⟩ = some (elemV false vs) := by
        have := hld 0 (elemV false vs) (by simp [elemV, hvs])
        simpa using this
      clear hld
      generalize elemV false vs = v at *
      gi_wp2
      refine ⟨fun hd => absurd hd (by simp [Fence.wide]), (roundIn_any hR).mono ?_⟩
      rintro e W' (⟨rfl, hJ'⟩ | ⟨rfl, hJx⟩)
      · gi_wp2
        go_roundw
        case rel => exact ⟨k, rfl, by omega, hJ'⟩
        case measure => simp [RowKit.intOf]
      · gi_wp2
        refine bodyPost_ret (results_none rfl _ _ _) rfl ?_
        exact ⟨⟨_, rfl⟩, .inr hJx⟩
end Go.VL
end
