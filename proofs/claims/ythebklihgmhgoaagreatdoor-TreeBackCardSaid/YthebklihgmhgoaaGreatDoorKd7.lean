/- Part 7 of the proof: what the theorem rests on. -/
import Derived.Test.YthebklihgmhgoaaGreatDoorKd6
set_option linter.unusedVariables false
set_option linter.unusedSectionVars false
set_option linter.unusedSimpArgs false
section
namespace Go.VL
open Tm
theorem b_EqualInts_ev (a b : List Int) (hl : a.length <= 1099511627776) : Ev (fun k => b_EqualInts k a b) (decide (a = b)) := by
  unfold b_EqualInts; by_cases hab : a.length = b.length
  · refine Ev.cF (by simp [hab]) ?_; have key : Ev (fun k => b_EqualInts_b0 k a b ((0 : Nat) : Int)) (if a.drop 0 = b.drop 0 then .inl () else .inr false) := by
      refine down0 (len := a.length) (p := fun i => Ev (fun k => b_EqualInts_b0 k a b (i : Int)) (if a.drop i = b.drop i then .inl () else .inr false)) ?_ fun i hi ih => ?_
      · refine Ev.succ ?_; simp only [b_EqualInts_b0]; refine Ev.cF (dnlt _) (Ev.some' ?_); simp [hab]
      · have hi' : i < b.length := hab ▸ hi; refine Ev.succ ?_; simp only [b_EqualInts_b0, Int.toNat_natCast, getE hi, getE hi', Option.bind_some, nn, if_true, dlt hi, cond_true, wsucc hi hl]; have e1 : List.drop i a = a[i] :: List.drop (i + 1) a := List.drop_eq_getElem_cons hi; have e2 : List.drop i b = b[i] :: List.drop (i + 1) b := List.drop_eq_getElem_cons hi'; by_cases h : a[i] = b[i]
        · refine Ev.cF (by rw [bne_eq_false_iff_eq]; exact h) (ih.to ?_); rw [e1, e2]; simp only [h, List.cons.injEq, true_and]
        · refine Ev.cT (by rw [bne_iff_ne]; exact h) (Ev.some' ?_); rw [if_neg]; intro e; rw [e1, e2, List.cons.injEq] at e; exact h e.1
    refine Ev.bind key ?_; by_cases h : a = b
    · subst h; simp only [if_true, sum_L, decide_true]; exact Ev.some
    · simp only [List.drop_zero, h, if_false, sum_R, decide_false]; exact Ev.some
  · refine Ev.cT (by simp; omega) (Ev.some' ?_); exact (decide_eq_false fun e => hab (by rw [e])).symm
theorem b_SameNode_ev (x y : Nd) (h1 : x.names.length <= 1000000) (h2 : x.args.length <= 1000000) : Ev (fun k => b_SameNode k x y) (decide (x = y)) := by
  unfold b_SameNode; obtain ⟨k1, n1, t1, m1, a1⟩ := x; obtain ⟨k2, n2, t2, m2, a2⟩ := y; simp only at h1 h2; simp only [Nd.mk.injEq]; by_cases e1 : k1 = k2
  · refine Ev.cT (by rw [beq_iff_eq]; exact e1) ?_; by_cases e2 : n1 = n2
    · refine Ev.cT (by rw [beq_iff_eq]; exact e2) ?_; by_cases e3 : t1 = t2
      · refine Ev.cT (by rw [beq_iff_eq]; exact e3) (Ev.bind (b_EqualTexts_ev m1 m2 (by omega)) ?_); by_cases e4 : m1 = m2
        · refine Ev.cT (decide_eq_true e4) (Ev.bind (b_EqualInts_ev a1 a2 (by omega)) (Ev.some' ?_)); simp [e1, e2, e3, e4]
        · exact Ev.cF (decide_eq_false e4) (Ev.some' (by simp [e4]))
      · exact Ev.cF (by rw [beq_eq_false_iff_ne]; exact e3) (Ev.some' (by simp [e3]))
    · exact Ev.cF (by rw [beq_eq_false_iff_ne]; exact e2) (Ev.some' (by simp [e2]))
  · exact Ev.cF (by rw [beq_eq_false_iff_ne]; exact e1) (Ev.some' (by simp [e1]))
theorem b_SameExpr_ev {a b : List Nd} (hL : Lite a) : Ev (fun k => b_SameExpr k a b) (decide (a = b)) := by
  have hl := hL.len; unfold b_SameExpr; by_cases hab : a.length = b.length
  · refine Ev.cF (by simp [hab]) ?_; have key : Ev (fun k => b_SameExpr_b0 k a b ((0 : Nat) : Int)) (if a.drop 0 = b.drop 0 then .inl () else .inr false) := by
      refine down0 (len := a.length) (p := fun i => Ev (fun k => b_SameExpr_b0 k a b (i : Int)) (if a.drop i = b.drop i then .inl () else .inr false)) ?_ fun i hi ih => ?_
      · refine Ev.succ ?_; simp only [b_SameExpr_b0]; refine Ev.cF (dnlt _) (Ev.some' ?_); simp [hab]
      · have hi' : i < b.length := hab ▸ hi; refine Ev.succ ?_; obtain ⟨_, h2, h3⟩ := hL.nd i _ (getE hi); simp only [b_SameExpr_b0, Int.toNat_natCast, getE hi, getE hi', Option.bind_some, nn, if_true, dlt hi, cond_true, wsucc hi (show a.length <= 1099511627776 by omega)]; have e1 : List.drop i a = a[i] :: List.drop (i + 1) a := List.drop_eq_getElem_cons hi; have e2 : List.drop i b = b[i] :: List.drop (i + 1) b := List.drop_eq_getElem_cons hi'; refine Ev.bind (b_SameNode_ev _ _ h2 h3) ?_; by_cases h : a[i] = b[i]
        · refine Ev.cT (decide_eq_true h) (ih.to ?_); rw [e1, e2]; simp only [h, List.cons.injEq, true_and]
        · refine Ev.cF (decide_eq_false h) (Ev.some' ?_); rw [if_neg]; intro e; rw [e1, e2, List.cons.injEq] at e; exact h e.1
    refine Ev.bind key ?_; by_cases h : a = b
    · subst h; simp only [if_true, sum_L, decide_true]; exact Ev.some
    · simp only [List.drop_zero, h, if_false, sum_R, decide_false]; exact Ev.some
  · refine Ev.cT (by simp; omega) (Ev.some' ?_); exact (decide_eq_false fun e => hab (by rw [e])).symm
theorem asc_nodup {l : List Str} (h : l.Pairwise (· < ·)) : l.Nodup := h.imp fun hab e => by subst e; exact (List.lt_irrefl _ hab).elim
theorem nodup_le {α : Type} [DecidableEq α] : ∀ {l m : List α}, l.Nodup -> (∀ x ∈ l, x ∈ m) -> l.length <= m.length
  | [], m, _, _ => Nat.zero_le _
  | x :: l, m, hd, hs => by
    have hx := hs x List.mem_cons_self; obtain ⟨h1, h2⟩ := List.nodup_cons.1 hd; have ih := nodup_le (l := l) (m := m.erase x) h2 fun y hy => by
      have hne : y ≠ x := fun e => h1 (e ▸ hy); exact (List.mem_erase_of_ne hne).2 (hs y (List.mem_cons_of_mem _ hy))
    have hl := List.length_erase_of_mem hx; have := List.length_pos_of_mem hx; simp only [List.length_cons]; omega
end Go.VL
end
section
namespace Go.VL
open Tm
theorem l_TreeBack_b0_ev {e : List Nd} (hF : ∀ (i : Nat) n, e[i]? = some n -> n.names.length <= 1000000) (hlen : e.length <= 1000000) (s : Str) : Ev (fun k => l_TreeBack_b0 k e s ((0 : Nat) : Int)) (if (e.drop 0).any (fun n => decide (n.text = s) || decide (s ∈ n.names)) = true then .inr true else .inl ()) := by
  refine down0 (len := e.length) (p := fun i => Ev (fun k => l_TreeBack_b0 k e s (i : Int)) (if (e.drop i).any (fun n => decide (n.text = s) || decide (s ∈ n.names)) = true then .inr true else .inl ())) ?_ fun i hi ih => ?_
  · refine Ev.succ ?_; simp only [l_TreeBack_b0]; exact Ev.cF (dnlt _) (Ev.some' (by simp))
  · refine Ev.succ ?_; simp only [l_TreeBack_b0, Int.toNat_natCast, getE hi, Option.bind_some, nn, if_true, dlt hi, cond_true, wsucc hi (show e.length <= 1099511627776 by omega)]; rw [drop_cons hi, List.any_cons]; by_cases h : e[i].text = s
    · exact Ev.cT (by rw [beq_iff_eq]; exact h) (Ev.some' (by simp [h]))
    · refine Ev.cF (by rw [beq_eq_false_iff_ne]; exact h) (Ev.bind (b_Contains_ev _ _ (by have := hF i _ (getE hi); omega)) ?_); by_cases h2 : s ∈ e[i].names
      · exact Ev.cT (decide_eq_true h2) (Ev.some' (by simp [h2]))
      · refine Ev.cF (decide_eq_false h2) (ih.to ?_); simp [h, h2]
section
variable {e : List Nd} {frm to_ : Str} {vs : List (Nat × List Str)} (h : Vis e vs) (hL : Lite e) (hF : Fine e) (herr : (chk e).2 = 0) (hf : rName frm = true) (ht : rName to_ = true) (htl : to_.length <= 1000000) (hne : frm ≠ to_)
  (hno : ∀ n ∈ e, n.text ≠ to_ /\ to_ ∉ n.names)
include h
theorem ren_get {i : Nat} {q : List Str} (hq : (i, q) ∈ vs) (frm to_ : Str) : (renL e frm to_ vs e)[i]? = if hitB e frm (i, q) = true then e[i]?.map (reT to_) else e[i]? := by
  rw [renL_get, h.any hq (hitB e frm)]
theorem ren_sk (frm to_ : Str) : e.map sk = (renL e frm to_ vs e).map sk := by
  refine List.ext_getElem? fun i => ?_; rw [List.getElem?_map, List.getElem?_map, renL_get]; split
  · cases e[i]? <;> rfl
  · rfl
theorem hit_named {v : Nat × List Str} {n : Nd} (hn : e[v.1]? = some n) (hh : hitB e frm v = true) : namedB n = true /\ n.text = frm /\ frm ∉ v.2 := by
  unfold hitB at hh; rw [hn] at hh; simp only [Bool.and_eq_true, decide_eq_true_eq, Bool.not_eq_true', decide_eq_false_iff_not] at hh; exact ⟨hh.1.1, hh.1.2, hh.2⟩
include hF ht in
theorem ren_like : Like e (renL e frm to_ vs e) where
  sk := ren_sk h frm to_
  ok := fun i n hn => by
    have hi : i < e.length := by
      have := (List.getElem?_eq_some_iff.1 hn).1; rw [renL_len] at this; exact this
    obtain ⟨q, hq⟩ := h.all i hi; rw [ren_get h hq, getE hi] at hn; by_cases hh : hitB e frm (i, q) = true
    · rw [if_pos hh] at hn; simp only [Option.map_some, Option.some.injEq] at hn; subst hn; exact spec_reT (hit_named h (v := (i, q)) (getE hi) hh).1 ht (hF.ok i _ (getE hi))
    · rw [if_neg hh] at hn; cases hn; exact hF.ok i _ (getE hi)
  op := fun i n m hn hm hk => by
    have hi := (List.getElem?_eq_some_iff.1 hn).1; obtain ⟨q, hq⟩ := h.all i hi; rw [ren_get h hq, hn] at hm; by_cases hh : hitB e frm (i, q) = true
    · rw [if_pos hh] at hm; simp only [Option.map_some, Option.some.injEq] at hm; subst hm; obtain ⟨h1, _, _⟩ := hit_named h (v := (i, q)) hn hh; rcases named_kinds h1 with ⟨h2, _⟩ | ⟨_, h2⟩
      · rw [hk] at h2; cases h2
      · rw [h2]; exact (name_op ht).symm
    · rw [if_neg hh] at hm; cases hm; rfl
include hL htl in
theorem ren_lite : Lite (renL e frm to_ vs e) := by
  refine ⟨by rw [renL_len]; exact hL.len, fun i n hn => ?_⟩; have hi : i < e.length := by
    have := (List.getElem?_eq_some_iff.1 hn).1; rw [renL_len] at this; exact this
  obtain ⟨q, hq⟩ := h.all i hi; have := hL.nd i _ (getE hi); rw [ren_get h hq, getE hi] at hn; by_cases hh : hitB e frm (i, q) = true
  · rw [if_pos hh] at hn; simp only [Option.map_some, Option.some.injEq] at hn; subst hn; exact ⟨htl, this.2⟩
  · rw [if_neg hh] at hn; cases hn; exact this
include hF ht in
theorem ren_fine : Fine (renL e frm to_ vs e) := by
  refine ⟨by rw [renL_len]; exact hF.len, (ren_like h hF ht).ok, fun i n hn => ?_⟩; have hi : i < e.length := by
    have := (List.getElem?_eq_some_iff.1 hn).1; rw [renL_len] at this; exact this
  obtain ⟨q, hq⟩ := h.all i hi; have := hF.few i _ (getE hi); rw [ren_get h hq, getE hi] at hn; by_cases hh : hitB e frm (i, q) = true
  · rw [if_pos hh] at hn; simp only [Option.map_some, Option.some.injEq] at hn; subst hn; exact this
  · rw [if_neg hh] at hn; cases hn; exact this
include hno in
theorem not_bound {v : Nat × List Str} (hv : v ∈ vs) : to_ ∉ v.2 := fun hm => by
  obtain ⟨n, h1, h2⟩ := h.nm v hv _ hm; exact (hno n h1).2 h2
include hno ht in
theorem hit_back {v : Nat × List Str} (hv : v ∈ vs) : hitB (renL e frm to_ vs e) to_ v = hitB e frm v := by
  obtain ⟨i, q⟩ := v; have hi := (h.bd _ hv).2.2; simp only at hi; have hg := ren_get h hv frm to_; rw [getE hi] at hg; cases hh : hitB e frm (i, q) with
  | true =>
    rw [hh, if_pos rfl, Option.map_some] at hg; obtain ⟨h1, h2, h3⟩ := hit_named h (v := (i, q)) (getE hi) hh; have hb := not_bound h hno hv; simp only at hb; unfold hitB; simp only [hg]; rw [named_reT h1 ht]; simp [reT, hb]
  | false =>
    rw [hh, if_neg (by simp)] at hg; have := (hno _ (List.mem_of_getElem? (getE hi))).1; unfold hitB; simp only [hg]; simp [this]
end
end Go.VL
end
section
namespace Go.VL
open Tm
theorem free_mem {e : List Nd} {vs : List (Nat × List Str)} (h : Vis e vs) {y : Str} : y ∈ setS (vs.filterMap (freeF e)) ↔ ∃ i q n, (i, q) ∈ vs /\ e[i]? = some n /\ namedB n = true /\ n.text = y /\ y ∉ q := by
  rw [setS_mem, List.mem_filterMap]; constructor
  · rintro ⟨⟨i, q⟩, hv, hf⟩; unfold freeF at hf; simp only at hf; cases hn : e[i]? with
    | none => rw [hn] at hf; cases hf
    | some n =>
      rw [hn] at hf; simp only at hf; split at hf
      · rename_i hc; simp only [Option.some.injEq] at hf; subst hf; simp only [Bool.and_eq_true, Bool.not_eq_true', decide_eq_false_iff_not] at hc; exact ⟨i, q, n, hv, hn, hc.1, rfl, hc.2⟩
      · cases hf
  · rintro ⟨i, q, n, hv, hn, h1, rfl, h3⟩; refine ⟨(i, q), hv, ?_⟩; unfold freeF; simp only [hn]; rw [if_pos (by simp [h1, h3])]
section
variable {e : List Nd} {frm to_ : Str} {vs vs' : List (Nat × List Str)} (h : Vis e vs) (h' : Vis (renL e frm to_ vs e) vs') (ht : rName to_ = true) (hne : frm ≠ to_) (hno : ∀ n ∈ e, n.text ≠ to_ /\ to_ ∉ n.names)
include h hno
theorem cap_no : (vs.any fun v => hitB e frm v && decide (to_ ∈ v.2)) = false := by
  rw [List.any_eq_false]; intro v hv; simp [not_bound h hno hv]
include h' ht
theorem cap_no' : (vs'.any fun v => hitB (renL e frm to_ vs e) to_ v && decide (frm ∈ v.2)) = false := by
  rw [List.any_eq_false]; intro v hv; have hv2 : v ∈ vs := h'.both h (ren_sk h frm to_).symm hv; rw [hit_back h ht hno hv2]; cases hh : hitB e frm v with
  | false => simp
  | true =>
    have hi := (h.bd _ hv2).2.2; simp [(hit_named h (getE hi) hh).2.2]
theorem ren_back : renL (renL e frm to_ vs e) to_ frm vs' (renL e frm to_ vs e) = e := by
  refine List.ext_getElem? fun i => ?_; by_cases hi : i < e.length
  · obtain ⟨q, hq⟩ := h.all i hi; have hq' : (i, q) ∈ vs' := h.both h' (ren_sk h frm to_) hq; rw [ren_get h' hq', hit_back h ht hno hq, ren_get h hq, getE hi]; cases hh : hitB e frm (i, q) with
    | false => simp
    | true =>
      obtain ⟨_, h2, _⟩ := hit_named h (v := (i, q)) (getE hi) hh; simp only [if_true, Option.map_some, reT]; rw [<- h2]
  · rw [List.getElem?_eq_none (by rw [renL_len, renL_len]; omega), List.getElem?_eq_none (by omega)]
include hne in
theorem free_a {y : Str} : y ∈ setS (vs'.filterMap (freeF (renL e frm to_ vs e))) ↔ (y ≠ frm /\ y ∈ setS (vs.filterMap (freeF e))) \/ (y = to_ /\ frm ∈ setS (vs.filterMap (freeF e))) := by
  rw [free_mem h', free_mem h, free_mem h]; constructor
  · rintro ⟨i, q, m, hv', hm, h1, rfl, h3⟩; have hv : (i, q) ∈ vs := h'.both h (ren_sk h frm to_).symm hv'; have hi := (h.bd _ hv).2.2; simp only at hi; rw [ren_get h hv, getE hi] at hm; cases hh : hitB e frm (i, q) with
    | true =>
      rw [hh, if_pos rfl, Option.map_some] at hm; cases hm; obtain ⟨g1, g2, g3⟩ := hit_named h (v := (i, q)) (getE hi) hh; exact .inr ⟨rfl, i, q, _, hv, getE hi, g1, g2, g3⟩
    | false =>
      rw [hh, if_neg (by simp)] at hm; cases hm; refine .inl ⟨fun hy => ?_, i, q, _, hv, getE hi, h1, rfl, h3⟩; unfold hitB at hh; simp only [getE hi] at hh; rw [hy] at h3; simp [h1, hy, h3] at hh
  · rintro (⟨hy, i, q, n, hv, hn, h1, rfl, h3⟩ | ⟨rfl, i, q, n, hv, hn, h1, h2, h3⟩)
    · have hv' : (i, q) ∈ vs' := h.both h' (ren_sk h frm to_) hv; refine ⟨i, q, n, hv', ?_, h1, rfl, h3⟩; rw [ren_get h hv, hn]; have hh : hitB e frm (i, q) = false := by unfold hitB; simp only [hn]; simp [hy]
      rw [hh]; simp
    · have hv' : (i, q) ∈ vs' := h.both h' (ren_sk h frm y) hv; have hh : hitB e frm (i, q) = true := by unfold hitB; simp only [hn]; simp [h1, h2, h3]
      refine ⟨i, q, reT y n, hv', ?_, named_reT h1 ht, rfl, not_bound h hno hv⟩; rw [ren_get h hv, hn, hh]; simp
include hne in
theorem free_facts : frm ∉ setS (vs'.filterMap (freeF (renL e frm to_ vs e))) /\ (frm ∈ setS (vs.filterMap (freeF e)) ↔ to_ ∈ setS (vs'.filterMap (freeF (renL e frm to_ vs e)))) /\ (setS (vs.filterMap (freeF e))).length = (setS (vs'.filterMap (freeF (renL e frm to_ vs e)))).length := by
  have key := fun y => free_a (y := y) h h' ht hne hno; have hto : to_ ∉ setS (vs.filterMap (freeF e)) := fun hm => by
    obtain ⟨i, q, n, hv, hn, _, h2, _⟩ := (free_mem h).1 hm; exact (hno n (List.mem_of_getElem? hn)).1 h2
  have dl := asc_nodup (setS_asc (vs.filterMap (freeF e))); have dm := asc_nodup (setS_asc (vs'.filterMap (freeF (renL e frm to_ vs e)))); generalize setS (vs.filterMap (freeF e)) = L at key hto dl; generalize setS (vs'.filterMap (freeF (renL e frm to_ vs e))) = M at key dm; have k1 : frm ∉ M := fun hm => by
    rcases (key frm).1 hm with ⟨h1, _⟩ | ⟨h1, _⟩
    · exact h1 rfl
    · exact hne h1
  have k2 : frm ∈ L ↔ to_ ∈ M := by
    rw [key to_]; exact ⟨fun hm => .inr ⟨rfl, hm⟩, fun hm => by
      rcases hm with ⟨_, h2⟩ | ⟨_, h2⟩
      · exact absurd h2 hto
      · exact h2⟩
  refine ⟨k1, k2, ?_⟩; by_cases hf : frm ∈ L
  · have h1 : L.length <= M.length := by
      have := nodup_le (l := to_ :: L.erase frm) (m := M) (List.nodup_cons.2 ⟨fun hm => hto (List.mem_of_mem_erase hm), dl.erase frm⟩) fun x hx => by
        rcases List.mem_cons.1 hx with rfl | hx
        · exact k2.1 hf
        · have := (dl.mem_erase_iff).1 hx; exact (key x).2 (.inl this)
      rw [List.length_cons, List.length_erase_of_mem hf] at this; have := List.length_pos_of_mem hf; omega
    have h2 : M.length <= L.length := by
      have ht2 := k2.1 hf; have := nodup_le (l := frm :: M.erase to_) (m := L) (List.nodup_cons.2 ⟨fun hm => k1 (List.mem_of_mem_erase hm), dm.erase to_⟩) fun x hx => by
        rcases List.mem_cons.1 hx with rfl | hx
        · exact hf
        · have hx := (dm.mem_erase_iff).1 hx; rcases (key x).1 hx.2 with ⟨_, h3⟩ | ⟨h3, _⟩
          · exact h3
          · exact absurd h3 hx.1
      rw [List.length_cons, List.length_erase_of_mem ht2] at this; have := List.length_pos_of_mem ht2; omega
    omega
  · refine Nat.le_antisymm (nodup_le dl fun x hx => ?_) (nodup_le dm fun x hx => ?_)
    · exact (key x).2 (.inl ⟨fun e => hf (e ▸ hx), hx⟩)
    · rcases (key x).1 hx with ⟨_, h3⟩ | ⟨_, h3⟩
      · exact h3
      · exact absurd h3 hf
end
theorem l_TreeBack_ev (e : List Nd) (frm to_ : Str) : Ev (fun k => l_TreeBack k e frm to_) true := by
  unfold l_TreeBack; refine Ev.bind (l_Few_ev e) ?_; cases hfew : fewB e with
  | false =>
    refine Ev.bind (x := true) ?_ (Ev.cT rfl Ev.some); unfold l_TreeBack_p0; exact Ev.cT rfl Ev.some
  | true =>
  have hL := few_lite hfew; have hlen := hL.len; have hc := t_Check_chk hL; obtain ⟨r, hct, hcr, hcv⟩ := check_full e hL; obtain rfl := hct.uniq hc; have hrerr : Ev (fun k => r_Err k e) (chk e).2 := by unfold r_Err; exact Ev.bind hcr Ev.some
  have out : Ev (fun k => l_TreeBack_p0 k e frm to_ (!true)) true -> Ev (fun k => Option.bind (l_TreeBack_p0 k e frm to_ (!true)) (fun p17 => cond p17 (some true) (Option.bind (l_TreeBack_b0 k e to_ 0) (fun o => Sum.elim (fun p36 => Option.bind (b_OwnExpr k e) fun p44 => Option.bind (t_Renamed k p44 frm to_) fun p46 => cond (p46.2 != 0) (some false) (Option.bind (b_OwnExpr k p46.1) fun p49 => Option.bind (t_Renamed k p49 to_ frm) fun p51 => Option.bind (t_FreeIn k p44) fun p55 => Option.bind (t_FreeIn k p49) fun p59 => cond (p51.2 == 0) (Option.bind (b_SameExpr k p51.1 e) fun p62 => cond p62 (cond (p55.2 == 0) (cond (p59.2 == 0) (Option.bind (b_Contains k p59.1 frm) fun p67 => cond p67 (some false) (Option.bind (b_Contains k p55.1 frm) fun p70 => Option.bind (b_Contains k p59.1 to_) fun p72 => cond (p70 == p72) (some ((p55.1.length : Int) == (p59.1.length : Int))) (some false))) (some false)) (some false)) (some false)) (some false))) (fun p74 => some p74) o)))) true := fun hp => Ev.bind hp (Ev.cT rfl Ev.some); by_cases h1 : 100 < frm.length
  · refine out ?_; unfold l_TreeBack_p0; exact Ev.cF rfl (Ev.cT (decide_eq_true (by omega)) Ev.some)
  by_cases h2 : 100 < to_.length
  · refine out ?_; unfold l_TreeBack_p0; exact Ev.cF rfl (Ev.cF (decide_eq_false (by omega)) (Ev.cT (decide_eq_true (by omega)) Ev.some))
  have start : ∀ b, Ev (fun k => Option.bind (r_Err k e) fun p7 => cond (p7 != 0) (some (true)) (Option.bind (r_IsName k frm) fun p10 => cond p10 (Option.bind (r_IsName k to_) fun p13 => cond p13 (some ((frm == to_))) (some (true))) (some (true)))) b -> Ev (fun k => l_TreeBack_p0 k e frm to_ (!true)) b := by
    intro b hb; unfold l_TreeBack_p0; exact Ev.cF rfl (Ev.cF (decide_eq_false (by omega)) (Ev.cF (decide_eq_false (by omega)) hb))
  by_cases h3 : (chk e).2 = 0
  case neg => exact out (start _ (Ev.bind hrerr (Ev.cT (by rw [bne_iff_ne]; exact h3) Ev.some)))
  have hz : ((chk e).2 != 0) = false := by rw [h3]; rfl
  cases h4 : rName frm with
  | false => exact out (start _ (Ev.bind hrerr (Ev.cF hz (Ev.bind (r_IsName_ev frm) (Ev.cF h4 Ev.some)))))
  | true =>
  cases h5 : rName to_ with
  | false => exact out (start _ (Ev.bind hrerr (Ev.cF hz (Ev.bind (r_IsName_ev frm) (Ev.cT h4 (Ev.bind (r_IsName_ev to_) (Ev.cF h5 Ev.some)))))))
  | true =>
  have stp := start (frm == to_) (Ev.bind hrerr (Ev.cF hz (Ev.bind (r_IsName_ev frm) (Ev.cT h4 (Ev.bind (r_IsName_ev to_) (Ev.cT h5 Ev.some)))))); by_cases h6 : frm = to_
  · exact out (stp.to (by rw [beq_iff_eq]; exact h6))
  refine Ev.bind (stp.to (show (frm == to_) = false by rw [beq_eq_false_iff_ne]; exact h6)) (Ev.cF rfl ?_); have hb := l_TreeBack_b0_ev (e := e) (fun i n hn => (hL.nd i n hn).2.1) hL.len to_; rw [List.drop_zero] at hb; refine Ev.bind hb ?_; cases hany : e.any (fun n => decide (n.text = to_) || decide (to_ ∈ n.names)) with
  | true => simp only [if_true, sum_R]; exact Ev.some
  | false =>
  simp only [Bool.false_eq_true, if_false, sum_L]; have hno : ∀ n ∈ e, n.text ≠ to_ /\ to_ ∉ n.names := by
    intro n hn; have := List.any_eq_false.1 hany n hn; simpa using this
  have hV := hcv h3; have hF := few_fine hfew hV; obtain ⟨vs, h⟩ := vs_of hV hL hF; have hterr : Ev (fun k => t_exprErr k e) 0 := by unfold t_exprErr; exact Ev.bind hc (Ev.some' h3)
  have haL := ren_lite (frm := frm) h hL (show to_.length <= 1000000 by omega); have haF := ren_fine (frm := frm) h hF h5; have hac := chk_like (ren_like (frm := frm) h hF h5) h3; have haC := t_Check_chk haL; obtain ⟨r', hct', _, hcv'⟩ := check_full _ haL; obtain rfl := hct'.uniq haC; have haV := hcv' hac; have haerr : Ev (fun k => t_exprErr k (renL e frm to_ vs e)) 0 := by unfold t_exprErr; exact Ev.bind haC (Ev.some' hac)
  obtain ⟨vs', h'⟩ := vs_of haV haL haF; have r1 := t_Renamed_ev h hL hterr h4 h5; rw [cap_no h hno] at r1; simp only [Bool.false_eq_true, if_false] at r1; have r2 := t_Renamed_ev h' haL haerr h5 h4; rw [cap_no' h h' h5 hno, ren_back h h' h5 hno] at r2; simp only [Bool.false_eq_true, if_false] at r2; obtain ⟨f1, f2, f3⟩ := free_facts h h' h5 h6 hno; have l1 := setS_len (vs.filterMap (freeF e)); have l2 := setS_len (vs'.filterMap (freeF (renL e frm to_ vs e))); have l3 : (vs.filterMap (freeF e)).length <= 170 := Nat.le_trans (List.length_filterMap_le _ _) (by have := h.len; have := hF.len; omega); have l4 : (vs'.filterMap (freeF (renL e frm to_ vs e))).length <= 170 := Nat.le_trans (List.length_filterMap_le _ _) (by have := h'.len; have := haF.len; omega); have g1 := free_vs h hF; have g2 := free_vs h' haF; generalize setS (vs.filterMap (freeF e)) = L at *; generalize setS (vs'.filterMap (freeF (renL e frm to_ vs e))) = M at *; refine Ev.bind (b_OwnExpr_ev hL) (Ev.bind r1 (Ev.cF (by rfl) (Ev.bind (b_OwnExpr_ev haL) (Ev.bind r2 ?_)))); refine Ev.bind (x := (L, 0)) (by unfold t_FreeIn; exact Ev.bind hterr (Ev.cF (by rfl) (Ev.bind g1 Ev.some))) ?_; refine Ev.bind (x := (M, 0)) (by unfold t_FreeIn; exact Ev.bind haerr (Ev.cF (by rfl) (Ev.bind g2 Ev.some))) ?_; refine Ev.cT (by rfl) (Ev.bind (b_SameExpr_ev hL) (Ev.cT (decide_eq_true rfl) (Ev.cT (by rfl) (Ev.cT (by rfl) ?_)))); refine Ev.bind (b_Contains_ev M frm (by omega)) (Ev.cF (decide_eq_false f1) (Ev.bind (b_Contains_ev L frm (by omega)) (Ev.bind (b_Contains_ev M to_ (by omega)) ?_))); refine Ev.cT ?_ (Ev.some' ?_)
  · rw [beq_iff_eq, decide_eq_decide]; exact f2
  · rw [beq_iff_eq, f3]
end Go.VL
end
