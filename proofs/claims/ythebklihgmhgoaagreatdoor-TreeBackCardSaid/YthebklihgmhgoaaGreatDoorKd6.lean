/- Part 6 of the proof: what the theorem rests on. -/
import Derived.Test.YthebklihgmhgoaaGreatDoorKd5
import Derived.Lib.SlicesCompact
import Derived.Lib.RowBridge
set_option linter.unusedVariables false
set_option linter.unusedSectionVars false
set_option linter.unusedSimpArgs false
section
namespace Go.VL
namespace Tm
mutual
def bgT (b : Nat) : Tm -> List Int
  | .mk _ cs => bgTs b cs ++ [(b : Int)]
def bgTs (b : Nat) : List Tm -> List Int
  | [] => []
  | c :: cs => bgT b c ++ bgTs (b + c.size) cs
end
theorem bgT_mk {b : Nat} {x : Nd} {cs : List Tm} : bgT b (.mk x cs) = bgTs b cs ++ [(b : Int)] := by rw [bgT]
mutual
theorem bgT_len (b : Nat) : ∀ t : Tm, (bgT b t).length = t.size
  | .mk x cs => by rw [bgT_mk]; unfold size; rw [List.length_append, bgTs_len b cs]; rfl
theorem bgTs_len (b : Nat) : ∀ cs : List Tm, (bgTs b cs).length = sizes cs
  | [] => rfl
  | c :: cs => by unfold bgTs sizes; rw [List.length_append, bgT_len b c, bgTs_len (b + c.size) cs]
end
theorem bgTs_append : ∀ (b : Nat) (l m : List Tm), bgTs b (l ++ m) = bgTs b l ++ bgTs (b + sizes l) m
  | b, [], m => by simp [bgTs, sizes]
  | b, c :: l, m => by simp only [List.cons_append, bgTs, sizes, bgTs_append (b + c.size) l m, List.append_assoc, Nat.add_assoc]
theorem bgT_root {b : Nat} {t : Tm} : (bgT b t)[t.size - 1]? = some (b : Int) := by
  cases t with
  | mk x cs =>
    rw [bgT_mk]; have : (mk x cs).size - 1 = sizes cs := by unfold size; omega
    rw [this, List.getElem?_append_right (by rw [bgTs_len]; exact Nat.le_refl _), bgTs_len, Nat.sub_self]; rfl
theorem sizes_one (t : Tm) : sizes [t] = t.size := by simp [sizes]
theorem flats_one (b : Nat) (t : Tm) : flats b [t] = flat b t := by simp [flats]
theorem bgTs_one (b : Nat) (t : Tm) : bgTs b [t] = bgT b t := by simp [bgTs]
theorem roots_one (b : Nat) (t : Tm) : roots b [t] = [((b + t.size - 1 : Nat) : Int)] := by simp [roots]
theorem bgTs_at {b : Nat} {l m : List Tm} {t : Tm} : (bgTs b (l ++ t :: m))[sizes l + t.size - 1]? = some ((b + sizes l : Nat) : Int) := by
  have hp := t.size_pos; rw [bgTs_append, List.getElem?_append_right (by rw [bgTs_len]; omega), bgTs_len]; unfold bgTs; rw [List.getElem?_append_left (by rw [bgT_len]; omega), show sizes l + t.size - 1 - sizes l = t.size - 1 by omega, bgT_root]
theorem pl_split {ts : List Tm} {acc : List Int} (ha : acc = bgTs 0 ts) : ∀ (l : List Int) (t1 rest : List Tm), ts = t1 ++ rest -> plB acc ((sizes t1 : Nat) : Int) l = true -> ∃ front mid, t1 = front ++ mid /\ l.reverse = roots (sizes front) mid
  | [], t1, rest, _, _ => ⟨t1, [], by simp, by simp [roots]⟩
  | a :: l, t1, rest, hts, hp => by
    rw [plB, Bool.and_eq_true, Bool.and_eq_true, decide_eq_true_eq, decide_eq_true_eq] at hp; obtain ⟨⟨h1, h2⟩, h3⟩ := hp; rcases List.eq_nil_or_concat t1 with rfl | ⟨t2, t, rfl⟩
    · simp [sizes] at h2
    rw [List.concat_eq_append] at *; have hpos := t.size_pos; have hsz : sizes (t2 ++ [t]) = sizes t2 + t.size := by rw [sizes_append, sizes_one]
    have hget : acc[(((sizes (t2 ++ [t]) : Nat) : Int) - 1).toNat]? = some ((sizes t2 : Nat) : Int) := by
      rw [ha, hts, List.append_assoc, hsz, show ((((sizes t2 + t.size : Nat) : Int) - 1).toNat) = sizes t2 + t.size - 1 by omega]; have := bgTs_at (b := 0) (l := t2) (m := rest) (t := t); rw [Nat.zero_add] at this; exact this
    rw [hget, Option.getD_some] at h3; obtain ⟨front, mid, e1, e2⟩ := pl_split ha l t2 ([t] ++ rest) (by rw [hts, List.append_assoc]) h3; refine ⟨front, mid ++ [t], by rw [e1, List.append_assoc], ?_⟩; rw [List.reverse_cons, e2, roots_append, roots_one]; congr 2
    rw [h1, hsz, e1, sizes_append]; omega
def bare (n : Nd) : Nd := { n with args := [] }
theorem nd_bare {n : Nd} {b : Nat} {cs : List Tm} (h : n.args = roots b cs) : nd (bare n) b cs = n := by
  unfold nd bare; cases n; simp only at h ⊢; rw [h]
theorem row_step {ts : List Tm} {acc : List Int} {n : Nd} (ha : acc = bgTs 0 ts) (hp : plB acc (acc.length : Int) n.args.reverse = true) :
    ∃ front last, ts = front ++ last /\ n.args = roots (sizes front) last /\ flats 0 (front ++ [.mk (bare n) last]) = flats 0 ts ++ [n] /\ bgTs 0 (front ++ [.mk (bare n) last]) = acc ++ [bgOf acc n] := by
  have hl : acc.length = sizes ts := by rw [ha, bgTs_len]
  rw [hl] at hp; obtain ⟨front, last, e1, e2⟩ := pl_split ha n.args.reverse ts [] (by simp) hp; rw [List.reverse_reverse] at e2; refine ⟨front, last, e1, e2, ?_, ?_⟩
  · rw [flats_append, flats_one, flat_mk, nd_bare (by rw [Nat.zero_add]; exact e2), e1, flats_append, List.append_assoc]
  · rw [bgTs_append, bgTs_one, bgT_mk, ha, e1, bgTs_append, List.append_assoc]; congr 3
    rw [Nat.zero_add]; unfold bgOf; rw [e2]; cases last with
    | nil => simp [roots, bgTs, bgTs_len]
    | cons c cs =>
      simp only [roots]; have h1 := bgTs_at (b := 0) (l := front) (m := cs) (t := c); rw [Nat.zero_add, bgTs_append, Nat.zero_add] at h1; rw [Int.toNat_natCast, h1, Option.getD_some]
mutual
def pars (b : Nat) (p k : Int) : Tm -> List (Int × Int)
  | .mk _ cs => parsL b ((b + sizes cs : Nat) : Int) 0 cs ++ [(p, k)]
def parsL (b : Nat) (p : Int) (k : Nat) : List Tm -> List (Int × Int)
  | [] => []
  | c :: cs => pars b p k c ++ parsL (b + c.size) p (k + 1) cs
end
def parsF (b : Nat) : List Tm -> List (Int × Int)
  | [] => []
  | c :: cs => pars b (-1) 0 c ++ parsF (b + c.size) cs
theorem pars_mk {b : Nat} {p k : Int} {x : Nd} {cs : List Tm} : pars b p k (.mk x cs) = parsL b ((b + sizes cs : Nat) : Int) 0 cs ++ [(p, k)] := by rw [pars]
mutual
theorem pars_len (b : Nat) (p k : Int) : ∀ t : Tm, (pars b p k t).length = t.size
  | .mk x cs => by rw [pars_mk]; unfold size; rw [List.length_append, parsL_len]; rfl
theorem parsL_len (b : Nat) (p : Int) (k : Nat) : ∀ cs : List Tm, (parsL b p k cs).length = sizes cs
  | [] => rfl
  | c :: cs => by unfold parsL sizes; rw [List.length_append, pars_len b p k c, parsL_len (b + c.size) p (k + 1) cs]
end
theorem parsF_len : ∀ (b : Nat) (cs : List Tm), (parsF b cs).length = sizes cs
  | _, [] => rfl
  | b, c :: cs => by unfold parsF sizes; rw [List.length_append, pars_len, parsF_len (b + c.size) cs]
theorem parsF_append : ∀ (b : Nat) (l m : List Tm), parsF b (l ++ m) = parsF b l ++ parsF (b + sizes l) m
  | b, [], m => by simp [parsF, sizes]
  | b, c :: l, m => by simp only [List.cons_append, parsF, sizes, parsF_append (b + c.size) l m, List.append_assoc, Nat.add_assoc]
theorem parsF_one (b : Nat) (t : Tm) : parsF b [t] = pars b (-1) 0 t := by simp [parsF]
theorem roots_par : ∀ (b : Nat) (p : Int) (k : Nat) (cs : List Tm) (j : Nat) (a : Int), (roots b cs)[j]? = some a -> ∃ r : Nat, a = ((b + r : Nat) : Int) /\ r < sizes cs /\ (parsL b p k cs)[r]? = some (p, ((k + j : Nat) : Int))
  | b, p, k, [], j, a, h => by simp [roots] at h
  | b, p, k, c :: cs, j, a, h => by
    have hpos := c.size_pos; cases j with
    | zero =>
      simp only [roots, List.getElem?_cons_zero, Option.some.injEq] at h; refine ⟨c.size - 1, by rw [<- h]; congr 1; omega, by simp only [sizes]; omega, ?_⟩; unfold parsL; rw [List.getElem?_append_left (by rw [pars_len]; omega)]; cases c with
      | mk x ds =>
        rw [pars_mk, show (mk x ds).size - 1 = sizes ds by unfold size; omega, List.getElem?_append_right (by rw [parsL_len]; exact Nat.le_refl _), parsL_len, Nat.sub_self]; rfl
    | succ j =>
      simp only [roots, List.getElem?_cons_succ] at h; obtain ⟨r, h1, h2, h3⟩ := roots_par (b + c.size) p (k + 1) cs j a h; refine ⟨c.size + r, by rw [h1, Nat.add_assoc], by simp only [sizes]; omega, ?_⟩; unfold parsL; rw [List.getElem?_append_right (by rw [pars_len]; omega), pars_len, show c.size + r - c.size = r by omega, h3]; congr 3
      omega
mutual
theorem pars_of : ∀ (b : Nat) (p k : Int) (t : Tm) (q : Nat) (n : Nd) (j : Nat) (a : Int), (flat b t)[q]? = some n -> n.args[j]? = some a -> ∃ r : Nat, a = ((b + r : Nat) : Int) /\ r < q /\ (pars b p k t)[r]? = some (((b + q : Nat) : Int), (j : Int))
  | b, p, k, .mk x cs, q, n, j, a, h1, h2 => by
    rw [flat_mk] at h1; rw [pars_mk]; by_cases hq : q < sizes cs
    · rw [List.getElem?_append_left (by rw [flats_len]; exact hq)] at h1; obtain ⟨r, h3, h4, h5⟩ := parsL_of b ((b + sizes cs : Nat) : Int) 0 cs q n j a h1 h2; exact ⟨r, h3, h4, by rw [List.getElem?_append_left (by rw [parsL_len]; omega)]; exact h5⟩
    · have hlt := (List.getElem?_eq_some_iff.1 h1).1; rw [List.length_append, flats_len] at hlt; obtain rfl : q = sizes cs := by simp at hlt; omega
      rw [List.getElem?_append_right (by rw [flats_len]; exact Nat.le_refl _), flats_len, Nat.sub_self, List.getElem?_cons_zero, Option.some.injEq] at h1; subst h1; obtain ⟨r, h3, h4, h5⟩ := roots_par b ((b + sizes cs : Nat) : Int) 0 cs j a h2; refine ⟨r, h3, h4, ?_⟩; rw [List.getElem?_append_left (by rw [parsL_len]; exact h4), h5, Nat.zero_add]
theorem parsL_of : ∀ (b : Nat) (p : Int) (k : Nat) (cs : List Tm) (q : Nat) (n : Nd) (j : Nat) (a : Int), (flats b cs)[q]? = some n -> n.args[j]? = some a -> ∃ r : Nat, a = ((b + r : Nat) : Int) /\ r < q /\ (parsL b p k cs)[r]? = some (((b + q : Nat) : Int), (j : Int))
  | b, p, k, [], q, n, j, a, h1, h2 => by simp [flats] at h1
  | b, p, k, c :: cs, q, n, j, a, h1, h2 => by
    rw [flats_cons] at h1; unfold parsL; by_cases hq : q < c.size
    · rw [List.getElem?_append_left (by rw [flat_len]; exact hq)] at h1; obtain ⟨r, h3, h4, h5⟩ := pars_of b p k c q n j a h1 h2; exact ⟨r, h3, h4, by rw [List.getElem?_append_left (by rw [pars_len]; omega)]; exact h5⟩
    · rw [List.getElem?_append_right (by rw [flat_len]; omega), flat_len] at h1; obtain ⟨r, h3, h4, h5⟩ := parsL_of (b + c.size) p (k + 1) cs (q - c.size) n j a h1 h2; refine ⟨c.size + r, by rw [h3, Nat.add_assoc], by omega, ?_⟩; rw [List.getElem?_append_right (by rw [pars_len]; omega), pars_len, show c.size + r - c.size = r by omega, h5]; congr 3
      omega
end
theorem parsF_of : ∀ (b : Nat) (cs : List Tm) (q : Nat) (n : Nd) (j : Nat) (a : Int), (flats b cs)[q]? = some n -> n.args[j]? = some a -> ∃ r : Nat, a = ((b + r : Nat) : Int) /\ r < q /\ (parsF b cs)[r]? = some (((b + q : Nat) : Int), (j : Int))
  | b, [], q, n, j, a, h1, h2 => by simp [flats] at h1
  | b, c :: cs, q, n, j, a, h1, h2 => by
    rw [flats_cons] at h1; unfold parsF; by_cases hq : q < c.size
    · rw [List.getElem?_append_left (by rw [flat_len]; exact hq)] at h1; obtain ⟨r, h3, h4, h5⟩ := pars_of b (-1) 0 c q n j a h1 h2; exact ⟨r, h3, h4, by rw [List.getElem?_append_left (by rw [pars_len]; omega)]; exact h5⟩
    · rw [List.getElem?_append_right (by rw [flat_len]; omega), flat_len] at h1; obtain ⟨r, h3, h4, h5⟩ := parsF_of (b + c.size) cs (q - c.size) n j a h1 h2; refine ⟨c.size + r, by rw [h3, Nat.add_assoc], by omega, ?_⟩; rw [List.getElem?_append_right (by rw [pars_len]; omega), pars_len, show c.size + r - c.size = r by omega, h5]; congr 3
      omega
def Says (b : Nat) (l : List Nd) (r : Nat) (P j : Int) : Prop := ∃ (q j' : Nat) (n : Nd), P = ((b + q : Nat) : Int) /\ j = (j' : Int) /\ r < q /\ l[q]? = some n /\ n.args[j']? = some ((b + r : Nat) : Int)
theorem says_left {b : Nat} {l m : List Nd} {r : Nat} {P j : Int} (h : Says b l r P j) : Says b (l ++ m) r P j := by
  obtain ⟨q, j', n, h1, h2, h3, h4, h5⟩ := h; exact ⟨q, j', n, h1, h2, h3, by rw [List.getElem?_append_left (List.getElem?_eq_some_iff.1 h4).1]; exact h4, h5⟩
theorem says_right {b : Nat} {l m : List Nd} {r : Nat} {P j : Int} (h : Says (b + l.length) m r P j) : Says b (l ++ m) (l.length + r) P j := by
  obtain ⟨q, j', n, h1, h2, h3, h4, h5⟩ := h; exact ⟨l.length + q, j', n, by rw [h1, Nat.add_assoc], h2, by omega, by rw [List.getElem?_append_right (by omega), show l.length + q - l.length = q by omega]; exact h4, by rw [h5, Nat.add_assoc]⟩
theorem roots_says : ∀ (b : Nat) (cs : List Tm) (k : Nat) (c : Tm) (l m : List Tm), cs = l ++ c :: m -> (roots b cs)[l.length]? = some ((b + (sizes l + c.size - 1) : Nat) : Int) := by
  intro b cs k c l m h; have hp := c.size_pos; rw [h, roots_get]; congr 2
  omega
mutual
theorem pars_says : ∀ (b : Nat) (p k : Int) (t : Tm) (r : Nat) (P j : Int), (pars b p k t)[r]? = some (P, j) -> (r = t.size - 1 /\ P = p /\ j = k) \/ Says b (flat b t) r P j
  | b, p, k, .mk x cs, r, P, j, h => by
    rw [pars_mk] at h; by_cases hr : r < sizes cs
    · rw [List.getElem?_append_left (by rw [parsL_len]; exact hr)] at h; rw [flat_mk]; rcases parsL_says b ((b + sizes cs : Nat) : Int) 0 cs r P j h with ⟨l, c, m, e1, e2, e3, e4⟩ | hs
      · right; refine ⟨sizes cs, l.length, nd x b cs, e3, by rw [e4, Nat.zero_add], hr, ?_, ?_⟩
        · rw [List.getElem?_append_right (by rw [flats_len]; exact Nat.le_refl _), flats_len, Nat.sub_self]; rfl
        · show (roots b cs)[l.length]? = _
          rw [roots_says b cs 0 c l m e1, e2]
      · exact .inr (says_left hs)
    · have hlt := (List.getElem?_eq_some_iff.1 h).1; rw [List.length_append, parsL_len] at hlt; obtain rfl : r = sizes cs := by simp at hlt; omega
      rw [List.getElem?_append_right (by rw [parsL_len]; exact Nat.le_refl _), parsL_len, Nat.sub_self, List.getElem?_cons_zero] at h; cases h; left; exact ⟨by unfold size; omega, rfl, rfl⟩
theorem parsL_says : ∀ (b : Nat) (p : Int) (k : Nat) (cs : List Tm) (r : Nat) (P j : Int), (parsL b p k cs)[r]? = some (P, j) ->
    (∃ l c m, cs = l ++ c :: m /\ r = sizes l + c.size - 1 /\ P = p /\ j = ((k + l.length : Nat) : Int)) \/ Says b (flats b cs) r P j
  | b, p, k, [], r, P, j, h => by simp [parsL] at h
  | b, p, k, c :: cs, r, P, j, h => by
    unfold parsL at h; rw [flats_cons]; by_cases hr : r < c.size
    · rw [List.getElem?_append_left (by rw [pars_len]; exact hr)] at h; rcases pars_says b p k c r P j h with ⟨e1, e2, e3⟩ | hs
      · exact .inl ⟨[], c, cs, rfl, by simp [sizes, e1], e2, by simp [e3]⟩
      · exact .inr (says_left hs)
    · rw [List.getElem?_append_right (by rw [pars_len]; omega), pars_len] at h; rcases parsL_says (b + c.size) p (k + 1) cs (r - c.size) P j h with ⟨l, d, m, e1, e2, e3, e4⟩ | hs
      · refine .inl ⟨c :: l, d, m, by rw [e1]; rfl, ?_, e3, by rw [e4, List.length_cons]; omega⟩; have := d.size_pos; simp only [sizes]; omega
      · right; have h2 : Says (b + (flat b c).length) (flats (b + c.size) cs) (r - c.size) P j := by rw [flat_len]; exact hs
        have := says_right h2; rw [flat_len, show c.size + (r - c.size) = r by omega] at this; exact this
end
theorem parsF_says : ∀ (b : Nat) (cs : List Tm) (r : Nat) (P j : Int), (parsF b cs)[r]? = some (P, j) -> (P = -1 /\ j = 0) \/ Says b (flats b cs) r P j
  | b, [], r, P, j, h => by simp [parsF] at h
  | b, c :: cs, r, P, j, h => by
    unfold parsF at h; rw [flats_cons]; by_cases hr : r < c.size
    · rw [List.getElem?_append_left (by rw [pars_len]; exact hr)] at h; rcases pars_says b (-1) 0 c r P j h with ⟨e1, e2, e3⟩ | hs
      · exact .inl ⟨e2, e3⟩
      · exact .inr (says_left hs)
    · rw [List.getElem?_append_right (by rw [pars_len]; omega), pars_len] at h; rcases parsF_says (b + c.size) cs (r - c.size) P j h with hs | hs
      · exact .inl hs
      · right; have h2 : Says (b + (flat b c).length) (flats (b + c.size) cs) (r - c.size) P j := by rw [flat_len]; exact hs
        have := says_right h2; rw [flat_len, show c.size + (r - c.size) = r by omega] at this; exact this
end Tm
end Go.VL
end
section
namespace Go.VL
open Tm
theorem scan_ok : ∀ (l : List Nd) (acc acc' : List Int), scanN acc l = .inl acc' -> ∀ (i : Nat) n, l[i]? = some n -> nodeSpec true n = 0
  | [], _, _, _, i, n, hn => by simp at hn
  | m :: l, acc, acc', h, i, n, hn => by
    rw [scanN] at h; by_cases hc : nodeSpec (plB acc acc.length m.args.reverse) m = 0
    · rw [if_neg (fun k => k hc)] at h; cases i with
      | zero =>
        simp only [List.getElem?_cons_zero, Option.some.injEq] at hn; subst hn; rw [nodeSpec_pl hc] at hc; exact hc
      | succ i => exact scan_ok l _ acc' h i n (by simpa using hn)
    · rw [if_pos hc] at h; cases h
def fIx (a : Int) : List Int -> Nat -> Option Nat
  | [], _ => none
  | x :: l, j => if x = a then some j else fIx a l (j + 1)
def fPar (a : Int) : List Nd -> Nat -> Option (Nat × Nat)
  | [], _ => none
  | n :: l, k => match fIx a n.args 0 with
    | some j => some (k, j)
    | none => fPar a l (k + 1)
theorem fIx_some {a : Int} : ∀ {l : List Int} {j j' : Nat}, fIx a l j = some j' -> ∃ d, j' = j + d /\ l[d]? = some a
  | [], j, j', h => by simp [fIx] at h
  | x :: l, j, j', h => by
    rw [fIx] at h; by_cases hx : x = a
    · rw [if_pos hx] at h; cases h; exact ⟨0, rfl, by simp [hx]⟩
    · rw [if_neg hx] at h; obtain ⟨d, e1, e2⟩ := fIx_some h; exact ⟨d + 1, by omega, by simpa using e2⟩
theorem fIx_none {a : Int} : ∀ {l : List Int} {j : Nat}, fIx a l j = none -> ∀ d : Nat, l[d]? ≠ some a
  | [], j, h, d => by simp
  | x :: l, j, h, d => by
    rw [fIx] at h; by_cases hx : x = a
    · rw [if_pos hx] at h; cases h
    · rw [if_neg hx] at h; cases d with
      | zero => simpa using hx
      | succ d => simpa using fIx_none h d
theorem fPar_some {a : Int} : ∀ {l : List Nd} {k k' j : Nat}, fPar a l k = some (k', j) -> ∃ d n, k' = k + d /\ l[d]? = some n /\ n.args[j]? = some a
  | [], k, k', j, h => by simp [fPar] at h
  | n :: l, k, k', j, h => by
    rw [fPar] at h; cases hf : fIx a n.args 0 with
    | some j' =>
      rw [hf] at h; cases h; obtain ⟨d, e1, e2⟩ := fIx_some hf; exact ⟨0, n, rfl, rfl, by rw [e1, Nat.zero_add]; exact e2⟩
    | none =>
      rw [hf] at h; obtain ⟨d, m, e1, e2, e3⟩ := fPar_some h; exact ⟨d + 1, m, by omega, by simpa using e2, e3⟩
theorem fPar_none {a : Int} : ∀ {l : List Nd} {k : Nat}, fPar a l k = none -> ∀ (d : Nat) n (j : Nat), l[d]? = some n -> n.args[j]? ≠ some a
  | [], k, h, d, n, j, hn => by simp at hn
  | m :: l, k, h, d, n, j, hn => by
    rw [fPar] at h; cases hf : fIx a m.args 0 with
    | some j' => rw [hf] at h; cases h
    | none =>
      rw [hf] at h; cases d with
      | zero => simp only [List.getElem?_cons_zero, Option.some.injEq] at hn; subst hn; exact fIx_none hf j
      | succ d => exact fPar_none h d n j (by simpa using hn)
theorem r_Parent_b0_ev {e : List Nd} {k : Nat} {n : Nd} (hn : e[k]? = some n) (hl : n.args.length <= 1000000) (a : Int) : ∀ j, j <= n.args.length -> Ev (fun f => r_Parent_b0 f e a (k : Int) (j : Int)) (match fIx a (n.args.drop j) j with | some j' => .inr ((k : Int), (j' : Int)) | none => .inl ()) := by
  refine down ?_ fun j hj ih => ?_
  · refine Ev.succ ?_; simp only [r_Parent_b0, Int.toNat_natCast, hn, Option.bind_some, nn, if_true]; exact Ev.cF (dnlt _) (Ev.some' (by simp [fIx]))
  · refine Ev.succ ?_; simp only [r_Parent_b0, Int.toNat_natCast, hn, getE hj, Option.bind_some, nn, if_true, dlt hj, cond_true, wsucc hj (show n.args.length <= 1099511627776 by omega)]; rw [drop_cons hj, fIx]; by_cases h : n.args[j] = a
    · refine Ev.cT (by rw [beq_iff_eq]; exact h) (Ev.some' ?_); rw [if_pos h]
    · refine Ev.cF (by rw [beq_eq_false_iff_ne]; exact h) ?_; rw [if_neg h]; exact ih
theorem r_Parent_b1_ev {e : List Nd} (hL : Lite e) (a : Int) : ∀ k, k <= e.length -> Ev (fun f => r_Parent_b1 f e a (k : Int)) (match fPar a (e.drop k) k with | some (k', j) => .inr ((k' : Int), (j : Int)) | none => .inl ()) := by
  have hlen := hL.len; refine down ?_ fun k hk ih => ?_
  · refine Ev.succ ?_; simp only [r_Parent_b1]; exact Ev.cF (dnlt _) (Ev.some' (by simp [fPar]))
  · refine Ev.succ ?_; simp only [r_Parent_b1]; rw [wsucc hk (by omega)]; have h0 := r_Parent_b0_ev (getE hk) (hL.nd k _ (getE hk)).2.2 a 0 (Nat.zero_le _); rw [List.drop_zero] at h0; refine Ev.cT (dlt hk) (Ev.bind h0 ?_); rw [drop_cons hk, fPar]; cases fIx a e[k].args 0 with
    | some j => simp only [sum_R]; exact Ev.some
    | none => simp only [sum_L]; exact ih
theorem r_Parent_ev {ts : List Tm} {e : List Nd} (he : e = flats 0 ts) (hL : Lite e) {i : Nat} {P j : Int} (hi : i < e.length) (hp : (parsF 0 ts)[i]? = some (P, j)) : Ev (fun k => r_Parent k e (i : Int)) (P, j) := by
  have hlen := hL.len; unfold r_Parent; rw [wsucc hi (by omega)]; refine Ev.bind (r_Parent_b1_ev hL (i : Int) (i + 1) (by omega)) ?_; cases hf : fPar (i : Int) (e.drop (i + 1)) (i + 1) with
  | some q =>
    obtain ⟨k', j'⟩ := q; obtain ⟨d, n, e1, e2, e3⟩ := fPar_some hf; rw [List.getElem?_drop] at e2; rw [he] at e2; obtain ⟨r, h1, h2, h3⟩ := parsF_of 0 ts (i + 1 + d) n j' (i : Int) e2 e3; obtain rfl : r = i := by omega
    rw [hp] at h3; cases h3; simp only [sum_R]; exact Ev.some' (by rw [e1, Nat.zero_add])
  | none =>
    simp only [sum_L]; rcases parsF_says 0 ts i P j hp with ⟨rfl, rfl⟩ | ⟨q, j', n, h1, h2, h3, h4, h5⟩
    · exact Ev.some
    · exfalso; rw [<- he] at h4; have := fPar_none hf (q - (i + 1)) n j' (by rw [List.getElem?_drop, show i + 1 + (q - (i + 1)) = q by omega]; exact h4); rw [Nat.zero_add] at h5; exact this h5
theorem pars_last {b : Nat} {p k p' k' : Int} (t : Tm) : (pars b p k t).set (t.size - 1) (p', k') = pars b p' k' t := by
  cases t with
  | mk x cs =>
    rw [pars_mk, pars_mk, show (mk x cs).size - 1 = sizes cs by unfold size; omega, List.set_append_right _ _ (by rw [parsL_len]; exact Nat.le_refl _), parsL_len, Nat.sub_self]; rfl
theorem t_parents_b0_ev {i : Nat} {args : List Int} (hl : args.length <= 1000000) (A B : List (Int × Int)) (last : List Tm) (ha : args = roots A.length last) :
    ∀ (rest : List Tm) (done : List Tm), last = done ++ rest -> Ev (fun k => t_parents_b0 k ((A ++ parsL A.length (i : Int) 0 done ++ parsF (A.length + sizes done) rest ++ B).map Prod.fst) ((A ++ parsL A.length (i : Int) 0 done ++ parsF (A.length + sizes done) rest ++ B).map Prod.snd) (i : Int) args (args.length : Int) (done.length : Int))
      ((A ++ parsL A.length (i : Int) 0 last ++ B).map Prod.fst, (A ++ parsL A.length (i : Int) 0 last ++ B).map Prod.snd) := by
  intro rest
  induction rest with
  | nil =>
    intro done hd; rw [List.append_nil] at hd; subst hd; refine Ev.succ ?_; simp only [t_parents_b0]; have : args.length = last.length := by rw [ha, roots_len]
    rw [this]; exact Ev.cF (dnlt _) (Ev.some' (by simp [parsF]))
  | cons c rest ih =>
    intro done hd; have hpos := c.size_pos; have hal : args.length = last.length := by rw [ha, roots_len]
    have hdl : done.length < args.length := by rw [hal, hd]; simp
    have hget : args[done.length]? = some ((A.length + sizes done + c.size - 1 : Nat) : Int) := by rw [ha, hd]; exact roots_get
    refine Ev.succ ?_; simp only [t_parents_b0, Int.toNat_natCast, hget, Option.bind_some, nn, if_true, wsucc hdl (show args.length <= 1099511627776 by omega)]; refine Ev.cT (dlt hdl) ?_; have hL : (A ++ parsL A.length (i : Int) 0 done).length = A.length + sizes done := by rw [List.length_append, parsL_len]
    have hset : (A ++ parsL A.length (i : Int) 0 done ++ parsF (A.length + sizes done) (c :: rest) ++ B).set (A.length + sizes done + c.size - 1) ((i : Int), (done.length : Int)) = A ++ parsL A.length (i : Int) 0 (done ++ [c]) ++ parsF (A.length + sizes (done ++ [c])) rest ++ B := by
      have e1 : parsL A.length (i : Int) 0 (done ++ [c]) = parsL A.length (i : Int) 0 done ++ pars (A.length + sizes done) (i : Int) (done.length : Int) c := by
        have gen : ∀ (d : List Tm) (b k : Nat), parsL b (i : Int) k (d ++ [c]) = parsL b (i : Int) k d ++ pars (b + sizes d) (i : Int) ((k + d.length : Nat) : Int) c := by
          intro d
          induction d with
          | nil => intro b k; simp [parsL, sizes]
          | cons x d ih =>
            intro b k; simp only [List.cons_append, parsL, ih, List.append_assoc, sizes, Nat.add_assoc, List.length_cons]; congr 4
            omega
        rw [gen, Nat.zero_add]
      rw [e1, sizes_append, sizes_one]; show (A ++ parsL A.length (i : Int) 0 done ++ (pars (A.length + sizes done) (-1) 0 c ++ parsF (A.length + sizes done + c.size) rest) ++ B).set _ _ = _
      rw [List.append_assoc, List.set_append_right _ _ (by rw [hL]; omega), hL, show A.length + sizes done + c.size - 1 - (A.length + sizes done) = c.size - 1 by omega]; rw [List.append_assoc (pars (A.length + sizes done) (-1) 0 c), List.set_append_left _ _ (by rw [pars_len]; omega), pars_last]; simp only [List.append_assoc, Nat.add_assoc]
    have hin : A.length + sizes done + c.size - 1 < (A ++ parsL A.length (i : Int) 0 done ++ parsF (A.length + sizes done) (c :: rest) ++ B).length := by
      rw [List.length_append, List.length_append, hL, parsF_len]; simp only [sizes]; omega
    rw [List.getElem?_map, List.getElem?_map, getE hin]; simp only [Option.map_some, Option.bind_some]; have := ih (done ++ [c]) (by rw [hd, List.append_assoc]; rfl); rw [<- hset, List.map_set, List.map_set] at this; rw [List.length_append] at this; exact this
theorem t_parents_b1_ev {e : List Nd} (hL : Lite e) : ∀ (l : List Nd) (acc : List Int) (ts : List Tm) (acc' : List Int) (i : Nat), acc = bgTs 0 ts -> sizes ts = i -> l = e.drop i -> i <= e.length -> scanN acc l = .inl acc' ->
    ∃ ts', flats 0 ts' = flats 0 ts ++ l /\ acc' = bgTs 0 ts' /\ Ev (fun k => t_parents_b1 k ((parsF 0 ts ++ List.replicate (e.length - i) ((-1 : Int), (0 : Int))).map Prod.fst) ((parsF 0 ts ++ List.replicate (e.length - i) ((-1 : Int), (0 : Int))).map Prod.snd) e (e.length : Int) (i : Int)) ((parsF 0 ts').map Prod.fst, (parsF 0 ts').map Prod.snd) := by
  have hlen := hL.len; intro l
  induction l with
  | nil =>
    intro acc ts acc' i ha hs hl hi h; have : e.length <= i := by
      have := congrArg List.length hl; rw [List.length_drop, List.length_nil] at this; omega
    obtain rfl : i = e.length := by omega
    refine ⟨ts, by simp, by rw [scanN] at h; cases h; exact ha, Ev.succ ?_⟩; simp only [t_parents_b1]; exact Ev.cF (dnlt _) (Ev.some' (by simp))
  | cons n l ih =>
    intro acc ts acc' i ha hs hl hi h; have hlt : i < e.length := by
      have := congrArg List.length hl; rw [List.length_drop, List.length_cons] at this; omega
    rw [drop_cons hlt] at hl; obtain ⟨rfl, rfl⟩ := List.cons.inj hl; rw [scanN] at h; have hc : nodeSpec (plB acc acc.length e[i].args.reverse) e[i] = 0 := by
      by_cases hc : nodeSpec (plB acc acc.length e[i].args.reverse) e[i] = 0
      · exact hc
      · rw [if_pos hc] at h; cases h
    rw [if_neg (fun k => k hc)] at h; obtain ⟨front, last, e1, e2, e3, e4⟩ := row_step ha (nodeSpec_pl hc); have hsz : sizes (front ++ [.mk (bare e[i]) last]) = i + 1 := by
      rw [sizes_append, sizes_one]; unfold size; rw [<- hs, e1, sizes_append]; omega
    obtain ⟨ts', h1, hb, h2⟩ := ih _ _ acc' (i + 1) e4.symm hsz rfl hlt h; refine ⟨ts', by rw [h1, e3, List.append_assoc]; rfl, hb, Ev.succ ?_⟩; simp only [t_parents_b1, Int.toNat_natCast, getE hlt, Option.bind_some, nn, if_true]; rw [wsucc hlt (by omega)]; refine Ev.cT (dlt hlt) ?_; have hrep : List.replicate (e.length - i) ((-1 : Int), (0 : Int)) = ((-1 : Int), (0 : Int)) :: List.replicate (e.length - (i + 1)) ((-1 : Int), (0 : Int)) := by
      rw [show e.length - i = (e.length - (i + 1)) + 1 by omega, List.replicate_succ]
    have hA : (parsF 0 front).length = sizes front := parsF_len 0 front; have key := t_parents_b0_ev (i := i) (args := e[i].args) (hL.nd i _ (getE hlt)).2.2 (parsF 0 front) (List.replicate (e.length - i) ((-1 : Int), (0 : Int))) last (by rw [hA]; exact e2) last [] rfl; have hstart : parsF 0 front ++ parsL (parsF 0 front).length (i : Int) 0 [] ++ parsF ((parsF 0 front).length + sizes []) last ++ List.replicate (e.length - i) ((-1 : Int), (0 : Int)) = parsF 0 ts ++ List.replicate (e.length - i) ((-1 : Int), (0 : Int)) := by
      rw [hA, e1, parsF_append]; simp [parsL, sizes]
    rw [hstart] at key; refine Ev.bind key ?_; have hend : parsF 0 front ++ parsL (parsF 0 front).length (i : Int) 0 last ++ List.replicate (e.length - i) ((-1 : Int), (0 : Int)) = parsF 0 (front ++ [.mk (bare e[i]) last]) ++ List.replicate (e.length - (i + 1)) ((-1 : Int), (0 : Int)) := by
      rw [hA, parsF_append, parsF_one, pars_mk, hrep]; have : sizes front + sizes last = i := by rw [<- sizes_append, <- e1, hs]
      simp [this]
    rw [hend]; exact h2
end Go.VL
end
section
namespace Go.VL
open Tm
theorem t_parents_ev {e : List Nd} (hL : Lite e) {acc' : List Int} (h : scanN [] e = .inl acc') : ∃ ts, e = flats 0 ts /\ acc' = bgTs 0 ts /\ Ev (fun k => t_parents k e) ((parsF 0 ts).map Prod.fst, (parsF 0 ts).map Prod.snd) := by
  have hlen := hL.len; obtain ⟨ts', h1, hb, h2⟩ := t_parents_b1_ev hL e [] [] acc' 0 rfl rfl rfl (Nat.zero_le _) h; refine ⟨ts', by rw [h1]; rfl, hb, ?_⟩; unfold t_parents; refine Ev.ifp ⟨rfl, by omega, by omega⟩ (Ev.ifp ⟨by omega, by omega, by omega⟩ ?_); have e1 : ((parsF 0 ([] : List Tm) ++ List.replicate (e.length - 0) ((-1 : Int), (0 : Int))).map Prod.fst) = (repOne [(-1)] (e.length : Int) : List Int) := by simp [parsF, repOne]
  have e2 : ((parsF 0 ([] : List Tm) ++ List.replicate (e.length - 0) ((-1 : Int), (0 : Int))).map Prod.snd) = List.replicate e.length (0 : Int) := by simp [parsF]
  rw [e1, e2] at h2; exact Ev.bind h2 Ev.some
theorem par_up {ts : List Tm} {i : Nat} {P j : Int} (hp : (parsF 0 ts)[i]? = some (P, j)) : (P = -1 /\ j = 0) \/ ∃ q : Nat, P = (q : Int) /\ i < q /\ q < (flats 0 ts).length := by
  rcases parsF_says 0 ts i P j hp with h | ⟨q, j', n, h1, h2, h3, h4, h5⟩
  · exact .inl h
  · exact .inr ⟨q, by rw [h1, Nat.zero_add], h3, (List.getElem?_eq_some_iff.1 h4).1⟩
def oldF (e : List Nd) (U : List (Int × Int)) : Nat -> Nat -> Bool
  | 0, _ => false
  | m + 1, i => match U[i]? with
    | some (P, j) => if P < 0 then false else (decide ((e[P.toNat]?.map Nd.kind) = some 19) && decide (j = 2)) || oldF e U m P.toNat
    | none => false
section
variable {ts : List Tm} {e : List Nd}
theorem t_isLost_b0_ev (he : e = flats 0 ts) : ∀ (m i : Nat), e.length <= i + m -> i < e.length -> Ev (fun k => t_isLost_b0 k e ((parsF 0 ts).map Prod.fst) ((parsF 0 ts).map Prod.snd) (i : Int)) (if oldF e (parsF 0 ts) m i = true then .inr false else .inl ()) := by
  intro m
  induction m with
  | zero => intro i h1 h2; omega
  | succ m ih =>
    intro i h1 h2; have hlt : i < (parsF 0 ts).length := by rw [parsF_len, <- flats_len 0 ts, <- he]; exact h2
    obtain ⟨P, j, hU⟩ : ∃ P j, (parsF 0 ts)[i]? = some (P, j) := ⟨_, _, getE hlt⟩; refine Ev.succ ?_; have hf : ((parsF 0 ts).map Prod.fst)[i]? = some P := by rw [List.getElem?_map, hU]; rfl
    have hs : ((parsF 0 ts).map Prod.snd)[i]? = some j := by rw [List.getElem?_map, hU]; rfl
    simp only [t_isLost_b0, Int.toNat_natCast, hf, hs, Option.bind_some, nn, if_true]; rw [oldF, hU]; simp only; rcases par_up hU with ⟨rfl, rfl⟩ | ⟨q, rfl, hq, hq2⟩
    · exact Ev.cF (by rfl) Ev.some
    · have hqe : q < e.length := by rw [he]; exact hq2
      refine Ev.cT (by rw [bne_iff_ne]; omega) (Ev.ifp (by omega) ?_); simp only [Int.toNat_natCast, getE hqe, Option.bind_some, Option.map_some, Option.some.injEq, show ¬ (q : Int) < 0 by omega, if_false]; have ihq := ih q (by omega) hqe; by_cases h3 : e[q].kind = 19
      · refine Ev.cT (by rw [h3]; rfl) ?_; by_cases h4 : j = 2
        · refine Ev.cT (by rw [h4]; rfl) (Ev.some' ?_); simp [h3, h4]
        · refine Ev.cF (by rw [beq_eq_false_iff_ne]; exact h4) (ihq.to ?_); simp [h4]
      · refine Ev.cF (by rw [beq_eq_false_iff_ne]; exact h3) (ihq.to ?_); simp [h3]
theorem r_old_ev (he : e = flats 0 ts) (hL : Lite e) : ∀ (m i : Nat), e.length <= i + m -> i < e.length -> ∀ P j, (parsF 0 ts)[i]? = some (P, j) -> ∀ o : Bool, Ev (fun k => r_Check_b1 k e P j o) (o || oldF e (parsF 0 ts) m i) := by
  intro m
  induction m with
  | zero => intro i h1 h2; omega
  | succ m ih =>
    intro i h1 h2 P j hU o; refine Ev.succ ?_; rw [oldF, hU]; simp only; rcases par_up hU with ⟨rfl, rfl⟩ | ⟨q, rfl, hq, hq2⟩
    · simp only [r_Check_b1]; exact Ev.cF (by rfl) (Ev.some' (by simp))
    · have hqe : q < e.length := by rw [he]; exact hq2
      have hlt : q < (parsF 0 ts).length := by rw [parsF_len, <- flats_len 0 ts]; exact hq2
      obtain ⟨P', j', hU'⟩ : ∃ P j, (parsF 0 ts)[q]? = some (P, j) := ⟨_, _, getE hlt⟩; simp only [r_Check_b1]; refine Ev.cT (decide_eq_true (by omega)) (Ev.bind0 (x := o || (decide (e[q].kind = 19) && decide (j = 2))) ?_ (Ev.bind (r_Parent_ev he hL hqe hU') ?_))
      · unfold r_Check_p2; cases o
        · simp only [Int.toNat_natCast, getE hqe, Option.bind_some, cond_false, nn, if_true, Bool.false_or]; by_cases h3 : e[q].kind = 19
          · rw [cond_T (by rw [h3]; rfl)]; by_cases h4 : j = 2
            · simp [h3, h4]
            · simp [h4]
          · rw [cond_F (by rw [beq_eq_false_iff_ne]; exact h3)]; simp [h3]
        · rfl
      · refine (ih q (by omega) hqe P' j' hU' _).to ?_; simp only [Int.toNat_natCast, getE hqe, Option.map_some, Option.some.injEq, show ¬ (q : Int) < 0 by omega, if_false, Bool.or_assoc]
theorem ops_no_terms (t : Str) (h : (opIn tabR t).2 = true) : rTerm t = false := by
  have h1 : ((tabR.map (·.text)).all fun t => !rTerm t) = true := by kernel_rfl
  by_cases hm : t ∈ tabR.map (·.text)
  · simpa using List.all_eq_true.1 h1 t hm
  · rw [opIn_none hm] at h; cases h
theorem apply_op {n : Nd} (h : nodeSpec true n = 0) (hk : n.kind = 3) : (opIn tabR n.text).2 = !rTerm n.text := by
  cases ho : (opIn tabR n.text).2
  · unfold nodeSpec at h
    split at h; · cases h
    split at h; · cases h
    split at h; · cases h
    split at h; · cases h
    split at h
    · rename_i h1; exact absurd h h1
    · rename_i h1; have h1 : nameErr n = 0 := by omega
      unfold nameErr at h1
      split at h1; · cases h1
      cases hr : rTerm n.text
      · simp [hk, ho, hr] at h1
      · rfl
  · rw [ops_no_terms _ ho]; rfl
def lostB (e : List Nd) (U : List (Int × Int)) (i : Nat) : Bool := match e[i]?, U[i]? with
  | some n, some (P, j) => if n.kind = 24 then (if P < 0 then true else match e[P.toNat]? with
      | some m => if m.kind = 3 then (opIn tabR m.text).2 else true
      | none => true) else if n.kind = 20 then !oldF e U e.length i else false
  | _, _ => false
theorem t_isLost_ev (he : e = flats 0 ts) (hL : Lite e) {i : Nat} (hi : i < e.length) : Ev (fun k => t_isLost k e (i : Int) ((parsF 0 ts).map Prod.fst) ((parsF 0 ts).map Prod.snd)) (lostB e (parsF 0 ts) i) := by
  have hlt : i < (parsF 0 ts).length := by rw [parsF_len, <- flats_len 0 ts, <- he]; exact hi
  obtain ⟨P, j, hU⟩ : ∃ P j, (parsF 0 ts)[i]? = some (P, j) := ⟨_, _, getE hlt⟩; have hf : ((parsF 0 ts).map Prod.fst)[i]? = some P := by rw [List.getElem?_map, hU]; rfl
  unfold t_isLost lostB; simp only [Int.toNat_natCast, getE hi, hf, Option.bind_some, nn, if_true, hU]; by_cases h1 : e[i].kind = 24
  · refine Ev.cT (by rw [h1]; rfl) ?_; simp only [h1, if_true]; rcases par_up hU with ⟨rfl, rfl⟩ | ⟨q, rfl, hq, hq2⟩
    · exact Ev.cT (by rfl) Ev.some
    · have hqe : q < e.length := by rw [he]; exact hq2
      refine Ev.cF (by rw [beq_eq_false_iff_ne]; omega) (Ev.ifp (by omega) ?_); simp only [Int.toNat_natCast, getE hqe, Option.bind_some, show ¬ (q : Int) < 0 by omega, if_false]; by_cases h2 : e[q].kind = 3
      · refine Ev.cF (by rw [h2]; rfl) (Ev.bind (t_operatorOf_ev _) (Ev.some' ?_)); simp only [h2, if_true]
      · refine Ev.cT (by rw [bne_iff_ne]; exact h2) (Ev.some' ?_); simp only [h2, if_false]
  · refine Ev.cF (by rw [beq_eq_false_iff_ne]; exact h1) ?_; simp only [h1, if_false]; by_cases h2 : e[i].kind = 20
    · refine Ev.cT (by rw [h2]; rfl) (Ev.bind (t_isLost_b0_ev he e.length i (by omega) hi) ?_); simp only [h2, if_true]; cases oldF e (parsF 0 ts) e.length i
      · simp only [Bool.false_eq_true, if_false, sum_L]; exact Ev.some
      · simp only [if_true, sum_R]; exact Ev.some
    · refine Ev.cF (by rw [beq_eq_false_iff_ne]; exact h2) (Ev.some' ?_); simp only [h2, if_false]
def fLost (e : List Nd) (U : List (Int × Int)) : Nat -> Nat -> Option Nat
  | 0, _ => none
  | m + 1, i => if lostB e U i = true then some i else fLost e U m (i + 1)
theorem t_CheckExpr_b1_ev (he : e = flats 0 ts) (hL : Lite e) : ∀ i, i <= e.length -> Ev (fun k => t_CheckExpr_b1 k e ((parsF 0 ts).map Prod.fst) ((parsF 0 ts).map Prod.snd) (e.length : Int) (i : Int)) (match fLost e (parsF 0 ts) (e.length - i) i with | some j => .inr ((j : Int), 30) | none => .inl ()) := by
  have hlen := hL.len; refine down ?_ fun i hi ih => ?_
  · refine Ev.succ ?_; simp only [t_CheckExpr_b1]; exact Ev.cF (dnlt _) (Ev.some' (by simp [fLost]))
  · refine Ev.succ ?_; simp only [t_CheckExpr_b1]; rw [wsucc hi (by omega)]; refine Ev.cT (dlt hi) (Ev.bind (t_isLost_ev he hL hi) ?_); rw [show e.length - i = (e.length - (i + 1)) + 1 by omega, fLost]; cases lostB e (parsF 0 ts) i
    · simp only [cond_false, Bool.false_eq_true, if_false]; exact ih
    · exact Ev.some
theorem r_Check_b2_ev (he : e = flats 0 ts) (hL : Lite e) (hok : ∀ (i : Nat) n, e[i]? = some n -> nodeSpec true n = 0) : ∀ i, i <= e.length -> Ev (fun k => r_Check_b2 k e (i : Int)) (match fLost e (parsF 0 ts) (e.length - i) i with | some j => .inr ((j : Int), 30) | none => .inl ()) := by
  have hlen := hL.len; refine down ?_ fun i hi ih => ?_
  · refine Ev.succ ?_; simp only [r_Check_b2]; exact Ev.cF (dnlt _) (Ev.some' (by simp [fLost]))
  · refine Ev.succ ?_; have hlt : i < (parsF 0 ts).length := by rw [parsF_len, <- flats_len 0 ts, <- he]; exact hi
    obtain ⟨P, j, hU⟩ : ∃ P j, (parsF 0 ts)[i]? = some (P, j) := ⟨_, _, getE hlt⟩; simp only [r_Check_b2, Int.toNat_natCast, getE hi, Option.bind_some, nn, if_true]; rw [wsucc hi (by omega)]; refine Ev.cT (dlt hi) (Ev.bind (r_Parent_ev he hL hi hU) ?_); have hlam : Ev (fun k => r_Check_p0 k e P (decide (P >= 0))) (match e[P.toNat]? with | some m => decide (0 <= P) && decide (m.kind = 3) && rTerm m.text | none => false) := by
      unfold r_Check_p0; rcases par_up hU with ⟨rfl, rfl⟩ | ⟨q, rfl, hq, hq2⟩
      · refine Ev.cF (by rfl) (Ev.some' ?_); cases e[(-1 : Int).toNat]? <;> rfl
      · have hqe : q < e.length := by rw [he]; exact hq2
        refine Ev.cT (decide_eq_true (by omega)) (Ev.ifp (by omega) ?_); simp only [Int.toNat_natCast, getE hqe, Option.bind_some, nn, decide_true, Bool.true_and]; by_cases h2 : e[q].kind = 3
        · refine Ev.cT (by rw [h2]; rfl) (Ev.bind (r_IsTerm_ev _ (by have := (hL.nd q _ (getE hqe)).1; omega)) (Ev.some' ?_)); simp only [h2, decide_true, Bool.true_and]
        · refine Ev.cF (by rw [beq_eq_false_iff_ne]; exact h2) (Ev.some' ?_); simp only [h2, decide_false, Bool.false_and]
    refine Ev.bind hlam ?_; have hold := r_old_ev he hL e.length i (by omega) hi P j hU false; rw [Bool.false_or] at hold; rw [show e.length - i = (e.length - (i + 1)) + 1 by omega, fLost]; have hl : lostB e (parsF 0 ts) i = if e[i].kind = 24 then !(match e[P.toNat]? with | some m => decide (0 <= P) && decide (m.kind = 3) && rTerm m.text | none => false) else if e[i].kind = 20 then !oldF e (parsF 0 ts) e.length i else false := by
      unfold lostB; simp only [getE hi, hU]; rcases par_up hU with ⟨rfl, rfl⟩ | ⟨q, rfl, hq, hq2⟩
      · simp only [show (-1 : Int) < 0 by omega, if_true, show ¬ (0 : Int) <= -1 by omega, decide_false, Bool.false_and]; cases e[(-1 : Int).toNat]? <;> rfl
      · have hqe : q < e.length := by rw [he]; exact hq2
        simp only [Int.toNat_natCast, getE hqe, show ¬ (q : Int) < 0 by omega, if_false, nn, decide_true, Bool.true_and]; by_cases h2 : e[q].kind = 3
        · simp only [h2, if_true, decide_true, Bool.true_and, apply_op (hok q _ (getE hqe)) h2]
        · simp only [h2, if_false, decide_false, Bool.false_and, Bool.not_false]
    rw [hl]; generalize (match e[P.toNat]? with | some m => decide (0 <= P) && decide (m.kind = 3) && rTerm m.text | none => false) = lam
    refine Ev.bind0 (x := decide (e[i].kind = 24) && !lam) (by
      unfold r_Check_p1; by_cases h1 : e[i].kind = 24
      · rw [cond_T (by rw [h1]; rfl)]; simp [h1]
      · rw [cond_F (by rw [beq_eq_false_iff_ne]; exact h1)]; simp [h1]) ?_
    by_cases h1 : e[i].kind = 24
    · simp only [h1, decide_true, Bool.true_and, if_true]; cases lam
      · exact Ev.some
      · refine Ev.cF rfl (Ev.bind hold ?_); exact Ev.cF (by rfl) ih
    · simp only [h1, decide_false, Bool.false_and, cond_false, if_false]; refine Ev.bind hold ?_; by_cases h2 : e[i].kind = 20
      · refine Ev.cT (by rw [h2]; rfl) ?_; simp only [h2, if_true]; cases oldF e (parsF 0 ts) e.length i
        · exact Ev.some
        · exact ih
      · refine Ev.cF (by rw [beq_eq_false_iff_ne]; exact h2) (ih.to ?_); simp only [h2, if_false, Bool.false_eq_true]
end
structure Valid (e : List Nd) : Prop where
  tree : ∃ t, e = flat 0 t
  len : e.length <= 160
  ok : ∀ (i : Nat) n, e[i]? = some n -> nodeSpec true n = 0
theorem scan_err : ∀ (l : List Nd) (acc : List Int) (p : Int × Int), scanN acc l = .inr p -> p.2 ≠ 0
  | [], acc, p, h => by rw [scanN] at h; cases h
  | n :: l, acc, p, h => by
    rw [scanN] at h; by_cases hc : nodeSpec (plB acc acc.length n.args.reverse) n = 0
    · rw [if_neg (fun k => k hc)] at h; exact scan_err l _ p h
    · rw [if_pos hc] at h; cases h; exact hc
theorem check_full (e : List Nd) (hL : Lite e) : ∃ r, Ev (fun k => t_CheckExpr k e) r /\ Ev (fun k => r_Check k e) r /\ (r.2 = 0 -> Valid e) := by
  have hlen := hL.len; by_cases h0 : e.length = 0
  · refine ⟨(0, 1), ?_, ?_, fun h => by cases h⟩
    · unfold t_CheckExpr; simp only [t_wrong_eq, Option.bind_some, h0]; refine Ev.bind (g_Or_ev _ (by simp)) ?_; exact Ev.cT (by rfl) Ev.some
    · unfold r_Check; simp only [h0]; exact Ev.cT (by rfl) Ev.some
  by_cases h1 : 160 < e.length
  · refine ⟨(0, 2), ?_, ?_, fun h => by cases h⟩
    · unfold t_CheckExpr; have a : ((e.length : Int) == 0) = false := by rw [beq_eq_false_iff_ne]; omega
      have b : decide ((e.length : Int) > 160) = true := decide_eq_true (by omega); simp only [t_wrong_eq, Option.bind_some, a, b]; refine Ev.bind (g_Or_ev _ (by simp)) ?_; exact Ev.cT (by rfl) Ev.some
    · unfold r_Check; refine Ev.cF (by rw [beq_eq_false_iff_ne]; omega) ?_; exact Ev.cT (decide_eq_true (by omega)) Ev.some
  have a : ((e.length : Int) == 0) = false := by rw [beq_eq_false_iff_ne]; omega
  have b : decide ((e.length : Int) > 160) = false := decide_eq_false (by omega); have st := t_CheckExpr_b0_ev hL 0 (Nat.zero_le _) [] (OkTo.zero e); have sr := r_Check_b0_ev hL 0 (Nat.zero_le _) [] (OkTo.zero e); rw [List.drop_zero] at st sr; have startT : ∀ r, Ev (fun k => Option.bind (t_CheckExpr_b0 k e ([] : List Int) (e.length : Int) ((0 : Nat) : Int)) (fun o => Sum.elim (fun p40 => Option.bind (t_parents k e) fun p51 => Option.bind (t_CheckExpr_b1 k e p51.1 p51.2 (e.length : Int) ((0 : Nat) : Int)) (fun o => Sum.elim (fun p58 => if 0 <= (IntKind.wrap .i64 ((e.length : Int) - 1)) then Option.bind (p40[(IntKind.wrap .i64 ((e.length : Int) - 1)).toNat]?) fun x65 => cond (x65 != 0) (some ((IntKind.wrap .i64 ((e.length : Int) - 1)), 15)) (some (0, 0)) else none) (fun p74 => some (p74.1, p74.2)) o)) (fun p80 => some (p80.1, p80.2)) o)) r -> Ev (fun k => t_CheckExpr k e) r := by
    intro r hr; unfold t_CheckExpr; simp only [t_wrong_eq, Option.bind_some, a, b]; refine Ev.bind (g_Or_ev _ (by simp)) ?_; exact Ev.cF (by rfl) hr
  have startR : ∀ r, Ev (fun k => Option.bind (r_Check_b0 k e ((0 : Nat) : Int)) (fun o => Sum.elim (fun p9 => Option.bind (r_Check_b2 k e ((0 : Nat) : Int)) (fun o => Sum.elim (fun p81 => Option.bind (b_First k e (IntKind.wrap .i64 ((e.length : Int) - 1))) fun p87 => cond (p87 != 0) (some ((IntKind.wrap .i64 ((e.length : Int) - 1)), 15)) (some (0, 0))) (fun p89 => some (p89.1, p89.2)) o)) (fun p95 => some (p95.1, p95.2)) o)) r -> Ev (fun k => r_Check k e) r := by
    intro r hr; unfold r_Check; exact Ev.cF a (Ev.cF b hr)
  cases hs : scanN [] e with
  | inr p =>
    rw [hs] at st sr; refine ⟨p, startT _ (Ev.bind st ?_), startR _ (Ev.bind sr ?_), fun h => absurd h (scan_err _ _ _ hs)⟩
    · simp only [sum_R]; exact Ev.some
    · simp only [sum_R]; exact Ev.some
  | inl acc =>
    rw [hs] at st sr; obtain ⟨ts, he, hacc, hpar⟩ := t_parents_ev hL hs; have hok := scan_ok e [] acc hs; have lt := t_CheckExpr_b1_ev he hL 0 (Nat.zero_le _); have lr := r_Check_b2_ev he hL hok 0 (Nat.zero_le _); cases hl : fLost e (parsF 0 ts) (e.length - 0) 0 with
    | some j =>
      rw [hl] at lt lr; refine ⟨((j : Int), 30), startT _ (Ev.bind st ?_), startR _ (Ev.bind sr ?_), fun h => by cases h⟩
      · simp only [sum_L]; refine Ev.bind hpar (Ev.bind lt ?_); simp only [sum_R]; exact Ev.some
      · simp only [sum_L]; refine Ev.bind lr ?_; simp only [sum_R]; exact Ev.some
    | none =>
      rw [hl] at lt lr; have hOk : OkTo e e.length acc := by
        have gen : ∀ (l : List Nd) (i : Nat) (a : List Int), l = e.drop i -> i <= e.length -> OkTo e i a -> scanN a l = .inl acc -> OkTo e e.length acc := by
          intro l
          induction l with
          | nil =>
            intro i a hl hi ho h; rw [scanN] at h; cases h; have := congrArg List.length hl; rw [List.length_drop, List.length_nil] at this; obtain rfl : i = e.length := by omega
            exact ho
          | cons n l ih =>
            intro i a hl hi ho h; have hlt : i < e.length := by
              have := congrArg List.length hl; rw [List.length_drop, List.length_cons] at this; omega
            rw [drop_cons hlt] at hl; obtain ⟨rfl, rfl⟩ := List.cons.inj hl; rw [scanN, ho.len] at h; by_cases hc : nodeSpec (plB a i e[i].args.reverse) e[i] = 0
            · rw [if_neg (fun k => k hc)] at h; exact ih (i + 1) _ rfl hlt (ho.succ (getE hlt) (nodeSpec_pl hc)) h
            · rw [if_pos hc] at h; cases h
        exact gen e 0 [] rfl (Nat.zero_le _) (OkTo.zero e) hs
      obtain ⟨n, bb, h3, h4, h5, h6, _⟩ := hOk.at_ (e.length - 1) (by omega); have hw : IntKind.wrap .i64 ((e.length : Int) - 1) = ((e.length - 1 : Nat) : Int) := by rw [wrap64 (by omega) (by omega)]; omega
      refine ⟨if bb = 0 then (0, 0) else (((e.length - 1 : Nat) : Int), 15), startT _ (Ev.bind st ?_), startR _ (Ev.bind sr ?_), fun hr => ?_⟩
      · simp only [sum_L]; refine Ev.bind hpar (Ev.bind lt ?_); simp only [sum_L, hw, Int.toNat_natCast, h4, Option.bind_some, nn, if_true]; by_cases hb : bb = 0
        · exact Ev.cF (by rw [hb]; rfl) (Ev.some' (by simp [hb]))
        · exact Ev.cT (by rw [bne_iff_ne]; exact hb) (Ev.some' (by simp [hb]))
      · simp only [sum_L]; refine Ev.bind lr ?_; simp only [sum_L, hw]; refine Ev.bind (b_First_ev hOk hlen h4) ?_; by_cases hb : bb = 0
        · exact Ev.cF (by rw [hb]; rfl) (Ev.some' (by simp [hb]))
        · exact Ev.cT (by rw [bne_iff_ne]; exact hb) (Ev.some' (by simp [hb]))
      · by_cases hb : bb = 0
        case neg => rw [if_neg hb] at hr; cases hr
        refine ⟨?_, by omega, hok⟩; rcases List.eq_nil_or_concat ts with rfl | ⟨l, t, rfl⟩
        · rw [he] at h0; simp [flats] at h0
        · rw [List.concat_eq_append] at *; have hsz : e.length = sizes l + t.size := by rw [he, flats_len, sizes_append, sizes_one]
          have hpos := t.size_pos; have hg := bgTs_at (b := 0) (l := l) (m := []) (t := t); rw [<- hacc, Nat.zero_add, show sizes l + t.size - 1 = e.length - 1 by omega, h4] at hg; have hl0 : sizes l = 0 := by have := Option.some.inj hg; omega
          cases l with
          | nil => exact ⟨t, by rw [he]; simp [flats]⟩
          | cons c l =>
            have := c.size_pos; simp only [sizes] at hl0; omega
end Go.VL
end
section
namespace Go.VL
open Go.Proofs Go.RowKit
theorem slc_clip {α : Type} (f : α -> List PV) (sz : Nat) [hr : RowF f sz] (l : List α) : slcPV sz (.isl (l.map f) .unk) none (some (.int .i64 (l.length : Int))) (some (.int .i64 (l.length : Int))) = some (.isl (l.map f) .exact) := by
  have hl : lenOk sz (l.map f) := fun cs h => by
    obtain ⟨x, _, rfl⟩ := List.mem_map.1 h; exact hr.len x
  have h0 : (0 : Int) <= (l.length : Int) := by omega
  simp only [slcPV, natOf]; rw [if_pos h0]; simp only [Int.toNat_natCast, List.length_map, Option.isSome_some, and_true]; rw [if_pos ⟨Nat.zero_le _, Nat.le_refl _, hl⟩]; simp only [if_true]; rw [List.take_of_length_le (by rw [List.length_map]; exact Nat.le_refl _), List.drop_zero]
theorem pu_exact (l : List Str) : Pu (.isl (l.map strL) .exact) := by
  have h := pu_sl pu_strL l; cases h with
  | isl _ _ h1 h2 => exact .isl _ _ h1 (by simp)
theorem clip120_c (l : List Str) {c : Ck} : PCall Tryz.prog 120 [.isl (l.map strL) c] (.isl (l.map strL) .exact) := by
  refine PCall.wk (args := [.isl (l.map strL) .unk]) ?_ (.isl .nil); refine PCall.of_empty (PuL.mem (.cons (pu_sl pu_strL _) .nil)) (MCall_of_W ok120 (by simp) (W_start ?_)) (pu_exact l); unfold ac120; simp -implicitDefEqProofs only [go_sem, ↓reduceIte, Nat.reduceEqDiff, List.length_map, slc_clip strL 1]; first | done | exact .pure _ (pu_exact l)
end Go.VL
end
section
set_option maxRecDepth 8000
namespace Go.VL
open Go.Proofs
theorem dop_app {α : Type} {σ : Nat -> PV} {H : AH} {sz b : Nat} {x y : AE} {f : α -> List PV} (hf : ∀ x, rowLike sz (f x)) (xs ys : List α) (c c2 : Ck)
    (hx : x.ev σ = .isl (xs.map f) c) (hy : wk2 (y.ev σ) = .isl (ys.map f) c2) (hok : okc H c) (hb : (xs.length + ys.length) * b <= 1099511627776) :
    ∃ c' H', dop (.app sz b x y) σ H = some (.isl ((xs ++ ys).map f) c', H') /\ okc H' c' /\ H.next <= H'.next /\ (∀ i, H'.obj i = H.obj i) /\ (∀ c3, okc H c3 -> Dis c c3 -> okc H' c3 /\ Dis c' c3) := by
  have h := WO_app (P := Tryz.prog) (s := []) (Q := fun e σ' H' => ∃ c', σ' = upd σ (some 0) (.isl ((xs ++ ys).map f) c') /\ okc H' c' /\ H.next <= H'.next /\ (∀ i, H'.obj i = H.obj i) /\ (∀ c3, okc H c3 -> Dis c c3 -> okc H' c3 /\ Dis c' c3)) (d := some 0) (l := []) (H := H) hf xs ys c c2 hx hy hok hb
    (fun c' H' h1 h2 h3 h4 => ⟨c', rfl, h1, h2, h3, h4⟩)
  have h2 : WD Tryz.prog (dop (.app sz b x y) σ H) (some 0) [] [] (fun e σ' H' => ∃ c', σ' = upd σ (some 0) (.isl ((xs ++ ys).map f) c') /\ okc H' c' /\ H.next <= H'.next /\ (∀ i, H'.obj i = H.obj i) /\ (∀ c3, okc H c3 -> Dis c c3 -> okc H' c3 /\ Dis c' c3)) σ := by
    have h3 : WO Tryz.prog (⟨some 0, .d (.app sz b x y), none⟩ :: []) [] _ σ H := h; rw [WO, WOps_d] at h3; revert h3; cases dop (.app sz b x y) σ H with
    | none => intro h3; exact h3
    | some q => intro h3; exact h3
  revert h2; cases dop (.app sz b x y) σ H with
  | none => intro h2; exact h2.elim
  | some q =>
    intro h2; obtain ⟨c', e, h3⟩ := (h2 : ∃ c', upd σ (some 0) q.1 = upd σ (some 0) (.isl ((xs ++ ys).map f) c') /\ okc q.2 c' /\ H.next <= q.2.next /\ (∀ i, q.2.obj i = H.obj i) /\ (∀ c3, okc H c3 -> Dis c c3 -> okc q.2 c3 /\ Dis c' c3)); have e2 := congrFun e 0; simp only [upd, if_true] at e2; exact ⟨c', q.2, by rw [<- e2], h3⟩
section
variable {α : Type}
def walkL (rec : Int -> List Str -> α -> Option α) (n : Nd) (bound : List Str) : Nat -> List Int -> α -> Option α
  | _, [], a => some a
  | i, op :: l, a => Option.bind (t_binds n (i : Int)) fun b => if (bound.length + b.length) * 16 <= 1099511627776 then Option.bind (rec op (bound ++ b) a) fun a' => walkL rec n bound (i + 1) l a' else none
def walkF (step : α -> Int -> List Str -> Option α) (e : List Nd) : Nat -> Int -> List Str -> α -> Option α
  | 0, _, _, _ => none
  | k + 1, at_, bound, a => Option.bind (step a at_ bound) fun a' => if 0 <= at_ then Option.bind (e[at_.toNat]?) fun n => if n.args.length <= 1099511627776 then walkL (walkF step e k) n bound 0 n.args a' else none else none
structure Visit (g : FuncId) (caps : List PV) (S : α -> AH -> Prop) (step : α -> Int -> List Str -> Option α) : Prop where
  stable : ∀ a H H', S a H -> H.next <= H'.next -> (∀ i, H'.obj i = H.obj i) -> (∀ c, okc H c -> okc H' c) -> S a H'
  call : ∀ a at_ bound a' H, S a H -> step a at_ bound = some a' -> MCall Tryz.prog g (.int .i64 at_ :: .isl (bound.map strL) .unk :: caps) H fun _ H' => S a' H'
theorem walk_loop {g : FuncId} {caps : List PV} {S : α -> AH -> Prop} {step : α -> Int -> List Str -> Option α} (hv : Visit g caps S step) (e : List Nd) (k : Nat)
    (ih : ∀ (at_ : Int) (bound : List Str) (a a' : α) (H : AH), S a H -> walkF step e k at_ bound a = some a' -> MCall Tryz.prog 70 [exprPV e, .int .i64 at_, strsPV bound, .fn (.func g) [] caps] H fun _ H' => S a' H')
    (at_ : Int) (bound : List Str) (n : Nd) (e2 : 0 <= at_) (e3 : e[at_.toNat]? = some n) (e4 : n.args.length <= 1099511627776) :
    ∀ (l : List Int) (i : Nat) (a a' : α) (σ : Nat -> PV) (H : AH), l = n.args.drop i -> i <= n.args.length -> σ 0 = exprPV e -> σ 1 = .int .i64 at_ -> σ 2 = strsPV bound -> σ 3 = .fn (.func g) [] caps -> σ 18 = intsPV n.args -> σ 19 = .int .i64 n.args.length -> σ 20 = .int .i64 i ->
      S a H -> walkL (walkF step e k) n bound i l a = some a' -> ∀ (Q : Post), (∀ σ' H', S a' H' -> Q (.exit 0) σ' H') -> W Tryz.prog (.loop ac70_b0) Q σ H := by
  intro l
  induction l with
  | nil =>
    intro i a a' σ H hl hi s0 s1 s2 s3 s18 s19 s20 hS h Q q0; have hii : i = n.args.length := by
      have := congrArg List.length hl; rw [List.length_drop, List.length_nil] at this; omega
    rw [walkL] at h; cases h; refine W_loopK (fun K hK => W_start ?_); unfold ac70_b0; have hd : decide ((i : Int) < (n.args.length : Int)) = false := decide_eq_false (by omega); simp -implicitDefEqProofs only [go_sem, ↓reduceIte, Nat.reduceEqDiff, s19, s20, hd]; exact q0 _ _ hS
  | cons op l ihl =>
    intro i a a' σ H hl hi s0 s1 s2 s3 s18 s19 s20 hS h Q q0; have hlt : i < n.args.length := by
      have := congrArg List.length hl; rw [List.length_drop, List.length_cons] at this; omega
    have hop : n.args[i]? = some op := by
      have := congrArg (·[0]?) hl
      simpa [List.getElem?_drop] using this.symm
    have hl' : l = n.args.drop (i + 1) := by
      have := congrArg List.tail hl; simpa using this
    rw [walkL] at h; cases e5 : t_binds n (i : Int) with
    | none => rw [bind_N e5] at h; cases h
    | some b =>
    rw [bind_S e5] at h; by_cases e6 : (bound.length + b.length) * 16 <= 1099511627776
    case neg => rw [if_neg e6] at h; cases h
    rw [if_pos e6] at h; cases e7 : walkF step e k op (bound ++ b) a with
    | none => rw [bind_N e7] at h; cases h
    | some a1 =>
    rw [bind_S e7] at h; refine W_loopK (fun K hK => W_start ?_); unfold ac70_b0; have hd : decide ((i : Int) < (n.args.length : Int)) = true := decide_eq_true (by omega); simp -implicitDefEqProofs only [go_sem, ↓reduceIte, Nat.reduceEqDiff, s0, s1, s2, s3, s18, s19, s20, hd, List.getElem?_map, hop, Option.map_some]; have hb := t_binds_c e5; have hw : IntKind.wrap .i64 ((i : Int) + 1) = ((i + 1 : Nat) : Int) := by rw [IntKind.wrap_i64]; omega
    refine ⟨fun _ => True, trivial, ?_⟩; refine WPar_r (exprPV e) (fun H' _ => by simp -implicitDefEqProofs only [go_sem, ↓reduceIte, Nat.reduceEqDiff, s0, s1, s2, s3, s18, s19, s20, e2, e3, List.getElem?_map, Option.map_some, Nat.reduceAdd]) ?_; refine WPar_r (.int .i64 op) (fun H' _ => by simp -implicitDefEqProofs only [go_sem, ↓reduceIte, Nat.reduceEqDiff, s0, s1, s2, s3, s18, s19, s20, e2, e3, List.getElem?_map, Option.map_some, Nat.reduceAdd]) ?_; refine WPar_r (strsPV bound) (fun H' _ => by simp -implicitDefEqProofs only [go_sem, ↓reduceIte, Nat.reduceEqDiff, s0, s1, s2, s3, s18, s19, s20, e2, e3, List.getElem?_map, Option.map_some, Nat.reduceAdd]) ?_; refine WPar_call (.isl (bound.map strL) .exact) (by simp -implicitDefEqProofs only [go_sem, ↓reduceIte, Nat.reduceEqDiff, s0, s1, s2, s3, s18, s19, s20, e2, e3, List.getElem?_map, Option.map_some, Nat.reduceAdd]; exact clip120_c bound) ?_; refine WPar_r (exprPV e) (fun H' _ => by simp -implicitDefEqProofs only [go_sem, ↓reduceIte, Nat.reduceEqDiff, s0, s1, s2, s3, s18, s19, s20, e2, e3, List.getElem?_map, Option.map_some, Nat.reduceAdd]) ?_; refine WPar_r (.int .i64 at_) (fun H' _ => by simp -implicitDefEqProofs only [go_sem, ↓reduceIte, Nat.reduceEqDiff, s0, s1, s2, s3, s18, s19, s20, e2, e3, List.getElem?_map, Option.map_some, Nat.reduceAdd]) ?_; refine WPar_r (.iptr n.cells 0) (fun H' _ => by simp -implicitDefEqProofs only [go_sem, ↓reduceIte, Nat.reduceEqDiff, s0, s1, s2, s3, s18, s19, s20, e2, e3, List.getElem?_map, Option.map_some, Nat.reduceAdd]) ?_; refine WPar_r (.agg n.cells) (fun H' _ => by simp -implicitDefEqProofs only [go_sem, ↓reduceIte, Nat.reduceEqDiff, s0, s1, s2, s3, s18, s19, s20, e2, e3, List.getElem?_map, Option.map_some, Nat.reduceAdd]) ?_; refine WPar_r (.int .i64 i) (fun H' _ => by simp -implicitDefEqProofs only [go_sem, ↓reduceIte, Nat.reduceEqDiff, s0, s1, s2, s3, s18, s19, s20, e2, e3, List.getElem?_map, Option.map_some, Nat.reduceAdd]) ?_; refine WPar_call (strsPV b) (by simp -implicitDefEqProofs only [go_sem, ↓reduceIte, Nat.reduceEqDiff, s0, s1, s2, s3, s18, s19, s20, e2, e3, List.getElem?_map, Option.map_some, Nat.reduceAdd]; exact hb) ?_; obtain ⟨c', H', f1, f2, f3, f4, f5⟩ := dop_app (σ := (upd (upd (upd (upd (upd (upd (upd (upd (upd (upd (upd (upd (upd (upd (upd (upd σ (some 21) (PV.bool true)) (some 22) (PV.int IntKind.i64 ↑i)) (some 23) (PV.iptr [PV.int IntKind.i64 op] 0)) (some 24) (PV.int IntKind.i64 op)) (some 8) (PV.int IntKind.i64 ↑i)) (some 9) (PV.int IntKind.i64 op)) (some 25) (exprPV e)) (some 26) (.int .i64 op)) (some 27) (strsPV bound)) (some 28) (.isl (bound.map strL) .exact)) (some 29) (exprPV e)) (some 30) (.int .i64 at_)) (some 31) (.iptr n.cells 0)) (some 32) (.agg n.cells)) (some 33) (.int .i64 i)) (some 34) (strsPV b))) (H := H) (sz := 1) (b := 16) (x := AE.t 28) (y := AE.t 34) row_str bound b .exact .unk (by simp -implicitDefEqProofs only [go_sem, ↓reduceIte, Nat.reduceEqDiff, s0, s1, s2, s3, s18, s19, s20, e2, e3, List.getElem?_map, Option.map_some, Nat.reduceAdd]) (by simp -implicitDefEqProofs only [go_sem, ↓reduceIte, Nat.reduceEqDiff, s0, s1, s2, s3, s18, s19, s20, e2, e3, List.getElem?_map, Option.map_some, Nat.reduceAdd]) trivial e6; refine WPar_d _ H' f1 trivial ?_; refine WPar_r (.fn (.func g) [] caps) (fun H' _ => by simp -implicitDefEqProofs only [go_sem, ↓reduceIte, Nat.reduceEqDiff, s0, s1, s2, s3, s18, s19, s20, e2, e3, List.getElem?_map, Option.map_some, Nat.reduceAdd]) ?_; have hS' : S a H' := hv.stable a H H' hS f3 f4 fun c hc => (f5 c hc .exact).1; rw [WPar_nil]; refine WO_start ?_; simp -implicitDefEqProofs only [go_sem, ↓reduceIte, Nat.reduceEqDiff, s0, s1, s2, s3, s18, s19, s20, e2, e3, List.getElem?_map, Option.map_some, Nat.reduceAdd]; refine MCall.mono (MCall.wk (ih op (bound ++ b) a a1 H' hS' e7) (.same (.same (.isl (.same .nil))))) fun r H2 hS2 => ?_; simp -implicitDefEqProofs only [go_sem, ↓reduceIte, Nat.reduceEqDiff, s0, s1, s2, s3, s18, s19, s20, e2, e3, List.getElem?_map, Option.map_some, Nat.reduceAdd]; refine hK _ _ ?_; refine ihl (i + 1) a1 a' _ H2 hl' hlt ?_ ?_ ?_ ?_ ?_ ?_ ?_ hS2 h Q q0
    all_goals (simp -implicitDefEqProofs only [go_sem, ↓reduceIte, Nat.reduceEqDiff, s0, s1, s2, s3, s18, s19, s20, e2, e3, List.getElem?_map, Option.map_some, Nat.reduceAdd, hw]; try rfl)
theorem walk70 {g : FuncId} {caps : List PV} {S : α -> AH -> Prop} {step : α -> Int -> List Str -> Option α} (hv : Visit g caps S step) (e : List Nd) :
    ∀ (k : Nat) (at_ : Int) (bound : List Str) (a a' : α) (H : AH), S a H -> walkF step e k at_ bound a = some a' -> MCall Tryz.prog 70 [exprPV e, .int .i64 at_, strsPV bound, .fn (.func g) [] caps] H fun _ H' => S a' H' := by
  intro k
  induction k with
  | zero => intro at_ bound a a' H hS h; simp only [walkF, reduceCtorEq] at h
  | succ k ih =>
    intro at_ bound a a' H hS h
    rw [walkF] at h; cases e1 : step a at_ bound with
    | none => rw [bind_N e1] at h; cases h
    | some a1 =>
    rw [bind_S e1] at h; by_cases e2 : 0 <= at_
    case neg => rw [if_neg e2] at h; cases h
    rw [if_pos e2] at h; cases e3 : e[at_.toNat]? with
    | none => rw [bind_N e3] at h; cases h
    | some n =>
    rw [bind_S e3] at h; by_cases e4 : n.args.length <= 1099511627776
    case neg => rw [if_neg e4] at h; cases h
    rw [if_pos e4] at h; refine MCall_of_W ok70 (by simp) (W_start ?_); unfold ac70; simp -implicitDefEqProofs only [go_sem, ↓reduceIte, Nat.reduceEqDiff]; refine MCall.mono (hv.call a at_ bound a1 H hS e1) fun r H1 hS1 => ?_; simp -implicitDefEqProofs only [go_sem, ↓reduceIte, Nat.reduceEqDiff, e2, e3]; refine walk_loop hv e k ih at_ bound n e2 e3 e4 n.args 0 a1 a' _ H1 rfl (Nat.zero_le _) ?_ ?_ ?_ ?_ ?_ ?_ ?_ hS1 h _ ?_
    all_goals first
      | (simp -implicitDefEqProofs only [go_sem, ↓reduceIte, Nat.reduceEqDiff]; done)
      | skip
    intro σ' H' hS'; exact hS'
end
end Go.VL
end
section
set_option maxRecDepth 8000
set_option maxHeartbeats 4000000
namespace Go.VL
open Go.Proofs
def r_BoundAt_b0 : Nat -> (List Nd) -> (List Str) -> Int -> Int -> Option (List Str)
  | 0, _, _, _, _ => none
  | k + 1, e_0, out_5, at_6, place_7 =>
    cond (decide (at_6 >= 0)) (if 0 <= at_6 then Option.bind (e_0[at_6.toNat]?) fun x5 => Option.bind (r_Binds x5 place_7) fun p8 => if (([] : List Str).length + p8.length) * 16 <= 1099511627776 then if ((([] : List Str) ++ p8).length + out_5.length) * 16 <= 1099511627776 then Option.bind (r_Parent k e_0 at_6) fun p25 => r_BoundAt_b0 k e_0 ((([] : List Str) ++ p8) ++ out_5) p25.1 p25.2 else none else none else none) (some (out_5))
def r_BoundAt (k : Nat) (e_0 : List Nd) (i_1 : Int) : Option (List Str) :=
  Option.bind (r_Parent k e_0 i_1) fun p2 => Option.bind (r_BoundAt_b0 k e_0 ([] : List Str) p2.1 p2.2) (fun p28 => some p28)
end Go.VL
end
section
namespace Go.VL
open Tm
def bindF (n : Nd) (p : Nat) : List Str := (t_binds n (p : Int)).getD []
theorem valid_23 {n : Nd} (h : nodeSpec true n = 0) (hk : n.kind = 23) : n.args.length = 2 /\ 1 <= n.names.length := by
  unfold nodeSpec at h
  split at h; · cases h
  split at h; · cases h
  rename_i _ h1; have h1 : shapeOk n = true := by simpa using h1
  unfold shapeOk at h1; have hs : rShape 23 = ((1, 5, 2, 2), false) := by kernel_rfl
  rw [hk, hs] at h1; simp [inB] at h1; omega
theorem t_binds_bindF {n : Nd} (h : nodeSpec true n = 0) (hl : n.args.length <= 1000000) (p : Nat) : t_binds n (p : Int) = some (bindF n p) := by
  have hj : ∃ b, t_binds_j0 n.kind = some b := by
    unfold t_binds_j0
    repeat' first
      | exact ⟨_, rfl⟩
      | (generalize (n.kind == _) = b; cases b <;> simp only [cond_true, cond_false])
  obtain ⟨b, hb⟩ := hj; have : ∃ r, t_binds n (p : Int) = some r := by
    unfold t_binds; rw [hb, Option.bind_some]; cases b with
    | true => rw [cond_true]; cases ((p : Int) == IntKind.wrap .i64 ((n.args.length : Int) - 1)) <;> exact ⟨_, rfl⟩
    | false =>
      rw [cond_false]; by_cases hk : n.kind = 23
      · obtain ⟨h1, h2⟩ := valid_23 h hk; rw [cond_T (by rw [hk]; rfl)]; rw [if_pos h2, if_pos h2]; cases ((p : Int) == IntKind.wrap .i64 ((n.args.length : Int) - 1)) <;> cases (n.n == 1) <;> exact ⟨_, rfl⟩
      · rw [cond_F (by rw [beq_eq_false_iff_ne]; exact hk)]; exact ⟨_, rfl⟩
  obtain ⟨r, hr⟩ := this; unfold bindF; rw [hr]; rfl
theorem r_binds_bindF {n : Nd} (h : nodeSpec true n = 0) (hl : n.args.length <= 1000000) (p : Nat) : r_Binds n (p : Int) = some (bindF n p) := by
  rw [<- t_binds_bindF h hl]; unfold r_Binds t_binds; show Option.bind (t_binds_j0 n.kind) _ = _
  cases t_binds_j0 n.kind with
  | none => rfl
  | some b =>
    rw [Option.bind_some, Option.bind_some]; cases b with
    | true => rfl
    | false =>
      rw [cond_false, cond_false]; by_cases hk : n.kind = 23
      · obtain ⟨h1, h2⟩ := valid_23 h hk; rw [h1]; rfl
      · rw [cond_F (by rw [beq_eq_false_iff_ne]; exact hk), cond_F (by rw [beq_eq_false_iff_ne]; exact hk)]
theorem bindF_len {n : Nd} {m : Nat} (hm : n.names.length <= m) (p : Nat) : (bindF n p).length <= m := by
  have key : ∀ r, t_binds n (p : Int) = some r -> r.length <= m := by
    intro r hr; unfold t_binds at hr; cases hj : t_binds_j0 n.kind with
    | none => rw [hj] at hr; cases hr
    | some b =>
      rw [hj, Option.bind_some] at hr; cases b with
      | true =>
        rw [cond_true] at hr; cases e : ((p : Int) == IntKind.wrap .i64 ((n.args.length : Int) - 1)) <;> rw [e] at hr <;> cases hr
        · exact Nat.zero_le _
        · exact hm
      | false =>
        rw [cond_false] at hr; cases e0 : (n.kind == 23) <;> rw [e0] at hr
        · cases hr; exact Nat.zero_le _
        · rw [cond_true] at hr; by_cases h1 : 1 <= n.names.length
          · rw [if_pos h1, if_pos h1] at hr; cases e : ((p : Int) == IntKind.wrap .i64 ((n.args.length : Int) - 1)) <;> rw [e] at hr
            · cases e2 : (n.n == 1) <;> rw [e2] at hr <;> cases hr
              · simp; omega
              · exact hm
            · cases hr; simp; omega
          · rw [if_neg h1, if_neg h1] at hr; cases e : ((p : Int) == IntKind.wrap .i64 ((n.args.length : Int) - 1)) <;> rw [e] at hr
            · cases e2 : (n.n == 1) <;> rw [e2] at hr <;> cases hr; exact hm
            · cases hr
  unfold bindF; cases h : t_binds n (p : Int) with
  | none => exact Nat.zero_le _
  | some r => exact key r h
mutual
def vis (b : Nat) (bd : List Str) : Tm -> List (Nat × List Str)
  | .mk x cs => (b + sizes cs, bd) :: visL b bd (nd x b cs) 0 cs
def visL (b : Nat) (bd : List Str) (n : Nd) (j : Nat) : List Tm -> List (Nat × List Str)
  | [] => []
  | c :: cs => vis b (bd ++ bindF n j) c ++ visL (b + c.size) bd n (j + 1) cs
end
theorem visL_cons {b : Nat} {bd : List Str} {n : Nd} {j : Nat} {c : Tm} {cs : List Tm} : visL b bd n j (c :: cs) = vis b (bd ++ bindF n j) c ++ visL (b + c.size) bd n (j + 1) cs := by rw [visL]
theorem vis_mk {b : Nat} {bd : List Str} {x : Nd} {cs : List Tm} : vis b bd (.mk x cs) = (b + sizes cs, bd) :: visL b bd (nd x b cs) 0 cs := by rw [vis]
section
variable {α : Type}
def runV (step : α -> Int -> List Str -> Option α) : List (Nat × List Str) -> α -> Option α
  | [], a => some a
  | v :: l, a => Option.bind (step a (v.1 : Int) v.2) fun a' => runV step l a'
theorem runV_append (step : α -> Int -> List Str -> Option α) : ∀ (l m : List (Nat × List Str)) (a : α), runV step (l ++ m) a = Option.bind (runV step l a) fun a' => runV step m a'
  | [], m, a => rfl
  | v :: l, m, a => by
    rw [List.cons_append, runV, runV]; cases step a (v.1 : Int) v.2 with
    | none => rfl
    | some a' => exact runV_append step l m a'
structure Fine (e : List Nd) : Prop where
  len : e.length <= 170
  ok : ∀ (i : Nat) n, e[i]? = some n -> nodeSpec true n = 0
  few : ∀ (i : Nat) n, e[i]? = some n -> n.args.length <= 34 /\ n.names.length <= 34
variable {e : List Nd} (hF : Fine e) (step : α -> Int -> List Str -> Option α)
include hF
mutual
theorem walk_vis : ∀ (t : Tm) (b : Nat) (bd : List Str) (k : Nat) (a : α), Seg e b t -> t.size <= k -> bd.length + 34 * (b + t.size - 1) <= 10000 -> walkF step e k ((b + t.size - 1 : Nat) : Int) bd a = runV step (vis b bd t) a
  | .mk x cs, b, bd, k, a, hS, hk, hb => by
    have hn := hS.node; have hsz : b + (Tm.mk x cs).size - 1 = b + sizes cs := by simp only [size]; omega
    rw [hsz] at hb ⊢; obtain ⟨k, rfl⟩ : ∃ j, k = j + 1 := ⟨k - 1, by simp only [size] at hk; omega⟩; rw [walkF, vis_mk, runV]; cases step a ((b + sizes cs : Nat) : Int) bd with
    | none => rfl
    | some a' =>
      simp only [Option.bind_some, nn, if_true, Int.toNat_natCast, hn]; have hl : (nd x b cs).args.length <= 1099511627776 := by have := (hF.few _ _ hn).1; omega
      rw [if_pos hl]; exact walkL_vis cs x [] b bd k a' hS (by simp only [size] at hk; omega) (by simp only [List.nil_append]; omega)
theorem walkL_vis : ∀ (cs : List Tm) (x : Nd) (l : List Tm) (b : Nat) (bd : List Str) (k : Nat) (a : α), Seg e b (.mk x (l ++ cs)) -> sizes cs <= k -> bd.length + 34 * (b + sizes (l ++ cs)) <= 10000 ->
    walkL (walkF step e k) (nd x b (l ++ cs)) bd l.length (roots (b + sizes l) cs) a = runV step (visL (b + sizes l) bd (nd x b (l ++ cs)) l.length cs) a
  | [], x, l, b, bd, k, a, hS, hk, hb => by rw [roots, walkL, visL, runV]
  | c :: cs, x, l, b, bd, k, a, hS, hk, hb => by
    have hn := hS.node; have hfew := hF.few _ _ hn; have hbl := bindF_len hfew.2 l.length; have hcp := c.size_pos; have hsz : sizes (l ++ c :: cs) = sizes l + (c.size + sizes cs) := by rw [sizes_append, sizes]
    rw [hsz] at hb; rw [roots, walkL, visL_cons, runV_append, t_binds_bindF (hF.ok _ _ hn) (by omega), Option.bind_some, if_pos (by omega)]; have hk2 : sizes (c :: cs) = c.size + sizes cs := by rw [sizes]
    rw [walk_vis c (b + sizes l) (bd ++ bindF (nd x b (l ++ c :: cs)) l.length) k a hS.kid (by omega) (by rw [List.length_append]; omega)]; cases runV step (vis (b + sizes l) (bd ++ bindF (nd x b (l ++ c :: cs)) l.length) c) a with
    | none => rfl
    | some a' =>
      have e1 : l ++ c :: cs = (l ++ [c]) ++ cs := by simp
      have e2 : l.length + 1 = (l ++ [c]).length := by simp
      have e3 : b + sizes l + c.size = b + sizes (l ++ [c]) := by rw [sizes_append, sizes_one]; omega
      rw [Option.bind_some, Option.bind_some, e1, e2, e3]; exact walkL_vis cs x (l ++ [c]) b bd k a' (by rw [<- e1]; exact hS) (by omega) (by rw [<- e1, hsz]; omega)
end
end
end Go.VL
end
section
namespace Go.VL
theorem strLt_iff : ∀ a b : Str, strLt a b = true ↔ a < b
  | [], [] => by simp [strLt]
  | a :: x, [] => by simp [strLt]
  | [], b :: y => by simp [strLt]
  | a :: x, b :: y => by
    rw [strLt, List.cons_lt_cons_iff, Bool.or_eq_true, Bool.and_eq_true, decide_eq_true_eq, beq_iff_eq, strLt_iff x y]
theorem tri (a b : Str) : a < b \/ a = b \/ b < a := by
  rcases List.le_total a b with h | h
  · by_cases e : a = b
    · exact .inr (.inl e)
    · by_cases h2 : a < b
      · exact .inl h2
      · exact absurd (List.le_antisymm h (List.not_lt.1 h2)) e
  · by_cases e : a = b
    · exact .inr (.inl e)
    · by_cases h2 : b < a
      · exact .inr (.inr h2)
      · exact absurd (List.le_antisymm (List.not_lt.1 h2) h) e
def putS (s : Str) : List Str -> List Str
  | [] => [s]
  | x :: l => if strLt x s = true then x :: putS s l else if x = s then x :: l else s :: x :: l
def setS (l : List Str) : List Str := l.foldl (fun a s => putS s a) []
theorem mem_putS {s y : Str} : ∀ {l : List Str}, y ∈ putS s l ↔ y = s \/ y ∈ l
  | [] => by simp [putS]
  | x :: l => by
    rw [putS]; split
    · simp only [List.mem_cons, mem_putS (l := l)]; constructor
      · rintro (h | h | h) <;> simp [h]
      · rintro (h | h | h) <;> simp [h]
    · split
      · rename_i h; subst h; simp
      · simp
theorem asc_putS {s : Str} : ∀ {l : List Str}, l.Pairwise (· < ·) -> (putS s l).Pairwise (· < ·)
  | [], _ => by simp [putS]
  | x :: l, h => by
    rw [putS]; obtain ⟨h1, h2⟩ := List.pairwise_cons.1 h; split
    · rename_i hx; refine List.pairwise_cons.2 ⟨fun y hy => ?_, asc_putS h2⟩; rcases mem_putS.1 hy with rfl | hy
      · exact (strLt_iff _ _).1 hx
      · exact h1 y hy
    · rename_i hx; split
      · exact h
      · rename_i hne; have hlt : s < x := by
          rcases tri s x with h | h | h
          · exact h
          · exact absurd h.symm hne
          · exact absurd ((strLt_iff _ _).2 h) hx
        refine List.pairwise_cons.2 ⟨fun y hy => ?_, h⟩; rcases List.mem_cons.1 hy with rfl | hy
        · exact hlt
        · exact List.lt_trans hlt (h1 y hy)
theorem setS_acc : ∀ (l a : List Str), a.Pairwise (· < ·) -> (l.foldl (fun a s => putS s a) a).Pairwise (· < ·) /\ ∀ y, y ∈ l.foldl (fun a s => putS s a) a ↔ y ∈ l \/ y ∈ a
  | [], a, h => ⟨h, fun y => by simp⟩
  | s :: l, a, h => by
    obtain ⟨h1, h2⟩ := setS_acc l (putS s a) (asc_putS h); refine ⟨h1, fun y => ?_⟩; rw [List.foldl_cons, h2 y, mem_putS, List.mem_cons]; constructor
    · rintro (h | h | h) <;> simp [h]
    · rintro ((h | h) | h) <;> simp [h]
theorem setS_asc (l : List Str) : (setS l).Pairwise (· < ·) := (setS_acc l [] List.Pairwise.nil).1
theorem setS_mem {l : List Str} {y : Str} : y ∈ setS l ↔ y ∈ l := by rw [setS, (setS_acc l [] List.Pairwise.nil).2 y]; simp
theorem asc_uniq {l m : List Str} (hl : l.Pairwise (· < ·)) (hm : m.Pairwise (· < ·)) (h : ∀ y, y ∈ l ↔ y ∈ m) : l = m := by
  have nd : ∀ {l : List Str}, l.Pairwise (· < ·) -> l.Nodup := fun h => h.imp (S := fun a b => a ≠ b) fun {a b} hab e => List.lt_irrefl a (by rw [<- e] at hab; exact hab)
  have hp : l.Perm m := (List.perm_ext_iff_of_nodup (nd hl) (nd hm)).2 h
  exact List.Perm.eq_of_pairwise (le := (· < ·)) (fun a b _ _ h1 h2 => absurd (List.lt_trans h1 h2) (List.lt_irrefl a)) hl hm hp
theorem compactUpTo_spec (d : Array Str) (hd : ∀ i j, i < j -> j < d.size -> d[i]! <= d[j]!) : ∀ m, m <= d.size -> (Lib.compactUpTo d m).Pairwise (· < ·) /\ (∀ x ∈ Lib.compactUpTo d m, ∃ j, j < m /\ x = d[j]!) /\ (∀ j, j < m -> d[j]! ∈ Lib.compactUpTo d m)
  | 0, _ => ⟨List.Pairwise.nil, fun x h => (by simp [Lib.compactUpTo] at h), fun j h => absurd h (Nat.not_lt_zero _)⟩
  | m + 1, hm => by
    obtain ⟨h1, h2, h3⟩ := compactUpTo_spec d hd m (by omega); rw [Lib.compactUpTo_succ]; cases hk : Lib.keeps d m with
    | true =>
      rw [if_pos rfl]; refine ⟨List.pairwise_append.2 ⟨h1, List.pairwise_singleton _ _, fun a ha b hb => ?_⟩, fun x hx => ?_, fun j hj => ?_⟩
      · rw [List.mem_singleton] at hb; subst hb; obtain ⟨j, hj, rfl⟩ := h2 a ha; have hne : d[m]! ≠ d[m - 1]! := by
          unfold Lib.keeps at hk; rw [decide_eq_true_eq] at hk; rcases hk with h | h
          · omega
          · exact h
        have h4 : d[j]! <= d[m - 1]! := by
          by_cases e : j = m - 1
          · rw [e]; exact List.le_refl _
          · exact hd j (m - 1) (by omega) (by omega)
        have h5 : d[m - 1]! <= d[m]! := hd (m - 1) m (by omega) (by omega); have h6 : d[m - 1]! < d[m]! := by
          rcases tri d[m - 1]! d[m]! with h | h | h
          · exact h
          · exact absurd h.symm hne
          · exact absurd (List.le_antisymm h5 (List.le_of_lt h)).symm hne
        rcases tri d[j]! d[m]! with h | h | h
        · exact h
        · rw [h] at h4; exact absurd (List.le_antisymm h4 h5) hne
        · have h7 := List.lt_trans h6 h; exact absurd (List.le_antisymm h4 (List.le_of_lt h7)) (fun e => List.lt_irrefl _ (e ▸ h7))
      · rcases List.mem_append.1 hx with hx | hx
        · obtain ⟨j, hj, e⟩ := h2 x hx; exact ⟨j, by omega, e⟩
        · rw [List.mem_singleton] at hx; exact ⟨m, Nat.lt_succ_self _, hx⟩
      · by_cases e : j = m
        · subst e; exact List.mem_append_right _ (List.mem_singleton.2 rfl)
        · exact List.mem_append_left _ (h3 j (by omega))
    | false =>
      rw [if_neg (by simp), List.append_nil]; refine ⟨h1, fun x hx => ?_, fun j hj => ?_⟩
      · obtain ⟨j, hj, e⟩ := h2 x hx; exact ⟨j, by omega, e⟩
      · by_cases e : j = m
        · subst e; unfold Lib.keeps at hk; rw [decide_eq_false_iff_not, not_or, Decidable.not_not] at hk; rw [hk.2]; exact h3 (j - 1) (by omega)
        · exact h3 j (by omega)
theorem compact_sort (l : List Str) : Lib.compact (l.mergeSort fun x y => decide (x <= y)) = setS l := by
  have tr : ∀ a b c : Str, decide (a <= b) = true -> decide (b <= c) = true -> decide (a <= c) = true := fun a b c h1 h2 => by simp only [decide_eq_true_eq] at *; exact List.le_trans h1 h2
  have tot : ∀ a b : Str, (decide (a <= b) || decide (b <= a)) = true := fun a b => by simp only [Bool.or_eq_true, decide_eq_true_eq]; exact List.le_total a b
  have hs := List.pairwise_mergeSort (le := fun x y : Str => decide (x <= y)) tr tot l; have hp := List.mergeSort_perm l (fun x y : Str => decide (x <= y)); generalize (l.mergeSort fun x y => decide (x <= y)) = m at hs hp; have hd : ∀ i j, i < j -> j < m.toArray.size -> m.toArray[i]! <= m.toArray[j]! := fun i j hij hj => by
    have hj' : j < m.length := by simpa using hj
    have := List.pairwise_iff_getElem.1 hs i j (by omega) hj' hij; rw [decide_eq_true_eq] at this; simp [hj', show i < m.length by omega]; exact this
  obtain ⟨h1, h2, h3⟩ := compactUpTo_spec m.toArray hd m.length (by simp); refine asc_uniq h1 (setS_asc l) fun y => ?_; rw [setS_mem, <- hp.mem_iff]; constructor
  · intro h; obtain ⟨j, hj, rfl⟩ := h2 y h; simp [hj]
  · intro h; obtain ⟨j, hj, rfl⟩ := List.getElem_of_mem h; have := h3 j hj; unfold Lib.compact; simpa [hj] using this
end Go.VL
end
section
namespace Go.VL
def nB (s : Str) : List Str -> Nat
  | [] => 0
  | x :: l => if strLt x s = true then nB s l + 1 else 0
theorem nB_le (s : Str) : ∀ l, nB s l <= l.length
  | [] => Nat.le_refl _
  | x :: l => by
    rw [nB]; split
    · have := nB_le s l; simp only [List.length_cons]; omega
    · omega
theorem putS_nB (s : Str) : ∀ l, putS s l = if l[nB s l]? = some s then l else l.take (nB s l) ++ s :: l.drop (nB s l)
  | [] => by simp [putS, nB]
  | x :: l => by
    rw [putS, nB]; by_cases h : strLt x s = true
    · rw [if_pos h, if_pos h, putS_nB s l]; simp only [List.getElem?_cons_succ, List.take_succ_cons, List.drop_succ_cons]; split <;> rfl
    · rw [if_neg h, if_neg h]; by_cases h2 : x = s
      · subst h2; simp
      · simp [h2]
theorem putS_len (s : Str) (l : List Str) : (putS s l).length <= l.length + 1 := by
  rw [putS_nB]; split
  · omega
  · have := nB_le s l; simp; omega
end Go.VL
end
section
namespace Go.VL
open Go.Proofs Go.RowKit
theorem isl_V {G : Gh} {n : Nat} {es : List (List PV)} {v : Value} (h : V G n (.isl es .unk) v) : ∃ ad cap, v = .slice ad es.length cap /\ es.length <= cap /\ ∀ sz, (∀ cs ∈ es, cs.length = sz) -> es ≠ [] -> ∃ b o, ad = some ⟨b, o, none⟩ /\ ∃ f : Nat -> Nat -> Value, (∀ (i : Nat) (cs : List PV), es[i]? = some cs -> ∀ (j : Nat) (c : PV), cs[j]? = some c -> G.F ⟨b, o + i * sz + j, none⟩ = some (f i j)) /\ ∀ (i : Nat) (cs : List PV) (j : Nat) (c : PV), es[i]? = some cs -> cs[j]? = some c -> V G n c (f i j) := by
  generalize hp : PV.isl es .unk = p at h; cases h with
  | isl es' c sz ad cap f h1 h2 h3 h4 h5 =>
    cases hp; refine ⟨ad, cap, rfl, h2, fun sz' hsz hne => ?_⟩; obtain ⟨b, o, e1, e2⟩ := h3 hne; have : sz = sz' := by
      obtain ⟨cs, l', hl⟩ := List.exists_cons_of_ne_nil hne; have a := h1 0 cs (by rw [hl]; rfl); have b := hsz cs (by rw [hl]; exact List.mem_cons_self ..); omega
    subst this; exact ⟨b, o, e1, f, e2, h4⟩
  | _ => cases hp
theorem clone72_c (l : List Str) (hl : l.length <= 1000000) {c : Ck} : PCall Tryz.prog 72 [.isl (l.map strL) c] (.isl (l.map strL) .unk) := by
  refine PCall.wk (args := [.isl (l.map strL) .unk]) ?_ (.isl .nil); refine pcall_fresh ⟨_, Tryz.func72, rfl, by kernel_rfl⟩ (fun w G vs hg hi hv => ?_) (PuL.mem (.cons (pu_sl pu_strL _) .nil)); obtain ⟨u, rfl, hu⟩ : ∃ u, vs = #[u] /\ V G 0 (.isl (l.map strL) .unk) u := by
    obtain ⟨h1, h2⟩ := hv
    match vs, h1, h2 with
    | ⟨[u]⟩, _, h2 => exact ⟨u, rfl, h2 0 _ u rfl rfl⟩
  obtain ⟨ad, cap, rfl, hcap, hx⟩ := isl_V hu; rw [List.length_map] at *; by_cases h0 : l = []
  · subst h0; cases ad with
    | none =>
      refine (Tryz.slices_Clone_string_nil 0 cap w).mono ?_; rintro e w' ⟨rfl, rfl⟩; exact ⟨_, rfl, Below.refl _ _, fun G' n _ => .isl [] .unk 1 none 0 (fun _ _ => .bool true) (fun i cs e => by simp at e) (Nat.le_refl _) (fun h => absurd rfl h) (fun i cs j c e => by simp at e) trivial⟩
    | some a =>
      refine (Tryz.slices_Clone_string_zero a cap w).mono ?_; rintro e w' ⟨v', rfl, ⟨_, hown⟩, _, hb⟩; refine ⟨_, rfl, hb, fun G' n _ => ?_⟩; rcases hown with ⟨rfl, _⟩ | ⟨g, cp, cur, rfl, _, _, h1, _⟩
      · exact .isl [] .unk 1 none 0 (fun _ _ => .bool true) (fun i cs e => by simp at e) (Nat.le_refl _) (fun h => absurd rfl h) (fun i cs j c e => by simp at e) trivial
      · exact .isl [] .unk 1 (some ⟨g, 0, none⟩) cp (fun _ _ => .bool true) (fun i cs e => by simp at e) h1 (fun h => absurd rfl h) (fun i cs j c e => by simp at e) trivial
  · obtain ⟨b, o, rfl, f, e2, h4⟩ := hx 1 (fun cs h => by obtain ⟨s, _, rfl⟩ := List.mem_map.1 h; rfl) (by simpa using h0); have hcell : ∀ j, j < l.length -> w.cell? ⟨b, o + j, none⟩ = some (.string ((l.map fun s => (⟨s.toArray⟩ : ByteArray)).getD j ByteArray.empty)) := by
      intro j hj; have hg : (l.map strL)[j]? = some (strL l[j]) := by simp [hj]
      have a := e2 j _ hg 0 (.str l[j]) rfl; have b' := h4 j _ 0 (.str l[j]) hg rfl; generalize f j 0 = v at a b'; cases b'; have := hi _ _ a; rw [Nat.mul_one, Nat.add_zero] at this; rw [this]; simp [List.getD, hj]
    refine (Tryz.slices_Clone_string b o l.length cap (l.map fun s => (⟨s.toArray⟩ : ByteArray)) w (by simp) (by omega) (by simpa using hcell)).mono ?_; rintro e w' ⟨v', rfl, ⟨_, hown⟩, hne, hb⟩; refine ⟨_, rfl, hb, fun G' n hnew => ?_⟩; rcases hown with ⟨rfl, _⟩ | ⟨g, cp, cur, rfl, hge, hblk, h1, h2, h3, h5⟩
    · exact absurd rfl hne
    · refine Eq.mp (by rw [List.length_map]) (V.isl (G := G') (n := n) (l.map strL) .unk 1 (some ⟨g, 0, none⟩) cp (fun i _ => .string ⟨(l[i]?.getD []).toArray⟩) (fun i cs e => ?_) (by simpa using h1) (fun _ => ⟨g, 0, rfl, fun i cs e j c ec => ?_⟩) (fun i cs j c e ec => ?_) trivial)
      · simp only [List.getElem?_map, Option.map_eq_some_iff] at e; obtain ⟨s, _, rfl⟩ := e; rfl
      · simp only [List.getElem?_map, Option.map_eq_some_iff] at e; obtain ⟨s, e1, rfl⟩ := e; have hj : j = 0 := by
          have := (List.getElem?_eq_some_iff.1 ec).1; simp [strL] at this; exact this
        subst hj; have hlt := (List.getElem?_eq_some_iff.1 e1).1; refine hnew _ _ hge ?_; have hc : cur[i]? = some (.string ⟨s.toArray⟩) := by
          have := congrArg (·[i]?) h5
          simp only [Nat.mul_one, List.getElem?_take, hlt, if_true, List.map_map] at this; rw [<- Array.getElem?_toList, this]; simp [e1, List.take_of_length_le]
        simp only [World.cell?, hblk, Nat.zero_add, Nat.mul_one, Nat.add_zero, e1, Option.getD_some]; simpa using hc
      · simp only [List.getElem?_map, Option.map_eq_some_iff] at e; obtain ⟨s, e1, rfl⟩ := e; have hj : j = 0 := by
          have := (List.getElem?_eq_some_iff.1 ec).1; simp [strL] at this; exact this
        subst hj; simp only [strL, List.getElem?_cons_zero, Option.some.injEq] at ec; subst ec; simp only [e1, Option.getD_some]; exact .str s
end Go.VL
end
section
namespace Go.VL
inductive Lx : List PV -> List PV -> Prop where
  | nil : Lx [] []
  | same {p : PV} {l m : List PV} (h : Lx l m) : Lx (p :: l) (p :: m)
  | isl {es : List (List PV)} {c : Ck} {l m : List PV} (h : Lx l m) : Lx (.isl es c :: l) (.isl es .unk :: m)
  | agg {cs ds l m : List PV} (h0 : Lx cs ds) (h : Lx l m) : Lx (.agg cs :: l) (.agg ds :: m)
theorem Lx.get {l m : List PV} (h : Lx l m) : l.length = m.length /\ ∀ (j : Nat) (q : PV), m[j]? = some q -> ∃ p, l[j]? = some p /\ ∀ (G : Gh) (n : Nat) (v : Value), V G n p v -> V G n q v := by
  induction h with
  | nil => exact ⟨rfl, fun j q e => by simp at e⟩
  | same _ ih =>
    refine ⟨by simp [ih.1], fun j q e => ?_⟩; cases j with
    | zero => simp at e; subst e; exact ⟨_, rfl, fun _ _ _ h => h⟩
    | succ j => simp at e; simpa using ih.2 j q e
  | isl _ ih =>
    refine ⟨by simp [ih.1], fun j q e => ?_⟩; cases j with
    | zero => simp at e; subst e; exact ⟨_, rfl, fun _ _ _ h => h.wk⟩
    | succ j => simp at e; simpa using ih.2 j q e
  | @agg cs ds _ _ _ _ ih0 ih =>
    refine ⟨by simp [ih.1], fun j q e => ?_⟩; cases j with
    | zero =>
      simp at e; subst e; refine ⟨_, rfl, fun G n v h => ?_⟩; generalize hp : PV.agg cs = p at h; cases h with
      | agg cs' vs h1 h2 =>
        cases hp; refine .agg ds vs (h1.trans ih0.1) fun j c x hc hx => ?_; obtain ⟨p, e1, e2⟩ := ih0.2 j c hc; exact e2 _ _ _ (h2 j p x e1 hx)
      | _ => cases hp
    | succ j => simp at e; simpa using ih.2 j q e
variable [Glob]
theorem MCall.wx {P : Program} {H : AH} {f : FuncId} {args args' : List PV} {k : PV -> AH -> Prop} (h : MCall P f args H k) (hw : Lx args' args) : MCall P f args' H k := by
  obtain ⟨h1, h2⟩ := hw.get; refine ⟨h.enters, fun B G w vs hU hM hv => h.call B G w vs hU hM ⟨hv.1.trans h1, fun j c x hc hx => ?_⟩⟩; obtain ⟨p, e, hp⟩ := h2 j c hc; exact hp _ _ _ (hv.2 j p x e hx)
theorem PCall.wx {P : Program} {f : FuncId} {args args' : List PV} {r : PV} (h : PCall P f args r) (hw : Lx args' args) : PCall P f args' r := fun H => (h H).wx hw
end Go.VL
end
section
set_option maxRecDepth 8000
set_option maxHeartbeats 4000000
namespace Go.VL
open Go.Proofs
def t_isNamed (k : Nat) (n_0 : Nd) : Option Bool :=
  Option.bind (t_operatorOf k n_0.text) fun p2 => cond (n_0.kind == 2) (Option.bind (t_isFixed n_0.text) fun p5 => cond p5 (cond (n_0.kind == 3) (some (!p2.2)) (some false)) (some true)) (cond (n_0.kind == 3) (some (!p2.2)) (some false))
theorem t_isNamed_c {k : Nat} {n_0 : Nd} {r : Bool} (h : t_isNamed k n_0 = some r) : PCall Tryz.prog 80 [(.agg (Nd.cells n_0))] (.bool r) := by
  refine PCall.of_empty (PuL.mem (.cons (.agg _ (Nd.pu _)) .nil)) (MCall_of_W ok80 (by simp) (W_start ?_)) (.bool _); unfold t_isNamed at h; unfold ac80; obtain ⟨p2, e1, h⟩ := bind_E h; try refine gos_ ?_
  refine mcall_pure (t_operatorOf_c e1) ?_; rcases cond_E h with ⟨e3, h⟩ | ⟨e3, h⟩
  ·obtain ⟨p5, e4, h⟩ := bind_E h; try refine gos_ ?_
   refine mcall_pure (t_isFixed_c e4) ?_; rcases cond_E h with ⟨e6, h⟩ | ⟨e6, h⟩
   ·rcases cond_E h with ⟨e7, h⟩ | ⟨e7, h⟩
    ·obtain rfl := som_E h; try refine gos_ ?_
     exact (.pure _ (.bool _))
    ·obtain rfl := som_E h; try refine gos_ ?_
     exact (.pure _ (.bool _))
   ·obtain rfl := som_E h; try refine gos_ ?_
    exact (.pure _ (.bool _))
  ·rcases cond_E h with ⟨e8, h⟩ | ⟨e8, h⟩
   ·obtain rfl := som_E h; try refine gos_ ?_
    exact (.pure _ (.bool _))
   ·obtain rfl := som_E h; try refine gos_ ?_
    exact (.pure _ (.bool _))
def b_NameOf (s_0 : Str) : Option (List Nd) :=
  some [(Nd.mk 2 0 s_0 [] [])]
theorem b_NameOf_c {s_0 : Str} {r : List Nd} (h : b_NameOf s_0 = some r) : PCall Tryz.prog 89 [(.str s_0)] (.isl (r.map Nd.cells) .unk) := by
  refine PCall.of_empty (PuL.mem (.cons (.str _) .nil)) (MCall_of_W ok89 (by simp) (W_start ?_)) (pu_sl Nd.pu _); unfold b_NameOf at h; unfold ac89; obtain rfl := som_E h; try refine gos_ ?_
  exact (fz_sl Nd.pu [(Nd.mk 2 0 s_0 [] [])] _)
def b_Join_b0 : Nat -> Int -> Int -> Int -> Str -> (List Str) -> (List Int) -> (List Int) -> Int -> Option (List Int)
  | 0, _, _, _, _, _, _, _, _ => none
  | k + 1, from_8, x_10_0, x_10_1, x_10_2, x_10_3, x_10_4, args_11, j_12 =>
    cond (decide (j_12 < (x_10_4.length : Int))) (if 0 <= j_12 then Option.bind (x_10_4[j_12.toNat]?) fun x15 => if (args_11.length + 1) * 8 <= 1099511627776 then b_Join_b0 k from_8 x_10_0 x_10_1 x_10_2 x_10_3 x_10_4 (args_11 ++ [(IntKind.wrap .i64 (x15 + from_8))]) (IntKind.wrap .i64 (j_12 + 1)) else none else none) (some (args_11))
def b_Join_b0l : List Nat := [11, 12] ++ List.range' 47 17
theorem b_Join_b0_W : ∀ (k : Nat) (o_x_10 : Nat) (from_8 : Int) (x_10_0 : Int) (x_10_1 : Int) (x_10_2 : Str) (x_10_3 : List Str) (x_10_4 : List Int) (args_11 : List Int) (j_12 : Int) (c_args_11_b0 : Ck) (c_p0_b0 : Ck) (c_p1_b0 : Ck) (σ0 σ : Nat -> PV) (H0 H : AH) (f0 : Fr b_Join_b0l σ0 σ) (hf0 : HF [] H0 H) (sl : σ 8 = (.int .i64 from_8) /\ σ 10 = (.ref (o_x_10) 0) /\ σ 11 = (.isl (args_11.map intL) c_args_11_b0) /\ σ 12 = (.int .i64 j_12) /\ H.obj o_x_10 = some [(.int .i64 x_10_0), (.int .i64 x_10_1), (.str x_10_2), (.isl (x_10_3.map strL) .unk), (.isl (x_10_4.map intL) .unk)]) (l_o_x_10 : o_x_10 < H.next) (ok_args_11 : okc H c_args_11_b0) (ok_p0 : okc H c_p0_b0) (ok_p1 : okc H c_p1_b0) (ds_c_args_11_b0_c_p0_b0 : Dis c_args_11_b0 c_p0_b0) (ds_c_args_11_b0_c_p1_b0 : Dis c_args_11_b0 c_p1_b0) (ds_c_p0_b0_c_p1_b0 : Dis c_p0_b0 c_p1_b0) (o : List Int) (h : b_Join_b0 k from_8 x_10_0 x_10_1 x_10_2 x_10_3 x_10_4 args_11 j_12 = some o) (Q : Post) (q0 : ∀ (p : List Int) (c0 : Ck) (σ' : Nat -> PV) (H' : AH), o = p -> Fr b_Join_b0l σ0 σ' -> HF [] H0 H' -> (σ' 11 = (.isl (p.map intL) c0)) -> okc H' c_p0_b0 -> okc H' c_p1_b0 -> Dis c_p0_b0 c_p1_b0 -> Q (.exit 4) σ' H') , W Tryz.prog (.loop ac84_b0) Q σ H := by
  intro k
  induction k with
  | zero => intro o_x_10 from_8 x_10_0 x_10_1 x_10_2 x_10_3 x_10_4 args_11 j_12 c_args_11_b0 c_p0_b0 c_p1_b0 σ0 σ H0 H f0 hf0 sl l_o_x_10 ok_args_11 ok_p0 ok_p1 ds_c_args_11_b0_c_p0_b0 ds_c_args_11_b0_c_p1_b0 ds_c_p0_b0_c_p1_b0 o h Q q0; simp only [b_Join_b0, reduceCtorEq] at h
  | succ k ih =>
    intro o_x_10 from_8 x_10_0 x_10_1 x_10_2 x_10_3 x_10_4 args_11 j_12 c_args_11_b0 c_p0_b0 c_p1_b0 σ0 σ H0 H f0 hf0 sl l_o_x_10 ok_args_11 ok_p0 ok_p1 ds_c_args_11_b0_c_p0_b0 ds_c_args_11_b0_c_p1_b0 ds_c_p0_b0_c_p1_b0 o h Q q0; obtain ⟨s8, s10, s11, s12, g_o_x_10⟩ := sl; have n_o_x_10 := ne_next l_o_x_10; have m_o_x_10 := ne_add l_o_x_10; have hle0 := hf0.1; unfold b_Join_b0 at h; refine W_loopK (fun K hK => W_start ?_); unfold ac84_b0; rcases cond_E h with ⟨e13, h⟩ | ⟨e13, h⟩
    ·obtain ⟨e14, h⟩ := if_E h; obtain ⟨x15, e16, h⟩ := bind_E h; obtain ⟨e21, h⟩ := if_E h; try refine gos_ ?_
     refine WO_app (f := intL) row_int args_11 ([(IntKind.wrap .i64 (x15 + from_8))] : List Int) c_args_11_b0 .exact sls_ sls_ ok_ (by first | exact e21 | (simp only [List.length_cons, List.length_nil] ; exact e21)) (fun c17 H18 ok19 le ob26 rl20 => ?_); have hf27 : HF [] _ H18 := ⟨le, fun i _ _ => ob26 i⟩; try simp only [AH.new_next, AH.put_next, AH.tok_next, AH.use_next] at le
     obtain ⟨ok22, ds23⟩ := rl20 c_p0_b0 ok_ ds_c_args_11_b0_c_p0_b0; obtain ⟨ok24, ds25⟩ := rl20 c_p1_b0 ok_ ds_c_args_11_b0_c_p1_b0; have n28 := ne_next (show o_x_10 < H18.next by first | omega | (simp only [AH.new_next, AH.put_next, AH.tok_next, AH.use_next]; omega)); have m29 := ne_add (show o_x_10 < H18.next by first | omega | (simp only [AH.new_next, AH.put_next, AH.tok_next, AH.use_next]; omega)); try refine gos_ ?_
     refine hK _ _ ?_; exact ih o_x_10 from_8 x_10_0 x_10_1 x_10_2 x_10_3 x_10_4 (args_11 ++ [(IntKind.wrap .i64 (x15 + from_8))]) (IntKind.wrap .i64 (j_12 + 1)) c17 c_p0_b0 c_p1_b0 _ _ _ _ fr_ (by repeat (first | exact hf0 | refine HF.new ?_ | refine HF.tokd ?_ | refine HF.used ?_ | refine HF.put (by first | (right; omega) | (left; simp only [List.mem_cons, true_or, or_true])) ?_ | refine HF.via hf27 (by first | exact fun i hi => absurd hi List.not_mem_nil | (intro i hi; simp only [List.mem_cons, List.not_mem_nil, or_false] at hi ⊢; first | exact .inl hi | omega)) ?_)) sls_ om_ ok_ ok_ ok_ ds23 ds25 ds_c_p0_b0_c_p1_b0 _ h _ q0
    ·obtain rfl := som_E h; try refine gos_ ?_
     exact q0 _ c_args_11_b0 _ _ rfl fr_ (by repeat (first | exact hf0 | refine HF.new ?_ | refine HF.tokd ?_ | refine HF.used ?_ | refine HF.put (by first | (right; omega) | (left; simp only [List.mem_cons, true_or, or_true])) ?_)) sls_ ok_ ok_ ds_c_p0_b0_c_p1_b0
def b_Join_b1 : Nat -> (List (List Nd)) -> (List Nd) -> Int -> Int -> Int -> Option (List Nd)
  | 0, _, _, _, _, _ => none
  | k + 1, operands_1, out_5, i_7, from_8, k_9 =>
    if 0 <= i_7 then Option.bind (operands_1[i_7.toNat]?) fun x5 => cond (decide (k_9 < (x5.length : Int))) (if 0 <= k_9 then Option.bind (x5[k_9.toNat]?) fun x9 => Option.bind (b_OwnTexts x9.names) fun p12 => Option.bind (b_Join_b0 k from_8 x9.kind x9.n x9.text p12 x9.args ([] : List Int) 0) (fun p32 => if (out_5.length + 1) * 80 <= 1099511627776 then b_Join_b1 k operands_1 (out_5 ++ [(Nd.mk x9.kind x9.n x9.text p12 p32)]) i_7 from_8 (IntKind.wrap .i64 (k_9 + 1)) else none) else none) (some (out_5)) else none
def b_Join_b1l : List Nat := [5, 9, 10, 11, 12] ++ List.range' 27 43
theorem b_Join_b1_W : ∀ (k : Nat) (operands_1 : List (List Nd)) (out_5 : List Nd) (i_7 : Int) (from_8 : Int) (k_9 : Int) (c_out_5_b1 : Ck) (c_p0_b1 : Ck) (σ0 σ : Nat -> PV) (H0 H : AH) (f0 : Fr b_Join_b1l σ0 σ) (hf0 : HF [] H0 H) (sl : σ 1 = (.isl (operands_1.map (slL Nd.cells)) .unk) /\ σ 5 = (.isl (out_5.map Nd.cells) c_out_5_b1) /\ σ 7 = (.int .i64 i_7) /\ σ 8 = (.int .i64 from_8) /\ σ 9 = (.int .i64 k_9)) (ok_out_5 : okc H c_out_5_b1) (ok_p0 : okc H c_p0_b1) (ds_c_out_5_b1_c_p0_b1 : Dis c_out_5_b1 c_p0_b1) (o : List Nd) (h : b_Join_b1 k operands_1 out_5 i_7 from_8 k_9 = some o) (Q : Post) (q0 : ∀ (p : List Nd) (c0 : Ck) (σ' : Nat -> PV) (H' : AH), o = p -> Fr b_Join_b1l σ0 σ' -> HF [] H0 H' -> (σ' 5 = (.isl (p.map Nd.cells) c0)) -> okc H' c0 -> okc H' c_p0_b1 -> Dis c0 c_p0_b1 -> Q (.exit 2) σ' H') , W Tryz.prog (.loop ac84_b1) Q σ H := by
  intro k
  induction k with
  | zero => intro operands_1 out_5 i_7 from_8 k_9 c_out_5_b1 c_p0_b1 σ0 σ H0 H f0 hf0 sl ok_out_5 ok_p0 ds_c_out_5_b1_c_p0_b1 o h Q q0; simp only [b_Join_b1, reduceCtorEq] at h
  | succ k ih =>
    intro operands_1 out_5 i_7 from_8 k_9 c_out_5_b1 c_p0_b1 σ0 σ H0 H f0 hf0 sl ok_out_5 ok_p0 ds_c_out_5_b1_c_p0_b1 o h Q q0; obtain ⟨s1, s5, s7, s8, s9⟩ := sl; have hle0 := hf0.1; unfold b_Join_b1 at h; refine W_loopK (fun K hK => W_start ?_); unfold ac84_b1; obtain ⟨e4, h⟩ := if_E h; obtain ⟨x5, e6, h⟩ := bind_E h; rcases cond_E h with ⟨e7, h⟩ | ⟨e7, h⟩
    ·obtain ⟨e8, h⟩ := if_E h; obtain ⟨x9, e10, h⟩ := bind_E h; obtain ⟨p12, e11, h⟩ := bind_E h; try refine gos_ ?_
     refine mcall_pure (b_OwnTexts_c e11) ?_; try refine gos_ ?_
     obtain ⟨o30, h31, h⟩ := bind_E h; refine b_Join_b0_W k (H.next) from_8 x9.kind x9.n x9.text p12 x9.args ([] : List Int) 0 .nil c_out_5_b1 c_p0_b1 _ _ _ _ (Fr.refl _ _) (HF.refl _ _) sls_ om_ ok_ ok_ ok_ Dis.nil Dis.nil ds_c_out_5_b1_c_p0_b1 _ h31 _ ?_
     ·rintro p32 c36 σ' H35 eo fr33 hf34 s37 ok38 ok39 ds40; rw [eo] at h; have s41 : σ' 1 = (.isl (operands_1.map (slL Nd.cells)) .unk) := (fr33 1 (by decide)).trans sls_; have s42 : σ' 5 = (.isl (out_5.map Nd.cells) c_out_5_b1) := (fr33 5 (by decide)).trans sls_; have s43 : σ' 7 = (.int .i64 i_7) := (fr33 7 (by decide)).trans sls_; have s44 : σ' 8 = (.int .i64 from_8) := (fr33 8 (by decide)).trans sls_; have s45 : σ' 9 = (.int .i64 k_9) := (fr33 9 (by decide)).trans sls_; have s46 : σ' 10 = (.ref (H.next) 0) := (fr33 10 (by decide)).trans sls_; have le := hf34.1; try simp only [AH.new_next, AH.put_next, AH.tok_next, AH.use_next] at le
      have g47 : H35.obj (H.next) = some [(.int .i64 x9.kind), (.int .i64 x9.n), (.str x9.text), (.isl (p12.map strL) .unk), (.isl (x9.args.map intL) .unk)] := (hf34.2 _ om_ (by first | exact List.not_mem_nil | (simp only [List.mem_cons, List.not_mem_nil, or_false, not_or]; omega))).trans sls_; have n48 := ne_next (show H.next < H35.next by first | omega | (simp only [AH.new_next, AH.put_next, AH.tok_next, AH.use_next]; omega)); have m49 := ne_add (show H.next < H35.next by first | omega | (simp only [AH.new_next, AH.put_next, AH.tok_next, AH.use_next]; omega)); obtain ⟨e54, h⟩ := if_E h; try refine gos_ ?_
      refine WO_app (f := Nd.cells) Nd.row out_5 ([(Nd.mk x9.kind x9.n x9.text p12 p32)] : List Nd) c_out_5_b1 .exact sls_ sls_ ok_ (by first | exact e54 | (simp only [List.length_cons, List.length_nil] ; exact e54)) (fun c50 H51 ok52 le ob57 rl53 => ?_); have hf58 : HF [] _ H51 := ⟨le, fun i _ _ => ob57 i⟩; try simp only [AH.new_next, AH.put_next, AH.tok_next, AH.use_next] at le
      obtain ⟨ok55, ds56⟩ := rl53 c_p0_b1 ok_ ds40; have n59 := ne_next (show H.next < H51.next by first | omega | (simp only [AH.new_next, AH.put_next, AH.tok_next, AH.use_next]; omega)); have m60 := ne_add (show H.next < H51.next by first | omega | (simp only [AH.new_next, AH.put_next, AH.tok_next, AH.use_next]; omega)); try refine gos_ ?_
      refine hK _ _ ?_; exact ih operands_1 (out_5 ++ [(Nd.mk x9.kind x9.n x9.text p12 p32)]) i_7 from_8 (IntKind.wrap .i64 (k_9 + 1)) c50 c_p0_b1 _ _ _ _ (by repeat (first | exact f0 | refine Fr.upd (by decide) ?_ | refine Fr.via fr33 (by decide) ?_)) (by repeat (first | exact hf0 | refine HF.new ?_ | refine HF.tokd ?_ | refine HF.used ?_ | refine HF.put (by first | (right; omega) | (left; simp only [List.mem_cons, true_or, or_true])) ?_ | refine HF.via hf34 (by first | exact fun i hi => absurd hi List.not_mem_nil | (intro i hi; simp only [List.mem_cons, List.not_mem_nil, or_false] at hi ⊢; first | exact .inl hi | omega)) ?_ | refine HF.via hf58 (by first | exact fun i hi => absurd hi List.not_mem_nil | (intro i hi; simp only [List.mem_cons, List.not_mem_nil, or_false] at hi ⊢; first | exact .inl hi | omega)) ?_)) sls_ ok_ ok_ ds56 _ h _ q0
    ·obtain rfl := som_E h; try refine gos_ ?_
     exact q0 _ c_out_5_b1 _ _ rfl fr_ (by repeat (first | exact hf0 | refine HF.new ?_ | refine HF.tokd ?_ | refine HF.used ?_ | refine HF.put (by first | (right; omega) | (left; simp only [List.mem_cons, true_or, or_true])) ?_)) sls_ ok_ ok_ ds_c_out_5_b1_c_p0_b1
def b_Join_b2 : Nat -> (List (List Nd)) -> (List Nd) -> Int -> Int -> Str -> (List Str) -> (List Int) -> Int -> Option (((List Nd) × Int × Int × Str × (List Str) × (List Int)))
  | 0, _, _, _, _, _, _, _, _ => none
  | k + 1, operands_1, out_5, n_6_0, n_6_1, n_6_2, n_6_3, n_6_4, i_7 =>
    cond (decide (i_7 < (operands_1.length : Int))) (Option.bind (b_Join_b1 k operands_1 out_5 i_7 (out_5.length : Int) 0) (fun p63 => if (n_6_4.length + 1) * 8 <= 1099511627776 then b_Join_b2 k operands_1 p63 n_6_0 n_6_1 n_6_2 n_6_3 (n_6_4 ++ [(IntKind.wrap .i64 ((p63.length : Int) - 1))]) (IntKind.wrap .i64 (i_7 + 1)) else none)) (some ((out_5, n_6_0, n_6_1, n_6_2, n_6_3, n_6_4)))
def b_Join_b2l : List Nat := [5, 7, 8, 9, 10, 11, 12] ++ List.range' 19 59
theorem b_Join_b2_W : ∀ (k : Nat) (o_n_6 : Nat) (operands_1 : List (List Nd)) (out_5 : List Nd) (n_6_0 : Int) (n_6_1 : Int) (n_6_2 : Str) (n_6_3 : List Str) (n_6_4 : List Int) (i_7 : Int) (c_out_5_b2 : Ck) (c_n_6_4_b2 : Ck) (σ0 σ : Nat -> PV) (H0 H : AH) (f0 : Fr b_Join_b2l σ0 σ) (hf0 : HF [o_n_6] H0 H) (sl : σ 1 = (.isl (operands_1.map (slL Nd.cells)) .unk) /\ σ 5 = (.isl (out_5.map Nd.cells) c_out_5_b2) /\ σ 6 = (.ref (o_n_6) 0) /\ σ 7 = (.int .i64 i_7) /\ H.obj o_n_6 = some [(.int .i64 n_6_0), (.int .i64 n_6_1), (.str n_6_2), (.isl (n_6_3.map strL) .unk), (.isl (n_6_4.map intL) c_n_6_4_b2)]) (l_o_n_6 : o_n_6 < H.next) (ok_out_5 : okc H c_out_5_b2) (ok_n_6_4 : okc H c_n_6_4_b2) (ds_c_out_5_b2_c_n_6_4_b2 : Dis c_out_5_b2 c_n_6_4_b2) (o : ((List Nd) × Int × Int × Str × (List Str) × (List Int))) (h : b_Join_b2 k operands_1 out_5 n_6_0 n_6_1 n_6_2 n_6_3 n_6_4 i_7 = some o) (Q : Post) (q0 : ∀ (p : (List Nd) × Int × Int × Str × (List Str) × (List Int)) (c0 : Ck) (c5 : Ck) (σ' : Nat -> PV) (H' : AH), o = p -> Fr b_Join_b2l σ0 σ' -> HF [o_n_6] H0 H' -> (σ' 5 = (.isl (p.1.map Nd.cells) c0) /\ H'.obj o_n_6 = some [(.int .i64 p.2.1), (.int .i64 p.2.2.1), (.str p.2.2.2.1), (.isl (p.2.2.2.2.1.map strL) .unk), (.isl (p.2.2.2.2.2.map intL) c5)]) -> okc H' c0 -> Q (.exit 0) σ' H') , W Tryz.prog (.loop ac84_b2) Q σ H := by
  intro k
  induction k with
  | zero => intro o_n_6 operands_1 out_5 n_6_0 n_6_1 n_6_2 n_6_3 n_6_4 i_7 c_out_5_b2 c_n_6_4_b2 σ0 σ H0 H f0 hf0 sl l_o_n_6 ok_out_5 ok_n_6_4 ds_c_out_5_b2_c_n_6_4_b2 o h Q q0; simp only [b_Join_b2, reduceCtorEq] at h
  | succ k ih =>
    intro o_n_6 operands_1 out_5 n_6_0 n_6_1 n_6_2 n_6_3 n_6_4 i_7 c_out_5_b2 c_n_6_4_b2 σ0 σ H0 H f0 hf0 sl l_o_n_6 ok_out_5 ok_n_6_4 ds_c_out_5_b2_c_n_6_4_b2 o h Q q0; obtain ⟨s1, s5, s6, s7, g_o_n_6⟩ := sl; have n_o_n_6 := ne_next l_o_n_6; have m_o_n_6 := ne_add l_o_n_6; have hle0 := hf0.1; unfold b_Join_b2 at h; refine W_loopK (fun K hK => W_start ?_); unfold ac84_b2; rcases cond_E h with ⟨e3, h⟩ | ⟨e3, h⟩
    ·try refine gos_ ?_
     obtain ⟨o61, h62, h⟩ := bind_E h; refine b_Join_b1_W k operands_1 out_5 i_7 (out_5.length : Int) 0 c_out_5_b2 c_n_6_4_b2 _ _ _ _ (Fr.refl _ _) (HF.refl _ _) sls_ ok_ ok_ ds_c_out_5_b2_c_n_6_4_b2 _ h62 _ ?_
     ·rintro p63 c67 σ' H66 eo fr64 hf65 s69 ok68 ok70 ds71; rw [eo] at h; have s72 : σ' 1 = (.isl (operands_1.map (slL Nd.cells)) .unk) := (fr64 1 (by decide)).trans sls_; have s73 : σ' 6 = (.ref (o_n_6) 0) := (fr64 6 (by decide)).trans sls_; have s74 : σ' 7 = (.int .i64 i_7) := (fr64 7 (by decide)).trans sls_; have le := hf65.1; try simp only [AH.new_next, AH.put_next, AH.tok_next, AH.use_next] at le
      have g75 : H66.obj (o_n_6) = some [(.int .i64 n_6_0), (.int .i64 n_6_1), (.str n_6_2), (.isl (n_6_3.map strL) .unk), (.isl (n_6_4.map intL) c_n_6_4_b2)] := (hf65.2 _ om_ (by first | exact List.not_mem_nil | (simp only [List.mem_cons, List.not_mem_nil, or_false, not_or]; omega))).trans sls_; have n76 := ne_next (show o_n_6 < H66.next by first | omega | (simp only [AH.new_next, AH.put_next, AH.tok_next, AH.use_next]; omega)); have m77 := ne_add (show o_n_6 < H66.next by first | omega | (simp only [AH.new_next, AH.put_next, AH.tok_next, AH.use_next]; omega)); obtain ⟨e82, h⟩ := if_E h; try refine gos_ ?_
      refine WO_app (f := intL) row_int n_6_4 ([(IntKind.wrap .i64 ((p63.length : Int) - 1))] : List Int) c_n_6_4_b2 .exact sls_ sls_ ok_ (by first | exact e82 | (simp only [List.length_cons, List.length_nil] ; exact e82)) (fun c78 H79 ok80 le ob85 rl81 => ?_); have hf86 : HF [] _ H79 := ⟨le, fun i _ _ => ob85 i⟩; try simp only [AH.new_next, AH.put_next, AH.tok_next, AH.use_next] at le
      obtain ⟨ok83, ds84⟩ := rl81 c67 ok_ (Dis.symm ds71); have n87 := ne_next (show o_n_6 < H79.next by first | omega | (simp only [AH.new_next, AH.put_next, AH.tok_next, AH.use_next]; omega)); have m88 := ne_add (show o_n_6 < H79.next by first | omega | (simp only [AH.new_next, AH.put_next, AH.tok_next, AH.use_next]; omega)); try refine gos_ ?_
      refine hK _ _ ?_; exact ih o_n_6 operands_1 p63 n_6_0 n_6_1 n_6_2 n_6_3 (n_6_4 ++ [(IntKind.wrap .i64 ((p63.length : Int) - 1))]) (IntKind.wrap .i64 (i_7 + 1)) c67 c78 _ _ _ _ (by repeat (first | exact f0 | refine Fr.upd (by decide) ?_ | refine Fr.via fr64 (by decide) ?_)) (by repeat (first | exact hf0 | refine HF.new ?_ | refine HF.tokd ?_ | refine HF.used ?_ | refine HF.put (by first | (right; omega) | (left; simp only [List.mem_cons, true_or, or_true])) ?_ | refine HF.via hf65 (by first | exact fun i hi => absurd hi List.not_mem_nil | (intro i hi; simp only [List.mem_cons, List.not_mem_nil, or_false] at hi ⊢; first | exact .inl hi | omega)) ?_ | refine HF.via hf86 (by first | exact fun i hi => absurd hi List.not_mem_nil | (intro i hi; simp only [List.mem_cons, List.not_mem_nil, or_false] at hi ⊢; first | exact .inl hi | omega)) ?_)) sls_ om_ ok_ ok_ (Dis.symm ds84) _ h _ q0
    ·obtain rfl := som_E h; try refine gos_ ?_
     exact q0 _ c_out_5_b2 c_n_6_4_b2 _ _ rfl fr_ (by repeat (first | exact hf0 | refine HF.new ?_ | refine HF.tokd ?_ | refine HF.used ?_ | refine HF.put (by first | (right; omega) | (left; simp only [List.mem_cons, true_or, or_true])) ?_)) sls_ ok_
def b_Join (k : Nat) (root_0 : Nd) (operands_1 : List (List Nd)) : Option (List Nd) :=
  Option.bind (b_OwnTexts root_0.names) fun p2 => Option.bind (b_Join_b2 k operands_1 ([] : List Nd) root_0.kind root_0.n root_0.text p2 ([] : List Int) 0) (fun p91 => if (p91.1.length + 1) * 80 <= 1099511627776 then some (p91.1 ++ [(Nd.mk p91.2.1 p91.2.2.1 p91.2.2.2.1 p91.2.2.2.2.1 p91.2.2.2.2.2)]) else none)
theorem b_Join_c {k : Nat} {root_0 : Nd} {operands_1 : List (List Nd)} {c1 : Ck} {r : List Nd} (h : b_Join k root_0 operands_1 = some r) : PCall Tryz.prog 84 [(.agg (Nd.cells root_0)), (.isl (operands_1.map (slL Nd.cells)) c1)] (.isl (r.map Nd.cells) .unk) := by
  refine PCall.lw (.same (.isl .nil)) (PCall.of_empty (PuL.mem (.cons (.agg _ (Nd.pu _)) (.cons (pu_sl (pu_slL Nd.pu) _) .nil))) (MCall_of_W ok84 (by simp) (W_start ?_)) (pu_sl Nd.pu _)); unfold b_Join at h; unfold ac84; obtain ⟨p2, e1, h⟩ := bind_E h; try refine gos_ ?_
  refine mcall_pure (b_OwnTexts_c e1) ?_; try refine gos_ ?_
  obtain ⟨o89, h90, h⟩ := bind_E h; refine b_Join_b2_W k (AH.empty.next + 1) operands_1 ([] : List Nd) root_0.kind root_0.n root_0.text p2 ([] : List Int) 0 .nil .nil _ _ _ _ (Fr.refl _ _) (HF.refl _ _) sls_ om_ ok_ ok_ Dis.nil _ h90 _ ?_
  ·rintro p91 c95 c98 σ' H94 eo fr92 hf93 ⟨s97, g99⟩ ok96; rw [eo] at h; have s100 : σ' 6 = (.ref (AH.empty.next + 1) 0) := (fr92 6 (by decide)).trans sls_; have le := hf93.1; try simp only [AH.new_next, AH.put_next, AH.tok_next, AH.use_next] at le
   have n102 := ne_next (show AH.empty.next + 1 < H94.next by first | omega | (simp only [AH.new_next, AH.put_next, AH.tok_next, AH.use_next]; omega)); have m103 := ne_add (show AH.empty.next + 1 < H94.next by first | omega | (simp only [AH.new_next, AH.put_next, AH.tok_next, AH.use_next]; omega)); obtain ⟨e108, h⟩ := if_E h; try refine gos_ ?_
   refine WO_app (f := Nd.cells) Nd.row p91.1 ([(Nd.mk p91.2.1 p91.2.2.1 p91.2.2.2.1 p91.2.2.2.2.1 p91.2.2.2.2.2)] : List Nd) c95 .exact sls_ sls_ ok_ (by first | exact e108 | (simp only [List.length_cons, List.length_nil] ; exact e108)) (fun c104 H105 ok106 le ob109 rl107 => ?_); have hf110 : HF [] _ H105 := ⟨le, fun i _ _ => ob109 i⟩; try simp only [AH.new_next, AH.put_next, AH.tok_next, AH.use_next] at le
   have n111 := ne_next (show AH.empty.next < H105.next by first | omega | (simp only [AH.new_next, AH.put_next, AH.tok_next, AH.use_next]; omega)); have m112 := ne_add (show AH.empty.next < H105.next by first | omega | (simp only [AH.new_next, AH.put_next, AH.tok_next, AH.use_next]; omega)); have n113 := ne_next (show AH.empty.next + 1 < H105.next by first | omega | (simp only [AH.new_next, AH.put_next, AH.tok_next, AH.use_next]; omega)); have m114 := ne_add (show AH.empty.next + 1 < H105.next by first | omega | (simp only [AH.new_next, AH.put_next, AH.tok_next, AH.use_next]; omega)); obtain rfl := som_E h; try refine gos_ ?_
   exact (fz_sl Nd.pu (p91.1 ++ [(Nd.mk p91.2.1 p91.2.2.1 p91.2.2.2.1 p91.2.2.2.2.1 p91.2.2.2.2.2)]) _)
def b_Apply (k : Nat) (operator_0 : Str) (operands_1 : List (List Nd)) : Option (List Nd) :=
  Option.bind (b_Join k (Nd.mk 3 0 operator_0 [] []) operands_1) fun p2 => some p2
theorem b_Apply_c {k : Nat} {operator_0 : Str} {operands_1 : List (List Nd)} {c1 : Ck} {r : List Nd} (h : b_Apply k operator_0 operands_1 = some r) : PCall Tryz.prog 88 [(.str operator_0), (.isl (operands_1.map (slL Nd.cells)) c1)] (.isl (r.map Nd.cells) .unk) := by
  refine PCall.lw (.same (.isl .nil)) (PCall.of_empty (PuL.mem (.cons (.str _) (.cons (pu_sl (pu_slL Nd.pu) _) .nil))) (MCall_of_W ok88 (by simp) (W_start ?_)) (pu_sl Nd.pu _)); unfold b_Apply at h; unfold ac88; obtain ⟨p2, e1, h⟩ := bind_E h; try refine gos_ ?_
  refine mcall_pure (PCall.wx (b_Join_c e1) (.agg (.same (.same (.same (.isl (.isl .nil))))) (.same .nil))) ?_; obtain rfl := som_E h; try refine gos_ ?_
  exact (fz_sl Nd.pu p2 _)
def l_Sum (k : Nat) : Option (List Nd) :=
  Option.bind (b_NameOf ([97] : Str)) fun p2 => Option.bind (b_NameOf ([98] : Str)) fun p4 => Option.bind (b_NameOf ([99] : Str)) fun p6 => Option.bind (b_Apply k ([42] : Str) [p4, p6]) fun p8 => Option.bind (b_Apply k ([43] : Str) [p2, p8]) fun p10 => some p10
theorem l_Sum_c {k : Nat} {r : List Nd} (h : l_Sum k = some r) : PCall Tryz.prog 45 [] (.isl (r.map Nd.cells) .unk) := by
  refine PCall.of_empty (PuL.mem .nil) (MCall_of_W ok45 (by simp) (W_start ?_)) (pu_sl Nd.pu _); unfold l_Sum at h; unfold ac45; obtain ⟨p2, e1, h⟩ := bind_E h; try refine gos_ ?_
  refine mcall_pure (b_NameOf_c e1) ?_; obtain ⟨p4, e3, h⟩ := bind_E h; try refine gos_ ?_
  refine mcall_pure (b_NameOf_c e3) ?_; obtain ⟨p6, e5, h⟩ := bind_E h; try refine gos_ ?_
  refine mcall_pure (b_NameOf_c e5) ?_; obtain ⟨p8, e7, h⟩ := bind_E h; try refine gos_ ?_
  refine mcall_pure (b_Apply_c e7) ?_; obtain ⟨p10, e9, h⟩ := bind_E h; try refine gos_ ?_
  refine mcall_pure (b_Apply_c e9) ?_; obtain rfl := som_E h; try refine gos_ ?_
  exact (fz_sl Nd.pu p10 _)
end Go.VL
end
section
set_option maxRecDepth 8000
namespace Go.VL
open Go.Proofs
def freeStep (k : Nat) (e : List Nd) (out : List Str) (at_ : Int) (bound : List Str) : Option (List Str) :=
  if 0 <= at_ then Option.bind (e[at_.toNat]?) fun n => Option.bind (t_isNamed k n) fun b => cond b (Option.bind (g_Contains_string_string k bound n.text) fun c => cond c (some out) (if (out.length + 1) * 16 <= 1099511627776 then some (out ++ [n.text]) else none)) (some out) else none
def FreeS (e : List Nd) (o0 o1 : Nat) (out : List Str) (H : AH) : Prop := o0 < H.next /\ o1 < H.next /\ o0 ≠ o1 /\ H.obj o0 = some [exprPV e] /\ ∃ v ids, H.obj o1 = some [v] /\ RowN H strL 1 out v ids /\ o0 ∉ ids /\ o1 ∉ ids
theorem free_visit (k : Nat) (e : List Nd) (o0 o1 : Nat) : Visit 118 [.ref o0 0, .ref o1 0] (FreeS e o0 o1) (freeStep k e) where
  stable := by
    rintro a H H' ⟨h1, h2, h3, h4, v, ids, h5, h6, h7, h8⟩ hn ho hc; exact ⟨by omega, by omega, h3, (ho _).trans h4, v, ids, (ho _).trans h5, h6.hf (M := []) ⟨hn, fun i _ _ => ho i⟩ (fun _ _ h => by cases h), h7, h8⟩
  call := by
    rintro a at_ bound a' H ⟨h1, h2, h3, h4, v, ids, h5, h6, h7, h8⟩ h
    unfold freeStep at h; by_cases e1 : 0 <= at_
    case neg => rw [if_neg e1] at h; cases h
    rw [if_pos e1] at h; cases e2 : e[at_.toNat]? with
    | none => rw [bind_N e2] at h; cases h
    | some n =>
    rw [bind_S e2] at h; cases e3 : t_isNamed k n with
    | none => rw [bind_N e3] at h; cases h
    | some b =>
    rw [bind_S e3] at h; refine MCall_of_W ok118 (by simp) (W_start ?_); unfold ac118; simp -implicitDefEqProofs only [go_sem, ↓reduceIte, Nat.reduceEqDiff, h4, e1, e2, List.getElem?_map, Option.map_some, Nat.reduceAdd]; refine mcall_pure (t_isNamed_c e3) ?_; cases b with
    | false =>
      rw [cond_F rfl] at h; cases h; simp -implicitDefEqProofs only [go_sem, ↓reduceIte, Nat.reduceEqDiff, h4, e1, e2, List.getElem?_map, Option.map_some, Nat.reduceAdd]; exact ⟨h1, h2, h3, h4, v, ids, h5, h6, h7, h8⟩
    | true =>
      rw [cond_T rfl] at h; cases e4 : g_Contains_string_string k bound n.text with
      | none => rw [bind_N e4] at h; cases h
      | some c =>
      rw [bind_S e4] at h; simp -implicitDefEqProofs only [go_sem, ↓reduceIte, Nat.reduceEqDiff, h4, e1, e2, List.getElem?_map, Option.map_some, Nat.reduceAdd]; refine mcall_pure (g_Contains_string_string_c e4) ?_; cases c with
      | true =>
        rw [cond_T rfl] at h; cases h; simp -implicitDefEqProofs only [go_sem, ↓reduceIte, Nat.reduceEqDiff, h4, e1, e2, List.getElem?_map, Option.map_some, Nat.reduceAdd]; exact ⟨h1, h2, h3, h4, v, ids, h5, h6, h7, h8⟩
      | false =>
        rw [cond_F rfl] at h; by_cases e5 : (a.length + 1) * 16 <= 1099511627776
        case neg => rw [if_neg e5] at h; cases h
        rw [if_pos e5] at h; cases h; simp -implicitDefEqProofs only [go_sem, ↓reduceIte, Nat.reduceEqDiff, h4, e1, e2, List.getElem?_map, Option.map_some, Nat.reduceAdd]; refine WS_parS ?_; simp -implicitDefEqProofs only [go_sem, ↓reduceIte, Nat.reduceEqDiff, h4, h5, e1, e2, List.getElem?_map, Option.map_some, Nat.reduceAdd]; refine WO_rowapp (f := strL) row_str a [n.text] .exact (by simp -implicitDefEqProofs only [go_sem, ↓reduceIte, Nat.reduceEqDiff]) h6 (by simp -implicitDefEqProofs only [go_sem, ↓reduceIte, Nat.reduceEqDiff]) (by simp) (by simpa using e5) (fun v' ids' H' g1 g2 g3 g4 => ?_); have k0 : H'.obj o0 = some [exprPV e] := (g3.2 o0 h1 h7).trans h4; have k1 : H'.obj o1 = some [v] := (g3.2 o1 h2 h8).trans h5; have n0 : ¬ o0 ∈ ids' := fun hm => by
          rcases g2 o0 hm with q | q
          · exact h7 q
          · omega
        have n1 : ¬ o1 ∈ ids' := fun hm => by
          rcases g2 o1 hm with q | q
          · exact h8 q
          · omega
        have g1' := g1; rcases g1 with ⟨_, q, _⟩ | ⟨id, cap, junk, rfl, rfl, q1, q2, q3, q4⟩
        · simp at q
        · have hid : id ≠ o1 := fun e => n1 (by rw [e]; exact List.mem_singleton.2 rfl); simp -implicitDefEqProofs only [go_sem, WO_store, ↓reduceIte, Nat.reduceEqDiff, k1, List.length_cons, List.length_nil, Nat.reduceAdd, Nat.le_refl]; refine ⟨Nat.lt_of_lt_of_le h1 g3.1, Nat.lt_of_lt_of_le h2 g3.1, h3, ?_, _, [id], ?_, g1'.put n1, n0, n1⟩
          · show (if o0 = o1 then _ else H'.obj o0) = _
            rw [if_neg h3]; exact k0
          · show (if o1 = o1 then _ else H'.obj o1) = _
            rw [if_pos rfl]
end Go.VL
end
section
namespace Go.VL
open Go.Proofs Go.RowKit
section
variable {B : Nat -> Prop} {G : Gh} {H : AH} {w w' : World}
theorem HM.putRow (hM : HM B H G w) {id b : Nat} {cs cs' : List PV} {arr : Array Value} {t : TypeId} (d : Array (List UInt8)) (n : Nat) (os : Array Obj) (ho : H.obj id = some cs) (hm : G.m id = some b) (hb : w.heap[b]? = some (.cells arr t (0, 0)))
    (hV : Vs G H.next cs' (Sort.putCells encStr 0 d arr)) : HM B (H.put id cs') G (Sort.grow (Sort.putRow encStr (Sort.ahead w n) b 0 d) os) /\ Tr B w (Sort.grow (Sort.putRow encStr (Sort.ahead w n) b 0 d) os) := by
  obtain ⟨h1, h2⟩ := hM.putObj ho hm hb hV; have hh : (Sort.putRow encStr (Sort.ahead w n) b 0 d).heap = (w.setRow b (Sort.putCells encStr 0 d arr)).heap := by
    apply Array.ext_getElem?
    intro k; by_cases hk : k = b
    · subst hk; rw [setRow_heap w k arr _ t (0, 0) hb]; show (w.heap.modify k _)[k]? = _
      rw [Array.getElem?_modify, if_pos rfl, hb]; rfl
    · rw [setRow_other w b k _ hk]; show (w.heap.modify b _)[k]? = _
      rw [Array.getElem?_modify, if_neg (Ne.symm hk)]
  have hB : Below (w.setRow b (Sort.putCells encStr 0 d arr)).heap.size (w.setRow b (Sort.putCells encStr 0 d arr)) (Sort.grow (Sort.putRow encStr (Sort.ahead w n) b 0 d) os) := by
    refine ⟨rfl, rfl, rfl, ?_, fun k hk => ?_⟩
    · rw [Sort.size_grow, hh]; exact Nat.le_add_right _ _
    · rw [<- hh] at hk ⊢; rw [Sort.heap_grow_old _ _ hk]
  exact ⟨h1.below hB, (Tr.setRow h2 _).trans (Tr.below hB)⟩
theorem str_V {n : Nat} {s : List UInt8} {v : Value} (h : V G n (.str s) v) : v = .string ⟨s.toArray⟩ := by cases h; rfl
theorem msl_V {n id off len cap sz : Nat} {v : Value} (h : V G n (.msl id off len cap sz) v) : ∃ b, id < n /\ G.m id = some b /\ v = .slice (some ⟨b, off, none⟩) len cap := by
  cases h with
  | msl _ _ _ _ _ b h1 h2 => exact ⟨b, h1, h2, rfl⟩
theorem flat_strL (l : List Str) : (l.map strL).flatten = l.map PV.str := by
  induction l with
  | nil => rfl
  | cons s l ih => rw [List.map_cons, List.flatten_cons, ih]; rfl
theorem holds_row {l : List Str} {junk : List PV} {arr : Array Value} {b : Nat} {t : TypeId} (hb : w.heap[b]? = some (.cells arr t (0, 0))) (hV : Vs G H.next ((l.map strL).flatten ++ junk) arr) : Sort.Holds encStr w b 0 l.toArray := by
  intro j hj; have hj' : j < l.length := by simpa using hj
  have hlt : j < arr.size := by rw [hV.1, List.length_append, flat_strL, List.length_map]; omega
  have hv := str_V (hV.2 j (.str l[j]) arr[j] (by rw [flat_strL, List.getElem?_append_left (by simpa using hj')]; simp [hj']) (by simp [hlt])); refine ⟨?_, ?_⟩
  · have : arr[j]? = some arr[j] := by simp [hlt]
    simp only [World.cell?, hb, Nat.zero_add, this, hv]; simp [encStr, hj']
  · simp [World.frozen?, hb]
theorem put_Vs {n : Nat} {l m : List Str} {junk : List PV} {arr : Array Value} (hl : m.length = l.length) (hV : Vs G n ((l.map strL).flatten ++ junk) arr) : Vs G n ((m.map strL).flatten ++ junk) (Sort.putCells encStr 0 m.toArray arr) := by
  rw [flat_strL] at hV ⊢; have hs := hV.1; rw [List.length_append, List.length_map] at hs; refine ⟨by simp [Sort.putCells, hs, hl], fun j c x hc hx => ?_⟩; simp only [Sort.putCells, Array.getElem?_mapIdx, Option.map_eq_some_iff] at hx; obtain ⟨y, hy, rfl⟩ := hx; by_cases hj : j < m.length
  · rw [List.getElem?_append_left (by simpa using hj)] at hc; simp [hj] at hc; subst hc; have h2 : 0 <= j /\ j < 0 + m.toArray.size := by simpa using hj
    rw [if_pos h2]; simp [encStr, hj]; exact .str _
  · have h2 : ¬ (0 <= j /\ j < 0 + m.toArray.size) := by simp; omega
    rw [if_neg h2]; rw [List.getElem?_append_right (by simp; omega), List.length_map, hl] at hc; refine hV.2 j c y ?_ hy; rw [List.getElem?_append_right (by simp; omega), List.length_map]; exact hc
end
def sortS (l : List Str) : List Str := l.mergeSort fun x y => decide (x <= y)
theorem sort66 {H : AH} {l : List Str} {v : PV} {ids : List Nat} (h : RowN H strL 1 l v ids) (hl : l.length < 4611686018427387904) : MCall Tryz.prog 66 [v] H fun _ H' => RowN H' strL 1 (sortS l) v ids /\ HF ids H H' /\ ∀ c, okc H c -> okc H' c := by
  refine ⟨⟨_, Tryz.func66, rfl, by kernel_rfl⟩, fun B G w vs hU hM hv => ?_⟩; obtain ⟨u, rfl, hu⟩ : ∃ u, vs = #[u] /\ V G H.next v u := by
    obtain ⟨h1, h2⟩ := hv
    match vs, h1, h2 with
    | ⟨[u]⟩, _, h2 => exact ⟨u, rfl, h2 0 v u rfl rfl⟩
  rcases h with ⟨rfl, rfl, rfl⟩ | ⟨id, cap, junk, rfl, rfl, h2, h3, h4, h5⟩
  · rw [nil_V hu]; refine (Tryz.slices_Sort_string_none none 0 w).mono ?_; rintro e w' ⟨rfl, rfl⟩; exact ⟨.tup [], _, H, G, rfl, Tr.refl _ _, Ext.refl _ _ _, Nat.le_refl _, hM, .tup [] #[] rfl (fun j c x e => by simp at e), .inl ⟨rfl, by simp [sortS], rfl⟩, HF.refl _ _, fun _ h => h⟩
  · obtain ⟨b, _, hm, rfl⟩ := msl_V hu; obtain ⟨_, b', arr, t, k1, k2, k3, k4, k5⟩ := hM.obj id _ h4; obtain rfl : b' = b := by rw [hm] at k1; exact (Option.some.inj k1).symm
    have hlt := hM.lt k3; refine (Tryz.slices_Sort_string b' 0 cap l w (holds_row k3 k4) hlt hl).mono ?_; rintro e w' ⟨rfl, n, os, rfl⟩; have hlen : (sortS l).length = l.length := List.length_mergeSort _; obtain ⟨e1, e2⟩ := hM.putRow (cs' := ((sortS l).map strL).flatten ++ junk) (sortS l).toArray n os h4 hm k3 (put_Vs hlen k4); refine ⟨.tup [], _, H.put id (((sortS l).map strL).flatten ++ junk), G, rfl, e2, Ext.refl _ _ _, Nat.le_refl _, e1, .tup [] #[] rfl (fun j c x e => by simp at e), .inr ⟨id, cap, junk, rfl, by rw [hlen], by rw [hlen]; exact h2, h3, ?_, by rw [hlen]; exact h5⟩, HF.put (.inl (List.mem_singleton.2 rfl)) (HF.refl _ _), fun c hc => hc.put⟩; show (if id = id then some _ else _) = _
    rw [if_pos rfl]
theorem compact_le (l : List Str) : (Lib.compact l).length <= l.length := Lib.compact_length_le l
theorem compact119 {H : AH} {l : List Str} {v : PV} {ids : List Nat} (h : RowN H strL 1 l v ids) (hl : l.length < 4611686018427387904) : MCall Tryz.prog 119 [v] H fun r H' => RowN H' strL 1 (Lib.compact l) r ids /\ HF ids H H' /\ ∀ c, okc H c -> okc H' c := by
  refine ⟨⟨_, Tryz.func119, rfl, by kernel_rfl⟩, fun B G w vs hU hM hv => ?_⟩; obtain ⟨u, rfl, hu⟩ : ∃ u, vs = #[u] /\ V G H.next v u := by
    obtain ⟨h1, h2⟩ := hv
    match vs, h1, h2 with
    | ⟨[u]⟩, _, h2 => exact ⟨u, rfl, h2 0 v u rfl rfl⟩
  rcases h with ⟨rfl, rfl, rfl⟩ | ⟨id, cap, junk, rfl, rfl, h2, h3, h4, h5⟩
  · rw [nil_V hu]; refine (Tryz.slices_Compact_string_empty none 0 w).mono ?_; rintro e w' ⟨rfl, rfl⟩; exact ⟨.isl [] .nil, _, H, G, rfl, Tr.refl _ _, Ext.refl _ _ _, Nat.le_refl _, hM, nil_V hu ▸ hu, .inl ⟨rfl, rfl, rfl⟩, HF.refl _ _, fun _ h => h⟩
  · obtain ⟨b, _, hm, rfl⟩ := msl_V hu; obtain ⟨_, b', arr, t, k1, k2, k3, k4, k5⟩ := hM.obj id _ h4; obtain rfl : b' = b := by rw [hm] at k1; exact (Option.some.inj k1).symm
    refine (Tryz.slices_Compact_string b' 0 cap l w (holds_row k3 k4) (by omega) h2).mono ?_; rintro e w' ⟨rfl, q, rfl⟩; have hc := compact_le l; have hlen : (Lib.compact l ++ List.replicate (l.length - (Lib.compact l).length) []).length = l.length := by rw [List.length_append, List.length_replicate]; omega
    obtain ⟨e1, e2⟩ := hM.putRow (cs' := ((Lib.compact l ++ List.replicate (l.length - (Lib.compact l).length) []).map strL).flatten ++ junk) (Lib.compact l ++ List.replicate (l.length - (Lib.compact l).length) []).toArray q #[] h4 hm k3 (put_Vs hlen k4); rw [Sort.grow_empty] at e1 e2; refine ⟨.msl id 0 (Lib.compact l).length cap 1, _, H.put id (((Lib.compact l ++ List.replicate (l.length - (Lib.compact l).length) []).map strL).flatten ++ junk), G, rfl, e2, Ext.refl _ _ _, Nat.le_refl _, e1, .msl _ _ _ _ _ b' h3 hm, .inr ⟨id, cap, (List.replicate (l.length - (Lib.compact l).length) ([] : Str)).map PV.str ++ junk, rfl, rfl, by omega, h3, ?_, ?_⟩, HF.put (.inl (List.mem_singleton.2 rfl)) (HF.refl _ _), fun c hc => hc.put⟩
    · show (if id = id then some _ else _) = _
      rw [if_pos rfl, flat_strL, List.map_append, flat_strL, List.append_assoc]
    · rw [List.length_append, List.length_map, List.length_replicate, h5]; omega
end Go.VL
end
section
set_option maxRecDepth 8000
namespace Go.VL
open Go.Proofs
def t_free (k : Nat) (e : List Nd) : Option (List Str) :=
  Option.bind (walkF (freeStep k e) e k (IntKind.wrap .i64 ((e.length : Int) - 1)) [] []) fun out => if out.length < 4611686018427387904 then some (setS out) else none
theorem t_free_c (k : Nat) (e : List Nd) {c : Ck} {r : List Str} (h : t_free k e = some r) : PCall Tryz.prog 68 [.isl (e.map Nd.cells) c] (.isl (r.map strL) .unk) := by
  refine PCall.wk (args := [exprPV e]) ?_ (.isl .nil); refine PCall.of_empty (PuL.mem (.cons (pu_sl Nd.pu _) .nil)) (MCall_of_W ok68 (by simp) (W_start ?_)) (pu_sl pu_strL _); unfold t_free at h; cases e1 : walkF (freeStep k e) e k (IntKind.wrap .i64 ((e.length : Int) - 1)) [] [] with
  | none => rw [bind_N e1] at h; cases h
  | some out =>
  rw [bind_S e1] at h; by_cases e2 : out.length < 4611686018427387904
  case neg => rw [if_neg e2] at h; cases h
  rw [if_pos e2] at h; have h := Option.some.inj h; subst h; unfold ac68; simp -implicitDefEqProofs only [go_sem, ↓reduceIte, Nat.reduceEqDiff, Nat.reduceAdd, List.length_map]; have hS : FreeS e (AH.empty.next) (AH.empty.next + 1) [] ((AH.empty.new [exprPV e]).new [.isl [] .nil]) := by
    refine ⟨(show 0 < 2 by omega), (show 1 < 2 by omega), by decide, rfl, .isl [] .nil, [], rfl, RowN.nil, List.not_mem_nil, List.not_mem_nil⟩
  refine MCall.mono (MCall.wk (walk70 (free_visit k e _ _) e k _ [] [] out _ hS e1) (.same (.same (.isl (.same .nil))))) fun r H1 hS1 => ?_; obtain ⟨h1, h2, h3, h4, v, ids, h5, h6, h7, h8⟩ := hS1; simp -implicitDefEqProofs only [go_sem, ↓reduceIte, Nat.reduceEqDiff, h5]; refine MCall.mono (sort66 h6 e2) fun r2 H2 ⟨g1, g2, g3⟩ => ?_; have h5' : H2.obj (AH.empty.next + 1) = some [v] := (g2.2 _ h2 h8).trans h5; simp -implicitDefEqProofs only [go_sem, ↓reduceIte, Nat.reduceEqDiff, h5']; refine MCall.mono (compact119 g1 (by rw [show (sortS out).length = out.length from List.length_mergeSort _]; exact e2)) fun r3 H3 ⟨f1, f2, f3⟩ => ?_; simp -implicitDefEqProofs only [go_sem, ↓reduceIte, Nat.reduceEqDiff]; have hc : Lib.compact (sortS out) = setS out := compact_sort out; rw [<- hc]; exact f1.fz pu_strL
end Go.VL
end
section
namespace Go.VL
open Tm
def UpTo (e : List Nd) (R : Nat) (bd : List Str) : Prop := ∃ P j, Ev (fun k => r_Parent k e (R : Int)) (P, j) /\ ∀ out : List Str, out.length <= 34 * R -> Ev (fun k => r_BoundAt_b0 k e out P j) (bd ++ out)
section
variable {t0 : Tm} {e : List Nd} (he : e = flat 0 t0) (hL : Lite e) (hF : Fine e)
include he hL hF
theorem up_root : UpTo e (t0.size - 1) [] := by
  have hs := t0.size_pos; refine ⟨-1, 0, r_Parent_ev (ts := [t0]) (by rw [flats_one]; exact he) hL (by rw [he, flat_len]; omega) ?_, fun out _ => Ev.succ ?_⟩
  · rw [parsF_one]; cases t0 with
    | mk x cs =>
      rw [pars_mk, show (Tm.mk x cs).size - 1 = (parsL 0 ((0 + sizes cs : Nat) : Int) 0 cs).length by rw [parsL_len]; simp only [size]; omega, List.getElem?_concat_length]
  · simp only [r_BoundAt_b0]; exact Ev.cF (by rfl) Ev.some
theorem up_kid {b : Nat} {bd : List Str} {x : Nd} {l m : List Tm} {c : Tm} (hS : Seg e b (.mk x (l ++ c :: m))) (hU : UpTo e (b + sizes (l ++ c :: m)) bd) : UpTo e (b + sizes l + c.size - 1) (bd ++ bindF (nd x b (l ++ c :: m)) l.length) := by
  have hn := hS.node; have hlt := (List.getElem?_eq_some_iff.1 hn).1; have hfew := hF.few _ _ hn; have hbl := bindF_len hfew.2 l.length; have hcp := c.size_pos; have hsz : sizes (l ++ c :: m) = sizes l + (c.size + sizes m) := by rw [sizes_append, sizes]
  obtain ⟨P, j, hP, hout⟩ := hU; have ha : (nd x b (l ++ c :: m)).args[l.length]? = some ((b + sizes l + c.size - 1 : Nat) : Int) := roots_get; obtain ⟨r, h1, h2, h3⟩ := parsF_of 0 [t0] (b + sizes (l ++ c :: m)) (nd x b (l ++ c :: m)) l.length _ (by rw [flats_one, <- he]; exact hn) ha; obtain rfl : r = b + sizes l + c.size - 1 := by omega
  refine ⟨_, _, r_Parent_ev (ts := [t0]) (by rw [flats_one]; exact he) hL (by omega) h3, fun out ho => Ev.succ ?_⟩; simp only [r_BoundAt_b0, Nat.zero_add]; refine Ev.cT (decide_eq_true (by omega)) (Ev.ifp (by omega) ?_); simp only [Int.toNat_natCast, hn, Option.bind_some]; rw [r_binds_bindF (hF.ok _ _ hn) (by omega)]; simp only [Option.bind_some, List.nil_append, List.length_nil, Nat.zero_add]; refine Ev.ifp (by omega) (Ev.ifp (by have := hF.len; omega) (Ev.bind hP ((hout _ ?_).to ?_)))
  · rw [List.length_append]; omega
  · rw [List.append_assoc]
mutual
theorem bound_vis : ∀ (t : Tm) (b : Nat) (bd : List Str), Seg e b t -> UpTo e (b + t.size - 1) bd -> bd.length + 34 * (b + t.size - 1) <= 10000 -> ∀ v ∈ vis b bd t, Ev (fun k => r_BoundAt k e (v.1 : Int)) v.2 /\ v.2.length <= 10000 /\ v.1 < e.length
  | .mk x cs, b, bd, hS, hU, hb, v, hv => by
    have hsz : b + (Tm.mk x cs).size - 1 = b + sizes cs := by simp only [size]; omega
    rw [hsz] at hb hU; rw [vis_mk, List.mem_cons] at hv; rcases hv with rfl | hv
    · refine ⟨?_, (show bd.length <= 10000 by omega), (List.getElem?_eq_some_iff.1 hS.node).1⟩; obtain ⟨P, j, hP, hout⟩ := hU; unfold r_BoundAt; refine Ev.bind hP (Ev.bind (hout [] (Nat.zero_le _)) (Ev.some' ?_)); rw [List.append_nil]
    · exact boundL_vis cs x [] b bd hS hU (by simp only [List.nil_append]; omega) v hv
theorem boundL_vis : ∀ (cs : List Tm) (x : Nd) (l : List Tm) (b : Nat) (bd : List Str), Seg e b (.mk x (l ++ cs)) -> UpTo e (b + sizes (l ++ cs)) bd -> bd.length + 34 * (b + sizes (l ++ cs)) <= 10000 ->
    ∀ v ∈ visL (b + sizes l) bd (nd x b (l ++ cs)) l.length cs, Ev (fun k => r_BoundAt k e (v.1 : Int)) v.2 /\ v.2.length <= 10000 /\ v.1 < e.length
  | [], x, l, b, bd, hS, hU, hb, v, hv => by rw [visL] at hv; cases hv
  | c :: cs, x, l, b, bd, hS, hU, hb, v, hv => by
    have hn := hS.node; have hbl := bindF_len (hF.few _ _ hn).2 l.length; have hcp := c.size_pos; have hsz : sizes (l ++ c :: cs) = sizes l + (c.size + sizes cs) := by rw [sizes_append, sizes]
    rw [visL_cons, List.mem_append] at hv; rcases hv with hv | hv
    · exact bound_vis c _ _ hS.kid (up_kid he hL hF hS hU) (by rw [hsz] at hb; rw [List.length_append]; omega) v hv
    · have e1 : l ++ c :: cs = (l ++ [c]) ++ cs := by simp
      have e2 : l.length + 1 = (l ++ [c]).length := by simp
      have e3 : b + sizes l + c.size = b + sizes (l ++ [c]) := by rw [sizes_append, sizes_one]; omega
      rw [e1, e2, e3] at hv; rw [e1] at hS hU hb; exact boundL_vis cs x (l ++ [c]) b bd hS hU hb v hv
end
end
mutual
theorem vis_all : ∀ (t : Tm) (b : Nat) (bd : List Str) (i : Nat), b <= i -> i < b + t.size -> ∃ q, (i, q) ∈ vis b bd t
  | .mk x cs, b, bd, i, h1, h2 => by
    rw [vis_mk]; by_cases h : i = b + sizes cs
    · exact ⟨bd, by rw [h]; exact List.mem_cons_self⟩
    · simp only [size] at h2; obtain ⟨q, hq⟩ := visL_all cs b bd (nd x b cs) 0 i h1 (by omega); exact ⟨q, List.mem_cons_of_mem _ hq⟩
theorem visL_all : ∀ (cs : List Tm) (b : Nat) (bd : List Str) (n : Nd) (j : Nat) (i : Nat), b <= i -> i < b + sizes cs -> ∃ q, (i, q) ∈ visL b bd n j cs
  | [], b, bd, n, j, i, h1, h2 => by simp only [sizes] at h2; omega
  | c :: cs, b, bd, n, j, i, h1, h2 => by
    rw [visL_cons]; simp only [sizes] at h2; by_cases h : i < b + c.size
    · obtain ⟨q, hq⟩ := vis_all c b (bd ++ bindF n j) i h1 h; exact ⟨q, List.mem_append_left _ hq⟩
    · obtain ⟨q, hq⟩ := visL_all cs (b + c.size) bd n (j + 1) i (by omega) (by omega); exact ⟨q, List.mem_append_right _ hq⟩
end
mutual
theorem vis_len : ∀ (t : Tm) (b : Nat) (bd : List Str), (vis b bd t).length = t.size
  | .mk x cs, b, bd => by rw [vis_mk, List.length_cons, visL_len cs]; rfl
theorem visL_len : ∀ (cs : List Tm) (b : Nat) (bd : List Str) (n : Nd) (j : Nat), (visL b bd n j cs).length = sizes cs
  | [], b, bd, n, j => by rw [visL]; rfl
  | c :: cs, b, bd, n, j => by rw [visL_cons, List.length_append, vis_len c, visL_len cs]; rfl
end
def namedB (n : Nd) : Bool := (decide (n.kind = 2) && !isFx n.text) || (decide (n.kind = 3) && !(opIn tabR n.text).2)
theorem t_isNamed_ev (n : Nd) : Ev (fun k => t_isNamed k n) (namedB n) := by
  unfold t_isNamed namedB; refine Ev.bind (t_operatorOf_ev n.text) ?_; rw [t_isFixed_eq]; by_cases h : n.kind = 2
  · refine Ev.cT (by rw [h]; rfl) ?_; simp only [h, decide_true, Bool.true_and, Option.bind_some]; cases isFx n.text
    · exact Ev.cF rfl (Ev.some' rfl)
    · exact Ev.cT rfl (Ev.cF (by rfl) (Ev.some' rfl))
  · refine Ev.cF (by rw [beq_eq_false_iff_ne]; exact h) ?_; simp only [h, decide_false, Bool.false_and, Bool.false_or]; by_cases h2 : n.kind = 3
    · exact Ev.cT (by rw [h2]; rfl) (Ev.some' (by simp [h2]))
    · exact Ev.cF (by rw [beq_eq_false_iff_ne]; exact h2) (Ev.some' (by simp [h2]))
def freeF (e : List Nd) (v : Nat × List Str) : Option Str := match e[v.1]? with
  | some n => if (namedB n && !decide (n.text ∈ v.2)) = true then some n.text else none
  | none => none
theorem run_free {e : List Nd} : ∀ (l : List (Nat × List Str)) (out : List Str), (∀ v ∈ l, v.2.length <= 10000 /\ v.1 < e.length) -> out.length + l.length <= 10000 -> Ev (fun k => runV (freeStep k e) l out) (out ++ l.filterMap (freeF e))
  | [], out, h, hb => Ev.some' (by simp)
  | v :: l, out, h, hb => by
    obtain ⟨h1, h2⟩ := h v List.mem_cons_self; rw [List.length_cons] at hb; have ih := fun o => run_free l o (fun w hw => h w (List.mem_cons_of_mem _ hw)); have hf : freeF e v = if (namedB e[v.1] && !decide (e[v.1].text ∈ v.2)) = true then some e[v.1].text else none := by unfold freeF; rw [getE h2]
    simp only [runV]; refine Ev.bind (x := out ++ (freeF e v).toList) ?_ ?_
    · unfold freeStep; simp only [nn, if_true, Int.toNat_natCast, getE h2, Option.bind_some]; refine Ev.bind (t_isNamed_ev _) ?_; rw [hf]; cases namedB e[v.1]
      · exact Ev.cF rfl (Ev.some' (by simp))
      · refine Ev.cT rfl (Ev.bind (g_Contains_ev _ _ (by omega)) ?_); by_cases h3 : e[v.1].text ∈ v.2
        · exact Ev.cT (decide_eq_true h3) (Ev.some' (by simp [h3]))
        · refine Ev.cF (decide_eq_false h3) (Ev.ifp (by omega) (Ev.some' (by simp [h3])))
    · have hl : (freeF e v).toList.length <= 1 := by cases freeF e v <;> simp
      refine (ih _ (by rw [List.length_append]; omega)).to ?_; rw [List.filterMap_cons, List.append_assoc]; cases freeF e v <;> rfl
end Go.VL
end
section
namespace Go.VL
open Go.Proofs
def noS2 {α β : Type} (a : α) (b : β) : Option Str := none
def noS3 {α β γ : Type} (a : α) (b : β) (c : γ) : Option Str := none
theorem no2_c {α β : Type} (a : α) (b : β) {f : FuncId} {r : Str} {args : List PV} (h : noS2 a b = some r) : PCall Tryz.prog f args (.str r) := by cases h
theorem no3_c {α β γ : Type} (a : α) (b : β) (c : γ) {f : FuncId} {r : Str} {args : List PV} (h : noS3 a b c = some r) : PCall Tryz.prog f args (.str r) := by cases h
end Go.VL
end
section
set_option maxRecDepth 8000
set_option maxHeartbeats 4000000
namespace Go.VL
open Go.Proofs
def t_operator (k : Nat) (p_0 : Printer) (at_1 : Int) : Option (Operator × Bool) :=
  if 0 <= at_1 then Option.bind (p_0.e[at_1.toNat]?) fun x2 => cond (x2.kind != 3) (some ((Operator.mk [] 0 0 0 false 0 0), false)) (Option.bind (t_operatorOf k x2.text) fun p6 => some (p6.1, p6.2)) else none
theorem t_operator_c {k : Nat} {p_0 : Printer} {at_1 : Int} {r : Operator × Bool} (h : t_operator k p_0 at_1 = some r) : PCall Tryz.prog 100 [(.agg (Printer.cells p_0)), (.int .i64 at_1)] (.tup [(.agg (Operator.cells r.1)), (.bool r.2)]) := by
  refine PCall.of_empty (PuL.mem (.cons (.agg _ (Printer.pu _)) (.cons (.int _ _) .nil))) (MCall_of_W ok100 (by simp) (W_start ?_)) (.tup _ (PuL.mem (.cons (.agg _ (Operator.pu _)) (.cons (.bool _) .nil)))); unfold t_operator at h; unfold ac100; obtain ⟨e1, h⟩ := if_E h; obtain ⟨x2, e3, h⟩ := bind_E h; rcases cond_E h with ⟨e4, h⟩ | ⟨e4, h⟩
  ·obtain rfl := som_E h; try refine gos_ ?_
   exact (fz_tup (.cons (fz_agg (.cons (.pure _ (.str _)) (.cons (.pure _ (.int _ _)) (.cons (.pure _ (.int _ _)) (.cons (.pure _ (.int _ _)) (.cons (.pure _ (.bool _)) (.cons (.pure _ (.int _ _)) (.cons (.pure _ (.int _ _)) .nil)))))))) (.cons (.pure _ (.bool _)) .nil)))
  ·obtain ⟨p6, e5, h⟩ := bind_E h; try refine gos_ ?_
   refine mcall_pure (t_operatorOf_c e5) ?_; obtain rfl := som_E h; try refine gos_ ?_
   exact (fz_tup (.cons (fz_agg (.cons (.pure _ (.str _)) (.cons (.pure _ (.int _ _)) (.cons (.pure _ (.int _ _)) (.cons (.pure _ (.int _ _)) (.cons (.pure _ (.bool _)) (.cons (.pure _ (.int _ _)) (.cons (.pure _ (.int _ _)) .nil)))))))) (.cons (.pure _ (.bool _)) .nil)))
def t_OperatorOf (k : Nat) (text_0 : Str) : Option (Operator × Int) :=
  Option.bind (t_operatorOf k text_0) fun p2 => Option.bind (t_wrong (!p2.2) 10) fun p4 => some (p2.1, p4)
theorem t_OperatorOf_c {k : Nat} {text_0 : Str} {r : Operator × Int} (h : t_OperatorOf k text_0 = some r) : PCall Tryz.prog 26 [(.str text_0)] (.tup [(.agg (Operator.cells r.1)), (.int .i64 r.2)]) := by
  refine PCall.of_empty (PuL.mem (.cons (.str _) .nil)) (MCall_of_W ok26 (by simp) (W_start ?_)) (.tup _ (PuL.mem (.cons (.agg _ (Operator.pu _)) (.cons (.int _ _) .nil)))); unfold t_OperatorOf at h; unfold ac26; obtain ⟨p2, e1, h⟩ := bind_E h; try refine gos_ ?_
  refine mcall_pure (t_operatorOf_c e1) ?_; try refine gos_ ?_
  refine WS_parS ?_; obtain ⟨p4, e3, h⟩ := bind_E h; try refine gos_ ?_
  refine PC.mk (t_wrong_c e3) ?_; obtain rfl := som_E h; try refine gos_ ?_
  exact (fz_tup (.cons (fz_agg (.cons (.pure _ (.str _)) (.cons (.pure _ (.int _ _)) (.cons (.pure _ (.int _ _)) (.cons (.pure _ (.int _ _)) (.cons (.pure _ (.bool _)) (.cons (.pure _ (.int _ _)) (.cons (.pure _ (.int _ _)) .nil)))))))) (.cons (.pure _ (.int _ _)) .nil)))
def t_text_p0 (k : Nat) (at_1 : Int) (p_3_0 : List Nd) (t_10 : Bool) : Option Bool :=
  cond t_10 (if 0 <= at_1 then Option.bind (p_3_0[at_1.toNat]?) fun x3 => Option.bind (t_isOpen k x3.kind) fun p6 => some (p6) else none) (some (false))
def t_text_p0l : List Nat := List.range' 11 8
theorem t_text_p0_W (k : Nat) : ∀ (o_p_3 : Nat) (at_1 : Int) (p_3_0 : List Nd) (t_10 : Bool) (σ0 σ : Nat -> PV) (H : AH) (f0 : Fr t_text_p0l σ0 σ) (sl : σ 1 = (.int .i64 at_1) /\ σ 3 = (.ref (o_p_3) 0) /\ σ 10 = (.bool t_10) /\ H.obj o_p_3 = some [(.isl (p_3_0.map Nd.cells) .unk)]) (l_o_p_3 : o_p_3 < H.next) (o : Bool) (h : t_text_p0 k at_1 p_3_0 t_10 = some o) (Q : Post) (q0 : ∀ (p : Bool) (σ' : Nat -> PV), o = p -> Fr t_text_p0l σ0 σ' -> (σ' 18 = (.bool p)) -> Q .normal σ' H) , WOps Tryz.prog ac59_p0 (Q .normal) σ H := by
  intro o_p_3 at_1 p_3_0 t_10 σ0 σ H f0 sl l_o_p_3 o h Q q0; obtain ⟨s1, s3, s10, g_o_p_3⟩ := sl; have n_o_p_3 := ne_next l_o_p_3; have m_o_p_3 := ne_add l_o_p_3; unfold t_text_p0 at h; refine WO_start ?_; unfold ac59_p0; rcases cond_E h with ⟨e1, h⟩ | ⟨e1, h⟩
  ·obtain ⟨e2, h⟩ := if_E h; obtain ⟨x3, e4, h⟩ := bind_E h; obtain ⟨p6, e5, h⟩ := bind_E h; try refine gos_ ?_
   refine mcall_pure (t_isOpen_c e5) ?_; obtain rfl := som_E h; try refine gos_ ?_
   exact q0 _ _ rfl fr_ sls_
  ·obtain rfl := som_E h; try refine gos_ ?_
   exact q0 _ _ rfl fr_ sls_
def t_applied_p0 (o_6_0 : Str) (o_6_1 : Int) (o_6_2 : Int) (o_6_3 : Int) (o_6_4 : Bool) (o_6_5 : Int) (o_6_6 : Int) (x_12_0 : Str) (x_12_1 : Int) (x_12_2 : Int) (x_12_3 : Int) (x_12_4 : Bool) (x_12_5 : Int) (x_12_6 : Int) (t_70 : Bool) : Option Bool :=
  cond t_70 (cond (x_12_1 == 0) (cond (decide (x_12_2 < o_6_2)) (some (true)) (cond (x_12_1 != 0) (cond (decide (x_12_2 <= o_6_3)) (some (true)) (cond (x_12_0 == ([45, 46] : Str)) (some ((o_6_0 == ([45, 46] : Str)))) (some (false)))) (cond (x_12_0 == ([45, 46] : Str)) (some ((o_6_0 == ([45, 46] : Str)))) (some (false))))) (cond (x_12_1 != 0) (cond (decide (x_12_2 <= o_6_3)) (some (true)) (cond (x_12_0 == ([45, 46] : Str)) (some ((o_6_0 == ([45, 46] : Str)))) (some (false)))) (cond (x_12_0 == ([45, 46] : Str)) (some ((o_6_0 == ([45, 46] : Str)))) (some (false))))) (some (false))
def t_applied_p0l : List Nat := List.range' 71 33
theorem t_applied_p0_W : ∀ (o_o_6 : Nat) (o_x_12 : Nat) (o_6_0 : Str) (o_6_1 : Int) (o_6_2 : Int) (o_6_3 : Int) (o_6_4 : Bool) (o_6_5 : Int) (o_6_6 : Int) (x_12_0 : Str) (x_12_1 : Int) (x_12_2 : Int) (x_12_3 : Int) (x_12_4 : Bool) (x_12_5 : Int) (x_12_6 : Int) (t_70 : Bool) (σ0 σ : Nat -> PV) (H : AH) (f0 : Fr t_applied_p0l σ0 σ) (sl : σ 6 = (.ref (o_o_6) 0) /\ σ 12 = (.ref (o_x_12) 0) /\ σ 70 = (.bool t_70) /\ H.obj o_o_6 = some [(.str o_6_0), (.int .i64 o_6_1), (.int .i64 o_6_2), (.int .i64 o_6_3), (.bool o_6_4), (.int .i64 o_6_5), (.int .i64 o_6_6)] /\ H.obj o_x_12 = some [(.str x_12_0), (.int .i64 x_12_1), (.int .i64 x_12_2), (.int .i64 x_12_3), (.bool x_12_4), (.int .i64 x_12_5), (.int .i64 x_12_6)]) (l_o_o_6 : o_o_6 < H.next) (l_o_x_12 : o_x_12 < H.next) (d_o_o_6_o_x_12 : o_o_6 ≠ o_x_12) (o : Bool) (h : t_applied_p0 o_6_0 o_6_1 o_6_2 o_6_3 o_6_4 o_6_5 o_6_6 x_12_0 x_12_1 x_12_2 x_12_3 x_12_4 x_12_5 x_12_6 t_70 = some o) (Q : Post) (q0 : ∀ (p : Bool) (σ' : Nat -> PV), o = p -> Fr t_applied_p0l σ0 σ' -> (σ' 103 = (.bool p)) -> Q .normal σ' H) , WOps Tryz.prog ac101_p0 (Q .normal) σ H := by
  intro o_o_6 o_x_12 o_6_0 o_6_1 o_6_2 o_6_3 o_6_4 o_6_5 o_6_6 x_12_0 x_12_1 x_12_2 x_12_3 x_12_4 x_12_5 x_12_6 t_70 σ0 σ H f0 sl l_o_o_6 l_o_x_12 d_o_o_6_o_x_12 o h Q q0; obtain ⟨s6, s12, s70, g_o_o_6, g_o_x_12⟩ := sl; have n_o_o_6 := ne_next l_o_o_6; have m_o_o_6 := ne_add l_o_o_6; have n_o_x_12 := ne_next l_o_x_12; have m_o_x_12 := ne_add l_o_x_12; have e_o_o_6_o_x_12 := eq_false d_o_o_6_o_x_12; have r_o_o_6_o_x_12 := eq_false (Ne.symm d_o_o_6_o_x_12); unfold t_applied_p0 at h; refine WO_start ?_; unfold ac101_p0; rcases cond_E h with ⟨e21, h⟩ | ⟨e21, h⟩
  ·rcases cond_E h with ⟨e22, h⟩ | ⟨e22, h⟩
   ·rcases cond_E h with ⟨e23, h⟩ | ⟨e23, h⟩
    ·obtain rfl := som_E h; try refine gos_ ?_
     exact q0 _ _ rfl fr_ sls_
    ·rcases cond_E h with ⟨e24, h⟩ | ⟨e24, h⟩
     ·rcases cond_E h with ⟨e25, h⟩ | ⟨e25, h⟩
      ·obtain rfl := som_E h; try refine gos_ ?_
       exact q0 _ _ rfl fr_ sls_
      ·rcases cond_E h with ⟨e26, h⟩ | ⟨e26, h⟩
       ·obtain rfl := som_E h; try refine gos_ ?_
        exact q0 _ _ rfl fr_ sls_
       ·obtain rfl := som_E h; try refine gos_ ?_
        exact q0 _ _ rfl fr_ sls_
     ·rcases cond_E h with ⟨e27, h⟩ | ⟨e27, h⟩
      ·obtain rfl := som_E h; try refine gos_ ?_
       exact q0 _ _ rfl fr_ sls_
      ·obtain rfl := som_E h; try refine gos_ ?_
       exact q0 _ _ rfl fr_ sls_
   ·rcases cond_E h with ⟨e28, h⟩ | ⟨e28, h⟩
    ·rcases cond_E h with ⟨e29, h⟩ | ⟨e29, h⟩
     ·obtain rfl := som_E h; try refine gos_ ?_
      exact q0 _ _ rfl fr_ sls_
     ·rcases cond_E h with ⟨e30, h⟩ | ⟨e30, h⟩
      ·obtain rfl := som_E h; try refine gos_ ?_
       exact q0 _ _ rfl fr_ sls_
      ·obtain rfl := som_E h; try refine gos_ ?_
       exact q0 _ _ rfl fr_ sls_
    ·rcases cond_E h with ⟨e31, h⟩ | ⟨e31, h⟩
     ·obtain rfl := som_E h; try refine gos_ ?_
      exact q0 _ _ rfl fr_ sls_
     ·obtain rfl := som_E h; try refine gos_ ?_
      exact q0 _ _ rfl fr_ sls_
  ·obtain rfl := som_E h; try refine gos_ ?_
   exact q0 _ _ rfl fr_ sls_
def t_applied_p1 (o_6_0 : Str) (o_6_1 : Int) (o_6_2 : Int) (o_6_3 : Int) (o_6_4 : Bool) (o_6_5 : Int) (o_6_6 : Int) (t_115 : Bool) : Option Bool :=
  cond t_115 (Option.bind (o_6_0[0]?) fun x47 => some ((decide ((x47.toNat : Int) <= 90)))) (some (false))
def t_applied_p1l : List Nat := [116, 117, 118, 119, 120]
theorem t_applied_p1_W : ∀ (o_o_6 : Nat) (o_6_0 : Str) (o_6_1 : Int) (o_6_2 : Int) (o_6_3 : Int) (o_6_4 : Bool) (o_6_5 : Int) (o_6_6 : Int) (t_115 : Bool) (σ0 σ : Nat -> PV) (H : AH) (f0 : Fr t_applied_p1l σ0 σ) (sl : σ 6 = (.ref (o_o_6) 0) /\ σ 115 = (.bool t_115) /\ H.obj o_o_6 = some [(.str o_6_0), (.int .i64 o_6_1), (.int .i64 o_6_2), (.int .i64 o_6_3), (.bool o_6_4), (.int .i64 o_6_5), (.int .i64 o_6_6)]) (l_o_o_6 : o_o_6 < H.next) (o : Bool) (h : t_applied_p1 o_6_0 o_6_1 o_6_2 o_6_3 o_6_4 o_6_5 o_6_6 t_115 = some o) (Q : Post) (q0 : ∀ (p : Bool) (σ' : Nat -> PV), o = p -> Fr t_applied_p1l σ0 σ' -> (σ' 120 = (.bool p)) -> Q .normal σ' H) , WOps Tryz.prog ac101_p1 (Q .normal) σ H := by
  intro o_o_6 o_6_0 o_6_1 o_6_2 o_6_3 o_6_4 o_6_5 o_6_6 t_115 σ0 σ H f0 sl l_o_o_6 o h Q q0; obtain ⟨s6, s115, g_o_o_6⟩ := sl; have n_o_o_6 := ne_next l_o_o_6; have m_o_o_6 := ne_add l_o_o_6; unfold t_applied_p1 at h; refine WO_start ?_; unfold ac101_p1; rcases cond_E h with ⟨e46, h⟩ | ⟨e46, h⟩
  ·obtain ⟨x47, e48, h⟩ := bind_E h; obtain rfl := som_E h; try refine gos_ ?_
   exact q0 _ _ rfl fr_ sls_
  ·obtain rfl := som_E h; try refine gos_ ?_
   exact q0 _ _ rfl fr_ sls_
def t_applied_j2 (o_6_0 : Str) (o_6_1 : Int) (o_6_2 : Int) (o_6_3 : Int) (o_6_4 : Bool) (o_6_5 : Int) (o_6_6 : Int) (word_15 : Str) : Option Str :=
  cond (o_6_0 == ([45, 46] : Str)) (some (([45] : Str))) (Option.bind (o_6_0[0]?) fun x44 => Option.bind (t_applied_p1 o_6_0 o_6_1 o_6_2 o_6_3 o_6_4 o_6_5 o_6_6 (decide ((x44.toNat : Int) >= 65))) (fun p51 => cond p51 (if word_15.length + ([32] : Str).length <= 4611686018427387904 then some ((word_15 ++ ([32] : Str))) else none) (some (word_15))))
def t_applied_j2l : List Nat := [15] ++ List.range' 106 17
theorem t_applied_j2_W : ∀ (o_o_6 : Nat) (o_6_0 : Str) (o_6_1 : Int) (o_6_2 : Int) (o_6_3 : Int) (o_6_4 : Bool) (o_6_5 : Int) (o_6_6 : Int) (word_15 : Str) (σ0 σ : Nat -> PV) (H : AH) (f0 : Fr t_applied_j2l σ0 σ) (sl : σ 6 = (.ref (o_o_6) 0) /\ σ 15 = (.str word_15) /\ H.obj o_o_6 = some [(.str o_6_0), (.int .i64 o_6_1), (.int .i64 o_6_2), (.int .i64 o_6_3), (.bool o_6_4), (.int .i64 o_6_5), (.int .i64 o_6_6)]) (l_o_o_6 : o_o_6 < H.next) (o : Str) (h : t_applied_j2 o_6_0 o_6_1 o_6_2 o_6_3 o_6_4 o_6_5 o_6_6 word_15 = some o) (Q : Post) (q0 : ∀ (p : Str) (σ' : Nat -> PV), o = p -> Fr t_applied_j2l σ0 σ' -> (σ' 15 = (.str p)) -> Q .normal σ' H) , W Tryz.prog ac101_j2 Q σ H := by
  intro o_o_6 o_6_0 o_6_1 o_6_2 o_6_3 o_6_4 o_6_5 o_6_6 word_15 σ0 σ H f0 sl l_o_o_6 o h Q q0; obtain ⟨s6, s15, g_o_o_6⟩ := sl; have n_o_o_6 := ne_next l_o_o_6; have m_o_o_6 := ne_add l_o_o_6; unfold t_applied_j2 at h; refine W_start ?_; unfold ac101_j2; rcases cond_E h with ⟨e43, h⟩ | ⟨e43, h⟩
  ·obtain rfl := som_E h; try refine gos_ ?_
   exact q0 _ _ rfl fr_ sls_
  ·obtain ⟨x44, e45, h⟩ := bind_E h; try refine gos_ ?_
   obtain ⟨o49, h50, h⟩ := bind_E h; refine t_applied_p1_W (o_o_6) o_6_0 o_6_1 o_6_2 o_6_3 o_6_4 o_6_5 o_6_6 (decide ((x44.toNat : Int) >= 65)) _ _ _ (Fr.refl _ _) sls_ om_ _ h50 _ ?_
   ·rintro p51 σ' eo fr52 s55; rw [eo] at h; have s56 : σ' 15 = (.str word_15) := (fr52 15 (by decide)).trans sls_; rcases cond_E h with ⟨e57, h⟩ | ⟨e57, h⟩
    ·obtain ⟨e58, h⟩ := if_E h; try refine gos_ ?_
     refine WR_cat (cat_ e58) ?_; obtain rfl := som_E h; try refine gos_ ?_
     exact q0 _ _ rfl (by repeat (first | exact f0 | refine Fr.upd (by decide) ?_ | refine Fr.via fr52 (by decide) ?_)) sls_
    ·obtain rfl := som_E h; try refine gos_ ?_
     exact q0 _ _ rfl (by repeat (first | exact f0 | refine Fr.upd (by decide) ?_ | refine Fr.via fr52 (by decide) ?_)) sls_
def t_applied_p3 (o_6_0 : Str) (o_6_1 : Int) (o_6_2 : Int) (o_6_3 : Int) (o_6_4 : Bool) (o_6_5 : Int) (o_6_6 : Int) (k_18 : Int) (x_20_0 : Str) (x_20_1 : Int) (x_20_2 : Int) (x_20_3 : Int) (x_20_4 : Bool) (x_20_5 : Int) (x_20_6 : Int) (t_152 : Bool) : Option Bool :=
  cond t_152 (cond (decide (x_20_2 <= o_6_3)) (cond (k_18 == 0) (cond (x_20_0 == o_6_0) (some ((!o_6_4))) (some (true))) (some (true))) (some (false))) (some (false))
def t_applied_p3l : List Nat := List.range' 153 22
theorem t_applied_p3_W : ∀ (o_o_6 : Nat) (o_x_20 : Nat) (o_6_0 : Str) (o_6_1 : Int) (o_6_2 : Int) (o_6_3 : Int) (o_6_4 : Bool) (o_6_5 : Int) (o_6_6 : Int) (k_18 : Int) (x_20_0 : Str) (x_20_1 : Int) (x_20_2 : Int) (x_20_3 : Int) (x_20_4 : Bool) (x_20_5 : Int) (x_20_6 : Int) (t_152 : Bool) (σ0 σ : Nat -> PV) (H : AH) (f0 : Fr t_applied_p3l σ0 σ) (sl : σ 6 = (.ref (o_o_6) 0) /\ σ 18 = (.int .i64 k_18) /\ σ 20 = (.ref (o_x_20) 0) /\ σ 152 = (.bool t_152) /\ H.obj o_o_6 = some [(.str o_6_0), (.int .i64 o_6_1), (.int .i64 o_6_2), (.int .i64 o_6_3), (.bool o_6_4), (.int .i64 o_6_5), (.int .i64 o_6_6)] /\ H.obj o_x_20 = some [(.str x_20_0), (.int .i64 x_20_1), (.int .i64 x_20_2), (.int .i64 x_20_3), (.bool x_20_4), (.int .i64 x_20_5), (.int .i64 x_20_6)]) (l_o_o_6 : o_o_6 < H.next) (l_o_x_20 : o_x_20 < H.next) (d_o_o_6_o_x_20 : o_o_6 ≠ o_x_20) (o : Bool) (h : t_applied_p3 o_6_0 o_6_1 o_6_2 o_6_3 o_6_4 o_6_5 o_6_6 k_18 x_20_0 x_20_1 x_20_2 x_20_3 x_20_4 x_20_5 x_20_6 t_152 = some o) (Q : Post) (q0 : ∀ (p : Bool) (σ' : Nat -> PV), o = p -> Fr t_applied_p3l σ0 σ' -> (σ' 174 = (.bool p)) -> Q .normal σ' H) , WOps Tryz.prog ac101_p3 (Q .normal) σ H := by
  intro o_o_6 o_x_20 o_6_0 o_6_1 o_6_2 o_6_3 o_6_4 o_6_5 o_6_6 k_18 x_20_0 x_20_1 x_20_2 x_20_3 x_20_4 x_20_5 x_20_6 t_152 σ0 σ H f0 sl l_o_o_6 l_o_x_20 d_o_o_6_o_x_20 o h Q q0; obtain ⟨s6, s18, s20, s152, g_o_o_6, g_o_x_20⟩ := sl; have n_o_o_6 := ne_next l_o_o_6; have m_o_o_6 := ne_add l_o_o_6; have n_o_x_20 := ne_next l_o_x_20; have m_o_x_20 := ne_add l_o_x_20; have e_o_o_6_o_x_20 := eq_false d_o_o_6_o_x_20; have r_o_o_6_o_x_20 := eq_false (Ne.symm d_o_o_6_o_x_20); unfold t_applied_p3 at h; refine WO_start ?_; unfold ac101_p3; rcases cond_E h with ⟨e79, h⟩ | ⟨e79, h⟩
  ·rcases cond_E h with ⟨e80, h⟩ | ⟨e80, h⟩
   ·rcases cond_E h with ⟨e81, h⟩ | ⟨e81, h⟩
    ·rcases cond_E h with ⟨e82, h⟩ | ⟨e82, h⟩
     ·obtain rfl := som_E h; try refine gos_ ?_
      exact q0 _ _ rfl fr_ sls_
     ·obtain rfl := som_E h; try refine gos_ ?_
      exact q0 _ _ rfl fr_ sls_
    ·obtain rfl := som_E h; try refine gos_ ?_
     exact q0 _ _ rfl fr_ sls_
   ·obtain rfl := som_E h; try refine gos_ ?_
    exact q0 _ _ rfl fr_ sls_
  ·obtain rfl := som_E h; try refine gos_ ?_
   exact q0 _ _ rfl fr_ sls_
def t_applied_b0l : List Nat := [16, 18, 19, 20, 21, 22] ++ List.range' 140 49
mutual
def t_text : Nat -> Printer -> Int -> Bool -> Option Str
  | 0, _, _, _ => none
  | k + 1, p_0, at_1, follows_2 =>
    Option.bind (t_text_p0 k at_1 p_0.e follows_2) (fun p9 => cond p9 (Option.bind (t_closed k p_0 at_1) fun p19 => some p19) (Option.bind (t_operator k p_0 at_1) fun p21 => cond p21.2 (Option.bind (t_applied k p_0 at_1 p21.1 follows_2) fun p24 => some p24) (Option.bind (t_form k p_0 at_1) fun p26 => some p26)))
def t_closed : Nat -> Printer -> Int -> Option Str
  | 0, _, _ => none
  | k + 1, p_0, at_1 =>
    Option.bind (t_text k p_0 at_1 false) fun p2 => if ([40] : Str).length + p2.length <= 4611686018427387904 then if (40 :: p2).length + ([41] : Str).length <= 4611686018427387904 then some (40 :: (p2 ++ ([41] : Str))) else none else none
def t_operand : Nat -> Printer -> Int -> Bool -> Bool -> Option Str
  | 0, _, _, _, _ => none
  | k + 1, p_0, at_1, must_2, follows_3 =>
    cond must_2 (Option.bind (t_closed k p_0 at_1) fun p3 => some p3) (Option.bind (t_text k p_0 at_1 follows_3) fun p5 => some p5)
def t_applied_b0 : Nat -> Bool -> (List Nd) -> Str -> Int -> Int -> Int -> Bool -> Int -> Int -> (List Str) -> Int -> (List Int) -> Int -> Int -> Option (List Str)
  | 0, _, _, _, _, _, _, _, _, _, _, _, _, _, _ => none
  | k + 1, follows_3, p_4_0, o_6_0, o_6_1, o_6_2, o_6_3, o_6_4, o_6_5, o_6_6, out_16, last_17, t_138, t_139, t_140 =>
    cond (decide (t_140 < t_139)) (if 0 <= t_140 then Option.bind (t_138[t_140.toNat]?) fun x75 => Option.bind (t_operator k (Printer.mk p_4_0) x75) fun p78 => Option.bind (t_applied_p3 o_6_0 o_6_1 o_6_2 o_6_3 o_6_4 o_6_5 o_6_6 t_140 p78.1.text p78.1.fix p78.1.low p78.1.high p78.1.left p78.1.least p78.1.most p78.2) (fun p85 => cond (decide (t_140 < last_17)) (Option.bind (t_operand k (Printer.mk p_4_0) x75 p85 true) fun p102 => if (out_16.length + 1) * 16 <= 1099511627776 then t_applied_b0 k follows_3 p_4_0 o_6_0 o_6_1 o_6_2 o_6_3 o_6_4 o_6_5 o_6_6 (out_16 ++ [p102]) last_17 t_138 t_139 (IntKind.wrap .i64 (t_140 + 1)) else none) (Option.bind (t_operand k (Printer.mk p_4_0) x75 p85 follows_3) fun p111 => if (out_16.length + 1) * 16 <= 1099511627776 then t_applied_b0 k follows_3 p_4_0 o_6_0 o_6_1 o_6_2 o_6_3 o_6_4 o_6_5 o_6_6 (out_16 ++ [p111]) last_17 t_138 t_139 (IntKind.wrap .i64 (t_140 + 1)) else none)) else none) (some (out_16))
def t_applied : Nat -> Printer -> Int -> Operator -> Bool -> Option Str
  | 0, _, _, _, _ => none
  | k + 1, p_0, at_1, o_2, follows_3 =>
    if 0 <= at_1 then Option.bind (p_0.e[at_1.toNat]?) fun x2 => cond (o_2.fix == 2) (Option.bind (x2.args[0]?) fun x5 => Option.bind (t_operator k p_0 x5) fun p8 => cond p8.2 (Option.bind (t_operand k p_0 x5 (!(p8.1.text == o_2.text)) true) fun p11 => if p11.length + o_2.text.length <= 4611686018427387904 then some (p11 ++ o_2.text) else none) (Option.bind (t_operand k p_0 x5 false true) fun p14 => if p14.length + o_2.text.length <= 4611686018427387904 then some (p14 ++ o_2.text) else none)) (cond (o_2.fix == 0) (Option.bind (x2.args[0]?) fun x17 => Option.bind (t_operator k p_0 x17) fun p20 => Option.bind (t_applied_p0 o_2.text o_2.fix o_2.low o_2.high o_2.left o_2.least o_2.most p20.1.text p20.1.fix p20.1.low p20.1.high p20.1.left p20.1.least p20.1.most p20.2) (fun p34 => Option.bind (t_applied_j2 o_2.text o_2.fix o_2.low o_2.high o_2.left o_2.least o_2.most o_2.text) (fun p61 => Option.bind (t_operand k p_0 x17 p34 follows_3) fun p71 => if p61.length + p71.length <= 4611686018427387904 then some (p61 ++ p71) else none))) (Option.bind (t_applied_b0 k follows_3 p_0.e o_2.text o_2.fix o_2.low o_2.high o_2.left o_2.least o_2.most ([] : List Str) (IntKind.wrap .i64 ((x2.args.length : Int) - 1)) x2.args (x2.args.length : Int) 0) (fun p133 => if ([32] : Str).length + o_2.text.length <= 4611686018427387904 then if (32 :: o_2.text).length + ([32] : Str).length <= 4611686018427387904 then if p133.length <= 1099511627776 then if (Lib.join p133 (32 :: (o_2.text ++ ([32] : Str)))).length <= 140737488355328 then some (Lib.join p133 (32 :: (o_2.text ++ ([32] : Str)))) else none else none else none else none))) else none
def t_form : Nat -> Printer -> Int -> Option Str
  | 0, _, _ => none
  | k + 1, p_0, at_1 =>
    if 0 <= at_1 then Option.bind (p_0.e[at_1.toNat]?) fun x2 => cond (x2.kind == 0) (if 0 <= x2.n /\ x2.n < 100 then some (Lib.decDigits (Int.toNat x2.n)) else none) (cond (x2.kind == 1) (if ([34] : Str).length + x2.text.length <= 4611686018427387904 then if (34 :: x2.text).length + ([34] : Str).length <= 4611686018427387904 then some (34 :: (x2.text ++ ([34] : Str))) else none else none) (cond (x2.kind == 2) (some x2.text) (cond (x2.kind == 3) (if x2.text.length + ([40] : Str).length <= 4611686018427387904 then Option.bind (noS2 p_0 x2.args) fun p13 => if (x2.text ++ ([40] : Str)).length + p13.length <= 4611686018427387904 then if (x2.text ++ (40 :: p13)).length + ([41] : Str).length <= 4611686018427387904 then some (x2.text ++ (40 :: (p13 ++ ([41] : Str)))) else none else none else none) (cond (x2.kind == 4) (Option.bind (noS2 p_0 x2.args) fun p18 => if ([60, 60] : Str).length + p18.length <= 4611686018427387904 then if (60 :: 60 :: p18).length + ([62, 62] : Str).length <= 4611686018427387904 then some (60 :: 60 :: (p18 ++ ([62, 62] : Str))) else none else none) (cond (x2.kind == 5) (Option.bind (noS2 p_0 x2.args) fun p23 => if ([123] : Str).length + p23.length <= 4611686018427387904 then if (123 :: p23).length + ([125] : Str).length <= 4611686018427387904 then some (123 :: (p23 ++ ([125] : Str))) else none else none) (cond (x2.kind == 6) (Option.bind (noS2 p_0 x2) fun p28 => if ([123] : Str).length + p28.length <= 4611686018427387904 then if (123 :: p28).length + ([32, 58, 32] : Str).length <= 4611686018427387904 then Option.bind (x2.args[1]?) fun x31 => Option.bind (t_text k p_0 x31 false) fun p34 => if (123 :: (p28 ++ ([32, 58, 32] : Str))).length + p34.length <= 4611686018427387904 then if (123 :: (p28 ++ (32 :: 58 :: 32 :: p34))).length + ([125] : Str).length <= 4611686018427387904 then some (123 :: (p28 ++ (32 :: 58 :: 32 :: (p34 ++ ([125] : Str))))) else none else none else none else none) (cond (x2.kind == 7) (if 0 <= (IntKind.wrap .i64 ((x2.args.length : Int) - 1)) then Option.bind (x2.args[(IntKind.wrap .i64 ((x2.args.length : Int) - 1)).toNat]?) fun x39 => Option.bind (noS2 p_0 x39) fun p42 => if ([123] : Str).length + p42.length <= 4611686018427387904 then if (123 :: p42).length + ([32, 58, 32] : Str).length <= 4611686018427387904 then Option.bind (noS2 p_0 x2) fun p46 => if (123 :: (p42 ++ ([32, 58, 32] : Str))).length + p46.length <= 4611686018427387904 then if (123 :: (p42 ++ (32 :: 58 :: 32 :: p46))).length + ([125] : Str).length <= 4611686018427387904 then some (123 :: (p42 ++ (32 :: 58 :: 32 :: (p46 ++ ([125] : Str))))) else none else none else none else none else none) (cond (x2.kind == 13) (Option.bind (noS2 p_0 x2) fun p51 => if ([91] : Str).length + p51.length <= 4611686018427387904 then if (91 :: p51).length + ([32, 124, 45, 62, 32] : Str).length <= 4611686018427387904 then if 0 <= (IntKind.wrap .i64 ((x2.args.length : Int) - 1)) then Option.bind (x2.args[(IntKind.wrap .i64 ((x2.args.length : Int) - 1)).toNat]?) fun x55 => Option.bind (t_text k p_0 x55 false) fun p58 => if (91 :: (p51 ++ ([32, 124, 45, 62, 32] : Str))).length + p58.length <= 4611686018427387904 then if (91 :: (p51 ++ (32 :: 124 :: 45 :: 62 :: 32 :: p58))).length + ([93] : Str).length <= 4611686018427387904 then some (91 :: (p51 ++ (32 :: 124 :: 45 :: 62 :: 32 :: (p58 ++ ([93] : Str))))) else none else none else none else none else none) (cond (x2.kind == 14) (Option.bind (x2.args[0]?) fun x62 => Option.bind (noS2 p_0 x62) fun p65 => if p65.length + ([91] : Str).length <= 4611686018427387904 then if 1 <= x2.args.length then Option.bind (noS2 p_0 (x2.args.drop 1)) fun p69 => if (p65 ++ ([91] : Str)).length + p69.length <= 4611686018427387904 then if (p65 ++ (91 :: p69)).length + ([93] : Str).length <= 4611686018427387904 then some (p65 ++ (91 :: (p69 ++ ([93] : Str)))) else none else none else none else none) (cond (x2.kind == 15) (Option.bind (x2.args[0]?) fun x73 => Option.bind (t_text k p_0 x73 false) fun p76 => if ([91] : Str).length + p76.length <= 4611686018427387904 then if (91 :: p76).length + ([32, 45, 62, 32] : Str).length <= 4611686018427387904 then Option.bind (x2.args[1]?) fun x79 => Option.bind (t_text k p_0 x79 false) fun p82 => if (91 :: (p76 ++ ([32, 45, 62, 32] : Str))).length + p82.length <= 4611686018427387904 then if (91 :: (p76 ++ (32 :: 45 :: 62 :: 32 :: p82))).length + ([93] : Str).length <= 4611686018427387904 then some (91 :: (p76 ++ (32 :: 45 :: 62 :: 32 :: (p82 ++ ([93] : Str))))) else none else none else none else none) (cond (x2.kind == 16) (Option.bind (noS3 p_0 x2 ([32, 124, 45, 62, 32] : Str)) fun p87 => if ([91] : Str).length + p87.length <= 4611686018427387904 then if (91 :: p87).length + ([93] : Str).length <= 4611686018427387904 then some (91 :: (p87 ++ ([93] : Str))) else none else none) (cond (x2.kind == 17) (Option.bind (noS3 p_0 x2 ([32, 58, 32] : Str)) fun p92 => if ([91] : Str).length + p92.length <= 4611686018427387904 then if (91 :: p92).length + ([93] : Str).length <= 4611686018427387904 then some (91 :: (p92 ++ ([93] : Str))) else none else none) (cond (x2.kind == 18) (Option.bind (x2.args[0]?) fun x96 => Option.bind (noS2 p_0 x96) fun p99 => if p99.length + ([46] : Str).length <= 4611686018427387904 then if (p99 ++ ([46] : Str)).length + x2.text.length <= 4611686018427387904 then some (p99 ++ (46 :: x2.text)) else none else none) (cond (x2.kind == 19) (Option.bind (x2.args[0]?) fun x103 => Option.bind (t_text k p_0 x103 false) fun p106 => if ([91] : Str).length + p106.length <= 4611686018427387904 then if (91 :: p106).length + ([32, 69, 88, 67, 69, 80, 84, 32, 33, 91] : Str).length <= 4611686018427387904 then Option.bind (x2.args[1]?) fun x109 => Option.bind (t_text k p_0 x109 false) fun p112 => if (91 :: (p106 ++ ([32, 69, 88, 67, 69, 80, 84, 32, 33, 91] : Str))).length + p112.length <= 4611686018427387904 then if (91 :: (p106 ++ (32 :: 69 :: 88 :: 67 :: 69 :: 80 :: 84 :: 32 :: 33 :: 91 :: p112))).length + ([93, 32, 61, 32] : Str).length <= 4611686018427387904 then Option.bind (x2.args[2]?) fun x115 => Option.bind (t_text k p_0 x115 false) fun p118 => if (91 :: (p106 ++ (32 :: 69 :: 88 :: 67 :: 69 :: 80 :: 84 :: 32 :: 33 :: 91 :: (p112 ++ ([93, 32, 61, 32] : Str))))).length + p118.length <= 4611686018427387904 then if (91 :: (p106 ++ (32 :: 69 :: 88 :: 67 :: 69 :: 80 :: 84 :: 32 :: 33 :: 91 :: (p112 ++ (93 :: 32 :: 61 :: 32 :: p118))))).length + ([93] : Str).length <= 4611686018427387904 then some (91 :: (p106 ++ (32 :: 69 :: 88 :: 67 :: 69 :: 80 :: 84 :: 32 :: 33 :: 91 :: (p112 ++ (93 :: 32 :: 61 :: 32 :: (p118 ++ ([93] : Str))))))) else none else none else none else none else none else none) (cond (x2.kind == 20) (some ([64] : Str)) (cond (x2.kind == 25) (Option.bind (x2.args[0]?) fun x123 => Option.bind (t_text k p_0 x123 false) fun p126 => if ([91] : Str).length + p126.length <= 4611686018427387904 then if (91 :: p126).length + ([93, 95] : Str).length <= 4611686018427387904 then Option.bind (x2.args[1]?) fun x129 => Option.bind (noS2 p_0 x129) fun p132 => if (91 :: (p126 ++ ([93, 95] : Str))).length + p132.length <= 4611686018427387904 then some (91 :: (p126 ++ (93 :: 95 :: p132))) else none else none else none) (cond (x2.kind == 26) (Option.bind (x2.args[0]?) fun x135 => Option.bind (t_text k p_0 x135 false) fun p138 => if ([60, 60] : Str).length + p138.length <= 4611686018427387904 then if (60 :: 60 :: p138).length + ([62, 62, 95] : Str).length <= 4611686018427387904 then Option.bind (x2.args[1]?) fun x141 => Option.bind (noS2 p_0 x141) fun p144 => if (60 :: 60 :: (p138 ++ ([62, 62, 95] : Str))).length + p144.length <= 4611686018427387904 then some (60 :: 60 :: (p138 ++ (62 :: 62 :: 95 :: p144))) else none else none else none) (cond (x2.kind == 27) (Option.bind (x2.args[1]?) fun x147 => Option.bind (noS2 p_0 x147) fun p150 => if ([87, 70, 95] : Str).length + p150.length <= 4611686018427387904 then if (87 :: 70 :: 95 :: p150).length + ([40] : Str).length <= 4611686018427387904 then Option.bind (x2.args[0]?) fun x153 => Option.bind (t_text k p_0 x153 false) fun p156 => if (87 :: 70 :: 95 :: (p150 ++ ([40] : Str))).length + p156.length <= 4611686018427387904 then if (87 :: 70 :: 95 :: (p150 ++ (40 :: p156))).length + ([41] : Str).length <= 4611686018427387904 then some (87 :: 70 :: 95 :: (p150 ++ (40 :: (p156 ++ ([41] : Str))))) else none else none else none else none) (cond (x2.kind == 28) (Option.bind (x2.args[1]?) fun x160 => Option.bind (noS2 p_0 x160) fun p163 => if ([83, 70, 95] : Str).length + p163.length <= 4611686018427387904 then if (83 :: 70 :: 95 :: p163).length + ([40] : Str).length <= 4611686018427387904 then Option.bind (x2.args[0]?) fun x166 => Option.bind (t_text k p_0 x166 false) fun p169 => if (83 :: 70 :: 95 :: (p163 ++ ([40] : Str))).length + p169.length <= 4611686018427387904 then if (83 :: 70 :: 95 :: (p163 ++ (40 :: p169))).length + ([41] : Str).length <= 4611686018427387904 then some (83 :: 70 :: 95 :: (p163 ++ (40 :: (p169 ++ ([41] : Str))))) else none else none else none else none) (Option.bind (noS2 p_0 x2) fun p173 => some p173)))))))))))))))))))) else none
end
mutual
theorem t_text_u (k : Nat) : ∀ (p_0 : Printer) (at_1 : Int) (follows_2 : Bool) (r : Str) (h : t_text k p_0 at_1 follows_2 = some r), PCall Tryz.prog 59 [(.agg (Printer.cells p_0)), (.int .i64 at_1), (.bool follows_2)] (.str r) := by
  match k with
  | 0 => intro p_0 at_1 follows_2 r h; rw [t_text] at h; cases h
  | k + 1 =>
    intro p_0 at_1 follows_2 r h; refine PCall.of_empty (PuL.mem (.cons (.agg _ (Printer.pu _)) (.cons (.int _ _) (.cons (.bool _) .nil)))) (MCall_of_W ok59 (by simp) (W_start ?_)) (.str _); rw [t_text] at h; unfold ac59; try refine gos_ ?_
    obtain ⟨o7, h8, h⟩ := bind_E h; refine t_text_p0_W k (AH.empty.next) at_1 p_0.e follows_2 _ _ _ (Fr.refl _ _) sls_ om_ _ h8 _ ?_
    ·rintro p9 σ' eo fr10 s13; rw [eo] at h; have s14 : σ' 1 = (.int .i64 at_1) := (fr10 1 (by decide)).trans sls_; have s15 : σ' 2 = (.bool follows_2) := (fr10 2 (by decide)).trans sls_; have s16 : σ' 3 = (.ref (AH.empty.next) 0) := (fr10 3 (by decide)).trans sls_; rcases cond_E h with ⟨e17, h⟩ | ⟨e17, h⟩
     ·obtain ⟨p19, e18, h⟩ := bind_E h; try refine gos_ ?_
      refine mcall_pure ((t_closed_u k p_0 at_1 _ e18).wk (.same (.same .nil))) ?_; obtain rfl := som_E h; try refine gos_ ?_
      exact (.pure _ (.str _))
     ·obtain ⟨p21, e20, h⟩ := bind_E h; try refine gos_ ?_
      refine mcall_pure (t_operator_c e20) ?_; rcases cond_E h with ⟨e22, h⟩ | ⟨e22, h⟩
      ·obtain ⟨p24, e23, h⟩ := bind_E h; try refine gos_ ?_
       refine mcall_pure ((t_applied_u k p_0 at_1 p21.1 follows_2 _ e23).wk (.same (.same (.same (.same .nil))))) ?_; obtain rfl := som_E h; try refine gos_ ?_
       exact (.pure _ (.str _))
      ·obtain ⟨p26, e25, h⟩ := bind_E h; try refine gos_ ?_
       refine mcall_pure ((t_form_u k p_0 at_1 _ e25).wk (.same (.same .nil))) ?_; obtain rfl := som_E h; try refine gos_ ?_
       exact (.pure _ (.str _))
theorem t_closed_u (k : Nat) : ∀ (p_0 : Printer) (at_1 : Int) (r : Str) (h : t_closed k p_0 at_1 = some r), PCall Tryz.prog 99 [(.agg (Printer.cells p_0)), (.int .i64 at_1)] (.str r) := by
  match k with
  | 0 => intro p_0 at_1 r h; rw [t_closed] at h; cases h
  | k + 1 =>
    intro p_0 at_1 r h; refine PCall.of_empty (PuL.mem (.cons (.agg _ (Printer.pu _)) (.cons (.int _ _) .nil))) (MCall_of_W ok99 (by simp) (W_start ?_)) (.str _); rw [t_closed] at h; unfold ac99; obtain ⟨p2, e1, h⟩ := bind_E h; try refine gos_ ?_
    refine mcall_pure ((t_text_u k p_0 at_1 false _ e1).wk (.same (.same (.same .nil)))) ?_; obtain ⟨e3, h⟩ := if_E h; try refine gos_ ?_
    refine WR_cat (cat_ e3) ?_; obtain ⟨e4, h⟩ := if_E h; try refine gos_ ?_
    refine WR_cat (cat_ e4) ?_; obtain rfl := som_E h; try refine gos_ ?_
    exact (.pure _ (.str _))
theorem t_operand_u (k : Nat) : ∀ (p_0 : Printer) (at_1 : Int) (must_2 : Bool) (follows_3 : Bool) (r : Str) (h : t_operand k p_0 at_1 must_2 follows_3 = some r), PCall Tryz.prog 150 [(.agg (Printer.cells p_0)), (.int .i64 at_1), (.bool must_2), (.bool follows_3)] (.str r) := by
  match k with
  | 0 => intro p_0 at_1 must_2 follows_3 r h; rw [t_operand] at h; cases h
  | k + 1 =>
    intro p_0 at_1 must_2 follows_3 r h; refine PCall.of_empty (PuL.mem (.cons (.agg _ (Printer.pu _)) (.cons (.int _ _) (.cons (.bool _) (.cons (.bool _) .nil))))) (MCall_of_W ok150 (by simp) (W_start ?_)) (.str _); rw [t_operand] at h; unfold ac150; rcases cond_E h with ⟨e1, h⟩ | ⟨e1, h⟩
    ·obtain ⟨p3, e2, h⟩ := bind_E h; try refine gos_ ?_
     refine mcall_pure ((t_closed_u k p_0 at_1 _ e2).wk (.same (.same .nil))) ?_; obtain rfl := som_E h; try refine gos_ ?_
     exact (.pure _ (.str _))
    ·obtain ⟨p5, e4, h⟩ := bind_E h; try refine gos_ ?_
     refine mcall_pure ((t_text_u k p_0 at_1 follows_3 _ e4).wk (.same (.same (.same .nil)))) ?_; obtain rfl := som_E h; try refine gos_ ?_
     exact (.pure _ (.str _))
theorem t_applied_b0_W (k : Nat) : ∀ (o_p_4 : Nat) (o_o_6 : Nat) (follows_3 : Bool) (p_4_0 : List Nd) (o_6_0 : Str) (o_6_1 : Int) (o_6_2 : Int) (o_6_3 : Int) (o_6_4 : Bool) (o_6_5 : Int) (o_6_6 : Int) (out_16 : List Str) (last_17 : Int) (t_138 : List Int) (t_139 : Int) (t_140 : Int) (c_out_16_b0 : Ck) (σ0 σ : Nat -> PV) (H0 H : AH) (f0 : Fr t_applied_b0l σ0 σ) (hf0 : HF [] H0 H) (sl : σ 3 = (.bool follows_3) /\ σ 4 = (.ref (o_p_4) 0) /\ σ 6 = (.ref (o_o_6) 0) /\ σ 16 = (.isl (out_16.map strL) c_out_16_b0) /\ σ 17 = (.int .i64 last_17) /\ σ 138 = (.isl (t_138.map intL) .unk) /\ σ 139 = (.int .i64 t_139) /\ σ 140 = (.int .i64 t_140) /\ H.obj o_p_4 = some [(.isl (p_4_0.map Nd.cells) .unk)] /\ H.obj o_o_6 = some [(.str o_6_0), (.int .i64 o_6_1), (.int .i64 o_6_2), (.int .i64 o_6_3), (.bool o_6_4), (.int .i64 o_6_5), (.int .i64 o_6_6)]) (l_o_p_4 : o_p_4 < H.next) (l_o_o_6 : o_o_6 < H.next) (d_o_p_4_o_o_6 : o_p_4 ≠ o_o_6) (ok_out_16 : okc H c_out_16_b0) (o : List Str) (h : t_applied_b0 k follows_3 p_4_0 o_6_0 o_6_1 o_6_2 o_6_3 o_6_4 o_6_5 o_6_6 out_16 last_17 t_138 t_139 t_140 = some o) (Q : Post) (q0 : ∀ (p : List Str) (c0 : Ck) (σ' : Nat -> PV) (H' : AH), o = p -> Fr t_applied_b0l σ0 σ' -> HF [] H0 H' -> (σ' 16 = (.isl (p.map strL) c0)) -> Q (.exit 2) σ' H') , W Tryz.prog (.loop ac101_b0) Q σ H := by
  match k with
  | 0 => intro o_p_4 o_o_6 follows_3 p_4_0 o_6_0 o_6_1 o_6_2 o_6_3 o_6_4 o_6_5 o_6_6 out_16 last_17 t_138 t_139 t_140 c_out_16_b0 σ0 σ H0 H f0 hf0 sl l_o_p_4 l_o_o_6 d_o_p_4_o_o_6 ok_out_16 o h Q q0; rw [t_applied_b0] at h; cases h
  | k + 1 =>
    have ih := t_applied_b0_W k; intro o_p_4 o_o_6 follows_3 p_4_0 o_6_0 o_6_1 o_6_2 o_6_3 o_6_4 o_6_5 o_6_6 out_16 last_17 t_138 t_139 t_140 c_out_16_b0 σ0 σ H0 H f0 hf0 sl l_o_p_4 l_o_o_6 d_o_p_4_o_o_6 ok_out_16 o h Q q0; obtain ⟨s3, s4, s6, s16, s17, s138, s139, s140, g_o_p_4, g_o_o_6⟩ := sl; have n_o_p_4 := ne_next l_o_p_4; have m_o_p_4 := ne_add l_o_p_4; have n_o_o_6 := ne_next l_o_o_6; have m_o_o_6 := ne_add l_o_o_6; have e_o_p_4_o_o_6 := eq_false d_o_p_4_o_o_6; have r_o_p_4_o_o_6 := eq_false (Ne.symm d_o_p_4_o_o_6); have hle0 := hf0.1; rw [t_applied_b0] at h; refine W_loopK (fun K hK => W_start ?_); unfold ac101_b0; rcases cond_E h with ⟨e73, h⟩ | ⟨e73, h⟩
    ·obtain ⟨e74, h⟩ := if_E h; obtain ⟨x75, e76, h⟩ := bind_E h; obtain ⟨p78, e77, h⟩ := bind_E h; try refine gos_ ?_
     refine mcall_pure (t_operator_c e77) ?_; try refine gos_ ?_
     obtain ⟨o83, h84, h⟩ := bind_E h; refine t_applied_p3_W (o_o_6) (H.next) o_6_0 o_6_1 o_6_2 o_6_3 o_6_4 o_6_5 o_6_6 t_140 p78.1.text p78.1.fix p78.1.low p78.1.high p78.1.left p78.1.least p78.1.most p78.2 _ _ _ (Fr.refl _ _) sls_ om_ om_ om_ _ h84 _ ?_
     ·rintro p85 σ' eo fr86 s89; rw [eo] at h; have s90 : σ' 3 = (.bool follows_3) := (fr86 3 (by decide)).trans sls_; have s91 : σ' 4 = (.ref (o_p_4) 0) := (fr86 4 (by decide)).trans sls_; have s92 : σ' 6 = (.ref (o_o_6) 0) := (fr86 6 (by decide)).trans sls_; have s93 : σ' 16 = (.isl (out_16.map strL) c_out_16_b0) := (fr86 16 (by decide)).trans sls_; have s94 : σ' 17 = (.int .i64 last_17) := (fr86 17 (by decide)).trans sls_; have s95 : σ' 18 = (.int .i64 t_140) := (fr86 18 (by decide)).trans sls_; have s96 : σ' 19 = (.int .i64 x75) := (fr86 19 (by decide)).trans sls_; have s97 : σ' 138 = (.isl (t_138.map intL) .unk) := (fr86 138 (by decide)).trans sls_; have s98 : σ' 139 = (.int .i64 t_139) := (fr86 139 (by decide)).trans sls_; have s99 : σ' 140 = (.int .i64 t_140) := (fr86 140 (by decide)).trans sls_; rcases cond_E h with ⟨e100, h⟩ | ⟨e100, h⟩
      ·obtain ⟨p102, e101, h⟩ := bind_E h; try refine gos_ ?_
       refine mcall_pure ((t_operand_u k (Printer.mk p_4_0) x75 p85 true _ e101).wk (.same (.same (.same (.same .nil))))) ?_; obtain ⟨e107, h⟩ := if_E h; try refine gos_ ?_
       refine WO_app (f := strL) row_str out_16 ([p102] : List Str) c_out_16_b0 .exact sls_ sls_ ok_ (by first | exact e107 | (simp only [List.length_cons, List.length_nil] ; exact e107)) (fun c103 H104 ok105 le ob108 rl106 => ?_); have hf109 : HF [] _ H104 := ⟨le, fun i _ _ => ob108 i⟩; try simp only [AH.new_next, AH.put_next, AH.tok_next, AH.use_next] at le
       have n119 := ne_next (show o_p_4 < H104.next by first | omega | (simp only [AH.new_next, AH.put_next, AH.tok_next, AH.use_next]; omega)); have m120 := ne_add (show o_p_4 < H104.next by first | omega | (simp only [AH.new_next, AH.put_next, AH.tok_next, AH.use_next]; omega)); have n121 := ne_next (show o_o_6 < H104.next by first | omega | (simp only [AH.new_next, AH.put_next, AH.tok_next, AH.use_next]; omega)); have m122 := ne_add (show o_o_6 < H104.next by first | omega | (simp only [AH.new_next, AH.put_next, AH.tok_next, AH.use_next]; omega)); have n123 := ne_next (show H.next < H104.next by first | omega | (simp only [AH.new_next, AH.put_next, AH.tok_next, AH.use_next]; omega)); have m124 := ne_add (show H.next < H104.next by first | omega | (simp only [AH.new_next, AH.put_next, AH.tok_next, AH.use_next]; omega)); try refine gos_ ?_
       refine hK _ _ ?_; exact ih o_p_4 o_o_6 follows_3 p_4_0 o_6_0 o_6_1 o_6_2 o_6_3 o_6_4 o_6_5 o_6_6 (out_16 ++ [p102]) last_17 t_138 t_139 (IntKind.wrap .i64 (t_140 + 1)) c103 _ _ _ _ (by repeat (first | exact f0 | refine Fr.upd (by decide) ?_ | refine Fr.via fr86 (by decide) ?_)) (by repeat (first | exact hf0 | refine HF.new ?_ | refine HF.tokd ?_ | refine HF.used ?_ | refine HF.put (by first | (right; omega) | (left; simp only [List.mem_cons, true_or, or_true])) ?_ | refine HF.via hf109 (by first | exact fun i hi => absurd hi List.not_mem_nil | (intro i hi; simp only [List.mem_cons, List.not_mem_nil, or_false] at hi ⊢; first | exact .inl hi | omega)) ?_)) sls_ om_ om_ om_ ok_ _ h _ q0
      ·obtain ⟨p111, e110, h⟩ := bind_E h; try refine gos_ ?_
       refine mcall_pure ((t_operand_u k (Printer.mk p_4_0) x75 p85 follows_3 _ e110).wk (.same (.same (.same (.same .nil))))) ?_; obtain ⟨e116, h⟩ := if_E h; try refine gos_ ?_
       refine WO_app (f := strL) row_str out_16 ([p111] : List Str) c_out_16_b0 .exact sls_ sls_ ok_ (by first | exact e116 | (simp only [List.length_cons, List.length_nil] ; exact e116)) (fun c112 H113 ok114 le ob117 rl115 => ?_); have hf118 : HF [] _ H113 := ⟨le, fun i _ _ => ob117 i⟩; try simp only [AH.new_next, AH.put_next, AH.tok_next, AH.use_next] at le
       have n125 := ne_next (show o_p_4 < H113.next by first | omega | (simp only [AH.new_next, AH.put_next, AH.tok_next, AH.use_next]; omega)); have m126 := ne_add (show o_p_4 < H113.next by first | omega | (simp only [AH.new_next, AH.put_next, AH.tok_next, AH.use_next]; omega)); have n127 := ne_next (show o_o_6 < H113.next by first | omega | (simp only [AH.new_next, AH.put_next, AH.tok_next, AH.use_next]; omega)); have m128 := ne_add (show o_o_6 < H113.next by first | omega | (simp only [AH.new_next, AH.put_next, AH.tok_next, AH.use_next]; omega)); have n129 := ne_next (show H.next < H113.next by first | omega | (simp only [AH.new_next, AH.put_next, AH.tok_next, AH.use_next]; omega)); have m130 := ne_add (show H.next < H113.next by first | omega | (simp only [AH.new_next, AH.put_next, AH.tok_next, AH.use_next]; omega)); try refine gos_ ?_
       refine hK _ _ ?_; exact ih o_p_4 o_o_6 follows_3 p_4_0 o_6_0 o_6_1 o_6_2 o_6_3 o_6_4 o_6_5 o_6_6 (out_16 ++ [p111]) last_17 t_138 t_139 (IntKind.wrap .i64 (t_140 + 1)) c112 _ _ _ _ (by repeat (first | exact f0 | refine Fr.upd (by decide) ?_ | refine Fr.via fr86 (by decide) ?_)) (by repeat (first | exact hf0 | refine HF.new ?_ | refine HF.tokd ?_ | refine HF.used ?_ | refine HF.put (by first | (right; omega) | (left; simp only [List.mem_cons, true_or, or_true])) ?_ | refine HF.via hf118 (by first | exact fun i hi => absurd hi List.not_mem_nil | (intro i hi; simp only [List.mem_cons, List.not_mem_nil, or_false] at hi ⊢; first | exact .inl hi | omega)) ?_)) sls_ om_ om_ om_ ok_ _ h _ q0
    ·obtain rfl := som_E h; try refine gos_ ?_
     exact q0 _ c_out_16_b0 _ _ rfl fr_ (by repeat (first | exact hf0 | refine HF.new ?_ | refine HF.tokd ?_ | refine HF.used ?_ | refine HF.put (by first | (right; omega) | (left; simp only [List.mem_cons, true_or, or_true])) ?_)) sls_
theorem t_applied_u (k : Nat) : ∀ (p_0 : Printer) (at_1 : Int) (o_2 : Operator) (follows_3 : Bool) (r : Str) (h : t_applied k p_0 at_1 o_2 follows_3 = some r), PCall Tryz.prog 101 [(.agg (Printer.cells p_0)), (.int .i64 at_1), (.agg (Operator.cells o_2)), (.bool follows_3)] (.str r) := by
  match k with
  | 0 => intro p_0 at_1 o_2 follows_3 r h; rw [t_applied] at h; cases h
  | k + 1 =>
    intro p_0 at_1 o_2 follows_3 r h; refine PCall.of_empty (PuL.mem (.cons (.agg _ (Printer.pu _)) (.cons (.int _ _) (.cons (.agg _ (Operator.pu _)) (.cons (.bool _) .nil))))) (MCall_of_W ok101 (by simp) (W_start ?_)) (.str _); rw [t_applied] at h; unfold ac101; obtain ⟨e1, h⟩ := if_E h; obtain ⟨x2, e3, h⟩ := bind_E h; rcases cond_E h with ⟨e4, h⟩ | ⟨e4, h⟩
    ·try refine gos_ ?_
     refine WS_parT (AH.empty.next + 3) ?_; obtain ⟨x5, e6, h⟩ := bind_E h; obtain ⟨p8, e7, h⟩ := bind_E h; try refine gos_ ?_
     refine PC.mk (t_operator_c e7) ?_; try refine gos_ ?_
     refine WS_parS ?_; rcases cond_E h with ⟨e9, h⟩ | ⟨e9, h⟩
     ·obtain ⟨p11, e10, h⟩ := bind_E h; try refine gos_ ?_
      refine PC.mk ((t_operand_u k p_0 x5 (!(p8.1.text == o_2.text)) true _ e10).wk (.same (.same (.same (.same .nil))))) ?_; obtain ⟨e12, h⟩ := if_E h; try refine gos_ ?_
      refine WR_cat (cat_ e12) ?_; obtain rfl := som_E h; try refine gos_ ?_
      exact (.pure _ (.str _))
     ·obtain ⟨p14, e13, h⟩ := bind_E h; try refine gos_ ?_
      refine PC.mk ((t_operand_u k p_0 x5 false true _ e13).wk (.same (.same (.same (.same .nil))))) ?_; obtain ⟨e15, h⟩ := if_E h; try refine gos_ ?_
      refine WR_cat (cat_ e15) ?_; obtain rfl := som_E h; try refine gos_ ?_
      exact (.pure _ (.str _))
    ·rcases cond_E h with ⟨e16, h⟩ | ⟨e16, h⟩
     ·try refine gos_ ?_
      refine WS_parT (AH.empty.next + 3) ?_; obtain ⟨x17, e18, h⟩ := bind_E h; obtain ⟨p20, e19, h⟩ := bind_E h; try refine gos_ ?_
      refine PC.mk (t_operator_c e19) ?_; try refine gos_ ?_
      obtain ⟨o32, h33, h⟩ := bind_E h; refine t_applied_p0_W (AH.empty.next + 1) (AH.empty.next + 3) o_2.text o_2.fix o_2.low o_2.high o_2.left o_2.least o_2.most p20.1.text p20.1.fix p20.1.low p20.1.high p20.1.left p20.1.least p20.1.most p20.2 _ _ _ (Fr.refl _ _) sls_ om_ om_ om_ _ h33 _ ?_
      ·rintro p34 σ' eo fr35 s38; rw [eo] at h; have s39 : σ' 3 = (.bool follows_3) := (fr35 3 (by decide)).trans sls_; have s40 : σ' 4 = (.ref (AH.empty.next) 0) := (fr35 4 (by decide)).trans sls_; have s41 : σ' 6 = (.ref (AH.empty.next + 1) 0) := (fr35 6 (by decide)).trans sls_; have s42 : σ' 9 = (.ref (AH.empty.next + 2) 0) := (fr35 9 (by decide)).trans sls_; try refine gos_ ?_
       obtain ⟨o59, h60, h⟩ := bind_E h; refine t_applied_j2_W (AH.empty.next + 1) o_2.text o_2.fix o_2.low o_2.high o_2.left o_2.least o_2.most o_2.text _ _ _ (Fr.refl _ _) sls_ om_ _ h60 _ ?_
       ·rintro p61 σ' eo fr62 s65; rw [eo] at h; have s66 : σ' 3 = (.bool follows_3) := (fr62 3 (by decide)).trans sls_; have s67 : σ' 4 = (.ref (AH.empty.next) 0) := (fr62 4 (by decide)).trans sls_; have s68 : σ' 9 = (.ref (AH.empty.next + 2) 0) := (fr62 9 (by decide)).trans sls_; have s69 : σ' 14 = (.bool p34) := (fr62 14 (by decide)).trans sls_; try refine gos_ ?_
        refine WS_parS ?_; obtain ⟨p71, e70, h⟩ := bind_E h; try refine gos_ ?_
        refine PC.mk ((t_operand_u k p_0 x17 p34 follows_3 _ e70).wk (.same (.same (.same (.same .nil))))) ?_; obtain ⟨e72, h⟩ := if_E h; try refine gos_ ?_
        refine WR_cat (cat_ e72) ?_; obtain rfl := som_E h; try refine gos_ ?_
        exact (.pure _ (.str _))
     ·try refine gos_ ?_
      obtain ⟨o131, h132, h⟩ := bind_E h; refine t_applied_b0_W k (AH.empty.next) (AH.empty.next + 1) follows_3 p_0.e o_2.text o_2.fix o_2.low o_2.high o_2.left o_2.least o_2.most ([] : List Str) (IntKind.wrap .i64 ((x2.args.length : Int) - 1)) x2.args (x2.args.length : Int) 0 .nil _ _ _ _ (Fr.refl _ _) (HF.refl _ _) sls_ om_ om_ om_ ok_ _ h132 _ ?_
      ·rintro p133 c137 σ' H136 eo fr134 hf135 s138; rw [eo] at h; have s139 : σ' 6 = (.ref (AH.empty.next + 1) 0) := (fr134 6 (by decide)).trans sls_; have le := hf135.1; try simp only [AH.new_next, AH.put_next, AH.tok_next, AH.use_next] at le
       have g140 : H136.obj (AH.empty.next + 1) = some [(.str o_2.text), (.int .i64 o_2.fix), (.int .i64 o_2.low), (.int .i64 o_2.high), (.bool o_2.left), (.int .i64 o_2.least), (.int .i64 o_2.most)] := (hf135.2 _ om_ (by first | exact List.not_mem_nil | (simp only [List.mem_cons, List.not_mem_nil, or_false, not_or]; omega))).trans sls_; have n141 := ne_next (show AH.empty.next + 1 < H136.next by first | omega | (simp only [AH.new_next, AH.put_next, AH.tok_next, AH.use_next]; omega)); have m142 := ne_add (show AH.empty.next + 1 < H136.next by first | omega | (simp only [AH.new_next, AH.put_next, AH.tok_next, AH.use_next]; omega)); obtain ⟨e143, h⟩ := if_E h; try refine gos_ ?_
       refine WR_cat (cat_ e143) ?_; obtain ⟨e144, h⟩ := if_E h; try refine gos_ ?_
       refine WR_cat (cat_ e144) ?_; obtain ⟨e145, h⟩ := if_E h; obtain ⟨e146, h⟩ := if_E h; try refine gos_ ?_
       refine mcall_pure (join_c p133 (32 :: (o_2.text ++ ([32] : Str))) (by assumption) (by assumption)) ?_; obtain rfl := som_E h; try refine gos_ ?_
       exact (.pure _ (.str _))
theorem t_form_u (k : Nat) : ∀ (p_0 : Printer) (at_1 : Int) (r : Str) (h : t_form k p_0 at_1 = some r), PCall Tryz.prog 102 [(.agg (Printer.cells p_0)), (.int .i64 at_1)] (.str r) := by
  match k with
  | 0 => intro p_0 at_1 r h; rw [t_form] at h; cases h
  | k + 1 =>
    intro p_0 at_1 r h; refine PCall.of_empty (PuL.mem (.cons (.agg _ (Printer.pu _)) (.cons (.int _ _) .nil))) (MCall_of_W ok102 (by simp) (W_start ?_)) (.str _); rw [t_form] at h; unfold ac102; obtain ⟨e1, h⟩ := if_E h; obtain ⟨x2, e3, h⟩ := bind_E h; rcases cond_E h with ⟨e4, h⟩ | ⟨e4, h⟩
    ·obtain ⟨e5, h⟩ := if_E h; try refine gos_ ?_
     refine mcall_pure (itoa_small_c x2.n (by assumption)) ?_; obtain rfl := som_E h; try refine gos_ ?_
     exact (.pure _ (.str _))
    ·rcases cond_E h with ⟨e6, h⟩ | ⟨e6, h⟩
     ·obtain ⟨e7, h⟩ := if_E h; try refine gos_ ?_
      refine WR_cat (cat_ e7) ?_; obtain ⟨e8, h⟩ := if_E h; try refine gos_ ?_
      refine WR_cat (cat_ e8) ?_; obtain rfl := som_E h; try refine gos_ ?_
      exact (.pure _ (.str _))
     ·rcases cond_E h with ⟨e9, h⟩ | ⟨e9, h⟩
      ·obtain rfl := som_E h; try refine gos_ ?_
       exact (.pure _ (.str _))
      ·rcases cond_E h with ⟨e10, h⟩ | ⟨e10, h⟩
       ·try refine gos_ ?_
        refine WS_parS ?_; obtain ⟨e11, h⟩ := if_E h; try refine gos_ ?_
        refine WPR_cat (cat_ e11) ?_; obtain ⟨p13, e12, h⟩ := bind_E h; try refine gos_ ?_
        refine PC.mk (no2_c p_0 x2.args e12) ?_; obtain ⟨e14, h⟩ := if_E h; try refine gos_ ?_
        refine WR_cat (cat_ e14) ?_; obtain ⟨e15, h⟩ := if_E h; try refine gos_ ?_
        refine WR_cat (cat_ e15) ?_; obtain rfl := som_E h; try refine gos_ ?_
        exact (.pure _ (.str _))
       ·rcases cond_E h with ⟨e16, h⟩ | ⟨e16, h⟩
        ·obtain ⟨p18, e17, h⟩ := bind_E h; try refine gos_ ?_
         refine mcall_pure (no2_c p_0 x2.args e17) ?_; obtain ⟨e19, h⟩ := if_E h; try refine gos_ ?_
         refine WR_cat (cat_ e19) ?_; obtain ⟨e20, h⟩ := if_E h; try refine gos_ ?_
         refine WR_cat (cat_ e20) ?_; obtain rfl := som_E h; try refine gos_ ?_
         exact (.pure _ (.str _))
        ·rcases cond_E h with ⟨e21, h⟩ | ⟨e21, h⟩
         ·obtain ⟨p23, e22, h⟩ := bind_E h; try refine gos_ ?_
          refine mcall_pure (no2_c p_0 x2.args e22) ?_; obtain ⟨e24, h⟩ := if_E h; try refine gos_ ?_
          refine WR_cat (cat_ e24) ?_; obtain ⟨e25, h⟩ := if_E h; try refine gos_ ?_
          refine WR_cat (cat_ e25) ?_; obtain rfl := som_E h; try refine gos_ ?_
          exact (.pure _ (.str _))
         ·rcases cond_E h with ⟨e26, h⟩ | ⟨e26, h⟩
          ·try refine gos_ ?_
           refine WS_parS ?_; obtain ⟨p28, e27, h⟩ := bind_E h; try refine gos_ ?_
           refine PC.mk (no2_c p_0 x2 e27) ?_; obtain ⟨e29, h⟩ := if_E h; try refine gos_ ?_
           refine WPR_cat (cat_ e29) ?_; obtain ⟨e30, h⟩ := if_E h; try refine gos_ ?_
           refine WPR_cat (cat_ e30) ?_; obtain ⟨x31, e32, h⟩ := bind_E h; obtain ⟨p34, e33, h⟩ := bind_E h; try refine gos_ ?_
           refine PC.mk ((t_text_u k p_0 x31 false _ e33).wk (.same (.same (.same .nil)))) ?_; obtain ⟨e35, h⟩ := if_E h; try refine gos_ ?_
           refine WR_cat (cat_ e35) ?_; obtain ⟨e36, h⟩ := if_E h; try refine gos_ ?_
           refine WR_cat (cat_ e36) ?_; obtain rfl := som_E h; try refine gos_ ?_
           exact (.pure _ (.str _))
          ·rcases cond_E h with ⟨e37, h⟩ | ⟨e37, h⟩
           ·try refine gos_ ?_
            refine WS_parS ?_; obtain ⟨e38, h⟩ := if_E h; obtain ⟨x39, e40, h⟩ := bind_E h; obtain ⟨p42, e41, h⟩ := bind_E h; try refine gos_ ?_
            refine PC.mk (no2_c p_0 x39 e41) ?_; obtain ⟨e43, h⟩ := if_E h; try refine gos_ ?_
            refine WPR_cat (cat_ e43) ?_; obtain ⟨e44, h⟩ := if_E h; try refine gos_ ?_
            refine WPR_cat (cat_ e44) ?_; obtain ⟨p46, e45, h⟩ := bind_E h; try refine gos_ ?_
            refine PC.mk (no2_c p_0 x2 e45) ?_; obtain ⟨e47, h⟩ := if_E h; try refine gos_ ?_
            refine WR_cat (cat_ e47) ?_; obtain ⟨e48, h⟩ := if_E h; try refine gos_ ?_
            refine WR_cat (cat_ e48) ?_; obtain rfl := som_E h; try refine gos_ ?_
            exact (.pure _ (.str _))
           ·rcases cond_E h with ⟨e49, h⟩ | ⟨e49, h⟩
            ·try refine gos_ ?_
             refine WS_parS ?_; obtain ⟨p51, e50, h⟩ := bind_E h; try refine gos_ ?_
             refine PC.mk (no2_c p_0 x2 e50) ?_; obtain ⟨e52, h⟩ := if_E h; try refine gos_ ?_
             refine WPR_cat (cat_ e52) ?_; obtain ⟨e53, h⟩ := if_E h; try refine gos_ ?_
             refine WPR_cat (cat_ e53) ?_; obtain ⟨e54, h⟩ := if_E h; obtain ⟨x55, e56, h⟩ := bind_E h; obtain ⟨p58, e57, h⟩ := bind_E h; try refine gos_ ?_
             refine PC.mk ((t_text_u k p_0 x55 false _ e57).wk (.same (.same (.same .nil)))) ?_; obtain ⟨e59, h⟩ := if_E h; try refine gos_ ?_
             refine WR_cat (cat_ e59) ?_; obtain ⟨e60, h⟩ := if_E h; try refine gos_ ?_
             refine WR_cat (cat_ e60) ?_; obtain rfl := som_E h; try refine gos_ ?_
             exact (.pure _ (.str _))
            ·rcases cond_E h with ⟨e61, h⟩ | ⟨e61, h⟩
             ·try refine gos_ ?_
              refine WS_parS ?_; obtain ⟨x62, e63, h⟩ := bind_E h; obtain ⟨p65, e64, h⟩ := bind_E h; try refine gos_ ?_
              refine PC.mk (no2_c p_0 x62 e64) ?_; obtain ⟨e66, h⟩ := if_E h; try refine gos_ ?_
              refine WPR_cat (cat_ e66) ?_; obtain ⟨e67, h⟩ := if_E h; obtain ⟨p69, e68, h⟩ := bind_E h; try refine gos_ ?_
              refine PC.mk (no2_c p_0 (x2.args.drop 1) e68) ?_; obtain ⟨e70, h⟩ := if_E h; try refine gos_ ?_
              refine WR_cat (cat_ e70) ?_; obtain ⟨e71, h⟩ := if_E h; try refine gos_ ?_
              refine WR_cat (cat_ e71) ?_; obtain rfl := som_E h; try refine gos_ ?_
              exact (.pure _ (.str _))
             ·rcases cond_E h with ⟨e72, h⟩ | ⟨e72, h⟩
              ·try refine gos_ ?_
               refine WS_parS ?_; obtain ⟨x73, e74, h⟩ := bind_E h; obtain ⟨p76, e75, h⟩ := bind_E h; try refine gos_ ?_
               refine PC.mk ((t_text_u k p_0 x73 false _ e75).wk (.same (.same (.same .nil)))) ?_; obtain ⟨e77, h⟩ := if_E h; try refine gos_ ?_
               refine WPR_cat (cat_ e77) ?_; obtain ⟨e78, h⟩ := if_E h; try refine gos_ ?_
               refine WPR_cat (cat_ e78) ?_; obtain ⟨x79, e80, h⟩ := bind_E h; obtain ⟨p82, e81, h⟩ := bind_E h; try refine gos_ ?_
               refine PC.mk ((t_text_u k p_0 x79 false _ e81).wk (.same (.same (.same .nil)))) ?_; obtain ⟨e83, h⟩ := if_E h; try refine gos_ ?_
               refine WR_cat (cat_ e83) ?_; obtain ⟨e84, h⟩ := if_E h; try refine gos_ ?_
               refine WR_cat (cat_ e84) ?_; obtain rfl := som_E h; try refine gos_ ?_
               exact (.pure _ (.str _))
              ·rcases cond_E h with ⟨e85, h⟩ | ⟨e85, h⟩
               ·obtain ⟨p87, e86, h⟩ := bind_E h; try refine gos_ ?_
                refine mcall_pure (no3_c p_0 x2 ([32, 124, 45, 62, 32] : Str) e86) ?_; obtain ⟨e88, h⟩ := if_E h; try refine gos_ ?_
                refine WR_cat (cat_ e88) ?_; obtain ⟨e89, h⟩ := if_E h; try refine gos_ ?_
                refine WR_cat (cat_ e89) ?_; obtain rfl := som_E h; try refine gos_ ?_
                exact (.pure _ (.str _))
               ·rcases cond_E h with ⟨e90, h⟩ | ⟨e90, h⟩
                ·obtain ⟨p92, e91, h⟩ := bind_E h; try refine gos_ ?_
                 refine mcall_pure (no3_c p_0 x2 ([32, 58, 32] : Str) e91) ?_; obtain ⟨e93, h⟩ := if_E h; try refine gos_ ?_
                 refine WR_cat (cat_ e93) ?_; obtain ⟨e94, h⟩ := if_E h; try refine gos_ ?_
                 refine WR_cat (cat_ e94) ?_; obtain rfl := som_E h; try refine gos_ ?_
                 exact (.pure _ (.str _))
                ·rcases cond_E h with ⟨e95, h⟩ | ⟨e95, h⟩
                 ·try refine gos_ ?_
                  refine WS_parS ?_; obtain ⟨x96, e97, h⟩ := bind_E h; obtain ⟨p99, e98, h⟩ := bind_E h; try refine gos_ ?_
                  refine PC.mk (no2_c p_0 x96 e98) ?_; obtain ⟨e100, h⟩ := if_E h; try refine gos_ ?_
                  refine WPR_cat (cat_ e100) ?_; obtain ⟨e101, h⟩ := if_E h; try refine gos_ ?_
                  refine WR_cat (cat_ e101) ?_; obtain rfl := som_E h; try refine gos_ ?_
                  exact (.pure _ (.str _))
                 ·rcases cond_E h with ⟨e102, h⟩ | ⟨e102, h⟩
                  ·try refine gos_ ?_
                   refine WS_parS ?_; obtain ⟨x103, e104, h⟩ := bind_E h; obtain ⟨p106, e105, h⟩ := bind_E h; try refine gos_ ?_
                   refine PC.mk ((t_text_u k p_0 x103 false _ e105).wk (.same (.same (.same .nil)))) ?_; obtain ⟨e107, h⟩ := if_E h; try refine gos_ ?_
                   refine WPR_cat (cat_ e107) ?_; obtain ⟨e108, h⟩ := if_E h; try refine gos_ ?_
                   refine WPR_cat (cat_ e108) ?_; obtain ⟨x109, e110, h⟩ := bind_E h; obtain ⟨p112, e111, h⟩ := bind_E h; try refine gos_ ?_
                   refine PC.mk ((t_text_u k p_0 x109 false _ e111).wk (.same (.same (.same .nil)))) ?_; obtain ⟨e113, h⟩ := if_E h; try refine gos_ ?_
                   refine WPR_cat (cat_ e113) ?_; obtain ⟨e114, h⟩ := if_E h; try refine gos_ ?_
                   refine WPR_cat (cat_ e114) ?_; obtain ⟨x115, e116, h⟩ := bind_E h; obtain ⟨p118, e117, h⟩ := bind_E h; try refine gos_ ?_
                   refine PC.mk ((t_text_u k p_0 x115 false _ e117).wk (.same (.same (.same .nil)))) ?_; obtain ⟨e119, h⟩ := if_E h; try refine gos_ ?_
                   refine WR_cat (cat_ e119) ?_; obtain ⟨e120, h⟩ := if_E h; try refine gos_ ?_
                   refine WR_cat (cat_ e120) ?_; obtain rfl := som_E h; try refine gos_ ?_
                   exact (.pure _ (.str _))
                  ·rcases cond_E h with ⟨e121, h⟩ | ⟨e121, h⟩
                   ·obtain rfl := som_E h; try refine gos_ ?_
                    exact (.pure _ (.str _))
                   ·rcases cond_E h with ⟨e122, h⟩ | ⟨e122, h⟩
                    ·try refine gos_ ?_
                     refine WS_parS ?_; obtain ⟨x123, e124, h⟩ := bind_E h; obtain ⟨p126, e125, h⟩ := bind_E h; try refine gos_ ?_
                     refine PC.mk ((t_text_u k p_0 x123 false _ e125).wk (.same (.same (.same .nil)))) ?_; obtain ⟨e127, h⟩ := if_E h; try refine gos_ ?_
                     refine WPR_cat (cat_ e127) ?_; obtain ⟨e128, h⟩ := if_E h; try refine gos_ ?_
                     refine WPR_cat (cat_ e128) ?_; obtain ⟨x129, e130, h⟩ := bind_E h; obtain ⟨p132, e131, h⟩ := bind_E h; try refine gos_ ?_
                     refine PC.mk (no2_c p_0 x129 e131) ?_; obtain ⟨e133, h⟩ := if_E h; try refine gos_ ?_
                     refine WR_cat (cat_ e133) ?_; obtain rfl := som_E h; try refine gos_ ?_
                     exact (.pure _ (.str _))
                    ·rcases cond_E h with ⟨e134, h⟩ | ⟨e134, h⟩
                     ·try refine gos_ ?_
                      refine WS_parS ?_; obtain ⟨x135, e136, h⟩ := bind_E h; obtain ⟨p138, e137, h⟩ := bind_E h; try refine gos_ ?_
                      refine PC.mk ((t_text_u k p_0 x135 false _ e137).wk (.same (.same (.same .nil)))) ?_; obtain ⟨e139, h⟩ := if_E h; try refine gos_ ?_
                      refine WPR_cat (cat_ e139) ?_; obtain ⟨e140, h⟩ := if_E h; try refine gos_ ?_
                      refine WPR_cat (cat_ e140) ?_; obtain ⟨x141, e142, h⟩ := bind_E h; obtain ⟨p144, e143, h⟩ := bind_E h; try refine gos_ ?_
                      refine PC.mk (no2_c p_0 x141 e143) ?_; obtain ⟨e145, h⟩ := if_E h; try refine gos_ ?_
                      refine WR_cat (cat_ e145) ?_; obtain rfl := som_E h; try refine gos_ ?_
                      exact (.pure _ (.str _))
                     ·rcases cond_E h with ⟨e146, h⟩ | ⟨e146, h⟩
                      ·try refine gos_ ?_
                       refine WS_parS ?_; obtain ⟨x147, e148, h⟩ := bind_E h; obtain ⟨p150, e149, h⟩ := bind_E h; try refine gos_ ?_
                       refine PC.mk (no2_c p_0 x147 e149) ?_; obtain ⟨e151, h⟩ := if_E h; try refine gos_ ?_
                       refine WPR_cat (cat_ e151) ?_; obtain ⟨e152, h⟩ := if_E h; try refine gos_ ?_
                       refine WPR_cat (cat_ e152) ?_; obtain ⟨x153, e154, h⟩ := bind_E h; obtain ⟨p156, e155, h⟩ := bind_E h; try refine gos_ ?_
                       refine PC.mk ((t_text_u k p_0 x153 false _ e155).wk (.same (.same (.same .nil)))) ?_; obtain ⟨e157, h⟩ := if_E h; try refine gos_ ?_
                       refine WR_cat (cat_ e157) ?_; obtain ⟨e158, h⟩ := if_E h; try refine gos_ ?_
                       refine WR_cat (cat_ e158) ?_; obtain rfl := som_E h; try refine gos_ ?_
                       exact (.pure _ (.str _))
                      ·rcases cond_E h with ⟨e159, h⟩ | ⟨e159, h⟩
                       ·try refine gos_ ?_
                        refine WS_parS ?_; obtain ⟨x160, e161, h⟩ := bind_E h; obtain ⟨p163, e162, h⟩ := bind_E h; try refine gos_ ?_
                        refine PC.mk (no2_c p_0 x160 e162) ?_; obtain ⟨e164, h⟩ := if_E h; try refine gos_ ?_
                        refine WPR_cat (cat_ e164) ?_; obtain ⟨e165, h⟩ := if_E h; try refine gos_ ?_
                        refine WPR_cat (cat_ e165) ?_; obtain ⟨x166, e167, h⟩ := bind_E h; obtain ⟨p169, e168, h⟩ := bind_E h; try refine gos_ ?_
                        refine PC.mk ((t_text_u k p_0 x166 false _ e168).wk (.same (.same (.same .nil)))) ?_; obtain ⟨e170, h⟩ := if_E h; try refine gos_ ?_
                        refine WR_cat (cat_ e170) ?_; obtain ⟨e171, h⟩ := if_E h; try refine gos_ ?_
                        refine WR_cat (cat_ e171) ?_; obtain rfl := som_E h; try refine gos_ ?_
                        exact (.pure _ (.str _))
                       ·obtain ⟨p173, e172, h⟩ := bind_E h; try refine gos_ ?_
                        refine mcall_pure (no2_c p_0 x2 e172) ?_; obtain rfl := som_E h; try refine gos_ ?_
                        exact (.pure _ (.str _))
end
theorem t_text_c {k : Nat} {p_0 : Printer} {at_1 : Int} {follows_2 : Bool} {r : Str} (h : t_text k p_0 at_1 follows_2 = some r) : PCall Tryz.prog 59 [(.agg (Printer.cells p_0)), (.int .i64 at_1), (.bool follows_2)] (.str r) := t_text_u k p_0 at_1 follows_2 r h
def t_FormatExpr (k : Nat) (e_0 : List Nd) : Option (Str × Int) :=
  Option.bind (t_exprErr k e_0) fun p2 => cond (p2 != 0) (some ([], p2)) (Option.bind (t_text k (Printer.mk e_0) (IntKind.wrap .i64 ((e_0.length : Int) - 1)) false) fun p5 => cond (decide ((p5.length : Int) > 20000)) (some ([], 2)) (some (p5, 0)))
theorem t_FormatExpr_c {k : Nat} {e_0 : List Nd} {c0 : Ck} {r : Str × Int} (h : t_FormatExpr k e_0 = some r) : PCall Tryz.prog 17 [(.isl (e_0.map Nd.cells) c0)] (.tup [(.str r.1), (.int .i64 r.2)]) := by
  refine PCall.lw (.isl .nil) (PCall.of_empty (PuL.mem (.cons (pu_sl Nd.pu _) .nil)) (MCall_of_W ok17 (by simp) (W_start ?_)) (.tup _ (PuL.mem (.cons (.str _) (.cons (.int _ _) .nil))))); unfold t_FormatExpr at h; unfold ac17; obtain ⟨p2, e1, h⟩ := bind_E h; try refine gos_ ?_
  refine mcall_pure (t_exprErr_c e1) ?_; rcases cond_E h with ⟨e3, h⟩ | ⟨e3, h⟩
  ·obtain rfl := som_E h; try refine gos_ ?_
   exact (fz_tup (.cons (.pure _ (.str _)) (.cons (.pure _ (.int _ _)) .nil)))
  ·obtain ⟨p5, e4, h⟩ := bind_E h; try refine gos_ ?_
   refine mcall_pure (t_text_c e4) ?_; rcases cond_E h with ⟨e6, h⟩ | ⟨e6, h⟩
   ·obtain rfl := som_E h; try refine gos_ ?_
    exact (fz_tup (.cons (.pure _ (.str _)) (.cons (.pure _ (.int _ _)) .nil)))
   ·obtain rfl := som_E h; try refine gos_ ?_
    exact (fz_tup (.cons (.pure _ (.str _)) (.cons (.pure _ (.int _ _)) .nil)))
end Go.VL
end
section
set_option maxRecDepth 8000
set_option maxHeartbeats 4000000
namespace Go.VL
open Go.Proofs
def t_FreeIn (k : Nat) (e_0 : List Nd) : Option ((List Str) × Int) :=
  Option.bind (t_exprErr k e_0) fun p2 => cond (p2 != 0) (some ([], p2)) (Option.bind (t_free k e_0) fun p5 => some (p5, 0))
theorem t_FreeIn_c {k : Nat} {e_0 : List Nd} {c0 : Ck} {r : (List Str) × Int} (h : t_FreeIn k e_0 = some r) : PCall Tryz.prog 32 [(.isl (e_0.map Nd.cells) c0)] (.tup [(.isl (r.1.map strL) .unk), (.int .i64 r.2)]) := by
  refine PCall.lw (.isl .nil) (PCall.of_empty (PuL.mem (.cons (pu_sl Nd.pu _) .nil)) (MCall_of_W ok32 (by simp) (W_start ?_)) (.tup _ (PuL.mem (.cons (pu_sl pu_strL _) (.cons (.int _ _) .nil))))); unfold t_FreeIn at h; unfold ac32; obtain ⟨p2, e1, h⟩ := bind_E h; try refine gos_ ?_
  refine mcall_pure (t_exprErr_c e1) ?_; rcases cond_E h with ⟨e3, h⟩ | ⟨e3, h⟩
  ·obtain rfl := som_E h; try refine gos_ ?_
   exact (fz_tup (.cons (fz_sl pu_strL [] _) (.cons (.pure _ (.int _ _)) .nil)))
  ·obtain ⟨p5, e4, h⟩ := bind_E h; try refine gos_ ?_
   refine mcall_pure (t_free_c k e_0 e4) ?_; obtain rfl := som_E h; try refine gos_ ?_
   exact (fz_tup (.cons (fz_sl pu_strL _ _) (.cons (.pure _ (.int _ _)) .nil)))
def l_awake (k : Nat) : Option Bool :=
  Option.bind (l_Sum k ) fun p2 => Option.bind (t_FormatExpr k p2) fun p4 => Option.bind (t_FreeIn k p2) fun p8 => Option.bind (t_OperatorOf k ([92, 99, 100, 111, 116] : Str)) fun p10 => Option.bind (t_CheckExpr k [(Nd.mk 20 0 [] [] [])]) fun p12 => cond (p4.2 == 0) (cond (p4.1 == ([97, 32, 43, 32, 98, 32, 42, 32, 99] : Str)) (cond (p8.2 == 0) (Option.bind (b_EqualTexts k p8.1 [([97] : Str), ([98] : Str), ([99] : Str)]) fun p17 => cond p17 (cond (p10.2 == 0) (cond (p10.1.high == 14) (cond p10.1.left (cond (p12.2 == 30) (some (p12.1 == 0)) (some false)) (some false)) (some false)) (some false)) (some false)) (some false)) (some false)) (some false)
theorem l_awake_c {k : Nat} {r : Bool} (h : l_awake k = some r) : PCall Tryz.prog 12 [] (.bool r) := by
  refine PCall.of_empty (PuL.mem .nil) (MCall_of_W ok12 (by simp) (W_start ?_)) (.bool _); unfold l_awake at h; unfold ac12; obtain ⟨p2, e1, h⟩ := bind_E h; try refine gos_ ?_
  refine mcall_pure (l_Sum_c e1) ?_; obtain ⟨p4, e3, h⟩ := bind_E h; try refine gos_ ?_
  refine mcall_pure (t_FormatExpr_c e3) ?_; try refine gos_ ?_
  refine mcall_pure (l_Sum_c e1) ?_; obtain ⟨p8, e7, h⟩ := bind_E h; try refine gos_ ?_
  refine mcall_pure (t_FreeIn_c e7) ?_; obtain ⟨p10, e9, h⟩ := bind_E h; try refine gos_ ?_
  refine mcall_pure (t_OperatorOf_c e9) ?_; obtain ⟨p12, e11, h⟩ := bind_E h; try refine gos_ ?_
  refine mcall_pure (t_CheckExpr_c e11) ?_; rcases cond_E h with ⟨e13, h⟩ | ⟨e13, h⟩
  ·rcases cond_E h with ⟨e14, h⟩ | ⟨e14, h⟩
   ·rcases cond_E h with ⟨e15, h⟩ | ⟨e15, h⟩
    ·obtain ⟨p17, e16, h⟩ := bind_E h; try refine gos_ ?_
     refine mcall_pure (b_EqualTexts_c e16) ?_; rcases cond_E h with ⟨e18, h⟩ | ⟨e18, h⟩
     ·rcases cond_E h with ⟨e19, h⟩ | ⟨e19, h⟩
      ·rcases cond_E h with ⟨e20, h⟩ | ⟨e20, h⟩
       ·rcases cond_E h with ⟨e21, h⟩ | ⟨e21, h⟩
        ·rcases cond_E h with ⟨e22, h⟩ | ⟨e22, h⟩
         ·obtain rfl := som_E h; try refine gos_ ?_
          exact (.pure _ (.bool _))
         ·obtain rfl := som_E h; try refine gos_ ?_
          exact (.pure _ (.bool _))
        ·obtain rfl := som_E h; try refine gos_ ?_
         exact (.pure _ (.bool _))
       ·obtain rfl := som_E h; try refine gos_ ?_
        exact (.pure _ (.bool _))
      ·obtain rfl := som_E h; try refine gos_ ?_
       exact (.pure _ (.bool _))
     ·obtain rfl := som_E h; try refine gos_ ?_
      exact (.pure _ (.bool _))
    ·obtain rfl := som_E h; try refine gos_ ?_
     exact (.pure _ (.bool _))
   ·obtain rfl := som_E h; try refine gos_ ?_
    exact (.pure _ (.bool _))
  ·obtain rfl := som_E h; try refine gos_ ?_
   exact (.pure _ (.bool _))
end Go.VL
end
section
namespace Go.VL
open Go.Proofs
theorem awake_true : l_awake 100 = some true := by kernel_rfl
theorem awake_c : PCall Tryz.prog 12 [] (.bool true) := l_awake_c awake_true
end Go.VL
end
section
namespace Go.VL
def fewN (n : Nd) : Bool := decide (n.args.length <= 34) && decide (n.names.length <= 34) && decide (n.text.length <= 80) && n.names.all fun s => decide (s.length <= 80)
def fewB (e : List Nd) : Bool := (e.take 172).all fewN && decide (e.length <= 170)
theorem l_Few_b0_ev {e : List Nd} {i : Nat} {n : Nd} (hn : e[i]? = some n) (hl : n.names.length <= 34) : Ev (fun k => l_Few_b0 k e (i : Int) ((0 : Nat) : Int)) (if (n.names.drop 0).all (fun s => decide (s.length <= 80)) = true then .inl () else .inr false) := by
  refine down0 (len := n.names.length) (p := fun j => Ev (fun k => l_Few_b0 k e (i : Int) (j : Int)) (if (n.names.drop j).all (fun s => decide (s.length <= 80)) = true then .inl () else .inr false)) ?_ fun j hj ih => ?_
  · refine Ev.succ ?_; simp only [l_Few_b0, Int.toNat_natCast, hn, Option.bind_some, nn, if_true]; exact Ev.cF (dnlt _) (Ev.some' (by simp))
  · refine Ev.succ ?_; simp only [l_Few_b0, Int.toNat_natCast, hn, getE hj, Option.bind_some, nn, if_true, dlt hj, cond_true, wsucc hj (show n.names.length <= 1099511627776 by omega)]; rw [drop_cons hj]; simp only [List.all_cons, Bool.and_eq_true, decide_eq_true_eq]; by_cases h : n.names[j].length <= 80
    · refine Ev.cF (decide_eq_false (by omega)) (ih.to ?_); simp only [h, true_and]
    · refine Ev.cT (decide_eq_true (by omega)) (Ev.some' ?_); simp only [h, false_and, if_false]
theorem l_Few_p0_eq (i : Nat) (m : Nat) : l_Few_p0 (i : Int) (decide ((i : Int) < (m : Int))) = some (decide (i < m) && decide (i < 172)) := by
  unfold l_Few_p0; by_cases h : i < m
  · rw [cond_T (decide_eq_true (by omega)), decide_eq_true h, Bool.true_and]; by_cases h2 : i < 172
    · rw [decide_eq_true h2, decide_eq_true (show (i : Int) < 172 by omega)]
    · rw [decide_eq_false h2, decide_eq_false (show ¬ (i : Int) < 172 by omega)]
  · rw [cond_F (decide_eq_false (by omega)), decide_eq_false h, Bool.false_and]
theorem l_Few_ev (e : List Nd) : Ev (fun k => l_Few k e) (fewB e) := by
  have hlen : (e.take 172).length = min 172 e.length := List.length_take; have key : Ev (fun k => l_Few_b1 k e ((0 : Nat) : Int)) (if ((e.take 172).drop 0).all fewN = true then .inl () else .inr false) := by
    refine down0 (len := (e.take 172).length) (p := fun i => Ev (fun k => l_Few_b1 k e (i : Int)) (if ((e.take 172).drop i).all fewN = true then .inl () else .inr false)) ?_ fun i hi ih => ?_
    · refine Ev.succ ?_; simp only [l_Few_b1, l_Few_p0_eq]; refine Ev.bind0 rfl (Ev.cF ?_ (Ev.some' (by rw [List.drop_length]; rfl))); rw [Bool.and_eq_false_iff, decide_eq_false_iff_not, decide_eq_false_iff_not]; omega
    · have hie : i < e.length := by omega
      have h172 : i < 172 := by omega
      have hget : (e.take 172)[i]'hi = e[i] := by simp
      refine Ev.succ ?_; simp only [l_Few_b1, l_Few_p0_eq, Int.toNat_natCast, getE hie, Option.bind_some, nn, if_true, decide_eq_true hie, decide_eq_true h172, Bool.and_self, cond_true]; rw [drop_cons hi, hget, wsucc h172 (by omega), List.all_cons]; have hp : l_Few_p1 e (i : Int) (decide ((e[i].args.length : Int) > 34)) = some (!(decide (e[i].args.length <= 34) && decide (e[i].names.length <= 34) && decide (e[i].text.length <= 80))) := by
        unfold l_Few_p1; simp only [Int.toNat_natCast, getE hie, Option.bind_some, nn, if_true]; by_cases a : e[i].args.length <= 34
        · rw [cond_F (decide_eq_false (by omega))]; by_cases b : e[i].names.length <= 34
          · rw [cond_F (decide_eq_false (by omega))]; by_cases c : e[i].text.length <= 80
            · rw [decide_eq_false (by omega)]; simp [a, b, c]
            · rw [decide_eq_true (by omega)]; simp [a, b, c]
          · rw [cond_T (decide_eq_true (by omega))]; simp [a, b]
        · rw [cond_T (decide_eq_true (by omega))]; simp [a]
      refine Ev.bind0 hp ?_; unfold fewN; by_cases h3 : (decide (e[i].args.length <= 34) && decide (e[i].names.length <= 34) && decide (e[i].text.length <= 80)) = true
      · rw [h3]; simp only [Bool.and_eq_true, decide_eq_true_eq] at h3; have h0 := l_Few_b0_ev (getE hie) h3.1.2; rw [List.drop_zero] at h0; refine Ev.cF rfl (Ev.bind h0 ?_); cases h4 : e[i].names.all fun s => decide (s.length <= 80)
        · simp only [Bool.false_eq_true, if_false, sum_R]; exact Ev.some' (by simp)
        · simp only [if_true, sum_L, Bool.true_and]; exact ih
      · have h3 : (decide (e[i].args.length <= 34) && decide (e[i].names.length <= 34) && decide (e[i].text.length <= 80)) = false := by simpa using h3
        rw [h3]; exact Ev.cT rfl (Ev.some' (by simp))
  unfold l_Few; refine Ev.bind key ?_; rw [List.drop_zero]; unfold fewB; cases (e.take 172).all fewN
  · simp only [Bool.false_eq_true, if_false, sum_R, Bool.false_and]; exact Ev.some
  · simp only [if_true, sum_L, Bool.true_and]; refine Ev.some' ?_; by_cases h : e.length <= 170
    · rw [decide_eq_true h, decide_eq_true (show (e.length : Int) <= 170 by omega)]
    · rw [decide_eq_false h, decide_eq_false (show ¬ (e.length : Int) <= 170 by omega)]
theorem few_nd {e : List Nd} (h : fewB e = true) : e.length <= 170 /\ ∀ (i : Nat) n, e[i]? = some n -> n.args.length <= 34 /\ n.names.length <= 34 /\ n.text.length <= 80 /\ ∀ s ∈ n.names, s.length <= 80 := by
  unfold fewB at h; rw [Bool.and_eq_true, decide_eq_true_eq] at h; refine ⟨h.2, fun i n hn => ?_⟩; rw [List.take_of_length_le (by omega)] at h; have := List.all_eq_true.1 h.1 n (List.mem_of_getElem? hn); unfold fewN at this; simp only [Bool.and_eq_true, decide_eq_true_eq, List.all_eq_true] at this; exact ⟨this.1.1.1, this.1.1.2, this.1.2, this.2⟩
theorem few_lite {e : List Nd} (h : fewB e = true) : Lite e := by
  obtain ⟨h1, h2⟩ := few_nd h; exact ⟨by omega, fun i n hn => by have := h2 i n hn; omega⟩
theorem b_OwnExpr_ev {e : List Nd} (hL : Lite e) : Ev (fun k => b_OwnExpr k e) e := by
  have hlen := hL.len; have key : ∀ i, i <= e.length -> Ev (fun k => b_OwnExpr_b0 k e (e.take i) (i : Int)) e := by
    refine down ?_ fun i hi ih => ?_
    · refine Ev.succ ?_; simp only [b_OwnExpr_b0]; exact Ev.cF (dnlt _) (Ev.some' (by simp))
    · refine Ev.succ ?_; obtain ⟨h1, h2, h3⟩ := hL.nd i _ (getE hi); have e1 : b_OwnTexts e[i].names = some e[i].names := by
        unfold b_OwnTexts; rw [if_pos (by simp; omega)]; rfl
      have e2 : b_OwnInts e[i].args = some e[i].args := by
        unfold b_OwnInts; rw [if_pos (by simp; omega)]; rfl
      have e3 : ((e.take i).length + 1) * 80 <= 1099511627776 := by rw [List.length_take]; omega
      simp only [b_OwnExpr_b0, Int.toNat_natCast, getE hi, Option.bind_some, nn, if_true, dlt hi, cond_true, wsucc hi (show e.length <= 1099511627776 by omega), e1, e2, if_pos e3]; rw [<- List.take_succ_eq_append_getElem hi]; exact ih
  unfold b_OwnExpr; exact Ev.bind (key 0 (Nat.zero_le _)) Ev.some
end Go.VL
end
section
namespace Go.VL
open Tm
section
variable {e : List Nd} (hV : Valid e) (hL : Lite e) (hF : Fine e)
include hV hL hF
end
theorem few_fine {e : List Nd} (h : fewB e = true) (hV : Valid e) : Fine e := ⟨(few_nd h).1, hV.ok, fun i n hn => ⟨((few_nd h).2 i n hn).1, ((few_nd h).2 i n hn).2.1⟩⟩
end Go.VL
end
section
namespace Go.VL
open Tm
def parS (e : List Nd) (i : Nat) : Int × Int := match fPar (i : Int) (e.drop (i + 1)) (i + 1) with
  | some q => ((q.1 : Int), (q.2 : Int))
  | none => (-1, 0)
def parU (e : List Nd) : List (Int × Int) := (List.range e.length).map (parS e)
theorem r_Parent_parS {e : List Nd} (hL : Lite e) {i : Nat} (hi : i < e.length) : Ev (fun k => r_Parent k e (i : Int)) (parS e i) := by
  have hlen := hL.len; unfold r_Parent parS; rw [wsucc hi (by omega)]; refine Ev.bind (r_Parent_b1_ev hL (i : Int) (i + 1) (by omega)) ?_; cases fPar (i : Int) (e.drop (i + 1)) (i + 1) with
  | some q => obtain ⟨k', j'⟩ := q; simp only [sum_R]; exact Ev.some
  | none => simp only [sum_L]; exact Ev.some
theorem parU_eq {ts : List Tm} {e : List Nd} (he : e = flats 0 ts) (hL : Lite e) : parsF 0 ts = parU e := by
  have hl : (parsF 0 ts).length = e.length := by rw [parsF_len, <- flats_len 0 ts, <- he]
  refine List.ext_getElem? fun i => ?_; by_cases hi : i < e.length
  · obtain ⟨P, j, hU⟩ : ∃ P j, (parsF 0 ts)[i]? = some (P, j) := ⟨_, _, getE (by omega)⟩; rw [hU, (r_Parent_ev he hL hi hU).uniq (r_Parent_parS hL hi)]; simp [parU, hi]
  · rw [List.getElem?_eq_none (by omega), List.getElem?_eq_none (by simp [parU]; omega)]
def chk (e : List Nd) : Int × Int := if e.length = 0 then (0, 1) else if 160 < e.length then (0, 2) else match scanN [] e with
  | .inr p => p
  | .inl acc => match fLost e (parU e) e.length 0 with
    | some j => ((j : Int), 30)
    | none => if acc[e.length - 1]?.getD 0 = 0 then (0, 0) else (((e.length - 1 : Nat) : Int), 15)
theorem t_Check_chk {e : List Nd} (hL : Lite e) : Ev (fun k => t_CheckExpr k e) (chk e) := by
  have hlen := hL.len; unfold chk; by_cases h0 : e.length = 0
  · rw [if_pos h0]; unfold t_CheckExpr; simp only [t_wrong_eq, Option.bind_some, h0]; refine Ev.bind (g_Or_ev _ (by simp)) ?_; exact Ev.cT (by rfl) Ev.some
  rw [if_neg h0]; by_cases h1 : 160 < e.length
  · rw [if_pos h1]; unfold t_CheckExpr; have a : ((e.length : Int) == 0) = false := by rw [beq_eq_false_iff_ne]; omega
    have b : decide ((e.length : Int) > 160) = true := decide_eq_true (by omega); simp only [t_wrong_eq, Option.bind_some, a, b]; refine Ev.bind (g_Or_ev _ (by simp)) ?_; exact Ev.cT (by rfl) Ev.some
  rw [if_neg h1]; have a : ((e.length : Int) == 0) = false := by rw [beq_eq_false_iff_ne]; omega
  have b : decide ((e.length : Int) > 160) = false := decide_eq_false (by omega); have st := t_CheckExpr_b0_ev hL 0 (Nat.zero_le _) [] (OkTo.zero e); rw [List.drop_zero] at st; have startT : ∀ r, Ev (fun k => Option.bind (t_CheckExpr_b0 k e ([] : List Int) (e.length : Int) ((0 : Nat) : Int)) (fun o => Sum.elim (fun p40 => Option.bind (t_parents k e) fun p51 => Option.bind (t_CheckExpr_b1 k e p51.1 p51.2 (e.length : Int) ((0 : Nat) : Int)) (fun o => Sum.elim (fun p58 => if 0 <= (IntKind.wrap .i64 ((e.length : Int) - 1)) then Option.bind (p40[(IntKind.wrap .i64 ((e.length : Int) - 1)).toNat]?) fun x65 => cond (x65 != 0) (some ((IntKind.wrap .i64 ((e.length : Int) - 1)), 15)) (some (0, 0)) else none) (fun p74 => some (p74.1, p74.2)) o)) (fun p80 => some (p80.1, p80.2)) o)) r -> Ev (fun k => t_CheckExpr k e) r := by
    intro r hr; unfold t_CheckExpr; simp only [t_wrong_eq, Option.bind_some, a, b]; refine Ev.bind (g_Or_ev _ (by simp)) ?_; exact Ev.cF (by rfl) hr
  cases hs : scanN [] e with
  | inr p =>
    rw [hs] at st; refine startT _ (Ev.bind st ?_); simp only [sum_R]; exact Ev.some
  | inl acc =>
    rw [hs] at st; obtain ⟨ts, he, hacc, hpar⟩ := t_parents_ev hL hs; have lt := t_CheckExpr_b1_ev he hL 0 (Nat.zero_le _); have hU := parU_eq he hL; rw [hU] at hpar; rw [hU, Nat.sub_zero] at lt; simp only; cases hl : fLost e (parU e) e.length 0 with
    | some j =>
      rw [hl] at lt; refine startT _ (Ev.bind st ?_); simp only [sum_L]; refine Ev.bind hpar (Ev.bind lt ?_); simp only [sum_R]; exact Ev.some
    | none =>
      rw [hl] at lt; have hal : acc.length = e.length := by rw [hacc, bgTs_len, he, flats_len]
      have h4 : acc[e.length - 1]? = some acc[e.length - 1] := getE (by omega); have hw : IntKind.wrap .i64 ((e.length : Int) - 1) = ((e.length - 1 : Nat) : Int) := by rw [wrap64 (by omega) (by omega)]; omega
      refine startT _ (Ev.bind st ?_); simp only [sum_L]; refine Ev.bind hpar (Ev.bind lt ?_); simp only [sum_L, hw, Int.toNat_natCast, h4, Option.bind_some, nn, if_true, Option.getD_some]; by_cases hb : acc[e.length - 1] = 0
      · exact Ev.cF (by rw [hb]; rfl) (Ev.some' (by simp [hb]))
      · exact Ev.cT (by rw [bne_iff_ne]; exact hb) (Ev.some' (by simp [hb]))
def sk (n : Nd) : Nd := { n with text := [] }
theorem fPar_sk (a : Int) : ∀ (l m : List Nd) (k : Nat), l.map sk = m.map sk -> fPar a l k = fPar a m k
  | [], [], k, h => rfl
  | [], _ :: _, k, h => by simp at h
  | _ :: _, [], k, h => by simp at h
  | x :: l, y :: m, k, h => by
    simp only [List.map_cons, List.cons.injEq] at h; have ha : x.args = y.args := (show (sk x).args = (sk y).args from congrArg Nd.args h.1); rw [fPar, fPar, ha, fPar_sk a l m (k + 1) h.2]
theorem len_sk {l m : List Nd} (h : l.map sk = m.map sk) : l.length = m.length := by
  have := congrArg List.length h; simpa using this
theorem parS_sk {l m : List Nd} (h : l.map sk = m.map sk) (i : Nat) : parS l i = parS m i := by
  unfold parS; rw [fPar_sk (i : Int) (l.drop (i + 1)) (m.drop (i + 1)) (i + 1) (by rw [List.map_drop, List.map_drop, h])]
theorem parU_sk {l m : List Nd} (h : l.map sk = m.map sk) : parU l = parU m := by
  unfold parU; rw [len_sk h]; exact List.map_congr_left fun i _ => parS_sk h i
structure Like (e a : List Nd) : Prop where
  sk : e.map sk = a.map sk
  ok : ∀ (i : Nat) n, a[i]? = some n -> nodeSpec true n = 0
  op : ∀ (i : Nat) n m, e[i]? = some n -> a[i]? = some m -> n.kind = 3 -> (opIn tabR n.text).2 = (opIn tabR m.text).2
theorem scan_like : ∀ (l m : List Nd) (acc acc' : List Int), l.map sk = m.map sk -> (∀ (i : Nat) n, m[i]? = some n -> nodeSpec true n = 0) -> scanN acc l = .inl acc' -> scanN acc m = .inl acc'
  | [], [], acc, acc', _, _, h => h
  | [], _ :: _, acc, acc', h, _, _ => by simp at h
  | _ :: _, [], acc, acc', h, _, _ => by simp at h
  | x :: l, y :: m, acc, acc', h, hok, hs => by
    simp only [List.map_cons, List.cons.injEq] at h; have ha : x.args = y.args := (show (sk x).args = (sk y).args from congrArg Nd.args h.1); rw [scanN] at hs ⊢; by_cases hc : nodeSpec (plB acc acc.length x.args.reverse) x = 0
    · rw [if_neg (fun k => k hc)] at hs; rw [<- ha, nodeSpec_pl hc, if_neg (fun k => k (hok 0 y rfl))]; have hb : bgOf acc x = bgOf acc y := by unfold bgOf; rw [ha]
      rw [<- hb]; exact scan_like l m _ acc' h.2 (fun i n hn => hok (i + 1) n (by simpa using hn)) hs
    · rw [if_pos hc] at hs; cases hs
section
variable {e a : List Nd} (h : Like e a)
include h
theorem Like.get {i : Nat} {n : Nd} (hn : e[i]? = some n) : ∃ m, a[i]? = some m /\ Go.VL.sk n = Go.VL.sk m := by
  have h1 := congrArg (·[i]?) h.sk
  simp only [List.getElem?_map, hn, Option.map_some] at h1; cases h2 : a[i]? with
  | none => rw [h2] at h1; cases h1
  | some m => rw [h2] at h1; exact ⟨m, rfl, Option.some.inj h1⟩
theorem Like.none {i : Nat} (hn : e[i]? = none) : a[i]? = none := by
  have := len_sk h.sk; rw [List.getElem?_eq_none_iff] at hn ⊢; omega
theorem oldF_like (U : List (Int × Int)) : ∀ (m i : Nat), oldF e U m i = oldF a U m i := by
  intro m
  induction m with
  | zero => intro i; rfl
  | succ m ih =>
    intro i; rw [oldF, oldF]; cases U[i]? with
    | none => rfl
    | some q =>
      obtain ⟨P, j⟩ := q; simp only; by_cases hP : P < 0
      · rw [if_pos hP, if_pos hP]
      · rw [if_neg hP, if_neg hP, ih]; congr 2
        cases hn : e[P.toNat]? with
        | none => rw [h.none hn]
        | some n =>
          obtain ⟨m', h1, h2⟩ := h.get hn; rw [h1]; have : n.kind = m'.kind := show (Go.VL.sk n).kind = (Go.VL.sk m').kind from congrArg Nd.kind h2
          simp [this]
theorem lostB_like (U : List (Int × Int)) (i : Nat) : lostB e U i = lostB a U i := by
  unfold lostB; cases hn : e[i]? with
  | none => rw [h.none hn]
  | some n =>
    obtain ⟨m, h1, h2⟩ := h.get hn; have hk : n.kind = m.kind := show (Go.VL.sk n).kind = (Go.VL.sk m).kind from congrArg Nd.kind h2
    rw [h1]; cases U[i]? with
    | none => rfl
    | some q =>
      obtain ⟨P, j⟩ := q; simp only; rw [hk, oldF_like h, len_sk h.sk]; congr 2
      cases hn2 : e[P.toNat]? with
      | none => rw [h.none hn2]
      | some n2 =>
        obtain ⟨m2, h3, h4⟩ := h.get hn2; rw [h3]; have hk2 : n2.kind = m2.kind := show (Go.VL.sk n2).kind = (Go.VL.sk m2).kind from congrArg Nd.kind h4
        simp only; rw [<- hk2]; by_cases h5 : n2.kind = 3
        · rw [if_pos h5, if_pos h5, h.op _ _ _ hn2 h3 h5]
        · rw [if_neg h5, if_neg h5]
theorem fLost_like (U : List (Int × Int)) : ∀ (m i : Nat), fLost e U m i = fLost a U m i := by
  intro m
  induction m with
  | zero => intro i; rfl
  | succ m ih => intro i; rw [fLost, fLost, lostB_like h, ih]
theorem chk_like (hc : (chk e).2 = 0) : (chk a).2 = 0 := by
  have hlen := len_sk h.sk; unfold chk at hc ⊢; by_cases h0 : e.length = 0
  · rw [if_pos h0] at hc; cases hc
  rw [if_neg h0] at hc; rw [if_neg (by omega)]; by_cases h1 : 160 < e.length
  · rw [if_pos h1] at hc; cases hc
  rw [if_neg h1] at hc; rw [if_neg (by omega)]; cases hs : scanN [] e with
  | inr p => rw [hs] at hc; exact absurd hc (scan_err _ _ _ hs)
  | inl acc =>
    rw [hs] at hc; rw [scan_like e a [] acc h.sk h.ok hs, <- parU_sk h.sk, <- fLost_like h, <- hlen]; simp only at hc ⊢; cases hl : fLost e (parU e) e.length 0 with
    | some j => rw [hl] at hc; cases hc
    | none => rw [hl] at hc; exact hc
end
end Go.VL
end
section
set_option maxRecDepth 8000
namespace Go.VL
open Go.Proofs Go.RowKit
theorem clone128_c (l : List Int) (hl : l.length <= 1000000) {c : Ck} : PCall Tryz.prog 128 [.isl (l.map intL) c] (.isl (l.map intL) .unk) := by
  refine PCall.wk (args := [.isl (l.map intL) .unk]) ?_ (.isl .nil); refine pcall_fresh ⟨_, Tryz.func128, rfl, by kernel_rfl⟩ (fun w G vs hg hi hv => ?_) (PuL.mem (.cons (pu_sl pu_intL _) .nil)); obtain ⟨u, rfl, hu⟩ : ∃ u, vs = #[u] /\ V G 0 (.isl (l.map intL) .unk) u := by
    obtain ⟨h1, h2⟩ := hv
    match vs, h1, h2 with
    | ⟨[u]⟩, _, h2 => exact ⟨u, rfl, h2 0 _ u rfl rfl⟩
  obtain ⟨ad, cap, rfl, hcap, hx⟩ := isl_V hu; rw [List.length_map] at *; by_cases h0 : l = []
  · subst h0; cases ad with
    | none =>
      refine (Tryz.slices_Clone_int_nil 0 cap w).mono ?_; rintro e w' ⟨rfl, rfl⟩; exact ⟨_, rfl, Below.refl _ _, fun G' n _ => .isl [] .unk 1 none 0 (fun _ _ => .bool true) (fun i cs e => by simp at e) (Nat.le_refl _) (fun h => absurd rfl h) (fun i cs j c e => by simp at e) trivial⟩
    | some a =>
      refine (Tryz.slices_Clone_int_zero a cap w).mono ?_; rintro e w' ⟨v', rfl, ⟨_, hown⟩, _, hb⟩; refine ⟨_, rfl, hb, fun G' n _ => ?_⟩; rcases hown with ⟨rfl, _⟩ | ⟨g, cp, cur, rfl, _, _, h1, _⟩
      · exact .isl [] .unk 1 none 0 (fun _ _ => .bool true) (fun i cs e => by simp at e) (Nat.le_refl _) (fun h => absurd rfl h) (fun i cs j c e => by simp at e) trivial
      · exact .isl [] .unk 1 (some ⟨g, 0, none⟩) cp (fun _ _ => .bool true) (fun i cs e => by simp at e) h1 (fun h => absurd rfl h) (fun i cs j c e => by simp at e) trivial
  · obtain ⟨b, o, rfl, f, e2, h4⟩ := hx 1 (fun cs h => by obtain ⟨s, _, rfl⟩ := List.mem_map.1 h; rfl) (by simpa using h0); have hcell : ∀ j, j < l.length -> w.cell? ⟨b, o + j, none⟩ = some (.int .i64 (l.getD j 0)) := by
      intro j hj; have hg : (l.map intL)[j]? = some (intL l[j]) := by simp [hj]
      have a := e2 j _ hg 0 (.int .i64 l[j]) rfl; have b' := h4 j _ 0 (.int .i64 l[j]) hg rfl; generalize f j 0 = v at a b'; cases b'; have := hi _ _ a; rw [Nat.mul_one, Nat.add_zero] at this; rw [this]; simp [List.getD, hj]
    refine (Tryz.slices_Clone_int b o l.length cap l w (by simp) (by omega) (by simpa using hcell)).mono ?_; rintro e w' ⟨v', rfl, ⟨_, hown⟩, hne, hb⟩; refine ⟨_, rfl, hb, fun G' n hnew => ?_⟩; rcases hown with ⟨rfl, _⟩ | ⟨g, cp, cur, rfl, hge, hblk, h1, h2, h3, h5⟩
    · exact absurd rfl hne
    · refine Eq.mp (by rw [List.length_map]) (V.isl (G := G') (n := n) (l.map intL) .unk 1 (some ⟨g, 0, none⟩) cp (fun i _ => .int .i64 (l[i]?.getD 0)) (fun i cs e => ?_) (by simpa using h1) (fun _ => ⟨g, 0, rfl, fun i cs e j c ec => ?_⟩) (fun i cs j c e ec => ?_) trivial)
      · simp only [List.getElem?_map, Option.map_eq_some_iff] at e; obtain ⟨s, _, rfl⟩ := e; rfl
      · simp only [List.getElem?_map, Option.map_eq_some_iff] at e; obtain ⟨s, e1, rfl⟩ := e; have hj : j = 0 := by
          have := (List.getElem?_eq_some_iff.1 ec).1; simp [intL] at this; exact this
        subst hj; have hlt := (List.getElem?_eq_some_iff.1 e1).1; refine hnew _ _ hge ?_; have hc : cur[i]? = some (.int .i64 s) := by
          have := congrArg (·[i]?) h5
          simp only [Nat.mul_one, List.getElem?_take, hlt, if_true, List.map_map] at this; rw [<- Array.getElem?_toList, this]; simp [e1, List.take_of_length_le]
        simp only [World.cell?, hblk, Nat.zero_add, Nat.mul_one, Nat.add_zero, e1, Option.getD_some]; simpa using hc
      · simp only [List.getElem?_map, Option.map_eq_some_iff] at e; obtain ⟨s, e1, rfl⟩ := e; have hj : j = 0 := by
          have := (List.getElem?_eq_some_iff.1 ec).1; simp [intL] at this; exact this
        subst hj; simp only [intL, List.getElem?_cons_zero, Option.some.injEq] at ec; subst ec; simp only [e1, Option.getD_some]; exact .int .i64 s
theorem row_nd (n : Nd) : rowLike 5 n.cells := row_of rfl rfl
section
variable [Glob] {P : Program} {Q : Post} {σ : Nat -> PV} {s : List Fm} {α : Type} {H : AH} {f : α -> List PV} {sz : Nat}
theorem WO_mkapp {d : Option Nat} {b : Nat} {x y : AE} {l : List AOp} [hr : RowF f sz] (hf : ∀ x, rowLike sz (f x)) (ys : List α) (c2 : Ck)
    (hx : x.ev σ = .isl [] .exact) (hy : y.ev σ = .isl (ys.map f) c2) (hs : 0 < ys.length) (hb : ys.length * b <= 1099511627776)
    (h : ∀ (v' : PV) (ids' : List Nat) (H' : AH), RowN H' f sz ys v' ids' -> Nw H [] ids' -> HF [] H H' -> (∀ c3, okc H c3 -> okc H' c3) -> WO P l s Q (upd σ d v') H') :
    WO P (⟨d, .n (.app sz b x y), none⟩ :: l) s Q σ H := by
  show WOps P _ _ σ H
  rw [WOps_n]; simp only [nop, hx, hy]; have h0 : ¬ ((ys.map f).length = 0) := by rw [List.length_map]; omega
  simp only [nopApp, rowOf]; rw [if_neg h0]; split
  · intro cap hcap; simp only [List.length_map, List.length_nil, Nat.zero_add, List.nil_append] at hcap ⊢; refine h _ [H.next] _ (.inr ⟨H.next, cap, List.replicate ((cap - ys.length) * sz) .any, rfl, rfl, hcap, Nat.lt_succ_self _, ?_, by rw [List.length_replicate]⟩) (fun i hi => .inr (by rw [List.mem_singleton.1 hi]; exact Nat.le_refl _)) (HF.new (HF.refl _ _)) (fun c3 k => k.new); show (if H.next = H.next then some _ else _) = _
    rw [if_pos rfl]
  · rename_i hno; exact (hno ⟨szOk_map hf ([] : List α), szOk_map hf ys, by simpa using hb⟩).elim
end
theorem put_same {H : AH} {id : Nat} {cs : List PV} (h : H.obj id = some cs) : H.put id cs = H := by
  unfold AH.put; have : (fun i => if i = id then some cs else H.obj i) = H.obj := by
    funext i
    by_cases e : i = id
    · subst e; rw [if_pos rfl, h]
    · rw [if_neg e]
  rw [this]
theorem clone127_mk (e : List Nd) (h0 : 0 < e.length) (hl : e.length <= 1000000) : RowMk Tryz.prog 127 [exprPV e] Nd.cells 5 e := by
  intro H; refine MCall_of_W ok127 (by simp) (W_start ?_); unfold ac127; have h1 : ¬ (e.map Nd.cells).length = 0 := by rw [List.length_map]; omega
  simp -implicitDefEqProofs only [go_sem, List.length_map, show ¬ e.length = 0 by omega, if_true, ne_eq, not_false_eq_true]; refine WO_mkapp (f := Nd.cells) row_nd e .unk (by simp -implicitDefEqProofs only [go_sem]) (by simp -implicitDefEqProofs only [go_sem]) h0 (by omega) (fun v' ids' H' g1 g2 g3 g4 => ?_); simp -implicitDefEqProofs only [go_sem]; exact ⟨ids', g1, g2, g3, g4⟩
theorem putCells_same {C : List PV} {o : Nat} {p : PV} (ho : C[o]? = some p) : putCells C o [p] = C := by
  have hlt := (List.getElem?_eq_some_iff.1 ho).1; have h2 := (List.getElem?_eq_some_iff.1 ho).2; unfold putCells; simp only [List.length_cons, List.length_nil, Nat.zero_add]; rw [List.append_assoc, List.singleton_append, <- h2, List.getElem_cons_drop, List.take_append_drop]
theorem store_same {σ : Nat -> PV} {H : AH} {x w : AE} {id o : Nat} {p : PV} {C : List PV} (hx : x.ev σ = .ref id o) (hw : cellsOf (w.ev σ) = some [p]) (hone : p.one = true) (hC : H.obj id = some C) (ho : C[o]? = some p) : dop (.store 1 x w) σ H = some (.any, H) := by
  have hlt := (List.getElem?_eq_some_iff.1 ho).1; simp only [dop, hx, hw, hC]; rw [if_pos ⟨rfl, by omega, by simp [hone]⟩, putCells_same ho, put_same hC]
theorem WO_same [Glob] {P : Program} {Q : Post} {σ : Nat -> PV} {s : List Fm} {H : AH} {d : Option Nat} {k : DK} {l : List AOp} {p : PV} (h : dop k σ H = some (p, H)) (h2 : WO P l s Q (upd σ d p) H) : WO P (⟨d, .d k, none⟩ :: l) s Q σ H := by
  show WD P (dop k σ H) d l s Q σ
  rw [h]; exact h2
theorem own_loop (e : List Nd) (hn : ∀ (i : Nat) n, e[i]? = some n -> n.names.length <= 1000000 /\ n.args.length <= 1000000) (hl : e.length <= 1000000) : ∀ (m i : Nat) (σ : Nat -> PV) (H : AH) (v : PV) (ids : List Nat) (Q : Post), i + m = e.length -> σ 3 = v -> σ 8 = .int .i64 e.length -> σ 9 = .int .i64 i -> RowN H Nd.cells 5 e v ids ->
    (∀ σ', σ' 3 = v -> Q (.exit 0) σ' H) -> W Tryz.prog (.loop ac78_b0) Q σ H := by
  intro m
  induction m with
  | zero =>
    intro i σ H v ids Q hi s3 s8 s9 hr q0; refine W_loopK (fun K hK => W_start ?_); unfold ac78_b0; have hd : decide ((i : Int) < (e.length : Int)) = false := decide_eq_false (by omega); simp -implicitDefEqProofs only [go_sem, s3, s8, s9, hd]; exact q0 _ (by simp -implicitDefEqProofs only [go_sem, s3])
  | succ m ih =>
    intro i σ H v ids Q hi s3 s8 s9 hr q0; have hlt : i < e.length := by omega
    have hx : e[i]? = some e[i] := List.getElem?_eq_getElem hlt; obtain ⟨h1, h2⟩ := hn i _ hx; obtain ⟨id, C, rfl, hid, hC, hcell, hle, hdrop, hI⟩ := RowN.content hr hx; have hI' : idxPV 5 v (.int .i64 i) = some (.ref id (i * 5)) := hI .i64 i (by omega) (by omega); have c3 : C[i * 5 + 3]? = some (.isl (e[i].names.map strL) .unk) := hcell 3 _ rfl; have c4 : C[i * 5 + 4]? = some (.isl (e[i].args.map intL) .unk) := hcell 4 _ rfl; refine W_loopK (fun K hK => W_start ?_); unfold ac78_b0; have hd : decide ((i : Int) < (e.length : Int)) = true := decide_eq_true (by omega); simp -implicitDefEqProofs only [go_sem, s3, s8, s9, hd]
    refine ⟨(· = H), rfl, ?_⟩
    refine WPar_rE ?_; simp -implicitDefEqProofs only [go_sem, ↓reduceIte, Nat.reduceEqDiff, s3, s8, s9, hI', hC, c3, c4]; refine WPar_rE ?_; simp -implicitDefEqProofs only [go_sem, ↓reduceIte, Nat.reduceEqDiff, s3, s8, s9, hI', hC, c3, c4]; refine WPar_rE ?_; simp -implicitDefEqProofs only [go_sem, ↓reduceIte, Nat.reduceEqDiff, s3, s8, s9, hI', hC, c3, c4]; refine WPar_rE ?_; simp -implicitDefEqProofs only [go_sem, ↓reduceIte, Nat.reduceEqDiff, s3, s8, s9, hI', hC, c3, c4]; refine WPar_rE ?_; simp -implicitDefEqProofs only [go_sem, ↓reduceIte, Nat.reduceEqDiff, s3, s8, s9, hI', hC, c3, c4]; refine WPar_rE ?_; simp -implicitDefEqProofs only [go_sem, ↓reduceIte, Nat.reduceEqDiff, s3, s8, s9, hI', hC, c3, c4]; refine WPar_rE ?_; simp -implicitDefEqProofs only [go_sem, ↓reduceIte, Nat.reduceEqDiff, s3, s8, s9, hI', hC, c3, c4]; refine WPar_rE ?_; simp -implicitDefEqProofs only [go_sem, ↓reduceIte, Nat.reduceEqDiff, s3, s8, s9, hI', hC, c3, c4]; refine WPar_rE ?_; simp -implicitDefEqProofs only [go_sem, ↓reduceIte, Nat.reduceEqDiff, s3, s8, s9, hI', hC, c3, c4]; refine WPar_callE ?_; simp -implicitDefEqProofs only [go_sem, ↓reduceIte, Nat.reduceEqDiff, s3, s8, s9, hI', hC, c3, c4]; refine PC.mk (clone72_c _ h1) ?_; refine WPar_rE ?_; simp -implicitDefEqProofs only [go_sem, ↓reduceIte, Nat.reduceEqDiff, s3, s8, s9, hI', hC, c3, c4]; refine WPar_rE ?_; simp -implicitDefEqProofs only [go_sem, ↓reduceIte, Nat.reduceEqDiff, s3, s8, s9, hI', hC, c3, c4]; refine WPar_rE ?_; simp -implicitDefEqProofs only [go_sem, ↓reduceIte, Nat.reduceEqDiff, s3, s8, s9, hI', hC, c3, c4]; refine WPar_rE ?_; simp -implicitDefEqProofs only [go_sem, ↓reduceIte, Nat.reduceEqDiff, s3, s8, s9, hI', hC, c3, c4]; refine WPar_rE ?_; simp -implicitDefEqProofs only [go_sem, ↓reduceIte, Nat.reduceEqDiff, s3, s8, s9, hI', hC, c3, c4]; refine WPar_callE ?_; simp -implicitDefEqProofs only [go_sem, ↓reduceIte, Nat.reduceEqDiff, s3, s8, s9, hI', hC, c3, c4]; refine PC.mk (clone128_c _ h2) ?_; refine WPar_rE ?_; simp -implicitDefEqProofs only [go_sem, ↓reduceIte, Nat.reduceEqDiff, s3, s8, s9, hI', hC, c3, c4]; refine WPar_rE ?_; simp -implicitDefEqProofs only [go_sem, ↓reduceIte, Nat.reduceEqDiff, s3, s8, s9, hI', hC, c3, c4]
    refine WPar_d (C := (· = H)) .any H (store_same (id := id) (o := i * 5 + 3) (p := .isl (e[i].names.map strL) .unk) (C := C) (by simp -implicitDefEqProofs only [go_sem, ↓reduceIte, Nat.reduceEqDiff, s3, s8, s9, hI', hC, c3, c4]) (by simp -implicitDefEqProofs only [go_sem, ↓reduceIte, Nat.reduceEqDiff, s3, s8, s9, hI', hC, c3, c4]) rfl hC c3) rfl ?_
    show WO _ _ _ _ _ H
    simp -implicitDefEqProofs only [go_sem, ↓reduceIte, Nat.reduceEqDiff, s3, s8, s9, hI', hC, c3, c4]; refine WO_same (store_same (id := id) (o := i * 5 + 4) (p := .isl (e[i].args.map intL) .unk) (C := C) (by simp -implicitDefEqProofs only [go_sem, ↓reduceIte, Nat.reduceEqDiff, s3, s8, s9, hI', hC, c3, c4]) (by simp -implicitDefEqProofs only [go_sem, ↓reduceIte, Nat.reduceEqDiff, s3, s8, s9, hI', hC, c3, c4]) rfl hC c4) ?_; have hw : IntKind.wrap .i64 ((i : Int) + 1) = ((i + 1 : Nat) : Int) := by rw [IntKind.wrap_i64]; omega
    simp -implicitDefEqProofs only [go_sem, ↓reduceIte, Nat.reduceEqDiff, s3, s8, s9, hI', hC, c3, c4]; refine hK _ _ (ih (i + 1) _ H v [id] Q (by omega) (by simp -implicitDefEqProofs only [go_sem, ↓reduceIte, Nat.reduceEqDiff, s3, s8, s9, hI', hC, c3, c4]) (by simp -implicitDefEqProofs only [go_sem, ↓reduceIte, Nat.reduceEqDiff, s3, s8, s9, hI', hC, c3, c4]) (by simp -implicitDefEqProofs only [go_sem, ↓reduceIte, Nat.reduceEqDiff, s3, s8, s9, hI', hC, c3, c4]; rw [hw]) hr q0)
theorem own78_mk (e : List Nd) (h0 : 0 < e.length) (hn : ∀ (i : Nat) n, e[i]? = some n -> n.names.length <= 1000000 /\ n.args.length <= 1000000) (hl : e.length <= 1000000) : RowMk Tryz.prog 78 [exprPV e] Nd.cells 5 e := by
  intro H; refine MCall_of_W ok78 (by simp) (W_start ?_); unfold ac78; simp -implicitDefEqProofs only [go_sem]; refine MC_row (clone127_mk e h0 hl) fun v ids H' g1 g2 g3 g4 => ?_; have hlen := g1.lenv; simp -implicitDefEqProofs only [go_sem, hlen]; refine own_loop e hn hl e.length 0 _ H' v ids _ (by omega) (by simp -implicitDefEqProofs only [go_sem]) (by simp -implicitDefEqProofs only [go_sem]) (by simp -implicitDefEqProofs only [go_sem]) g1 fun σ' s3 => ?_; simp -implicitDefEqProofs only [go_sem, s3]; exact ⟨ids, g1, g2, g3, g4⟩
end Go.VL
end
section
set_option maxRecDepth 8000
namespace Go.VL
open Go.Proofs
def renStep (k : Nat) (e : List Nd) (frm to_ : Str) (a : List Nd × Bool) (at_ : Int) (bound : List Str) : Option (List Nd × Bool) :=
  if 0 <= at_ then Option.bind (e[at_.toNat]?) fun n => Option.bind (t_isNamed k n) fun b => cond (b && (n.text == frm)) (Option.bind (g_Contains_string_string k bound frm) fun c => cond c (some a) (Option.bind (a.1[at_.toNat]?) fun m => cond a.2 (some (a.1.set at_.toNat { m with text := to_ }, true)) (Option.bind (g_Contains_string_string k bound to_) fun d => some (a.1.set at_.toNat { m with text := to_ }, d)))) (some a) else none
structure RenS (e : List Nd) (frm to_ : Str) (o p : Nat) (a : List Nd × Bool) (H : AH) : Prop where
  lt : p + 1 < H.next
  lo : o + 2 < p
  he : H.obj o = some [exprPV e]
  hf : H.obj (o + 1) = some [.str frm]
  ht : H.obj (o + 2) = some [.str to_]
  row : ∃ v ids, H.obj p = some [v] /\ RowN H Nd.cells 5 a.1 v ids /\ (∀ i ∈ ids, o + 2 < i /\ i < p)
  hc : H.obj (p + 1) = some [.bool a.2]
theorem ren_visit (k : Nat) (e : List Nd) (frm to_ : Str) (o p : Nat) : Visit 79 [.ref o 0, .ref (o + 1) 0, .ref (o + 2) 0, .ref p 0, .ref (p + 1) 0] (RenS e frm to_ o p) (renStep k e frm to_) where
  stable := by
    rintro a H H' ⟨h1, h0, h2, h3, h4, ⟨v, ids, h5, h6, h7⟩, h8⟩ hn ho hc; exact ⟨by omega, h0, (ho _).trans h2, (ho _).trans h3, (ho _).trans h4, ⟨v, ids, (ho _).trans h5, h6.hf (M := []) ⟨hn, fun i _ _ => ho i⟩ (fun _ _ h => by cases h), h7⟩, (ho _).trans h8⟩
  call := by
    rintro a at_ bound a' H ⟨h1, h0, h2, h3, h4, ⟨v, ids, h5, h6, h7⟩, h8⟩ h
    have hS : RenS e frm to_ o p a H := ⟨h1, h0, h2, h3, h4, ⟨v, ids, h5, h6, h7⟩, h8⟩; unfold renStep at h; obtain ⟨e1, h⟩ := if_E h; obtain ⟨n, e2, h⟩ := bind_E h; obtain ⟨b, e3, h⟩ := bind_E h; refine MCall_of_W ok79 (by simp) (W_start ?_); unfold ac79; simp -implicitDefEqProofs only [go_sem]; refine WS_parS ?_; simp -implicitDefEqProofs only [go_sem, ↓reduceIte, Nat.reduceEqDiff, h2, h3, e1, e2, List.getElem?_map, Option.map_some, Nat.reduceAdd]; refine PC.mk (t_isNamed_c e3) ?_; cases b with
    | false =>
      rw [Bool.false_and, cond_F rfl] at h; cases h; simp -implicitDefEqProofs only [go_sem, ↓reduceIte, Nat.reduceEqDiff, h2, h3, e1, e2, List.getElem?_map, Option.map_some, Nat.reduceAdd]; exact hS
    | true =>
      rw [Bool.true_and] at h; cases e4 : (n.text == frm) with
      | false =>
        rw [cond_F e4] at h; cases h; simp -implicitDefEqProofs only [go_sem, ↓reduceIte, Nat.reduceEqDiff, h2, h3, e1, e2, e4, List.getElem?_map, Option.map_some, Nat.reduceAdd]; exact hS
      | true =>
        rw [cond_T e4] at h; obtain ⟨c, e5, h⟩ := bind_E h; simp -implicitDefEqProofs only [go_sem, ↓reduceIte, Nat.reduceEqDiff, h2, h3, e1, e2, e4, List.getElem?_map, Option.map_some, Nat.reduceAdd]; refine mcall_pure (g_Contains_string_string_c e5) ?_; cases c with
        | true =>
          rw [cond_T rfl] at h; cases h; simp -implicitDefEqProofs only [go_sem, ↓reduceIte, Nat.reduceEqDiff, h2, h3, e1, e2, e4, List.getElem?_map, Option.map_some, Nat.reduceAdd]; exact hS
        | false =>
          rw [cond_F rfl] at h; obtain ⟨m, e6, h⟩ := bind_E h; obtain ⟨id, C, rfl, hid, hC, hcell, hle, hdrop, hI⟩ := RowN.content h6 e6; have hI' : idxPV 5 v (.int .i64 at_) = some (.ref id (at_.toNat * 5)) := hI .i64 at_ e1 rfl
          simp -implicitDefEqProofs only [go_sem, ↓reduceIte, Nat.reduceEqDiff, h2, h3, h4, h5, hI', e1, e2, e4, List.getElem?_map, Option.map_some, Nat.reduceAdd]; refine WO_rowset (f := Nd.cells) (id := id) (o := at_.toNat * 5 + 2) (i := at_.toNat) (j := 2) (a := m) (y := { m with text := to_ }) (vs := [.str to_]) (by simp -implicitDefEqProofs only [go_sem, ↓reduceIte, Nat.reduceEqDiff]) rfl rfl h6 e6 (by simp -implicitDefEqProofs only [go_sem, ↓reduceIte, Nat.reduceEqDiff]) rfl rfl (by decide) rfl (fun H' r' hf' ok' => ?_); have hidn := h7 id (List.mem_singleton.2 rfl); have ko : ∀ j, j <= o + 2 \/ j = p \/ j = p + 1 -> H'.obj j = H.obj j := fun j hj => hf'.2 j (by omega) (fun hm => by have := List.mem_singleton.1 hm; omega); have k0 := (ko o (by omega)).trans h2; have k1 := (ko (o + 1) (by omega)).trans h3; have k2 := (ko (o + 2) (by omega)).trans h4; have k3 := (ko p (by omega)).trans h5; have k4 := (ko (p + 1) (by omega)).trans h8; have kn := hf'.1; have fin : ∀ d : Bool, RenS e frm to_ o p (a.1.set at_.toNat { m with text := to_ }, d) (H'.put (p + 1) [.bool d]) := by
            intro d; have pq : ∀ j, j ≠ p + 1 -> (H'.put (p + 1) [.bool d]).obj j = H'.obj j := fun j hj => by show (if j = p + 1 then _ else _) = _; rw [if_neg hj]
            refine ⟨(show p + 1 < H'.next by omega), h0, (pq _ (by omega)).trans k0, (pq _ (by omega)).trans k1, (pq _ (by omega)).trans k2, ⟨v, [id], (pq _ (by omega)).trans k3, r'.put (fun hm => by have := List.mem_singleton.1 hm; omega), h7⟩, ?_⟩; show (if p + 1 = p + 1 then _ else _) = _
            rw [if_pos rfl]
          cases e7 : a.2 with
          | true =>
            rw [cond_T e7] at h; cases h; rw [e7] at k4; simp -implicitDefEqProofs only [go_sem, WO_store, ↓reduceIte, Nat.reduceEqDiff, k4, List.length_cons, List.length_nil, Nat.reduceAdd, Nat.le_refl]; exact fin true
          | false =>
            rw [cond_F e7] at h; obtain ⟨d, e8, h⟩ := bind_E h; cases h; rw [e7] at k4; simp -implicitDefEqProofs only [go_sem, ↓reduceIte, Nat.reduceEqDiff, k2, k4, List.length_cons, List.length_nil, Nat.reduceAdd, Nat.le_refl]; refine mcall_pure (g_Contains_string_string_c e8) ?_; simp -implicitDefEqProofs only [go_sem, WO_store, ↓reduceIte, Nat.reduceEqDiff, k4, List.length_cons, List.length_nil, Nat.reduceAdd, Nat.le_refl]; exact fin d
def ownOk (e : List Nd) : Bool := decide (0 < e.length) && decide (e.length <= 1000000) && e.all fun n => decide (n.names.length <= 1000000) && decide (n.args.length <= 1000000)
theorem ownOk_mk {e : List Nd} (h : ownOk e = true) : RowMk Tryz.prog 78 [exprPV e] Nd.cells 5 e := by
  simp only [ownOk, Bool.and_eq_true, decide_eq_true_eq, List.all_eq_true] at h; exact own78_mk e h.1.1 (fun i n hn => h.2 n (List.mem_of_getElem? hn)) h.1.2
def t_names2 (k : Nat) (frm to_ : Str) : Option Bool := Option.bind (t_isName k frm) fun b => cond b (Option.bind (t_isName k to_) fun d => some (!d)) (some true)
def t_Renamed (k : Nat) (e : List Nd) (frm to_ : Str) : Option (List Nd × Int) :=
  Option.bind (t_exprErr k e) fun c1 => Option.bind (t_names2 k frm to_) fun b => Option.bind (t_wrong b 7) fun c2 => Option.bind (g_Or_api_Errno k [c1, c2]) fun code =>
    cond (code != 0) (some ([], code)) (if ownOk e = true then Option.bind (walkF (renStep k e frm to_) e k (IntKind.wrap .i64 ((e.length : Int) - 1)) [] (e, false)) fun a => cond a.2 (some ([], 19)) (some (a.1, 0)) else none)
theorem t_Renamed_c (k : Nat) (e : List Nd) (frm to_ : Str) {c : Ck} {r : List Nd × Int} (h : t_Renamed k e frm to_ = some r) : PCall Tryz.prog 38 [.isl (e.map Nd.cells) c, .str frm, .str to_] (.tup [.isl (r.1.map Nd.cells) .unk, .int .i64 r.2]) := by
  refine PCall.wk (args := [exprPV e, .str frm, .str to_]) ?_ (.isl (.same (.same .nil))); refine PCall.of_empty (PuL.mem (.cons (pu_sl Nd.pu _) (.cons (.str _) (.cons (.str _) .nil)))) (MCall_of_W ok38 (by simp) (W_start ?_)) (.tup _ (PuL.mem (.cons (pu_sl Nd.pu _) (.cons (.int _ _) .nil)))); unfold t_Renamed at h; obtain ⟨c1, e1, h1⟩ := bind_E h; clear h; obtain ⟨b, e2, h2⟩ := bind_E h1; clear h1; obtain ⟨c2, e3, h3⟩ := bind_E h2; clear h2; obtain ⟨code, e4, h⟩ := bind_E h3; clear h3; unfold ac38; simp -implicitDefEqProofs only [go_sem]; refine WS_parS ?_; simp -implicitDefEqProofs only [go_sem]; refine PC.mk (t_exprErr_c e1) ?_; simp -implicitDefEqProofs only [go_sem]; unfold t_names2 at e2; obtain ⟨b1, e5, e2⟩ := bind_E e2; refine mcall_pure (t_isName_c e5) ?_; have hb : (b1 = false /\ b = true) \/ (b1 = true /\ ∃ d, t_isName k to_ = some d /\ b = !d) := by
    cases b1 with
    | false => rw [cond_F rfl] at e2; cases e2; exact .inl ⟨rfl, rfl⟩
    | true =>
      rw [cond_T rfl] at e2; obtain ⟨d, e6, e2⟩ := bind_E e2; cases e2; exact .inr ⟨rfl, d, e6, rfl⟩
  clear e2; rcases hb with ⟨rfl, rfl⟩ | ⟨rfl, d, e6, rfl⟩
  all_goals simp -implicitDefEqProofs only [go_sem]
  all_goals try (refine mcall_pure (t_isName_c e6) ?_; simp -implicitDefEqProofs only [go_sem])
  all_goals
    refine mcall_pure (t_wrong_c e3) ?_; simp -implicitDefEqProofs only [go_sem]; refine mcall_pure (g_Or_api_Errno_c e4) ?_; rcases cond_E h with ⟨e7, h⟩ | ⟨e7, h⟩
    · obtain rfl := som_E h; simp -implicitDefEqProofs only [go_sem, e7]; exact fz_tup (.cons (fz_sl Nd.pu [] _) (.cons (.pure _ (.int _ _)) .nil))
    · obtain ⟨e8, h⟩ := if_E h; obtain ⟨a, e9, h⟩ := bind_E h; simp -implicitDefEqProofs only [go_sem, e7]; refine MC_row (ownOk_mk e8) fun v ids H' g1 g2 g3 g4 => ?_; have hn : AH.empty.next + 3 <= H'.next := g3.1; have q0 : H'.obj (AH.empty.next) = some [exprPV e] := (g3.2 _ (by show AH.empty.next < AH.empty.next + 3; omega) (fun h => by cases h)).trans rfl; have q1 : H'.obj (AH.empty.next + 1) = some [.str frm] := (g3.2 _ (by show AH.empty.next + 1 < AH.empty.next + 3; omega) (fun h => by cases h)).trans rfl; have q2 : H'.obj (AH.empty.next + 2) = some [.str to_] := (g3.2 _ (by show AH.empty.next + 2 < AH.empty.next + 3; omega) (fun h => by cases h)).trans rfl; have qi : ∀ i ∈ ids, AH.empty.next + 2 < i /\ i < H'.next := fun i hi => by
        refine ⟨?_, g1.lt i hi⟩; rcases g2 i hi with q | q
        · cases q
        · have : AH.empty.next + 3 <= i := q; omega
      have hpos : 0 < e.length := by
        simp only [ownOk, Bool.and_eq_true, decide_eq_true_eq] at e8; exact e8.1.1
      obtain ⟨id, cap, junk, rfl, rfl, _, _, _, _⟩ := g1.at (List.getElem?_eq_getElem hpos); have hidn := qi id (List.mem_singleton.2 rfl); have n0 : ¬ AH.empty.next = H'.next := by omega
      have n1 : ¬ AH.empty.next = H'.next + 1 := by omega
      simp -implicitDefEqProofs only [go_sem, WO_store, q0, n0, n1, if_true, if_false, List.length_cons, List.length_nil, Nat.le_refl, List.length_map]; have hr : RowN ((((H'.new [.isl [] .nil]).put H'.next [.msl id 0 e.length cap 5]).new [.bool false]).put (H'.next + 1) [.bool false]) Nd.cells 5 e (.msl id 0 e.length cap 5) [id] := by
        refine RowN.put (RowN.new (RowN.put (RowN.new g1) ?_)) ?_
        · intro hm; have := (qi _ hm).2; omega
        · intro hm; have := (qi _ hm).2; omega
      have hS : RenS e frm to_ AH.empty.next H'.next (e, false) ((((H'.new [.isl [] .nil]).put H'.next [.msl id 0 e.length cap 5]).new [.bool false]).put (H'.next + 1) [.bool false]) := by
        refine ⟨(show H'.next + 1 < H'.next + 2 by omega), (show AH.empty.next + 2 < H'.next by omega), ?_, ?_, ?_, ⟨_, _, ?_, hr, qi⟩, ?_⟩
        · simp only [AH.put_obj, AH.new_obj, AH.put_next, AH.new_next, if_false, if_true, n0, n1]; exact q0
        · have m0 : ¬ AH.empty.next + 1 = H'.next := by omega
          have m1 : ¬ AH.empty.next + 1 = H'.next + 1 := by omega
          simp only [AH.put_obj, AH.new_obj, AH.put_next, AH.new_next, if_false, if_true, m0, m1]; exact q1
        · have m0 : ¬ AH.empty.next + 2 = H'.next := by omega
          have m1 : ¬ AH.empty.next + 2 = H'.next + 1 := by omega
          simp only [AH.put_obj, AH.new_obj, AH.put_next, AH.new_next, if_false, if_true, m0, m1]; exact q2
        · have m1 : ¬ H'.next = H'.next + 1 := by omega
          simp only [AH.put_obj, AH.new_obj, AH.put_next, AH.new_next, if_false, if_true, m1]
        · simp only [AH.put_obj, AH.new_obj, AH.put_next, AH.new_next, if_false, if_true]
      refine MCall.mono (MCall.wk (walk70 (ren_visit k e frm to_ _ _) e k _ [] (e, false) a _ hS e9) (.same (.same (.isl (.same .nil))))) fun r H1 hS1 => ?_; obtain ⟨h1, h0, h2, h3, h4, ⟨v, ids, h5, h6, h7⟩, h8⟩ := hS1; rcases cond_E h with ⟨e10, h⟩ | ⟨e10, h⟩
      · obtain rfl := som_E h; rw [e10] at h8; simp -implicitDefEqProofs only [go_sem, h8]; exact fz_tup (.cons (fz_sl Nd.pu [] _) (.cons (.pure _ (.int _ _)) .nil))
      · obtain rfl := som_E h; rw [e10] at h8; simp -implicitDefEqProofs only [go_sem, h8, h5]; exact fz_tup (.cons (h6.fz Nd.pu) (.cons (.pure _ (.int _ _)) .nil))
end Go.VL
end
section
namespace Go.VL
open Tm
theorem r_Parent_b0_sk {l m : List Nd} (h : l.map sk = m.map sk) : ∀ (k : Nat) (a p j : Int), r_Parent_b0 k l a p j = r_Parent_b0 k m a p j
  | 0, a, p, j => rfl
  | k + 1, a, p, j => by
    simp only [r_Parent_b0, r_Parent_b0_sk h k]
    have h1 := congrArg (·[p.toNat]?) h
    simp only [List.getElem?_map] at h1; cases h2 : l[p.toNat]? with
    | none => rw [h2] at h1; cases h3 : m[p.toNat]? with | none => rfl | some y => rw [h3] at h1; cases h1
    | some x =>
      rw [h2] at h1; cases h3 : m[p.toNat]? with
      | none => rw [h3] at h1; cases h1
      | some y =>
        rw [h3] at h1; have ha : x.args = y.args := show (sk x).args = (sk y).args from congrArg Nd.args (Option.some.inj h1)
        simp only [Option.bind_some, ha]
theorem r_Parent_b1_sk {l m : List Nd} (h : l.map sk = m.map sk) : ∀ (k : Nat) (a p : Int), r_Parent_b1 k l a p = r_Parent_b1 k m a p
  | 0, a, p => rfl
  | k + 1, a, p => by simp only [r_Parent_b1, r_Parent_b0_sk h, r_Parent_b1_sk h k, len_sk h]
theorem r_Parent_sk {l m : List Nd} (h : l.map sk = m.map sk) (k : Nat) (i : Int) : r_Parent k l i = r_Parent k m i := by
  unfold r_Parent; rw [r_Parent_b1_sk h]
theorem r_BoundAt_b0_sk {l m : List Nd} (h : l.map sk = m.map sk) : ∀ (k : Nat) (out : List Str) (a p : Int), r_BoundAt_b0 k l out a p = r_BoundAt_b0 k m out a p
  | 0, out, a, p => rfl
  | k + 1, out, a, p => by
    simp only [r_BoundAt_b0, r_BoundAt_b0_sk h k, r_Parent_sk h]
    have h1 := congrArg (·[a.toNat]?) h
    simp only [List.getElem?_map] at h1; cases h2 : l[a.toNat]? with
    | none => rw [h2] at h1; cases h3 : m[a.toNat]? with | none => rfl | some y => rw [h3] at h1; cases h1
    | some x =>
      rw [h2] at h1; cases h3 : m[a.toNat]? with
      | none => rw [h3] at h1; cases h1
      | some y =>
        rw [h3] at h1; have hb : ∀ p, r_Binds x p = r_Binds y p := fun p => by
          show r_Binds (sk x) p = r_Binds (sk y) p
          rw [Option.some.inj h1]
        simp only [Option.bind_some, hb]
theorem r_BoundAt_sk {l m : List Nd} (h : l.map sk = m.map sk) (k : Nat) (i : Int) : r_BoundAt k l i = r_BoundAt k m i := by
  unfold r_BoundAt; rw [r_Parent_sk h]; simp only [r_BoundAt_b0_sk h]
theorem bindF_mem {n : Nd} {p : Nat} {s : Str} (h : s ∈ bindF n p) : s ∈ n.names := by
  unfold bindF at h; cases hr : t_binds n (p : Int) with
  | none => rw [hr] at h; cases h
  | some r =>
    rw [hr] at h; simp only [Option.getD_some] at h; unfold t_binds at hr; cases hj : t_binds_j0 n.kind with
    | none => rw [hj] at hr; cases hr
    | some b =>
      rw [hj, Option.bind_some] at hr; cases b with
      | true =>
        rw [cond_true] at hr; cases e : ((p : Int) == IntKind.wrap .i64 ((n.args.length : Int) - 1)) <;> rw [e] at hr <;> cases hr
        · cases h
        · exact h
      | false =>
        rw [cond_false] at hr; cases e0 : (n.kind == 23) <;> rw [e0] at hr
        · cases hr; cases h
        · rw [cond_true] at hr; by_cases h1 : 1 <= n.names.length
          · rw [if_pos h1, if_pos h1] at hr; cases e : ((p : Int) == IntKind.wrap .i64 ((n.args.length : Int) - 1)) <;> rw [e] at hr
            · cases e2 : (n.n == 1) <;> rw [e2] at hr <;> cases hr
              · exact List.mem_of_mem_drop h
              · exact h
            · cases hr; exact List.mem_of_mem_take h
          · rw [if_neg h1, if_neg h1] at hr; cases e : ((p : Int) == IntKind.wrap .i64 ((n.args.length : Int) - 1)) <;> rw [e] at hr
            · cases e2 : (n.n == 1) <;> rw [e2] at hr <;> cases hr; exact h
            · cases hr
section
variable {e : List Nd}
mutual
theorem vis_names : ∀ (t : Tm) (b : Nat) (bd : List Str), Seg e b t -> ∀ v ∈ vis b bd t, ∀ s ∈ v.2, s ∈ bd \/ ∃ n ∈ e, s ∈ n.names
  | .mk x cs, b, bd, hS, v, hv, s, hs => by
    rw [vis_mk, List.mem_cons] at hv; rcases hv with rfl | hv
    · exact .inl hs
    · exact visL_names cs x [] b bd hS v hv s hs
theorem visL_names : ∀ (cs : List Tm) (x : Nd) (l : List Tm) (b : Nat) (bd : List Str), Seg e b (.mk x (l ++ cs)) -> ∀ v ∈ visL (b + sizes l) bd (nd x b (l ++ cs)) l.length cs, ∀ s ∈ v.2, s ∈ bd \/ ∃ n ∈ e, s ∈ n.names
  | [], x, l, b, bd, hS, v, hv, s, hs => by rw [visL] at hv; cases hv
  | c :: cs, x, l, b, bd, hS, v, hv, s, hs => by
    have hn := hS.node; rw [visL_cons, List.mem_append] at hv; rcases hv with hv | hv
    · rcases vis_names c _ _ hS.kid v hv s hs with h | h
      · rcases List.mem_append.1 h with h | h
        · exact .inl h
        · exact .inr ⟨_, List.mem_of_getElem? hn, bindF_mem h⟩
      · exact .inr h
    · have e1 : l ++ c :: cs = (l ++ [c]) ++ cs := by simp
      have e2 : l.length + 1 = (l ++ [c]).length := by simp
      have e3 : b + sizes l + c.size = b + sizes (l ++ [c]) := by rw [sizes_append, sizes_one]; omega
      rw [e1, e2, e3] at hv; rw [e1] at hS; exact visL_names cs x (l ++ [c]) b bd hS v hv s hs
end
end
def hitB (e : List Nd) (frm : Str) (v : Nat × List Str) : Bool := match e[v.1]? with
  | some n => namedB n && decide (n.text = frm) && !decide (frm ∈ v.2)
  | none => false
def reT (to_ : Str) (n : Nd) : Nd := { n with text := to_ }
def renL (e : List Nd) (frm to_ : Str) : List (Nat × List Str) -> List Nd -> List Nd
  | [], a => a
  | v :: l, a => renL e frm to_ l (if hitB e frm v = true then a.modify v.1 (reT to_) else a)
theorem set_modify {a : List Nd} {i : Nat} {m : Nd} (h : a[i]? = some m) (to_ : Str) : a.set i { m with text := to_ } = a.modify i (reT to_) := by
  refine List.ext_getElem? fun j => ?_; rw [List.getElem?_set, List.getElem?_modify]; have hlt := (List.getElem?_eq_some_iff.1 h).1; by_cases hj : i = j
  · subst hj; rw [if_pos rfl, if_pos hlt, h]; simp [reT]
  · rw [if_neg hj]; simp [hj]
theorem run_ren {e : List Nd} (frm to_ : Str) : ∀ (l : List (Nat × List Str)) (a : List Nd) (d : Bool), a.length = e.length -> (∀ v ∈ l, v.2.length <= 10000 /\ v.1 < e.length) -> Ev (fun k => runV (renStep k e frm to_) l (a, d)) (renL e frm to_ l a, d || l.any fun v => hitB e frm v && decide (to_ ∈ v.2))
  | [], a, d, ha, h => Ev.some' (by simp [renL])
  | v :: l, a, d, ha, h => by
    obtain ⟨h1, h2⟩ := h v List.mem_cons_self; have hh : hitB e frm v = (namedB e[v.1] && decide (e[v.1].text = frm) && !decide (frm ∈ v.2)) := by unfold hitB; rw [getE h2]
    have hv2 : v.1 < a.length := by omega
    simp only [runV]; refine Ev.bind (x := (if hitB e frm v = true then a.modify v.1 (reT to_) else a, d || (hitB e frm v && decide (to_ ∈ v.2)))) ?_ ?_
    · unfold renStep; simp only [nn, if_true, Int.toNat_natCast, getE h2, Option.bind_some]; refine Ev.bind (t_isNamed_ev _) ?_; cases hn : namedB e[v.1] with
      | false => rw [hh, hn]; exact Ev.cF rfl (Ev.some' (by simp))
      | true =>
        by_cases ht : e[v.1].text = frm
        · refine Ev.cT (by simp [ht]) (Ev.bind (g_Contains_ev _ _ (by omega)) ?_); by_cases hf : frm ∈ v.2
          · rw [hh]; exact Ev.cT (decide_eq_true hf) (Ev.some' (by simp [hf]))
          · have hhit : hitB e frm v = true := by rw [hh, hn]; simp [ht, hf]
            refine Ev.cF (decide_eq_false hf) ?_; simp only [getE hv2, Option.bind_some, hhit, if_true, Bool.true_and]; rw [set_modify (getE hv2)]; cases d with
            | true => exact Ev.cT rfl (Ev.some' rfl)
            | false => exact Ev.cF rfl (Ev.bind (g_Contains_ev _ _ (by omega)) (Ev.some' rfl))
        · rw [hh, hn]; exact Ev.cF (by simp [ht]) (Ev.some' (by simp [ht]))
    · refine (run_ren frm to_ l _ _ ?_ (fun w hw => h w (List.mem_cons_of_mem _ hw))).to ?_
      · split
        · rw [List.length_modify]; exact ha
        · exact ha
      · rw [renL, List.any_cons, Bool.or_assoc]
theorem renL_len (e : List Nd) (frm to_ : Str) : ∀ (l : List (Nat × List Str)) (a : List Nd), (renL e frm to_ l a).length = a.length
  | [], a => rfl
  | v :: l, a => by rw [renL, renL_len e frm to_ l]; split <;> simp
theorem renL_get (e : List Nd) (frm to_ : Str) : ∀ (l : List (Nat × List Str)) (a : List Nd) (i : Nat), (renL e frm to_ l a)[i]? = if (l.any fun v => hitB e frm v && decide (v.1 = i)) = true then a[i]?.map (reT to_) else a[i]?
  | [], a, i => by simp [renL]
  | v :: l, a, i => by
    rw [renL, renL_get e frm to_ l, List.any_cons]; by_cases h1 : hitB e frm v = true
    · rw [if_pos h1, List.getElem?_modify, h1]; by_cases h2 : v.1 = i
      · subst h2; simp only [if_true, decide_true, Bool.true_and, Bool.true_or]; cases a[v.1]? with
        | none => simp
        | some m => split <;> simp [reT]
      · simp only [h2, if_false, decide_false, Bool.and_false, Bool.false_or]; cases a[i]? <;> simp
    · have h2 : hitB e frm v = false := by simpa using h1
      rw [if_neg h1, h2, Bool.false_and, Bool.false_or]
end Go.VL
end
section
namespace Go.VL
open Tm
structure Vis (e : List Nd) (vs : List (Nat × List Str)) : Prop where
  walk : ∀ (α : Type) (step : α -> Int -> List Str -> Option α) (k : Nat) (a : α), 1000 <= k -> walkF step e k (IntKind.wrap .i64 ((e.length : Int) - 1)) [] a = runV step vs a
  bd : ∀ v ∈ vs, Ev (fun k => r_BoundAt k e (v.1 : Int)) v.2 /\ v.2.length <= 10000 /\ v.1 < e.length
  all : ∀ i < e.length, ∃ q, (i, q) ∈ vs
  nm : ∀ v ∈ vs, ∀ s ∈ v.2, ∃ n ∈ e, s ∈ n.names
  len : vs.length = e.length
  pos : 0 < e.length
theorem vs_of {e : List Nd} (hV : Valid e) (hL : Lite e) (hF : Fine e) : ∃ vs, Vis e vs := by
  obtain ⟨t, he⟩ := hV.tree; have hlen := hF.len; have hs := t.size_pos; have hsz : e.length = t.size := by rw [he, flat_len]
  have hS : Seg e 0 t := by rw [he]; exact Seg.whole t
  have hw : IntKind.wrap .i64 ((e.length : Int) - 1) = ((0 + t.size - 1 : Nat) : Int) := by rw [wrap64 (by omega) (by omega)]; omega
  refine ⟨vis 0 [] t, fun α step k a hk => ?_, ?_, fun i hi => vis_all t 0 [] i (Nat.zero_le _) (by omega), fun v hv s hs => ?_, by rw [vis_len, hsz], by omega⟩
  · rw [hw]; exact walk_vis hF step t 0 [] k a hS (by omega) (by simp only [List.length_nil]; omega)
  · refine bound_vis he hL hF t 0 [] hS ?_ (by simp only [List.length_nil]; omega); rw [Nat.zero_add]; exact up_root he hL hF
  · rcases vis_names t 0 [] hS v hv s hs with h | h
    · cases h
    · exact h
theorem Vis.uniq {e a : List Nd} {vs vs' : List (Nat × List Str)} (h : Vis e vs) (h' : Vis a vs') (hs : e.map sk = a.map sk) {i : Nat} {q q' : List Str} (hq : (i, q) ∈ vs) (hq' : (i, q') ∈ vs') : q = q' := by
  have h1 := (h.bd _ hq).1; have h2 := (h'.bd _ hq').1; simp only at h1 h2; exact (h1.cg fun k => (r_BoundAt_sk hs k _).symm).uniq h2
theorem Vis.both {e a : List Nd} {vs vs' : List (Nat × List Str)} (h : Vis e vs) (h' : Vis a vs') (hs : e.map sk = a.map sk) {v : Nat × List Str} (hv : v ∈ vs) : v ∈ vs' := by
  obtain ⟨i, q⟩ := v; have hi := (h.bd _ hv).2.2; simp only at hi; obtain ⟨q', hq'⟩ := h'.all i (by rw [<- len_sk hs]; exact hi); rw [h.uniq h' hs hv hq']; exact hq'
theorem Vis.any {e : List Nd} {vs : List (Nat × List Str)} (h : Vis e vs) {i : Nat} {q : List Str} (hq : (i, q) ∈ vs) (p : Nat × List Str -> Bool) : (vs.any fun v => p v && decide (v.1 = i)) = p (i, q) := by
  cases hp : p (i, q) with
  | true => exact List.any_eq_true.2 ⟨_, hq, by simp [hp]⟩
  | false =>
    rw [List.any_eq_false]; rintro ⟨j, q'⟩ hv; by_cases hj : j = i
    · subst hj; rw [h.uniq h rfl hv hq, hp]; simp
    · simp [hj]
theorem setS_len (l : List Str) : (setS l).length <= l.length := by
  have hsl : ∀ (l a : List Str), (l.foldl (fun a s => putS s a) a).length <= a.length + l.length := by
    intro l
    induction l with
    | nil => intro a; exact Nat.le_refl _
    | cons s l ih =>
      intro a; rw [List.foldl_cons]; have := ih (putS s a); have := putS_len s a; simp only [List.length_cons]; omega
  have := hsl l []; rw [List.length_nil, Nat.zero_add] at this; exact this
theorem free_vs {e : List Nd} {vs : List (Nat × List Str)} (h : Vis e vs) (hF : Fine e) : Ev (fun k => t_free k e) (setS (vs.filterMap (freeF e))) := by
  have hl := hF.len; have hlen := h.len; have hfr := run_free (e := e) vs [] (fun v hv => (h.bd v hv).2) (by simp only [List.length_nil]; omega); rw [List.nil_append] at hfr; have hfl : (vs.filterMap (freeF e)).length <= 170 := Nat.le_trans (List.length_filterMap_le _ _) (by omega); unfold t_free; refine Ev.bind (x := vs.filterMap (freeF e)) ?_ (Ev.ifp (by omega) Ev.some); obtain ⟨K, hK⟩ := hfr; exact ⟨max K 1000, fun k hk => (h.walk _ _ k _ (by omega)).trans (hK k (by omega))⟩
theorem ownOk_of {e : List Nd} (hL : Lite e) (hp : 0 < e.length) : ownOk e = true := by
  unfold ownOk; simp only [Bool.and_eq_true, decide_eq_true_eq, List.all_eq_true]; refine ⟨⟨hp, hL.len⟩, fun n hn => ?_⟩; obtain ⟨i, hi⟩ := List.getElem?_of_mem hn; exact ⟨(hL.nd i n hi).2.1, (hL.nd i n hi).2.2⟩
theorem t_Renamed_ev {e : List Nd} {vs : List (Nat × List Str)} (h : Vis e vs) (hL : Lite e) (herr : Ev (fun k => t_exprErr k e) 0) {frm to_ : Str} (h1 : rName frm = true) (h2 : rName to_ = true) :
    Ev (fun k => t_Renamed k e frm to_) (if (vs.any fun v => hitB e frm v && decide (to_ ∈ v.2)) = true then ([], 19) else (renL e frm to_ vs e, 0)) := by
  have hr := run_ren frm to_ vs e false rfl (fun v hv => (h.bd v hv).2); rw [Bool.false_or] at hr; unfold t_Renamed; refine Ev.bind herr (Ev.bind (x := false) ?_ ?_)
  · unfold t_names2; exact Ev.bind (t_isName_ev frm) (Ev.cT h1 (Ev.bind (t_isName_ev to_) (Ev.some' (by rw [h2]; rfl))))
  · simp only [t_wrong_eq, Option.bind_some]; refine Ev.bind (g_Or_ev _ (by simp)) ?_; refine Ev.cF (by rfl) (Ev.ifp (ownOk_of hL h.pos) (Ev.bind (x := (renL e frm to_ vs e, vs.any fun v => hitB e frm v && decide (to_ ∈ v.2))) ?_ ?_))
    · obtain ⟨K, hK⟩ := hr; exact ⟨max K 1000, fun k hk => (h.walk _ _ k _ (by omega)).trans (hK k (by omega))⟩
    · cases (vs.any fun v => hitB e frm v && decide (to_ ∈ v.2))
      · exact Ev.cF rfl Ev.some
      · exact Ev.cT rfl Ev.some
theorem name_bang {s : Str} (h : rName s = true) : bang s = none := by
  have hc : ∀ c ∈ s, c ≠ 33 := by
    intro c hc e; subst e; unfold rName bName at h; simp only [Bool.and_eq_true, List.all_eq_true] at h; have := h.1.1.1.2 33 hc; revert this; decide
  clear h
  induction s with
  | nil => rfl
  | cons c s ih =>
    rw [bang, if_neg (hc c List.mem_cons_self), ih fun c' h' => hc c' (List.mem_cons_of_mem _ h')]; rfl
theorem name_term {s : Str} (h : rName s = true) : rTerm s = true := by unfold rTerm; rw [name_bang h]; exact h
theorem name_fx {s : Str} (h : rName s = true) : isFx s = false := by
  unfold rName at h; simp only [Bool.and_eq_true, Bool.not_eq_true'] at h; exact h.1.2
theorem name_op {s : Str} (h : rName s = true) : (opIn tabR s).2 = false := by
  cases ho : (opIn tabR s).2 with
  | false => rfl
  | true => have := ops_no_terms s ho; rw [name_term h] at this; cases this
theorem named_kinds {n : Nd} (h : namedB n = true) : (n.kind = 2 /\ isFx n.text = false) \/ (n.kind = 3 /\ (opIn tabR n.text).2 = false) := by
  unfold namedB at h; simp only [Bool.or_eq_true, Bool.and_eq_true, decide_eq_true_eq, Bool.not_eq_true'] at h; exact h
theorem named_reT {n : Nd} {s : Str} (h : namedB n = true) (hs : rName s = true) : namedB (reT s n) = true := by
  have hf := name_fx hs; have ho := name_op hs; unfold namedB; rcases named_kinds h with ⟨h1, _⟩ | ⟨h1, _⟩ <;> simp [reT, h1, hf, ho]
theorem spec_reT {n : Nd} {s : Str} (h : namedB n = true) (hs : rName s = true) (h0 : nodeSpec true n = 0) : nodeSpec true (reT s n) = 0 := by
  have ht := name_term hs; have ho := name_op hs; unfold nodeSpec at h0
  split at h0; · cases h0
  rename_i c1
  split at h0; · cases h0
  rename_i c2
  split at h0; · cases h0
  rename_i c3
  split at h0; · cases h0
  rename_i c4; split at h0
  · rename_i c5; exact absurd h0 c5
  rename_i c5
  split at h0; · cases h0
  rename_i c6; have hsh : shapeOk (reT s n) = shapeOk n := by
    unfold shapeOk; rcases named_kinds h with ⟨h1, _⟩ | ⟨h1, h2⟩
    · simp [reT, h1]
    · simp [reT, h1, h2, ho]
  have hcl : cleanB (reT s n) = cleanB n := by
    unfold cleanB; rcases named_kinds h with ⟨h1, _⟩ | ⟨h1, h2⟩ <;> simp [reT, h1]
  have hne : nameErr (reT s n) = 0 := by
    have c5 : nameErr n = 0 := by omega
    unfold nameErr at c5 ⊢
    split at c5; · cases c5
    rename_i d1; have d1 : ¬ ((reT s n).names.all rName) = false := d1; rw [if_neg d1]; rcases named_kinds h with ⟨h1, _⟩ | ⟨h1, h2⟩
    · simp [reT, h1, ht]
    · simp [reT, h1, ht, ho]
  unfold nodeSpec; rw [if_neg (show ¬ inB (reT s n).kind 0 28 = false from c1), hsh, if_neg c2, hcl, if_neg c3, if_neg (show ¬ (decide ((reT s n).kind = 0) && !inB (reT s n).n 0 10000) = true from c4), if_neg (by rw [hne]; simp), if_neg (show ¬ dupB [] (reT s n).names = true from c6)]
end Go.VL
end
section
set_option maxRecDepth 8000
set_option maxHeartbeats 4000000
namespace Go.VL
open Go.Proofs
def l_TreeBack_p0 (k : Nat) (e_0 : List Nd) (from_1 : Str) (to_2 : Str) (t_21 : Bool) : Option Bool :=
  cond t_21 (some (true)) (cond (decide ((from_1.length : Int) > 100)) (some (true)) (cond (decide ((to_2.length : Int) > 100)) (some (true)) (Option.bind (r_Err k e_0) fun p7 => cond (p7 != 0) (some (true)) (Option.bind (r_IsName k from_1) fun p10 => cond p10 (Option.bind (r_IsName k to_2) fun p13 => cond p13 (some ((from_1 == to_2))) (some (true))) (some (true))))))
def l_TreeBack_p0l : List Nat := List.range' 22 29
theorem l_TreeBack_p0_W (k : Nat) : ∀ (e_0 : List Nd) (from_1 : Str) (to_2 : Str) (t_21 : Bool) (σ0 σ : Nat -> PV) (H : AH) (f0 : Fr l_TreeBack_p0l σ0 σ) (sl : σ 0 = (.isl (e_0.map Nd.cells) .unk) /\ σ 1 = (.str from_1) /\ σ 2 = (.str to_2) /\ σ 21 = (.bool t_21)) (o : Bool) (h : l_TreeBack_p0 k e_0 from_1 to_2 t_21 = some o) (Q : Post) (q0 : ∀ (p : Bool) (σ' : Nat -> PV), o = p -> Fr l_TreeBack_p0l σ0 σ' -> (σ' 50 = (.bool p)) -> Q .normal σ' H) , WOps Tryz.prog ac8_p0 (Q .normal) σ H := by
  intro e_0 from_1 to_2 t_21 σ0 σ H f0 sl o h Q q0; obtain ⟨s0, s1, s2, s21⟩ := sl; unfold l_TreeBack_p0 at h; refine WO_start ?_; unfold ac8_p0; rcases cond_E h with ⟨e3, h⟩ | ⟨e3, h⟩
  ·obtain rfl := som_E h; try refine gos_ ?_
   exact q0 _ _ rfl fr_ sls_
  ·rcases cond_E h with ⟨e4, h⟩ | ⟨e4, h⟩
   ·obtain rfl := som_E h; try refine gos_ ?_
    exact q0 _ _ rfl fr_ sls_
   ·rcases cond_E h with ⟨e5, h⟩ | ⟨e5, h⟩
    ·obtain rfl := som_E h; try refine gos_ ?_
     exact q0 _ _ rfl fr_ sls_
    ·obtain ⟨p7, e6, h⟩ := bind_E h; try refine gos_ ?_
     refine mcall_pure (r_Err_c e6) ?_; rcases cond_E h with ⟨e8, h⟩ | ⟨e8, h⟩
     ·obtain rfl := som_E h; try refine gos_ ?_
      exact q0 _ _ rfl fr_ sls_
     ·obtain ⟨p10, e9, h⟩ := bind_E h; try refine gos_ ?_
      refine mcall_pure (r_IsName_c e9) ?_; rcases cond_E h with ⟨e11, h⟩ | ⟨e11, h⟩
      ·obtain ⟨p13, e12, h⟩ := bind_E h; try refine gos_ ?_
       refine mcall_pure (r_IsName_c e12) ?_; rcases cond_E h with ⟨e14, h⟩ | ⟨e14, h⟩
       ·obtain rfl := som_E h; try refine gos_ ?_
        exact q0 _ _ rfl fr_ sls_
       ·obtain rfl := som_E h; try refine gos_ ?_
        exact q0 _ _ rfl fr_ sls_
      ·obtain rfl := som_E h; try refine gos_ ?_
       exact q0 _ _ rfl fr_ sls_
def l_TreeBack_b0 : Nat -> (List Nd) -> Str -> Int -> Option (Unit ⊕ Bool)
  | 0, _, _, _ => none
  | k + 1, e_0, to_2, i_7 =>
    cond (decide (i_7 < (e_0.length : Int))) (if 0 <= i_7 then Option.bind (e_0[i_7.toNat]?) fun x28 => cond (x28.text == to_2) (some (.inr (true))) (Option.bind (b_Contains k x28.names to_2) fun p32 => cond p32 (some (.inr (true))) (l_TreeBack_b0 k e_0 to_2 (IntKind.wrap .i64 (i_7 + 1)))) else none) (some (.inl ()))
def l_TreeBack_b0l : List Nat := [6, 7] ++ List.range' 51 22
theorem l_TreeBack_b0_W : ∀ (k : Nat) (e_0 : List Nd) (to_2 : Str) (i_7 : Int) (σ0 σ : Nat -> PV) (H : AH) (f0 : Fr l_TreeBack_b0l σ0 σ) (sl : σ 0 = (.isl (e_0.map Nd.cells) .unk) /\ σ 2 = (.str to_2) /\ σ 7 = (.int .i64 i_7)) (o : Unit ⊕ Bool) (h : l_TreeBack_b0 k e_0 to_2 i_7 = some o) (Q : Post) (q0 : ∀ (p : Unit) (σ' : Nat -> PV), o = .inl p -> Fr l_TreeBack_b0l σ0 σ' -> Q (.exit 0) σ' H) (q1 : ∀ (p : Bool) (σ' : Nat -> PV), o = .inr (p) -> Fr l_TreeBack_b0l σ0 σ' -> (σ' 6 = (.bool p)) -> Q .ret σ' H) , W Tryz.prog (.loop ac8_b0) Q σ H := by
  intro k
  induction k with
  | zero => intro e_0 to_2 i_7 σ0 σ H f0 sl o h Q q0 q1; simp only [l_TreeBack_b0, reduceCtorEq] at h
  | succ k ih =>
    intro e_0 to_2 i_7 σ0 σ H f0 sl o h Q q0 q1; obtain ⟨s0, s2, s7⟩ := sl; unfold l_TreeBack_b0 at h; refine W_loopK (fun K hK => W_start ?_); unfold ac8_b0; rcases cond_E h with ⟨e26, h⟩ | ⟨e26, h⟩
    ·obtain ⟨e27, h⟩ := if_E h; obtain ⟨x28, e29, h⟩ := bind_E h; rcases cond_E h with ⟨e30, h⟩ | ⟨e30, h⟩
     ·obtain rfl := som_E h; try refine gos_ ?_
      exact q1 _ _ rfl fr_ sls_
     ·obtain ⟨p32, e31, h⟩ := bind_E h; try refine gos_ ?_
      refine mcall_pure (b_Contains_c e31) ?_; rcases cond_E h with ⟨e33, h⟩ | ⟨e33, h⟩
      ·obtain rfl := som_E h; try refine gos_ ?_
       exact q1 _ _ rfl fr_ sls_
      ·try refine gos_ ?_
       refine hK _ _ ?_; exact ih e_0 to_2 (IntKind.wrap .i64 (i_7 + 1)) _ _ _ fr_ sls_ _ h _ q0 q1
    ·obtain rfl := som_E h; try refine gos_ ?_
     exact q0 _ _ rfl fr_
def l_TreeBack (k : Nat) (e_0 : List Nd) (from_1 : Str) (to_2 : Str) : Option Bool :=
  Option.bind (l_Few k e_0) fun p2 => Option.bind (l_TreeBack_p0 k e_0 from_1 to_2 (!p2)) (fun p17 => cond p17 (some true) (Option.bind (l_TreeBack_b0 k e_0 to_2 0) (fun o => Sum.elim (fun p36 => Option.bind (b_OwnExpr k e_0) fun p44 => Option.bind (t_Renamed k p44 from_1 to_2) fun p46 => cond (p46.2 != 0) (some false) (Option.bind (b_OwnExpr k p46.1) fun p49 => Option.bind (t_Renamed k p49 to_2 from_1) fun p51 => Option.bind (t_FreeIn k p44) fun p55 => Option.bind (t_FreeIn k p49) fun p59 => cond (p51.2 == 0) (Option.bind (b_SameExpr k p51.1 e_0) fun p62 => cond p62 (cond (p55.2 == 0) (cond (p59.2 == 0) (Option.bind (b_Contains k p59.1 from_1) fun p67 => cond p67 (some false) (Option.bind (b_Contains k p55.1 from_1) fun p70 => Option.bind (b_Contains k p59.1 to_2) fun p72 => cond (p70 == p72) (some ((p55.1.length : Int) == (p59.1.length : Int))) (some false))) (some false)) (some false)) (some false)) (some false))) (fun p74 => some p74) o)))
theorem l_TreeBack_c {k : Nat} {e_0 : List Nd} {from_1 : Str} {to_2 : Str} {c0 : Ck} {r : Bool} (h : l_TreeBack k e_0 from_1 to_2 = some r) : PCall Tryz.prog 8 [(.isl (e_0.map Nd.cells) c0), (.str from_1), (.str to_2)] (.bool r) := by
  refine PCall.lw (.isl (.same (.same .nil))) (PCall.of_empty (PuL.mem (.cons (pu_sl Nd.pu _) (.cons (.str _) (.cons (.str _) .nil)))) (MCall_of_W ok8 (by simp) (W_start ?_)) (.bool _)); unfold l_TreeBack at h; unfold ac8; try refine gos_ ?_
  refine mcall_pure (awake_c ) ?_; obtain ⟨p2, e1, h⟩ := bind_E h; try refine gos_ ?_
  refine mcall_pure (l_Few_c e1) ?_; try refine gos_ ?_
  obtain ⟨o15, h16, h⟩ := bind_E h; refine l_TreeBack_p0_W k e_0 from_1 to_2 (!p2) _ _ _ (Fr.refl _ _) sls_ _ h16 _ ?_
  ·rintro p17 σ' eo fr18 s21; rw [eo] at h; have s22 : σ' 0 = (.isl (e_0.map Nd.cells) .unk) := (fr18 0 (by decide)).trans sls_; have s23 : σ' 1 = (.str from_1) := (fr18 1 (by decide)).trans sls_; have s24 : σ' 2 = (.str to_2) := (fr18 2 (by decide)).trans sls_; rcases cond_E h with ⟨e25, h⟩ | ⟨e25, h⟩
   ·obtain rfl := som_E h; try refine gos_ ?_
    exact (.pure _ (.bool _))
   ·try refine gos_ ?_
    obtain ⟨o34, h35, h⟩ := bind_E h; refine l_TreeBack_b0_W k e_0 to_2 0 _ _ _ (Fr.refl _ _) sls_ _ h35 _ ?_ ?_
    ·rintro p36 σ' eo fr37; subst eo; rw [sum_L] at h; have s40 : σ' 0 = (.isl (e_0.map Nd.cells) .unk) := (fr37 0 (by decide)).trans sls_; have s41 : σ' 1 = (.str from_1) := (fr37 1 (by decide)).trans sls_; have s42 : σ' 2 = (.str to_2) := (fr37 2 (by decide)).trans sls_; obtain ⟨p44, e43, h⟩ := bind_E h; try refine gos_ ?_
     refine mcall_pure (b_OwnExpr_c e43) ?_; obtain ⟨p46, e45, h⟩ := bind_E h; try refine gos_ ?_
     refine mcall_pure (t_Renamed_c k p44 from_1 to_2 e45) ?_; rcases cond_E h with ⟨e47, h⟩ | ⟨e47, h⟩
     ·obtain rfl := som_E h; try refine gos_ ?_
      exact (.pure _ (.bool _))
     ·obtain ⟨p49, e48, h⟩ := bind_E h; try refine gos_ ?_
      refine mcall_pure (b_OwnExpr_c e48) ?_; obtain ⟨p51, e50, h⟩ := bind_E h; try refine gos_ ?_
      refine mcall_pure (t_Renamed_c k p49 to_2 from_1 e50) ?_; try refine gos_ ?_
      refine mcall_pure (b_OwnExpr_c e43) ?_; obtain ⟨p55, e54, h⟩ := bind_E h; try refine gos_ ?_
      refine mcall_pure (t_FreeIn_c e54) ?_; try refine gos_ ?_
      refine mcall_pure (b_OwnExpr_c e48) ?_; obtain ⟨p59, e58, h⟩ := bind_E h; try refine gos_ ?_
      refine mcall_pure (t_FreeIn_c e58) ?_; rcases cond_E h with ⟨e60, h⟩ | ⟨e60, h⟩
      ·obtain ⟨p62, e61, h⟩ := bind_E h; try refine gos_ ?_
       refine mcall_pure (b_SameExpr_c e61) ?_; rcases cond_E h with ⟨e63, h⟩ | ⟨e63, h⟩
       ·rcases cond_E h with ⟨e64, h⟩ | ⟨e64, h⟩
        ·rcases cond_E h with ⟨e65, h⟩ | ⟨e65, h⟩
         ·obtain ⟨p67, e66, h⟩ := bind_E h; try refine gos_ ?_
          refine mcall_pure (b_Contains_c e66) ?_; rcases cond_E h with ⟨e68, h⟩ | ⟨e68, h⟩
          ·obtain rfl := som_E h; try refine gos_ ?_
           exact (.pure _ (.bool _))
          ·obtain ⟨p70, e69, h⟩ := bind_E h; try refine gos_ ?_
           refine mcall_pure (b_Contains_c e69) ?_; obtain ⟨p72, e71, h⟩ := bind_E h; try refine gos_ ?_
           refine mcall_pure (b_Contains_c e71) ?_; rcases cond_E h with ⟨e73, h⟩ | ⟨e73, h⟩
           ·obtain rfl := som_E h; try refine gos_ ?_
            exact (.pure _ (.bool _))
           ·obtain rfl := som_E h; try refine gos_ ?_
            exact (.pure _ (.bool _))
         ·obtain rfl := som_E h; try refine gos_ ?_
          exact (.pure _ (.bool _))
        ·obtain rfl := som_E h; try refine gos_ ?_
         exact (.pure _ (.bool _))
       ·obtain rfl := som_E h; try refine gos_ ?_
        exact (.pure _ (.bool _))
      ·obtain rfl := som_E h; try refine gos_ ?_
       exact (.pure _ (.bool _))
    ·rintro p74 σ' eo fr75 s78; subst eo; rw [sum_R] at h; obtain rfl := som_E h; try refine gos_ ?_
     exact (.pure _ (.bool _))
end Go.VL
end
