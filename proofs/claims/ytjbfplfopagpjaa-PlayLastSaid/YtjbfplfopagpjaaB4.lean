/- TernBelow, TernBelows: as the program tells them. -/
import Derived.Test.YtjbfplfopagpjaaB3
namespace Go.Vd
open Go.Proofs

theorem pairs_append {α β : Type} {p : α → β → Bool} : ∀ {xs : List α} {ys : List β} {xs' : List α} {ys' : List β}, pairs p xs ys = true → pairs p xs' ys' = true → pairs p (xs ++ xs') (ys ++ ys') = true
  | [], [], _, _, _, h => h
  | x :: xs, y :: ys, _, _, h, h' => by
    simp only [pairs, Bool.and_eq_true] at h
    simp only [List.cons_append, pairs, Bool.and_eq_true]
    exact ⟨h.1, pairs_append h.2 h'⟩
  | [], _ :: _, _, _, h, _ => by simp [pairs] at h
  | _ :: _, [], _, _, h, _ => by simp [pairs] at h
theorem pairs_same {α β : Type} {p : α → β → Bool} : ∀ {xs : List α} {ys : List β}, pairs p xs ys = true → xs.length = ys.length
  | [], [], _ => rfl
  | x :: xs, y :: ys, h => by
    simp only [pairs, Bool.and_eq_true] at h
    simp [pairs_same h.2]
  | [], _ :: _, h => by simp [pairs] at h
  | _ :: _, [], h => by simp [pairs] at h
theorem pairs_map {α β γ : Type} {p : α → β → Bool} {f : γ → α} {g : γ → β} : ∀ {ls : List γ}, (∀ l, l ∈ ls → p (f l) (g l) = true) → pairs p (ls.map f) (ls.map g) = true
  | [], _ => rfl
  | l :: ls, h => by
    simp only [List.map_cons, pairs, Bool.and_eq_true]
    exact ⟨h l List.mem_cons_self, pairs_map fun x hx => h x (List.mem_cons_of_mem _ hx)⟩
theorem low_iff {x y : Int} : lowT x y = true ↔ x = y ∨ y = 2 := by simp [lowT]
theorem low_refl (x : Int) : lowT x x = true := low_iff.2 (.inl rfl)
theorem low_top (x : Int) : lowT x 2 = true := low_iff.2 (.inr rfl)
theorem low_trans {x y z : Int} (h : lowT x y = true) (h' : lowT y z = true) : lowT x z = true := by
  rw [low_iff] at *; omega
theorem low_not {x y : Int} (h : lowT x y = true) : lowT (notT x) (notT y) = true := by
  rcases low_iff.1 h with rfl | rfl
  · exact low_refl _
  · exact low_top _
theorem low_and {x x' y y' : Int} (h : lowT x x' = true) (h' : lowT y y' = true) : lowT (andT x y) (andT x' y') = true := by
  rw [low_iff] at *
  unfold andT
  rcases h with rfl | rfl <;> rcases h' with rfl | rfl <;> (repeat' split) <;> omega
theorem low_lit {v w : List Int} (h : pairs lowT v w = true) (l : Int) : lowT (litT v l) (litT w l) = true := by
  have hl := pairs_same h
  have hp := ((pairs_iff lowT v w).1 h).2
  unfold litT
  by_cases hc : 0 ≤ l ∧ l / 2 < v.length
  · have hc' : 0 ≤ l ∧ l / 2 < w.length := by omega
    have hj := hp (l / 2).toNat (by omega)
    rw [if_pos hc, if_pos hc']
    split
    · exact low_not hj
    · exact hj
  · have hc' : ¬ (0 ≤ l ∧ l / 2 < w.length) := by omega
    rw [if_neg hc, if_neg hc']; rfl
theorem low_vals : ∀ (gs : List Gate) {v w : List Int}, pairs lowT v w = true → pairs lowT (valsT v gs) (valsT w gs) = true
  | [], _, _, h => h
  | g :: gs, v, w, h => by
    simp only [valsT]
    refine low_vals gs (pairs_append h ?_)
    simp only [pairs, Bool.and_true]
    exact low_and (low_lit h _) (low_lit h _)
theorem low_step (a : Aig) {v w : List Int} (h : pairs lowT v w = true) :
    pairs lowT (stepTV a v).n (stepTV a w).n = true ∧ pairs lowT (stepTV a v).o (stepTV a w).o = true ∧ pairs lowT (stepTV a v).b (stepTV a w).b = true ∧ pairs lowT (stepTV a v).c (stepTV a w).c = true :=
  ⟨pairs_map fun l _ => low_lit h _, pairs_map fun l _ => low_lit h _, pairs_map fun l _ => low_lit h _, pairs_map fun l _ => low_lit h _⟩
theorem low_valsTV {a : Aig} {st st' inp inp' : List Int} (h : pairs lowT st st' = true) (h' : pairs lowT inp inp' = true) : pairs lowT (valsTV a st inp) (valsTV a st' inp') = true := by
  refine low_vals _ ?_
  simp only [pairs, Bool.and_eq_true]
  exact ⟨low_refl _, pairs_append h' h⟩
theorem stepT_low {a : Aig} {st st' inp inp' : List Int} (hs : shapeT a st inp) (hs' : shapeT a st' inp') (h : pairs lowT st st' = true) (h' : pairs lowT inp inp' = true) :
    pairs lowT (stepT a st inp).n (stepT a st' inp').n = true ∧ pairs lowT (stepT a st inp).o (stepT a st' inp').o = true ∧ pairs lowT (stepT a st inp).b (stepT a st' inp').b = true ∧ pairs lowT (stepT a st inp).c (stepT a st' inp').c = true := by
  rw [stepT_ok hs, stepT_ok hs']; exact low_step a (low_valsTV h h')
theorem valuesT_low {a : Aig} {st st' inp inp' : List Int} (hs : shapeT a st inp) (hs' : shapeT a st' inp') (h : pairs lowT st st' = true) (h' : pairs lowT inp inp' = true) : pairs lowT (valuesT a st inp).1 (valuesT a st' inp').1 = true := by
  rw [valuesT_ok hs, valuesT_ok hs']; exact low_valsTV h h'
theorem vt7 {a : Aig} {st inp : List Int} (h : (valuesT a st inp).2 ≠ 0) : (valuesT a st inp).2 = 7 := by
  by_cases hs : shapeT a st inp
  · rw [valuesT_ok hs] at h; exact absurd rfl h
  · rw [valuesT_bad hs]
theorem vt0 {a : Aig} {st inp : List Int} (h : ¬ (valuesT a st inp).2 ≠ 0) : shapeT a st inp := by
  by_cases hs : shapeT a st inp
  · exact hs
  · rw [valuesT_bad hs] at h; exact absurd (by decide) h
theorem stepT_e {a : Aig} {st inp : List Int} : (stepT a st inp).e = (valuesT a st inp).2 := by
  by_cases hs : shapeT a st inp
  · rw [valuesT_ok hs, stepT_ok hs]
  · rw [valuesT_bad hs, stepT_bad hs]
theorem pairs_refl : ∀ (x : List Int), pairs lowT x x = true
  | [] => rfl
  | x :: xs => by simp only [pairs, Bool.and_eq_true]; exact ⟨low_refl x, pairs_refl xs⟩
theorem pairs_trans : ∀ {x y z : List Int}, pairs lowT x y = true → pairs lowT y z = true → pairs lowT x z = true
  | [], [], _, _, h => h
  | x :: xs, y :: ys, [], _, h => by simp [pairs] at h
  | x :: xs, y :: ys, z :: zs, h, h' => by
    simp only [pairs, Bool.and_eq_true] at *
    exact ⟨low_trans h.1 h'.1, pairs_trans h.2 h'.2⟩
  | [], _ :: _, _, h, _ => by simp [pairs] at h
  | _ :: _, [], _, h, _ => by simp [pairs] at h
theorem pairs_anti : ∀ {x y : List Int}, pairs lowT x y = true → pairs lowT y x = true → x = y
  | [], [], _, _ => rfl
  | x :: xs, y :: ys, h, h' => by
    simp only [pairs, Bool.and_eq_true, low_iff] at h h'
    rw [pairs_anti h.2 h'.2, show x = y by omega]
  | [], _ :: _, h, _ => by simp [pairs] at h
  | _ :: _, [], h, _ => by simp [pairs] at h
theorem low_anti1 {x y : List Int} (h : belowT x y = true) : (belowT y x != decide (x = y)) = false := by
  by_cases he : x = y
  · subst he; rw [h]; simp
  · have : belowT y x = false := by
      cases hb : belowT y x with
      | false => rfl
      | true => exact absurd (pairs_anti h hb) he
    rw [this]; simp [he]
theorem low_anti0 {x y : List Int} (h : belowT x y = false) : (false != decide (x = y)) = false := by
  have he : ¬ x = y := fun he => by subst he; rw [show belowT x x = true from pairs_refl x] at h; cases h
  simp [he]
theorem low_all : ∀ (x : List Int), pairs lowT x (x.map fun _ => 2) = true
  | [] => rfl
  | x :: xs => by simp only [List.map_cons, pairs, Bool.and_eq_true]; exact ⟨low_top x, low_all xs⟩
theorem pairs_none : ∀ {x y : List Int}, (x.all fun a => decide (a ≠ 2)) = true → pairs lowT y x = true → x = y
  | [], [], _, _ => rfl
  | x :: xs, y :: ys, h, h' => by
    simp only [List.all_cons, Bool.and_eq_true, decide_eq_true_eq] at h
    simp only [pairs, Bool.and_eq_true, low_iff] at h'
    rw [pairs_none h.2 h'.2, show x = y by omega]
  | [], _ :: _, _, h => by simp [pairs] at h
  | _ :: _, [], _, h => by simp [pairs] at h
theorem low_none {x y : List Int} (h : (x.all fun a => decide (a ≠ 2)) = true) : (belowT y x == decide (x = y)) = true := by
  by_cases he : x = y
  · subst he; rw [show belowT x x = true from pairs_refl x]; simp
  · have : belowT y x = false := by
      cases hb : belowT y x with
      | false => rfl
      | true => exact absurd (pairs_none h hb) he
    rw [this]; simp [he]

end Go.Vd
