/- Three values and traces, as data. -/
import Derived.Test.YtjbfplfopagpjaaA20
import Derived.Test.YtjbfplfopagpjaaB2
namespace Go.Vd
open Go.Proofs

abbrev slU (xs : List Int) : V := .sl (xs.map encU)
abbrev encUs (xs : List Int) : List V := [slU xs]
abbrev slUU (xs : List (List Int)) : V := .sl (xs.map encUs)
theorem el_72 (xs : List Int) : elOk 1 (xs.map encU) := el_5 xs
theorem el_70 (xs : List (List Int)) : elOk 1 (xs.map encUs) := elOk.map (enc := encUs) (fun _ => ⟨rfl, rfl⟩) xs

structure Trace where
  bad : Int
  ini : List Int
  ins : List (List Int)
  deriving Inhabited, DecidableEq
abbrev encT (t : Trace) : List V := [.int .i64 t.bad, slU t.ini, slUU t.ins]
abbrev trV (t : Trace) : V := .agg (encT t)

/-- Two rows, place by place. -/
def pairs {α β : Type} (p : α → β → Bool) : List α → List β → Bool
  | [], [] => true
  | x :: xs, y :: ys => p x y && pairs p xs ys
  | _, _ => false
theorem pairs_iff {α β : Type} [Inhabited α] [Inhabited β] (p : α → β → Bool) : ∀ (xs : List α) (ys : List β), pairs p xs ys = true ↔ xs.length = ys.length ∧ ∀ j, j < xs.length → p (xs.getD j default) (ys.getD j default) = true
  | [], [] => by simp [pairs]
  | x :: xs, y :: ys => by
    simp only [pairs, Bool.and_eq_true, pairs_iff p xs ys, List.length_cons, Nat.add_right_cancel_iff]
    constructor
    · rintro ⟨h1, h2, h3⟩
      refine ⟨h2, fun j hj => ?_⟩
      cases j with
      | zero => exact h1
      | succ j => exact h3 j (by omega)
    · rintro ⟨h1, h2⟩
      exact ⟨h2 0 (by omega), h1, fun j hj => h2 (j + 1) (by omega)⟩
  | [], y :: ys => by simp [pairs]
  | x :: xs, [] => by simp [pairs]
theorem pairs_len {α β : Type} [Inhabited α] [Inhabited β] {p : α → β → Bool} {xs : List α} {ys : List β} (h : ¬ xs.length = ys.length) : pairs p xs ys = false := by
  cases hb : pairs p xs ys with
  | false => rfl
  | true => exact absurd ((pairs_iff p xs ys).1 hb).1 h
theorem pairs_at {α β : Type} [Inhabited α] [Inhabited β] {p : α → β → Bool} {xs : List α} {ys : List β} {j : Nat} (hj : j < xs.length) (h : p (xs.getD j default) (ys.getD j default) = false) : pairs p xs ys = false := by
  cases hb : pairs p xs ys with
  | false => rfl
  | true => rw [((pairs_iff p xs ys).1 hb).2 j hj] at h; cases h
theorem pairs_of {α β : Type} [Inhabited α] [Inhabited β] {p : α → β → Bool} {xs : List α} {ys : List β} (hl : xs.length = ys.length) (h : ∀ j, j < xs.length → p (xs.getD j default) (ys.getD j default) = true) : pairs p xs ys = true := (pairs_iff p xs ys).2 ⟨hl, h⟩
theorem any_of {α : Type} [Inhabited α] {p : α → Bool} {xs : List α} {j : Nat} (hj : j < xs.length) (h : p (xs.getD j default) = true) : xs.any p = true :=
  List.any_eq_true.2 ⟨_, getD_mem hj, h⟩
theorem any_no {α : Type} [Inhabited α] {p : α → Bool} {xs : List α} (h : ∀ j, j < xs.length → p (xs.getD j default) = false) : xs.any p = false := by
  cases hb : xs.any p with
  | false => rfl
  | true =>
    obtain ⟨x, hx, hp⟩ := List.any_eq_true.1 hb
    obtain ⟨j, hj, rfl⟩ := List.getElem_of_mem hx
    have := h j hj
    rw [List.getD_eq_getElem?_getD, List.getElem?_eq_getElem hj] at this
    rw [Option.getD_some, hp] at this; cases this
end Go.Vd
