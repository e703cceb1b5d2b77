/- TernTells, TernSteps, TernOrder: as the program tells them. -/
import Derived.Test.YtjbfplfopagpjaaC16
namespace Go.Vd
open Go.Proofs

def ex09 : Aig := ⟨2, [], [⟨4, 2⟩], [6, 7], [], [], []⟩
theorem ex09_bd : Bd ex09 := ⟨by decide, by decide, by decide, by decide, by decide, by decide, by decide⟩
theorem nn_of {l : List Int} (h : l.all (fun x => decide (0 ≤ x)) = true) : Nn l := fun x hx => by simpa using List.all_eq_true.1 h x hx
theorem tri_of {l : List Int} (h : l.all (fun x => decide (0 ≤ x) && decide (x ≤ 2)) = true) : TriL l := fun x hx => by simpa [Tri] using List.all_eq_true.1 h x hx
theorem get3U {x y z : List Int} {j : Nat} (h : j < 3) : ([.v (slU x), .v (slU y), .v (slU z)] : List D)[j]? = some (.v (slU ([x, y, z].getD j default))) := by
  rcases j with _ | _ | _ | j
  · rfl
  · rfl
  · rfl
  · omega
theorem le3U {x y z : List Int} {j : Nat} (hx : x.length ≤ 20000) (hy : y.length ≤ 20000) (hz : z.length ≤ 20000) : ([x, y, z].getD j default).length ≤ 9223372036854775807 := by
  rcases j with _ | _ | _ | j
  · simp; omega
  · simp; omega
  · simp; omega
  · simp [default]
theorem valuesT_le {a : Aig} {st inp : List Int} (hb : Bd a) : (valuesT a st inp).1.length ≤ 100000 := by
  by_cases h : shapeT a st inp
  · rw [valuesT_ok h, valsT_len]
    have := h.1.1; have := h.2.1; have := hb.i1; have := hb.l1; have := hb.g1
    simp; omega
  · rw [valuesT_bad h]; simp
theorem stepT_le {a : Aig} {st inp : List Int} (hb : Bd a) : (stepT a st inp).n.length ≤ 20000 ∧ (stepT a st inp).o.length ≤ 20000 ∧ (stepT a st inp).b.length ≤ 20000 ∧ (stepT a st inp).c.length ≤ 20000 := by
  by_cases h : shapeT a st inp
  · rw [stepT_ok h]
    have := hb.l1; have := hb.o1; have := hb.b1; have := hb.c1
    simp; omega
  · rw [stepT_bad h]; simp

end Go.Vd
