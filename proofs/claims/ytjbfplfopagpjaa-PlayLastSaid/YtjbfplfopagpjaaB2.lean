/- A step of two values where the rows are as long as they should be; how long what comes out is. -/
import Derived.Test.YtjbfplfopagpjaaC5
import Derived.Test.YtjbfplfopagpjaaA20
namespace Go.Vd
open Go.Proofs

theorem getD_map {α β : Type} [Inhabited α] [Inhabited β] {f : α → β} {xs : List α} {j : Nat} (h : j < xs.length) : (xs.map f).getD j default = f (xs.getD j default) := by
  simp [List.getD_eq_getElem?_getD, h]
abbrev valsV (a : Aig) (st inp : List Bool) : List Bool := valsOf (false :: (inp ++ st)) a.g
abbrev stepOk (a : Aig) (st inp : List Bool) : StepR := ⟨a.l.map fun l => litv (valsV a st inp) l.next, a.outs.map (litv (valsV a st inp)), a.bad.map (litv (valsV a st inp)), a.con.map (litv (valsV a st inp)), 0⟩
def shapeOk (a : Aig) (st inp : List Bool) : Prop := st.length = a.l.length ∧ (inp.length : Int) = a.i
theorem pc_32_ok (a : Aig) (st inp : List Bool) (hb : Bd a) (h : shapeOk a st inp) : PCall Try.prog 32 [aigV a, slB st, slB inp] (.tup [slB (valsV a st inp), .int .i64 0]) := by
  have := pc_32 a st inp hb
  rwa [valuesS_ok h.1 h.2] at this
theorem pc_32_bad (a : Aig) (st inp : List Bool) (hb : Bd a) (h : ¬ shapeOk a st inp) : PCall Try.prog 32 [aigV a, slB st, slB inp] (.tup [slB [], .int .i64 7]) := by
  have := pc_32 a st inp hb
  rwa [valuesS_bad h] at this
theorem stepS_is {a : Aig} {st inp : List Bool} (h : shapeOk a st inp) : stepS a st inp = stepOk a st inp := by
  rw [stepS_ok (by rw [valuesS_ok h.1 h.2]), valuesS_ok h.1 h.2]
theorem stepS_not {a : Aig} {st inp : List Bool} (h : ¬ shapeOk a st inp) : stepS a st inp = ⟨[], [], [], [], 7⟩ := by
  rw [stepS_bad (by rw [valuesS_bad h]; decide), valuesS_bad h]
theorem pc_34_ok (a : Aig) (st inp : List Bool) (hb : Bd a) (h : shapeOk a st inp) : PCall Try.prog 34 [aigV a, slB st, slB inp] (stepOk a st inp).v := by
  have := pc_34 a st inp hb
  rwa [stepS_is h] at this
theorem pc_34_bad (a : Aig) (st inp : List Bool) (hb : Bd a) (h : ¬ shapeOk a st inp) : PCall Try.prog 34 [aigV a, slB st, slB inp] (StepR.v ⟨[], [], [], [], 7⟩) := by
  have := pc_34 a st inp hb
  rwa [stepS_not h] at this
theorem valuesS_le {a : Aig} {st inp : List Bool} (hb : Bd a) : (valuesS a st inp).1.length ≤ 100000 := by
  by_cases h : shapeOk a st inp
  · rw [valuesS_ok h.1 h.2, valsOf_len]
    have := h.1; have := h.2; have := hb.i1; have := hb.l1; have := hb.g1
    simp; omega
  · rw [valuesS_bad h]; simp
theorem stepS_le {a : Aig} {st inp : List Bool} (hb : Bd a) : (stepS a st inp).n.length ≤ 20000 ∧ (stepS a st inp).o.length ≤ 20000 ∧ (stepS a st inp).b.length ≤ 20000 ∧ (stepS a st inp).c.length ≤ 20000 := by
  by_cases h : shapeOk a st inp
  · rw [stepS_is h]
    have := hb.l1; have := hb.o1; have := hb.b1; have := hb.c1
    simp; omega
  · rw [stepS_not h]; simp
theorem get3 {x y z : List Bool} {j : Nat} (h : j < 3) : ([.v (slB x), .v (slB y), .v (slB z)] : List D)[j]? = some (.v (slB ([x, y, z].getD j default))) := by
  rcases j with _ | _ | _ | j
  · rfl
  · rfl
  · rfl
  · omega
end Go.Vd
