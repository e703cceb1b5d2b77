/- TernExact, TernTwo: as the program tells them. -/
import Derived.Test.YtjbfplfopagpjaaB4
namespace Go.Vd
open Go.Proofs

theorem ofB_and (x y : Bool) : andT (ofB x) (ofB y) = ofB (x && y) := by cases x <;> cases y <;> rfl
theorem ofB_ne (x : Bool) : ofB x ≠ 2 := by cases x <;> decide
theorem getD_mapf {α β : Type} [Inhabited α] [Inhabited β] (f : α → β) {xs : List α} {j : Nat} (h : j < xs.length) : (xs.map f).getD j default = f (xs.getD j default) := by
  rw [List.getD_eq_getElem?_getD, List.getD_eq_getElem?_getD, List.getElem?_map, List.getElem?_eq_getElem h]; rfl
theorem lit_two {v : List Bool} {l : Int} (h0 : 0 ≤ l) (h : l < 2 * v.length) : litT (v.map ofB) l = ofB (litv v l) := by
  have hl : l / 2 < v.length := by omega
  have hg : (v.map ofB).getD (l / 2).toNat default = ofB (v.getD (l / 2).toNat default) := getD_mapf ofB (by omega)
  rw [litv_in h0 hl]
  by_cases h1 : l % 2 = 1
  · rw [litT_odd h0 (by simpa using hl) h1, hg]
    show notT (ofB (v.getD _ false)) = _
    cases v.getD (l / 2).toNat false <;> simp [h1] <;> rfl
  · rw [litT_even h0 (by simpa using hl) h1, hg]
    show ofB (v.getD _ false) = _
    cases v.getD (l / 2).toNat false <;> simp [h1]
theorem vals_two : ∀ (gs : List Gate) (v : List Bool), (∀ j, j < gs.length → 0 ≤ (gs.getD j default).a ∧ (gs.getD j default).a < 2 * (v.length + j) ∧ 0 ≤ (gs.getD j default).b ∧ (gs.getD j default).b < 2 * (v.length + j)) →
    valsT (v.map ofB) gs = (valsOf v gs).map ofB
  | [], _, _ => rfl
  | g :: gs, v, h => by
    obtain ⟨h1, h2, h3, h4⟩ := h 0 (by simp)
    simp only [List.getD_cons_zero, Int.natCast_zero, Int.add_zero] at h1 h2 h3 h4
    simp only [valsT, valsOf]
    rw [lit_two h1 (by simpa using h2), lit_two h3 (by simpa using h4), ofB_and]
    have := vals_two gs (v ++ [litv v g.a && litv v g.b]) (fun j hj => by
      have := h (j + 1) (by simpa using hj)
      simp only [List.getD_cons_succ] at this
      simp only [List.length_append, List.length_cons, List.length_nil]
      omega)
    rw [← this]; simp
theorem good_two {a : Aig} (hg : Good a) {st inp : List Bool} (hs : st.length = a.l.length) (hi : (inp.length : Int) = a.i) : valsTV a (st.map ofB) (inp.map ofB) = (valsV a st inp).map ofB := by
  have := vals_two a.g (false :: (inp ++ st)) (fun j hj => by
    have hgr := hg.right.g j hj
    obtain ⟨r1, r2, r3⟩ := hgr
    simp only [List.length_cons, List.length_append]
    omega)
  rw [← this]; simp [ofB]
theorem lits_two {a : Aig} (hg : Good a) {st inp : List Bool} (hs : st.length = a.l.length) (hi : (inp.length : Int) = a.i) {l : Int} (h0 : 0 ≤ l) (h1 : l ≤ 2 * varsS a + 1) : litT ((valsV a st inp).map ofB) l = ofB (litv (valsV a st inp) l) := by
  refine lit_two h0 ?_
  have : (valsV a st inp).length = 1 + inp.length + st.length + a.g.length := by
    show (valsOf (false :: (inp ++ st)) a.g).length = _
    rw [valsOf_len]; simp; omega
  have hv : varsS a = a.i + a.l.length + a.g.length := rfl
  omega
theorem step_two {a : Aig} (hg : Good a) {st inp : List Bool} (hs : st.length = a.l.length) (hi : (inp.length : Int) = a.i) :
    stepTV a (valsTV a (st.map ofB) (inp.map ofB)) = ⟨(stepOk a st inp).n.map ofB, (stepOk a st inp).o.map ofB, (stepOk a st inp).b.map ofB, (stepOk a st inp).c.map ofB, 0⟩ := by
  rw [good_two hg hs hi]
  have ho : ∀ {ls : List Int}, (∀ x, x ∈ ls → x ∈ a.outs ∨ x ∈ a.bad ∨ x ∈ a.con) → ls.map (litT ((valsV a st inp).map ofB)) = (ls.map (litv (valsV a st inp))).map ofB := fun {ls} h => by
    rw [List.map_map]
    exact List.map_congr_left fun l hl => by have := hg.lit (h l hl); exact lits_two hg hs hi this.1 this.2
  have hn : (a.l.map fun l => litT ((valsV a st inp).map ofB) l.next) = (a.l.map fun l => litv (valsV a st inp) l.next).map ofB := by
    rw [List.map_map]
    refine List.map_congr_left fun l hl => ?_
    obtain ⟨j, hj, rfl⟩ := List.getElem_of_mem hl
    have := hg.right.l j hj
    rw [List.getD_eq_getElem?_getD, List.getElem?_eq_getElem hj] at this
    exact lits_two hg hs hi this.1 this.2.1
  simp only [stepTV, stepOk]
  rw [hn, ho fun x hx => .inl hx, ho fun x hx => .inr (.inl hx), ho fun x hx => .inr (.inr hx)]
theorem shape_two {a : Aig} {st inp : List Bool} : shapeT a (st.map ofB) (inp.map ofB) ↔ st.length = a.l.length ∧ (inp.length : Int) = a.i := by
  simp [shapeT, (ofL_tri st).isTri, (ofL_tri inp).isTri]
theorem values_two {a : Aig} (hg : Good a) (st inp : List Bool) : valuesT a (st.map ofB) (inp.map ofB) = ((valuesS a st inp).1.map ofB, (valuesS a st inp).2) := by
  by_cases h : st.length = a.l.length ∧ (inp.length : Int) = a.i
  · rw [valuesT_ok (shape_two.2 h), valuesS_ok h.1 h.2, good_two hg h.1 h.2]
  · rw [valuesT_bad (fun hh => h (shape_two.1 hh)), valuesS_bad h]; rfl
theorem stepT_two {a : Aig} (hg : Good a) (st inp : List Bool) : stepT a (st.map ofB) (inp.map ofB) = ⟨(stepS a st inp).n.map ofB, (stepS a st inp).o.map ofB, (stepS a st inp).b.map ofB, (stepS a st inp).c.map ofB, (stepS a st inp).e⟩ := by
  by_cases h : st.length = a.l.length ∧ (inp.length : Int) = a.i
  · rw [stepT_ok (shape_two.2 h), step_two hg h.1 h.2, stepS_is h]
  · rw [stepT_bad (fun hh => h (shape_two.1 hh)), stepS_not h]; rfl
theorem nnB (xs : List Bool) : Nn (xs.map ofB) := fun x hx => (ofL_tri xs x hx).1

end Go.Vd
