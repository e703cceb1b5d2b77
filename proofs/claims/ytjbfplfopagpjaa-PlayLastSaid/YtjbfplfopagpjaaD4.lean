/- The arguments of the seat's rows of three values, as data. -/
import Derived.Test.YtjbfplfopagpjaaD3
import Derived.Test.YtjbfplfopagpjaaB1
import Derived.OpenShut
namespace Go.Vd
open Go.Proofs Go.RowKit Go.ChangeShapes

section
variable {P : Program} {T : TypeId}
/-- An array of two. -/
theorem reads_two {e sz : Nat} {α : Type} {en : α → List V} {ok : α → Prop} (ht : P.underlying T = some (.array 2 e)) (hN : P.cellsOf T = 2 * sz) (hsz : P.cellsOf e = sz) (he : Reads P e en ok) (hen : ∀ a, (en a).length = sz) :
    Reads P T (fun p : α × α => en p.1 ++ en p.2) (fun p => ok p.1 ∧ ok p.2) := by
  intro H enc w spare held fuel cs x h
  obtain ⟨xs, n, _, _, hl, hxs, hi⟩ := DataW.trod_array ht h
  have h0 := hi 0 (by omega)
  have h1 := hi 1 (by omega)
  rw [hsz, List.getElem?_eq_getElem (by omega)] at h0 h1
  obtain ⟨a, ha1, ha2⟩ := he H enc w spare held n _ _ h0
  obtain ⟨b, hb1, hb2⟩ := he H enc w spare held n _ _ h1
  refine ⟨(a, b), ⟨ha1, hb1⟩, ?_⟩
  have := ha2.append hb2
  have e1 : (cs.drop (0 * sz)).take sz ++ (cs.drop (1 * sz)).take sz = cs := by
    rw [Nat.zero_mul, Nat.one_mul, List.drop_zero]
    have : (cs.drop sz).take sz = cs.drop sz := List.take_of_length_le (by simp; omega)
    rw [this, List.take_append_drop]
  rwa [e1] at this
theorem okWide_array {w : World} {t : TypeId} {r : Reach} {base n e : Nat} {v : Value} (ht : P.underlying t = some (.array n e)) (h : Value.okWide P w r base t v) : ∃ cs, v = .agg cs := by
  simp only [Value.okWide, ht] at h
  obtain ⟨cs, h1, _⟩ := h
  exact ⟨cs, h1⟩
end

def U8L (v : List Int) : Prop := ∀ x, x ∈ v → 0 ≤ x ∧ x ≤ 255
theorem rd72 : Reads Try.prog 72 encU (fun n => 0 ≤ n ∧ n ≤ 255) := (reads_int (k := .u8) (by kernel_rfl)).map (fun n => n) (fun _ => rfl) (fun n h => h)
theorem rd70 : Reads Try.prog 70 (fun xs => [slU xs]) (fun xs => lenOk xs ∧ U8L xs) := (reads_slice (e := 72) (sz := 1) (by kernel_rfl) (by kernel_rfl) (by decide) rd72 (fun _ => rfl)).map (fun x => x) (fun _ => rfl) (fun _ h => h)
theorem rd99 : Reads Try.prog 99 (fun xs => [slUU xs]) (fun xs => lenOk xs ∧ ∀ x, x ∈ xs → lenOk x ∧ U8L x) := (reads_slice (e := 70) (sz := 1) (by kernel_rfl) (by kernel_rfl) (by decide) rd70 (fun _ => rfl)).map (fun x => x) (fun _ => rfl) (fun _ h => h)
theorem rd90 : Reads Try.prog 90 (fun p : List Int × List Int => [slU p.1, slU p.2]) (fun p => (lenOk p.1 ∧ U8L p.1) ∧ (lenOk p.2 ∧ U8L p.2)) := reads_two (e := 70) (sz := 1) (by kernel_rfl) (by kernel_rfl) (by kernel_rfl) rd70 (fun _ => rfl)
/-- A trace as an argument brings it. -/
structure FitT (t : Trace) : Prop where
  b0 : -9223372036854775808 ≤ t.bad
  b1 : t.bad ≤ 9223372036854775807
  il : t.ini.length ≤ 9223372036854775807
  iu : U8L t.ini
  nl : t.ins.length ≤ 9223372036854775807
  rl : ∀ x, x ∈ t.ins → x.length ≤ 9223372036854775807
  ru : ∀ x, x ∈ t.ins → U8L x
theorem rd101 : Reads Try.prog 101 encT FitT :=
  (reads_struct (T := 101) (N := 3) (flds := [(0, 3), (1, 70), (2, 99)]) Try.underlying101 (by kernel_rfl) rfl (readsF_cons (sz := 1) (o' := 1) rd3 (by kernel_rfl) rfl (readsF_cons (sz := 1) (o' := 2) rd70 (by kernel_rfl) rfl (readsF_cons (sz := 1) (o' := 3) rd99 (by kernel_rfl) rfl (readsF_nil (Nat.le_refl _)))))).map
    (fun p => ⟨p.1, p.2.1, p.2.2.1⟩) (fun _ => rfl) (fun _ h => ⟨h.1.1, h.1.2, h.2.1.1, h.2.1.2, h.2.2.1.1, fun x hx => (h.2.2.1.2 x hx).1, fun x hx => (h.2.2.1.2 x hx).2⟩)
theorem U8L.nn {v : List Int} (h : U8L v) : ∀ x, x ∈ v → 0 ≤ x := fun x hx => (h x hx).1
end Go.Vd
