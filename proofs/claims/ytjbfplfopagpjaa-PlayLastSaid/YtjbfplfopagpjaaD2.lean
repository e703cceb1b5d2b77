/- The arguments of the seat's rows, as data. -/
import Derived.Test.YtjbfplfopagpjaaD1
import Derived.Test.YtjbfplfopagpjaaC3
import Derived.JoinedOf
namespace Go.Vd
open Go.Proofs Go.RowKit Go.ChangeShapes

theorem rd3 : Reads Try.prog 3 encI (fun n => -9223372036854775808 ≤ n ∧ n ≤ 9223372036854775807) := (reads_int (k := .i64) (by kernel_rfl)).map (fun n => n) (fun _ => rfl) (fun n h => h)
theorem rd5 : Reads Try.prog 5 encU (fun n => 0 ≤ n ∧ n ≤ 255) := (reads_int (k := .u8) (by kernel_rfl)).map (fun n => n) (fun _ => rfl) (fun n h => h)
theorem rd4 : Reads Try.prog 4 encB (fun _ => True) := reads_bool (by kernel_rfl)
theorem rd9 : Reads Try.prog 9 (fun s : ByteArray => [.str s]) (fun s => s.size ≤ 9223372036854775807) := reads_str (by kernel_rfl)
def lenOk {α : Type} (xs : List α) : Prop := xs.length ≤ 9223372036854775807
theorem rd28 : Reads Try.prog 28 (fun xs => [slB xs]) (fun xs => lenOk xs) := (reads_slice (e := 4) (sz := 1) (by kernel_rfl) (by kernel_rfl) (by decide) rd4 (fun _ => rfl)).map (fun x => x) (fun _ => rfl) (fun _ h => h.1)
theorem rd24 : Reads Try.prog 24 (fun xs => [slI xs]) (fun xs => lenOk xs) := (reads_slice (e := 3) (sz := 1) (by kernel_rfl) (by kernel_rfl) (by decide) rd3 (fun _ => rfl)).map (fun x => x) (fun _ => rfl) (fun _ h => h.1)
theorem rd29 : Reads Try.prog 29 (fun xs => [slBB xs]) (fun xs => lenOk xs ∧ ∀ x, x ∈ xs → lenOk x) := (reads_slice (e := 28) (sz := 1) (by kernel_rfl) (by kernel_rfl) (by decide) rd28 (fun _ => rfl)).map (fun x => x) (fun _ => rfl) (fun _ h => h)
theorem rd63 : Reads Try.prog 63 encL (fun _ => True) :=
  (reads_struct (T := 63) (N := 2) (flds := [(0, 3), (1, 3)]) Try.underlying63 (by kernel_rfl) rfl (readsF_cons (sz := 1) (o' := 1) rd3 (by kernel_rfl) rfl (readsF_cons (sz := 1) (o' := 2) rd3 (by kernel_rfl) rfl (readsF_nil (Nat.le_refl _))))).map (fun p => ⟨p.1, p.2.1⟩) (fun _ => rfl) (fun _ _ => trivial)
theorem rd58 : Reads Try.prog 58 encG (fun _ => True) :=
  (reads_struct (T := 58) (N := 2) (flds := [(0, 3), (1, 3)]) Try.underlying58 (by kernel_rfl) rfl (readsF_cons (sz := 1) (o' := 1) rd3 (by kernel_rfl) rfl (readsF_cons (sz := 1) (o' := 2) rd3 (by kernel_rfl) rfl (readsF_nil (Nat.le_refl _))))).map (fun p => ⟨p.1, p.2.1⟩) (fun _ => rfl) (fun _ _ => trivial)
theorem rd171 : Reads Try.prog 171 encN (fun n => n.s.size ≤ 9223372036854775807) :=
  (reads_struct (T := 171) (N := 3) (flds := [(0, 5), (1, 3), (2, 9)]) Try.underlying171 (by kernel_rfl) rfl (readsF_cons (sz := 1) (o' := 1) rd5 (by kernel_rfl) rfl (readsF_cons (sz := 1) (o' := 2) rd3 (by kernel_rfl) rfl (readsF_cons (sz := 1) (o' := 3) rd9 (by kernel_rfl) rfl (readsF_nil (Nat.le_refl _)))))).map (fun p => ⟨p.1, p.2.1, p.2.2.1⟩) (fun _ => rfl) (fun _ h => h.2.2.1)
theorem rd22 : Reads Try.prog 22 (fun xs => [slL xs]) (fun xs => lenOk xs) := (reads_slice (e := 63) (sz := 2) (by kernel_rfl) (by kernel_rfl) (by decide) rd63 (fun _ => rfl)).map (fun x => x) (fun _ => rfl) (fun _ h => h.1)
theorem rd23 : Reads Try.prog 23 (fun xs => [slG xs]) (fun xs => lenOk xs) := (reads_slice (e := 58) (sz := 2) (by kernel_rfl) (by kernel_rfl) (by decide) rd58 (fun _ => rfl)).map (fun x => x) (fun _ => rfl) (fun _ h => h.1)
theorem rd25 : Reads Try.prog 25 (fun xs => [slN xs]) (fun xs => lenOk xs ∧ ∀ n, n ∈ xs → n.s.size ≤ 9223372036854775807) := (reads_slice (e := 171) (sz := 3) (by kernel_rfl) (by kernel_rfl) (by decide) rd171 (fun _ => rfl)).map (fun x => x) (fun _ => rfl) (fun _ h => h)
theorem rd27 : Reads Try.prog 27 encA Fit :=
  (reads_struct (T := 27) (N := 7) (flds := [(0, 3), (1, 22), (2, 23), (3, 24), (4, 24), (5, 24), (6, 25)]) Try.underlying27 (by kernel_rfl) rfl
    (readsF_cons (sz := 1) (o' := 1) rd3 (by kernel_rfl) rfl (readsF_cons (sz := 1) (o' := 2) rd22 (by kernel_rfl) rfl (readsF_cons (sz := 1) (o' := 3) rd23 (by kernel_rfl) rfl (readsF_cons (sz := 1) (o' := 4) rd24 (by kernel_rfl) rfl
      (readsF_cons (sz := 1) (o' := 5) rd24 (by kernel_rfl) rfl (readsF_cons (sz := 1) (o' := 6) rd24 (by kernel_rfl) rfl (readsF_cons (sz := 1) (o' := 7) rd25 (by kernel_rfl) rfl (readsF_nil (Nat.le_refl _)))))))))).map
    (fun p => ⟨p.1, p.2.1, p.2.2.1, p.2.2.2.1, p.2.2.2.2.1, p.2.2.2.2.2.1, p.2.2.2.2.2.2.1⟩) (fun _ => rfl)
    (fun _ ⟨_, h1, h2, h3, h4, h5, h6, _⟩ => ⟨h1, h2, h3, h4, h5, h6.1, fun j hj => h6.2 _ (by rw [List.getD_eq_getElem?_getD, List.getElem?_eq_getElem hj]; exact List.getElem_mem hj)⟩)

theorem ownK : ownKnob Try.prog.godebug = none := by kernel_rfl
theorem laidK : laidOutB Try.prog = true := by kernel_rfl

theorem and_t {a b : Bool} (h : a = true) (h' : b = true) : (a && b) = true := by rw [h, h']; rfl
theorem mapsK : mapsRowed Try.prog = true := by kernel_rfl
theorem stopsK : (Try.prog.stops == []) = true := by kernel_rfl
theorem knobsK : (Try.prog.stopKnobs == []) = true := by kernel_rfl
theorem heardK : Try.prog.stopsHeard = true := by kernel_rfl

/-- An argument reads behind the call as it did. -/
theorem stays {H : Type} {enc : TypeId × Value → H} {t : TypeId} (hr : Try.prog.readableRec t = true) (hrow : t < Try.prog.types.size) {W W' : World} {v : Value} {d : DataW H} {ps : List MemPlace}
    (h : DataW.Trod enc Try.prog W 0 (fun _ => true) true t v d ps) (hb : Below W.heap.size W W') (hlt : ∀ x ∈ ps, x.block < W.heap.size) {sp : Nat → Bool} (hs : ∀ x ∈ ps, sp x.block = true) : DataW.Trod enc Try.prog W' 0 sp true t v d ps :=
  WideElems.Trod_stays laidK hr hrow h (fun x hx => hb.same (hlt x hx)) hs

end Go.Vd
