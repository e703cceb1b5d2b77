/- SimGates: for every input the law tells true, and its argument reads behind the call as it did; no condition. -/
import Derived.Test.YtjbfplfopagpjaaD3
import Derived.Test.YtjbfplfopagpjaaC12
namespace Go.Proofs.Ytjbfplfopagpjaa
open Go.ChangeShapes Go.WideShapes Go.ChangeAt Go.RowKit Go.Vd

theorem rd56 : Reads Try.prog 56 (fun x : Aig × List Bool × List Bool × Int => in4 x.1 x.2.1 x.2.2.1 x.2.2.2) (fun x => Fit x.1 ∧ -9223372036854775808 ≤ x.2.2.2 ∧ x.2.2.2 ≤ 9223372036854775807) :=
  (reads_struct (T := 56) (N := 10) (flds := [(0, 27), (7, 28), (8, 28), (9, 3)]) Try.underlying56 (by kernel_rfl) rfl (readsF_cons (sz := 7) (o' := 7) rd27 (by kernel_rfl) rfl (readsF_cons (sz := 1) (o' := 8) rd28 (by kernel_rfl) rfl (readsF_cons (sz := 1) (o' := 9) rd28 (by kernel_rfl) rfl (readsF_cons (sz := 1) (o' := 10) rd3 (by kernel_rfl) rfl (readsF_nil (Nat.le_refl _))))))).map (fun p => (p.1, p.2.1, p.2.2.1, p.2.2.2.1)) (fun _ => rfl) (fun _ h => ⟨h.1, h.2.2.2.1⟩)

set_option maxRecDepth 100000 in
theorem simGates_lifted (os : Os) (started : os.Started) (H : Type) (enc : TypeId × Value → H) :
    ReturnsInHanded {} Try.checked os 4 .any (Rows.simGatesSpec.pre6 enc Try.prog Try.f4 Rows.simGatesRow.domain false) (Rows.simGatesSpec.post enc Try.prog Try.f4 false true false false) := by
  refine returnsInHanded_of_change (C := Try.checked) ownK started (by kernel_rfl) Try.func4
    (ChangeSpec.witness6 (enc := enc) (C := Try.checked) false ⟨#[], #[.agg #[.int .i64 0, .slice none 0 0, .slice none 0 0, .slice none 0 0, .slice none 0 0, .slice none 0 0, .slice none 0 0, .slice none 0 0, .slice none 0 0, .int .i64 0]], []⟩ 8 (by kernel_rfl) (by kernel_rfl) (by kernel_rfl) (by kernel_rfl)) ?_
  intro W base args ds gs before hval0 hW hcnd _
  have hval : ∀ (j : Nat) t v, Try.f4.params[j]? = some t → args[j]? = some v → Value.okWide Try.prog W .any base t v := hval0
  have hW' := hW
  obtain ⟨p, q, hA0, hV, rfl, hfz, hnd⟩ := hW
  have hA : DataW.TrodAll enc Try.prog W 0 (fun _ => true) true Try.f4.params.toList args.toList ds p := hA0
  rw [Try.params4] at hA hval
  obtain ⟨v0, d0, rfl, rfl, h0⟩ := trodAll_one hA
  obtain ⟨rfl, rfl⟩ := trodVars_none hV
  obtain ⟨cs0, hv0, _⟩ := okWide_struct Try.underlying56 (hval 0 56 v0 rfl rfl)
  obtain ⟨x, hx, hr0⟩ := arg_agg rd56 h0 hv0
  have hlt := hW'.lt
  refine ((pc_4 x.1 x.2.1 x.2.2.1 x.2.2.2 hx.1 hx.2.1 hx.2.2).2 W (fun _ => True) #[v0] ⟨rfl, fun i x u hx hu => ?_⟩).mono fun e W' ⟨u, he, hb, hu⟩ => ?_
  · match i with
    | 0 => cases hx; cases hu; exact hr0
    | i + 1 => simp at hx
  · cases hu
    refine ⟨_, he, post_true hW' hb Try.underlying4 rfl rfl (fun sp hsp => ?_) (fun _ => rfl)⟩
    have e0 : ∀ x ∈ p, x ∈ (p) ++ [] := fun x hx => by simp [hx]
    have := trodAll_mk1 (stays (by kernel_rfl) (of_decide_eq_true (by kernel_rfl)) h0 hb (fun x hx => hlt x (e0 x hx)) (fun x hx => hsp x (e0 x hx)))
    simp only [List.append_nil] at this ⊢
    exact this

theorem simGates_inPlace : (Rows.simGatesRow.inPlace == Try.prog.inPlace 4) = true := by kernel_rfl
theorem simGates_unfollowed : (Rows.simGatesRow.unfollowed == Try.prog.unfollowed 4) = true := by kernel_rfl
theorem simGates_recurses : (Rows.simGatesRow.recurses == Try.prog.recurses 4) = true := by kernel_rfl
theorem simGates_named : (Rows.simGatesRow.named == Try.prog.varsNamed 4) = true := by kernel_rfl
theorem simGates_wf : Rows.simGatesRow.wf (OpenSpec.ofChange Rows.simGatesSpec) = true := by kernel_rfl
theorem simGates_closed : joinedFacts Try.prog 4 Try.f4 Rows.simGatesSpec Rows.simGatesRow = true := by
  unfold joinedFacts
  exact (and_t (and_t (and_t (and_t (and_t (and_t (and_t (and_t (and_t (and_t (and_t (and_t (and_t (and_t (and_t (and_t (and_t (and_t (and_t (and_t (and_t (and_t (and_t (and_t (and_t (and_t (and_t (and_t (and_t (and_t (and_t simGates_wf laidK) mapsK) (by kernel_rfl)) (by kernel_rfl)) (by kernel_rfl)) stopsK) (by kernel_rfl)) knobsK) simGates_inPlace) simGates_unfollowed) simGates_recurses) simGates_named) (by kernel_rfl)) (by kernel_rfl)) (by kernel_rfl)) (by kernel_rfl)) (by kernel_rfl)) (by kernel_rfl)) (by kernel_rfl)) (by kernel_rfl)) (by kernel_rfl)) (by kernel_rfl)) (by kernel_rfl)) heardK) enterK) (lifts_eq rfl)) (make_eq rfl)) (by kernel_rfl)) (by kernel_rfl)) (by kernel_rfl)) (by kernel_rfl))

theorem simGates_fn : Try.prog.funcNamed Rows.simGatesRow.func = some 4 := by kernel_rfl
theorem simGates_holds : Rows.SimGatesSaid :=
  OpenClaim.holds_of_wide 4 Try.f4 rfl rfl rfl rfl rfl rfl rfl ⟨rfl, rfl, rfl, rfl, rfl⟩ rfl rfl rfl rfl rfl simGates_fn Try.func4 simGates_closed
    (of_decide_eq_true (by kernel_rfl)) (by unfold Func.isWrapper; first | (rw [if_pos (by decide +kernel)]; kernel_rfl) | (rw [if_neg (by decide +kernel)]; exact ⟨rfl, rfl⟩))
    (fun os started H enc _ => simGates_lifted os started H enc)

#print axioms simGates_holds
end Go.Proofs.Ytjbfplfopagpjaa
