/- TernSteps: for every input the law tells true, and its arguments read behind the call as they did; no condition. -/
import Derived.Test.YtjbfplfopagpjaaD4
import Derived.Test.YtjbfplfopagpjaaC17
namespace Go.Proofs.Ytjbfplfopagpjaa
open Go.ChangeShapes Go.WideShapes Go.ChangeAt Go.RowKit Go.Vd

theorem rd78 : Reads Try.prog 78 (fun x : Aig × List Int × List Int × Int => in11 x.1 x.2.1 x.2.2.1 x.2.2.2) (fun x => Fit x.1 ∧ Nn x.2.1 ∧ Nn x.2.2.1 ∧ x.2.2.2 ≤ 9223372036854775807) :=
  (reads_struct (T := 78) (N := 10) (flds := [(0, 27), (7, 70), (8, 70), (9, 3)]) Try.underlying78 (by kernel_rfl) rfl (readsF_cons (sz := 7) (o' := 7) rd27 (by kernel_rfl) rfl (readsF_cons (sz := 1) (o' := 8) rd70 (by kernel_rfl) rfl (readsF_cons (sz := 1) (o' := 9) rd70 (by kernel_rfl) rfl (readsF_cons (sz := 1) (o' := 10) rd3 (by kernel_rfl) rfl (readsF_nil (Nat.le_refl _))))))).map (fun p => (p.1, p.2.1, p.2.2.1, p.2.2.2.1)) (fun _ => rfl) (fun _ h => ⟨h.1, h.2.1.2.nn, h.2.2.1.2.nn, h.2.2.2.1.2⟩)

set_option maxRecDepth 100000 in
theorem ternSteps_lifted (os : Os) (started : os.Started) (H : Type) (enc : TypeId × Value → H) :
    ReturnsInHanded {} Try.checked os 11 .any (Rows.ternStepsSpec.pre6 enc Try.prog Try.f11 Rows.ternStepsRow.domain false) (Rows.ternStepsSpec.post enc Try.prog Try.f11 false true false false) := by
  refine returnsInHanded_of_change (C := Try.checked) ownK started (by kernel_rfl) Try.func11
    (ChangeSpec.witness6 (enc := enc) (C := Try.checked) false ⟨#[], #[.agg #[.int .i64 0, .slice none 0 0, .slice none 0 0, .slice none 0 0, .slice none 0 0, .slice none 0 0, .slice none 0 0, .slice none 0 0, .slice none 0 0, .int .i64 0]], []⟩ 8 (by kernel_rfl) (by kernel_rfl) (by kernel_rfl) (by kernel_rfl)) ?_
  intro W base args ds gs before hval0 hW hcnd _
  have hval : ∀ (j : Nat) t v, Try.f11.params[j]? = some t → args[j]? = some v → Value.okWide Try.prog W .any base t v := hval0
  have hW' := hW
  obtain ⟨p, q, hA0, hV, rfl, hfz, hnd⟩ := hW
  have hA : DataW.TrodAll enc Try.prog W 0 (fun _ => true) true Try.f11.params.toList args.toList ds p := hA0
  rw [Try.params11] at hA hval
  obtain ⟨v0, d0, rfl, rfl, h0⟩ := trodAll_one hA
  obtain ⟨rfl, rfl⟩ := trodVars_none hV
  obtain ⟨cs0, hv0, _⟩ := okWide_struct Try.underlying78 (hval 0 78 v0 rfl rfl)
  obtain ⟨x, hx, hr0⟩ := arg_agg rd78 h0 hv0
  have hlt := hW'.lt
  refine ((pc_11 x.1 x.2.1 x.2.2.1 x.2.2.2 hx.1 hx.2.1 hx.2.2.1 hx.2.2.2).2 W (fun _ => True) #[v0] ⟨rfl, fun i x u hx hu => ?_⟩).mono fun e W' ⟨u, he, hb, hu⟩ => ?_
  · match i with
    | 0 => cases hx; cases hu; exact hr0
    | i + 1 => simp at hx
  · cases hu
    refine ⟨_, he, post_true hW' hb Try.underlying4 rfl rfl (fun sp hsp => ?_) (fun _ => rfl)⟩
    have e0 : ∀ x ∈ p, x ∈ (p) ++ [] := fun x hx => by simp [hx]
    have := trodAll_mk1 (stays (by kernel_rfl) (of_decide_eq_true (by kernel_rfl)) h0 hb (fun x hx => hlt x (e0 x hx)) (fun x hx => hsp x (e0 x hx)))
    simp only [List.append_nil] at this ⊢
    exact this

theorem ternSteps_inPlace : (Rows.ternStepsRow.inPlace == Try.prog.inPlace 11) = true := by kernel_rfl
theorem ternSteps_unfollowed : (Rows.ternStepsRow.unfollowed == Try.prog.unfollowed 11) = true := by kernel_rfl
theorem ternSteps_recurses : (Rows.ternStepsRow.recurses == Try.prog.recurses 11) = true := by kernel_rfl
theorem ternSteps_named : (Rows.ternStepsRow.named == Try.prog.varsNamed 11) = true := by kernel_rfl
theorem ternSteps_wf : Rows.ternStepsRow.wf (OpenSpec.ofChange Rows.ternStepsSpec) = true := by kernel_rfl
theorem ternSteps_closed : joinedFacts Try.prog 11 Try.f11 Rows.ternStepsSpec Rows.ternStepsRow = true := by
  unfold joinedFacts
  exact (and_t (and_t (and_t (and_t (and_t (and_t (and_t (and_t (and_t (and_t (and_t (and_t (and_t (and_t (and_t (and_t (and_t (and_t (and_t (and_t (and_t (and_t (and_t (and_t (and_t (and_t (and_t (and_t (and_t (and_t (and_t ternSteps_wf laidK) mapsK) (by kernel_rfl)) (by kernel_rfl)) (by kernel_rfl)) stopsK) (by kernel_rfl)) knobsK) ternSteps_inPlace) ternSteps_unfollowed) ternSteps_recurses) ternSteps_named) (by kernel_rfl)) (by kernel_rfl)) (by kernel_rfl)) (by kernel_rfl)) (by kernel_rfl)) (by kernel_rfl)) (by kernel_rfl)) (by kernel_rfl)) (by kernel_rfl)) (by kernel_rfl)) (by kernel_rfl)) heardK) enterK) (lifts_eq rfl)) (make_eq rfl)) (by kernel_rfl)) (by kernel_rfl)) (by kernel_rfl)) (by kernel_rfl))

theorem ternSteps_fn : Try.prog.funcNamed Rows.ternStepsRow.func = some 11 := by kernel_rfl
theorem ternSteps_holds : Rows.TernStepsSaid :=
  OpenClaim.holds_of_wide 11 Try.f11 rfl rfl rfl rfl rfl rfl rfl ⟨rfl, rfl, rfl, rfl, rfl⟩ rfl rfl rfl rfl rfl ternSteps_fn Try.func11 ternSteps_closed
    (of_decide_eq_true (by kernel_rfl)) (by unfold Func.isWrapper; first | (rw [if_pos (by decide +kernel)]; kernel_rfl) | (rw [if_neg (by decide +kernel)]; exact ⟨rfl, rfl⟩))
    (fun os started H enc _ => ternSteps_lifted os started H enc)

#print axioms ternSteps_holds
end Go.Proofs.Ytjbfplfopagpjaa
