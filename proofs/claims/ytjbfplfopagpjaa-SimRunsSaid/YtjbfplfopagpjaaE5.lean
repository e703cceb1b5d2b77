/- SimRuns: for every input the law tells true, and its argument reads behind the call as it did; no condition. -/
import Derived.Test.YtjbfplfopagpjaaD3
import Derived.Test.YtjbfplfopagpjaaC13
namespace Go.Proofs.Ytjbfplfopagpjaa
open Go.ChangeShapes Go.WideShapes Go.ChangeAt Go.RowKit Go.Vd

theorem rd61 : Reads Try.prog 61 (fun x : Aig × List Bool × List (List Bool) × Int × List Bool => in5 x.1 x.2.1 x.2.2.1 x.2.2.2.1 x.2.2.2.2) (fun x => Fit x.1 ∧ 0 ≤ x.2.2.2.1 ∧ x.2.2.2.1 ≤ 255) :=
  (reads_struct (T := 61) (N := 11) (flds := [(0, 27), (7, 28), (8, 29), (9, 5), (10, 28)]) Try.underlying61 (by kernel_rfl) rfl (readsF_cons (sz := 7) (o' := 7) rd27 (by kernel_rfl) rfl (readsF_cons (sz := 1) (o' := 8) rd28 (by kernel_rfl) rfl (readsF_cons (sz := 1) (o' := 9) rd29 (by kernel_rfl) rfl (readsF_cons (sz := 1) (o' := 10) rd5 (by kernel_rfl) rfl (readsF_cons (sz := 1) (o' := 11) rd28 (by kernel_rfl) rfl (readsF_nil (Nat.le_refl _)))))))).map (fun p => (p.1, p.2.1, p.2.2.1, p.2.2.2.1, p.2.2.2.2.1)) (fun _ => rfl) (fun _ h => ⟨h.1, h.2.2.2.1⟩)

set_option maxRecDepth 100000 in
theorem simRuns_lifted (os : Os) (started : os.Started) (H : Type) (enc : TypeId × Value → H) :
    ReturnsInHanded {} Try.checked os 5 .any (Rows.simRunsSpec.pre6 enc Try.prog Try.f5 Rows.simRunsRow.domain false) (Rows.simRunsSpec.post enc Try.prog Try.f5 false true false false) := by
  refine returnsInHanded_of_change (C := Try.checked) ownK started (by kernel_rfl) Try.func5
    (ChangeSpec.witness6 (enc := enc) (C := Try.checked) false ⟨#[], #[.agg #[.int .i64 0, .slice none 0 0, .slice none 0 0, .slice none 0 0, .slice none 0 0, .slice none 0 0, .slice none 0 0, .slice none 0 0, .slice none 0 0, .int .u8 0, .slice none 0 0]], []⟩ 8 (by kernel_rfl) (by kernel_rfl) (by kernel_rfl) (by kernel_rfl)) ?_
  intro W base args ds gs before hval0 hW hcnd _
  have hval : ∀ (j : Nat) t v, Try.f5.params[j]? = some t → args[j]? = some v → Value.okWide Try.prog W .any base t v := hval0
  have hW' := hW
  obtain ⟨p, q, hA0, hV, rfl, hfz, hnd⟩ := hW
  have hA : DataW.TrodAll enc Try.prog W 0 (fun _ => true) true Try.f5.params.toList args.toList ds p := hA0
  rw [Try.params5] at hA hval
  obtain ⟨v0, d0, rfl, rfl, h0⟩ := trodAll_one hA
  obtain ⟨rfl, rfl⟩ := trodVars_none hV
  obtain ⟨cs0, hv0, _⟩ := okWide_struct Try.underlying61 (hval 0 61 v0 rfl rfl)
  obtain ⟨x, hx, hr0⟩ := arg_agg rd61 h0 hv0
  have hlt := hW'.lt
  refine ((pc_5 x.1 x.2.1 x.2.2.1 x.2.2.2.1 x.2.2.2.2 hx.1 hx.2.1 hx.2.2).2 W (fun _ => True) #[v0] ⟨rfl, fun i x u hx hu => ?_⟩).mono fun e W' ⟨u, he, hb, hu⟩ => ?_
  · match i with
    | 0 => cases hx; cases hu; exact hr0
    | i + 1 => simp at hx
  · cases hu
    refine ⟨_, he, post_true hW' hb Try.underlying4 rfl rfl (fun sp hsp => ?_) (fun _ => rfl)⟩
    have e0 : ∀ x ∈ p, x ∈ (p) ++ [] := fun x hx => by simp [hx]
    have := trodAll_mk1 (stays (by kernel_rfl) (of_decide_eq_true (by kernel_rfl)) h0 hb (fun x hx => hlt x (e0 x hx)) (fun x hx => hsp x (e0 x hx)))
    simp only [List.append_nil] at this ⊢
    exact this

theorem simRuns_inPlace : (Rows.simRunsRow.inPlace == Try.prog.inPlace 5) = true := by kernel_rfl
theorem simRuns_unfollowed : (Rows.simRunsRow.unfollowed == Try.prog.unfollowed 5) = true := by kernel_rfl
theorem simRuns_recurses : (Rows.simRunsRow.recurses == Try.prog.recurses 5) = true := by kernel_rfl
theorem simRuns_named : (Rows.simRunsRow.named == Try.prog.varsNamed 5) = true := by kernel_rfl
theorem simRuns_wf : Rows.simRunsRow.wf (OpenSpec.ofChange Rows.simRunsSpec) = true := by kernel_rfl
theorem simRuns_closed : joinedFacts Try.prog 5 Try.f5 Rows.simRunsSpec Rows.simRunsRow = true := by
  unfold joinedFacts
  exact (and_t (and_t (and_t (and_t (and_t (and_t (and_t (and_t (and_t (and_t (and_t (and_t (and_t (and_t (and_t (and_t (and_t (and_t (and_t (and_t (and_t (and_t (and_t (and_t (and_t (and_t (and_t (and_t (and_t (and_t (and_t simRuns_wf laidK) mapsK) (by kernel_rfl)) (by kernel_rfl)) (by kernel_rfl)) stopsK) (by kernel_rfl)) knobsK) simRuns_inPlace) simRuns_unfollowed) simRuns_recurses) simRuns_named) (by kernel_rfl)) (by kernel_rfl)) (by kernel_rfl)) (by kernel_rfl)) (by kernel_rfl)) (by kernel_rfl)) (by kernel_rfl)) (by kernel_rfl)) (by kernel_rfl)) (by kernel_rfl)) (by kernel_rfl)) heardK) enterK) (lifts_eq rfl)) (make_eq rfl)) (by kernel_rfl)) (by kernel_rfl)) (by kernel_rfl)) (by kernel_rfl))

theorem simRuns_fn : Try.prog.funcNamed Rows.simRunsRow.func = some 5 := by kernel_rfl
theorem simRuns_holds : Rows.SimRunsSaid :=
  OpenClaim.holds_of_wide 5 Try.f5 rfl rfl rfl rfl rfl rfl rfl ⟨rfl, rfl, rfl, rfl, rfl⟩ rfl rfl rfl rfl rfl simRuns_fn Try.func5 simRuns_closed
    (of_decide_eq_true (by kernel_rfl)) (by unfold Func.isWrapper; first | (rw [if_pos (by decide +kernel)]; kernel_rfl) | (rw [if_neg (by decide +kernel)]; exact ⟨rfl, rfl⟩))
    (fun os started H enc _ => simRuns_lifted os started H enc)

#print axioms simRuns_holds
end Go.Proofs.Ytjbfplfopagpjaa
