/- ShrinkHoles: for every input the law tells true, and its arguments read behind the call as they did; no condition. -/
import Derived.Test.YtjbfplfopagpjaaMe
namespace Go.Proofs.Ytjbfplfopagpjaa
open Go.ChangeShapes Go.WideShapes Go.ChangeAt Go.RowKit Go.Vd

set_option maxRecDepth 100000 in
theorem shrinkHoles_lifted (os : Os) (started : os.Started) (H : Type) (enc : TypeId × Value → H) :
    ReturnsInHanded {} Try.checked os 21 .any (Rows.shrinkHolesSpec.pre6 enc Try.prog Try.f21 Rows.shrinkHolesRow.domain false) (Rows.shrinkHolesSpec.post enc Try.prog Try.f21 false true false false) := by
  refine returnsInHanded_of_change (C := Try.checked) ownK started (by kernel_rfl) Try.func21
    (ChangeSpec.witness6 (enc := enc) (C := Try.checked) false ⟨#[], #[.agg #[.int .i64 0, .slice none 0 0, .slice none 0 0, .slice none 0 0, .slice none 0 0, .slice none 0 0, .slice none 0 0], .agg #[.int .i64 0, .slice none 0 0, .slice none 0 0]], []⟩ 8 (by kernel_rfl) (by kernel_rfl) (by kernel_rfl) (by kernel_rfl)) ?_
  intro W base args ds gs before hval0 hW hcnd _
  have hval : ∀ (j : Nat) t v, Try.f21.params[j]? = some t → args[j]? = some v → Value.okWide Try.prog W .any base t v := hval0
  have hW' := hW
  obtain ⟨p, q, hA0, hV, rfl, hfz, hnd⟩ := hW
  have hA : DataW.TrodAll enc Try.prog W 0 (fun _ => true) true Try.f21.params.toList args.toList ds p := hA0
  rw [Try.params21] at hA hval
  obtain ⟨v0, v1, d0, d1, p0, p1, rfl, rfl, rfl, h0, h1⟩ := trodAll_two hA
  obtain ⟨rfl, rfl⟩ := trodVars_none hV
  obtain ⟨cs0, hv0, _⟩ := okWide_struct Try.underlying27 (hval 0 27 v0 rfl rfl)
  obtain ⟨a, hfit, hr0⟩ := arg_agg rd27 h0 hv0
  obtain ⟨cs1, hv1, _⟩ := okWide_struct Try.underlying101 (hval 1 101 v1 rfl rfl)
  obtain ⟨t, htf, hr1⟩ := arg_agg rd101 h1 hv1
  have hlt := hW'.lt
  refine ((pc_21 a t hfit htf).2 W (fun _ => True) #[v0, v1] ⟨rfl, fun i x u hx hu => ?_⟩).mono fun e W' ⟨u, he, hb, hu⟩ => ?_
  · match i with
    | 0 => cases hx; cases hu; exact hr0
    | 1 => cases hx; cases hu; exact hr1
    | i + 2 => simp at hx
  · cases hu
    refine ⟨_, he, post_true hW' hb Try.underlying4 rfl rfl (fun sp hsp => ?_) (fun _ => rfl)⟩
    have e0 : ∀ x ∈ p0, x ∈ (p0 ++ p1) ++ [] := fun x hx => by simp [hx]
    have e1 : ∀ x ∈ p1, x ∈ (p0 ++ p1) ++ [] := fun x hx => by simp [hx]
    have := trodAll_mk2 (stays (by kernel_rfl) (of_decide_eq_true (by kernel_rfl)) h0 hb (fun x hx => hlt x (e0 x hx)) (fun x hx => hsp x (e0 x hx))) (stays (by kernel_rfl) (of_decide_eq_true (by kernel_rfl)) h1 hb (fun x hx => hlt x (e1 x hx)) (fun x hx => hsp x (e1 x hx)))
    simp only [List.append_nil] at this ⊢
    exact this

theorem shrinkHoles_inPlace : (Rows.shrinkHolesRow.inPlace == Try.prog.inPlace 21) = true := by kernel_rfl
theorem shrinkHoles_unfollowed : (Rows.shrinkHolesRow.unfollowed == Try.prog.unfollowed 21) = true := by kernel_rfl
theorem shrinkHoles_recurses : (Rows.shrinkHolesRow.recurses == Try.prog.recurses 21) = true := by kernel_rfl
theorem shrinkHoles_named : (Rows.shrinkHolesRow.named == Try.prog.varsNamed 21) = true := by kernel_rfl
theorem shrinkHoles_wf : Rows.shrinkHolesRow.wf (OpenSpec.ofChange Rows.shrinkHolesSpec) = true := by kernel_rfl
theorem shrinkHoles_closed : joinedFacts Try.prog 21 Try.f21 Rows.shrinkHolesSpec Rows.shrinkHolesRow = true := by
  unfold joinedFacts
  exact (and_t (and_t (and_t (and_t (and_t (and_t (and_t (and_t (and_t (and_t (and_t (and_t (and_t (and_t (and_t (and_t (and_t (and_t (and_t (and_t (and_t (and_t (and_t (and_t (and_t (and_t (and_t (and_t (and_t (and_t (and_t shrinkHoles_wf laidK) mapsK) (by kernel_rfl)) (by kernel_rfl)) (by kernel_rfl)) stopsK) (by kernel_rfl)) knobsK) shrinkHoles_inPlace) shrinkHoles_unfollowed) shrinkHoles_recurses) shrinkHoles_named) (by kernel_rfl)) (by kernel_rfl)) (by kernel_rfl)) (by kernel_rfl)) (by kernel_rfl)) (by kernel_rfl)) (by kernel_rfl)) (by kernel_rfl)) (by kernel_rfl)) (by kernel_rfl)) (by kernel_rfl)) heardK) enterK) (lifts_eq rfl)) (make_eq rfl)) (by kernel_rfl)) (by kernel_rfl)) (by kernel_rfl)) (by kernel_rfl))

theorem shrinkHoles_fn : Try.prog.funcNamed Rows.shrinkHolesRow.func = some 21 := by kernel_rfl
theorem shrinkHoles_holds : Rows.ShrinkHolesSaid :=
  OpenClaim.holds_of_wide 21 Try.f21 rfl rfl rfl rfl rfl rfl rfl ⟨rfl, rfl, rfl, rfl, rfl⟩ rfl rfl rfl rfl rfl shrinkHoles_fn Try.func21 shrinkHoles_closed
    (of_decide_eq_true (by kernel_rfl)) (by unfold Func.isWrapper; first | (rw [if_pos (by decide +kernel)]; kernel_rfl) | (rw [if_neg (by decide +kernel)]; exact ⟨rfl, rfl⟩))
    (fun os started H enc _ => shrinkHoles_lifted os started H enc)

#print axioms shrinkHoles_holds
end Go.Proofs.Ytjbfplfopagpjaa
