/- ShrinkOf: for every input the law tells true, and its arguments read behind the call as they did; no condition. -/
import Derived.Test.YtjbfplfopagpjaaMe
namespace Go.Proofs.Ytjbfplfopagpjaa
open Go.ChangeShapes Go.WideShapes Go.ChangeAt Go.RowKit Go.Vd

set_option maxRecDepth 100000 in
theorem shrinkOf_lifted (os : Os) (started : os.Started) (H : Type) (enc : TypeId × Value → H) :
    ReturnsInHanded {} Try.checked os 20 .any (Rows.shrinkOfSpec.pre6 enc Try.prog Try.f20 Rows.shrinkOfRow.domain false) (Rows.shrinkOfSpec.post enc Try.prog Try.f20 false true false false) := by
  refine returnsInHanded_of_change (C := Try.checked) ownK started (by kernel_rfl) Try.func20
    (ChangeSpec.witness6 (enc := enc) (C := Try.checked) false ⟨#[], #[.agg #[.int .i64 0, .slice none 0 0, .slice none 0 0, .slice none 0 0, .slice none 0 0, .slice none 0 0, .slice none 0 0], .agg #[.int .i64 0, .slice none 0 0, .slice none 0 0], .int .i64 0], []⟩ 8 (by kernel_rfl) (by kernel_rfl) (by kernel_rfl) (by kernel_rfl)) ?_
  intro W base args ds gs before hval0 hW hcnd _
  have hval : ∀ (j : Nat) t v, Try.f20.params[j]? = some t → args[j]? = some v → Value.okWide Try.prog W .any base t v := hval0
  have hW' := hW
  obtain ⟨p, q, hA0, hV, rfl, hfz, hnd⟩ := hW
  have hA : DataW.TrodAll enc Try.prog W 0 (fun _ => true) true Try.f20.params.toList args.toList ds p := hA0
  rw [Try.params20] at hA hval
  obtain ⟨v0, v1, v2, d0, d1, d2, p0, p1, p2, rfl, rfl, rfl, h0, h1, h2⟩ := trodAll_three hA
  obtain ⟨rfl, rfl⟩ := trodVars_none hV
  obtain ⟨cs0, hv0, _⟩ := okWide_struct Try.underlying27 (hval 0 27 v0 rfl rfl)
  obtain ⟨a, hfit, hr0⟩ := arg_agg rd27 h0 hv0
  obtain ⟨cs1, hv1, _⟩ := okWide_struct Try.underlying101 (hval 1 101 v1 rfl rfl)
  obtain ⟨t, htf, hr1⟩ := arg_agg rd101 h1 hv1
  obtain ⟨n2, hv2⟩ := okWide_int Try.underlying3 (hval 2 3 v2 rfl rfl)
  obtain ⟨n, hnf, hr2⟩ := arg_one rd3 h2 (fun cs e => by rw [hv2] at e; cases e)
  have hlt := hW'.lt
  refine ((pc_20 a t n hfit htf).2 W (fun _ => True) #[v0, v1, v2] ⟨rfl, fun i x u hx hu => ?_⟩).mono fun e W' ⟨u, he, hb, hu⟩ => ?_
  · match i with
    | 0 => cases hx; cases hu; exact hr0
    | 1 => cases hx; cases hu; exact hr1
    | 2 => cases hx; cases hu; exact hr2
    | i + 3 => simp at hx
  · cases hu
    refine ⟨_, he, post_true hW' hb Try.underlying4 rfl rfl (fun sp hsp => ?_) (fun _ => rfl)⟩
    have e0 : ∀ x ∈ p0, x ∈ (p0 ++ p1 ++ p2) ++ [] := fun x hx => by simp [hx]
    have e1 : ∀ x ∈ p1, x ∈ (p0 ++ p1 ++ p2) ++ [] := fun x hx => by simp [hx]
    have e2 : ∀ x ∈ p2, x ∈ (p0 ++ p1 ++ p2) ++ [] := fun x hx => by simp [hx]
    have := trodAll_mk3 (stays (by kernel_rfl) (of_decide_eq_true (by kernel_rfl)) h0 hb (fun x hx => hlt x (e0 x hx)) (fun x hx => hsp x (e0 x hx))) (stays (by kernel_rfl) (of_decide_eq_true (by kernel_rfl)) h1 hb (fun x hx => hlt x (e1 x hx)) (fun x hx => hsp x (e1 x hx))) (stays (by kernel_rfl) (of_decide_eq_true (by kernel_rfl)) h2 hb (fun x hx => hlt x (e2 x hx)) (fun x hx => hsp x (e2 x hx)))
    simp only [List.append_nil, List.append_assoc] at this ⊢
    exact this

theorem shrinkOf_inPlace : (Rows.shrinkOfRow.inPlace == Try.prog.inPlace 20) = true := by kernel_rfl
theorem shrinkOf_unfollowed : (Rows.shrinkOfRow.unfollowed == Try.prog.unfollowed 20) = true := by kernel_rfl
theorem shrinkOf_recurses : (Rows.shrinkOfRow.recurses == Try.prog.recurses 20) = true := by kernel_rfl
theorem shrinkOf_named : (Rows.shrinkOfRow.named == Try.prog.varsNamed 20) = true := by kernel_rfl
theorem shrinkOf_wf : Rows.shrinkOfRow.wf (OpenSpec.ofChange Rows.shrinkOfSpec) = true := by kernel_rfl
theorem shrinkOf_closed : joinedFacts Try.prog 20 Try.f20 Rows.shrinkOfSpec Rows.shrinkOfRow = true := by
  unfold joinedFacts
  exact (and_t (and_t (and_t (and_t (and_t (and_t (and_t (and_t (and_t (and_t (and_t (and_t (and_t (and_t (and_t (and_t (and_t (and_t (and_t (and_t (and_t (and_t (and_t (and_t (and_t (and_t (and_t (and_t (and_t (and_t (and_t shrinkOf_wf laidK) mapsK) (by kernel_rfl)) (by kernel_rfl)) (by kernel_rfl)) stopsK) (by kernel_rfl)) knobsK) shrinkOf_inPlace) shrinkOf_unfollowed) shrinkOf_recurses) shrinkOf_named) (by kernel_rfl)) (by kernel_rfl)) (by kernel_rfl)) (by kernel_rfl)) (by kernel_rfl)) (by kernel_rfl)) (by kernel_rfl)) (by kernel_rfl)) (by kernel_rfl)) (by kernel_rfl)) (by kernel_rfl)) heardK) enterK) (lifts_eq rfl)) (make_eq rfl)) (by kernel_rfl)) (by kernel_rfl)) (by kernel_rfl)) (by kernel_rfl))

theorem shrinkOf_fn : Try.prog.funcNamed Rows.shrinkOfRow.func = some 20 := by kernel_rfl
theorem shrinkOf_holds : Rows.ShrinkOfSaid :=
  OpenClaim.holds_of_wide 20 Try.f20 rfl rfl rfl rfl rfl rfl rfl ⟨rfl, rfl, rfl, rfl, rfl⟩ rfl rfl rfl rfl rfl shrinkOf_fn Try.func20 shrinkOf_closed
    (of_decide_eq_true (by kernel_rfl)) (by unfold Func.isWrapper; first | (rw [if_pos (by decide +kernel)]; kernel_rfl) | (rw [if_neg (by decide +kernel)]; exact ⟨rfl, rfl⟩))
    (fun os started H enc _ => shrinkOf_lifted os started H enc)

#print axioms shrinkOf_holds
end Go.Proofs.Ytjbfplfopagpjaa
