/- ShrinkFills: for every input the law tells true, and its arguments read behind the call as they did; no condition. -/
import Derived.Test.YtjbfplfopagpjaaMe
namespace Go.Proofs.Ytjbfplfopagpjaa
open Go.ChangeShapes Go.WideShapes Go.ChangeAt Go.RowKit Go.Vd

set_option maxRecDepth 100000 in
theorem shrinkFills_lifted (os : Os) (started : os.Started) (H : Type) (enc : TypeId × Value → H) :
    ReturnsInHanded {} Try.checked os 18 .any (Rows.shrinkFillsSpec.pre6 enc Try.prog Try.f18 Rows.shrinkFillsRow.domain false) (Rows.shrinkFillsSpec.post enc Try.prog Try.f18 false true false false) := by
  refine returnsInHanded_of_change (C := Try.checked) ownK started (by kernel_rfl) Try.func18
    (ChangeSpec.witness6 (enc := enc) (C := Try.checked) false ⟨#[], #[.agg #[.int .i64 0, .slice none 0 0, .slice none 0 0, .slice none 0 0, .slice none 0 0, .slice none 0 0, .slice none 0 0], .agg #[.int .i64 0, .slice none 0 0, .slice none 0 0], .slice none 0 0], []⟩ 8 (by kernel_rfl) (by kernel_rfl) (by kernel_rfl) (by kernel_rfl)) ?_
  intro W base args ds gs before hval0 hW hcnd _
  have hval : ∀ (j : Nat) t v, Try.f18.params[j]? = some t → args[j]? = some v → Value.okWide Try.prog W .any base t v := hval0
  have hW' := hW
  obtain ⟨p, q, hA0, hV, rfl, hfz, hnd⟩ := hW
  have hA : DataW.TrodAll enc Try.prog W 0 (fun _ => true) true Try.f18.params.toList args.toList ds p := hA0
  rw [Try.params18] at hA hval
  obtain ⟨v0, v1, v2, d0, d1, d2, p0, p1, p2, rfl, rfl, rfl, h0, h1, h2⟩ := trodAll_three hA
  obtain ⟨rfl, rfl⟩ := trodVars_none hV
  obtain ⟨cs0, hv0, _⟩ := okWide_struct Try.underlying27 (hval 0 27 v0 rfl rfl)
  obtain ⟨a, hfit, hr0⟩ := arg_agg rd27 h0 hv0
  obtain ⟨cs1, hv1, _⟩ := okWide_struct Try.underlying101 (hval 1 101 v1 rfl rfl)
  obtain ⟨t, htf, hr1⟩ := arg_agg rd101 h1 hv1
  obtain ⟨a2, n2, c2, hv2⟩ := okWide_slice Try.underlying28 (hval 2 28 v2 rfl rfl)
  obtain ⟨m, hmf, hr2⟩ := arg_one rd28 h2 (fun cs e => by rw [hv2] at e; cases e)
  have hlt := hW'.lt
  refine ((pc_18 a t m hfit htf).2 W (fun _ => True) #[v0, v1, v2] ⟨rfl, fun i x u hx hu => ?_⟩).mono fun e W' ⟨u, he, hb, hu⟩ => ?_
  · match i with
    | 0 => cases hx; cases hu; exact hr0
    | 1 => cases hx; cases hu; exact hr1
    | 2 => cases hx; cases hu; exact hr2
    | i + 3 => simp at hx
  · cases hu
    refine ⟨_, he, post_true hW' hb Try.underlying4 rfl rfl (fun sp hsp => ?_) (fun _ => rfl)⟩
    have e0 : ∀ x ∈ p0, x ∈ (p0 ++ p1 ++ p2) ++ [] := fun x hx => by simp [hx]
    have e1 : ∀ x ∈ p1, x ∈ (p0 ++ p1 ++ p2) ++ [] := fun x hx => by simp [hx]
    have e2 : ∀ x ∈ p2, x ∈ (p0 ++ p1 ++ p2) ++ [] := fun x hx => by simp [hx]
    have := trodAll_mk3 (stays (by kernel_rfl) (of_decide_eq_true (by kernel_rfl)) h0 hb (fun x hx => hlt x (e0 x hx)) (fun x hx => hsp x (e0 x hx))) (stays (by kernel_rfl) (of_decide_eq_true (by kernel_rfl)) h1 hb (fun x hx => hlt x (e1 x hx)) (fun x hx => hsp x (e1 x hx))) (stays (by kernel_rfl) (of_decide_eq_true (by kernel_rfl)) h2 hb (fun x hx => hlt x (e2 x hx)) (fun x hx => hsp x (e2 x hx)))
    simp only [List.append_nil, List.append_assoc] at this ⊢
    exact this

theorem shrinkFills_inPlace : (Rows.shrinkFillsRow.inPlace == Try.prog.inPlace 18) = true := by kernel_rfl
theorem shrinkFills_unfollowed : (Rows.shrinkFillsRow.unfollowed == Try.prog.unfollowed 18) = true := by kernel_rfl
theorem shrinkFills_recurses : (Rows.shrinkFillsRow.recurses == Try.prog.recurses 18) = true := by kernel_rfl
theorem shrinkFills_named : (Rows.shrinkFillsRow.named == Try.prog.varsNamed 18) = true := by kernel_rfl
theorem shrinkFills_wf : Rows.shrinkFillsRow.wf (OpenSpec.ofChange Rows.shrinkFillsSpec) = true := by kernel_rfl
theorem shrinkFills_closed : joinedFacts Try.prog 18 Try.f18 Rows.shrinkFillsSpec Rows.shrinkFillsRow = true := by
  unfold joinedFacts
  exact (and_t (and_t (and_t (and_t (and_t (and_t (and_t (and_t (and_t (and_t (and_t (and_t (and_t (and_t (and_t (and_t (and_t (and_t (and_t (and_t (and_t (and_t (and_t (and_t (and_t (and_t (and_t (and_t (and_t (and_t (and_t shrinkFills_wf laidK) mapsK) (by kernel_rfl)) (by kernel_rfl)) (by kernel_rfl)) stopsK) (by kernel_rfl)) knobsK) shrinkFills_inPlace) shrinkFills_unfollowed) shrinkFills_recurses) shrinkFills_named) (by kernel_rfl)) (by kernel_rfl)) (by kernel_rfl)) (by kernel_rfl)) (by kernel_rfl)) (by kernel_rfl)) (by kernel_rfl)) (by kernel_rfl)) (by kernel_rfl)) (by kernel_rfl)) (by kernel_rfl)) heardK) enterK) (lifts_eq rfl)) (make_eq rfl)) (by kernel_rfl)) (by kernel_rfl)) (by kernel_rfl)) (by kernel_rfl))

theorem shrinkFills_fn : Try.prog.funcNamed Rows.shrinkFillsRow.func = some 18 := by kernel_rfl
theorem shrinkFills_holds : Rows.ShrinkFillsSaid :=
  OpenClaim.holds_of_wide 18 Try.f18 rfl rfl rfl rfl rfl rfl rfl ⟨rfl, rfl, rfl, rfl, rfl⟩ rfl rfl rfl rfl rfl shrinkFills_fn Try.func18 shrinkFills_closed
    (of_decide_eq_true (by kernel_rfl)) (by unfold Func.isWrapper; first | (rw [if_pos (by decide +kernel)]; kernel_rfl) | (rw [if_neg (by decide +kernel)]; exact ⟨rfl, rfl⟩))
    (fun os started H enc _ => shrinkFills_lifted os started H enc)

#print axioms shrinkFills_holds
end Go.Proofs.Ytjbfplfopagpjaa
