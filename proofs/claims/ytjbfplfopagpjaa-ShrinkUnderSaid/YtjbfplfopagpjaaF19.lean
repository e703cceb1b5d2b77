/- ShrinkUnder: for every input the law tells true, and its arguments read behind the call as they did; no condition. -/
import Derived.Test.YtjbfplfopagpjaaMe
namespace Go.Proofs.Ytjbfplfopagpjaa
open Go.ChangeShapes Go.WideShapes Go.ChangeAt Go.RowKit Go.Vd

theorem rd113 : Reads Try.prog 113 (fun x : Aig × Vd.Trace × Vd.Trace × Vd.Trace × Int => in19 x.1 x.2.1 x.2.2.1 x.2.2.2.1 x.2.2.2.2) (fun x => Fit x.1 ∧ FitT x.2.1 ∧ FitT x.2.2.1 ∧ FitT x.2.2.2.1) :=
  (reads_struct (T := 113) (N := 17) (flds := [(0, 27), (7, 101), (10, 101), (13, 101), (16, 3)]) Try.underlying113 (by kernel_rfl) rfl (readsF_cons (sz := 7) (o' := 7) rd27 (by kernel_rfl) rfl (readsF_cons (sz := 3) (o' := 10) rd101 (by kernel_rfl) rfl (readsF_cons (sz := 3) (o' := 13) rd101 (by kernel_rfl) rfl (readsF_cons (sz := 3) (o' := 16) rd101 (by kernel_rfl) rfl (readsF_cons (sz := 1) (o' := 17) rd3 (by kernel_rfl) rfl (readsF_nil (Nat.le_refl _)))))))).map (fun p => (p.1, p.2.1, p.2.2.1, p.2.2.2.1, p.2.2.2.2.1)) (fun _ => rfl) (fun _ h => ⟨h.1, h.2.1, h.2.2.1, h.2.2.2.1⟩)

set_option maxRecDepth 100000 in
theorem shrinkUnder_lifted (os : Os) (started : os.Started) (H : Type) (enc : TypeId × Value → H) :
    ReturnsInHanded {} Try.checked os 19 .any (Rows.shrinkUnderSpec.pre6 enc Try.prog Try.f19 Rows.shrinkUnderRow.domain false) (Rows.shrinkUnderSpec.post enc Try.prog Try.f19 false true false false) := by
  refine returnsInHanded_of_change (C := Try.checked) ownK started (by kernel_rfl) Try.func19
    (ChangeSpec.witness6 (enc := enc) (C := Try.checked) false ⟨#[], #[.agg #[.int .i64 0, .slice none 0 0, .slice none 0 0, .slice none 0 0, .slice none 0 0, .slice none 0 0, .slice none 0 0, .int .i64 0, .slice none 0 0, .slice none 0 0, .int .i64 0, .slice none 0 0, .slice none 0 0, .int .i64 0, .slice none 0 0, .slice none 0 0, .int .i64 0]], []⟩ 8 (by kernel_rfl) (by kernel_rfl) (by kernel_rfl) (by kernel_rfl)) ?_
  intro W base args ds gs before hval0 hW hcnd _
  have hval : ∀ (j : Nat) t v, Try.f19.params[j]? = some t → args[j]? = some v → Value.okWide Try.prog W .any base t v := hval0
  have hW' := hW
  obtain ⟨p, q, hA0, hV, rfl, hfz, hnd⟩ := hW
  have hA : DataW.TrodAll enc Try.prog W 0 (fun _ => true) true Try.f19.params.toList args.toList ds p := hA0
  rw [Try.params19] at hA hval
  obtain ⟨v0, d0, rfl, rfl, h0⟩ := trodAll_one hA
  obtain ⟨rfl, rfl⟩ := trodVars_none hV
  obtain ⟨cs0, hv0, _⟩ := okWide_struct Try.underlying113 (hval 0 113 v0 rfl rfl)
  obtain ⟨x, hx, hr0⟩ := arg_agg rd113 h0 hv0
  have hlt := hW'.lt
  refine ((pc_19 x.1 x.2.1 x.2.2.1 x.2.2.2.1 x.2.2.2.2 hx.1 hx.2.1 hx.2.2.1 hx.2.2.2).2 W (fun _ => True) #[v0] ⟨rfl, fun i x u hx hu => ?_⟩).mono fun e W' ⟨u, he, hb, hu⟩ => ?_
  · match i with
    | 0 => cases hx; cases hu; exact hr0
    | i + 1 => simp at hx
  · cases hu
    refine ⟨_, he, post_true hW' hb Try.underlying4 rfl rfl (fun sp hsp => ?_) (fun _ => rfl)⟩
    have e0 : ∀ x ∈ p, x ∈ (p) ++ [] := fun x hx => by simp [hx]
    have := trodAll_mk1 (stays (by kernel_rfl) (of_decide_eq_true (by kernel_rfl)) h0 hb (fun x hx => hlt x (e0 x hx)) (fun x hx => hsp x (e0 x hx)))
    simp only [List.append_nil] at this ⊢
    exact this

theorem shrinkUnder_inPlace : (Rows.shrinkUnderRow.inPlace == Try.prog.inPlace 19) = true := by kernel_rfl
theorem shrinkUnder_unfollowed : (Rows.shrinkUnderRow.unfollowed == Try.prog.unfollowed 19) = true := by kernel_rfl
theorem shrinkUnder_recurses : (Rows.shrinkUnderRow.recurses == Try.prog.recurses 19) = true := by kernel_rfl
theorem shrinkUnder_named : (Rows.shrinkUnderRow.named == Try.prog.varsNamed 19) = true := by kernel_rfl
theorem shrinkUnder_wf : Rows.shrinkUnderRow.wf (OpenSpec.ofChange Rows.shrinkUnderSpec) = true := by kernel_rfl
theorem shrinkUnder_closed : joinedFacts Try.prog 19 Try.f19 Rows.shrinkUnderSpec Rows.shrinkUnderRow = true := by
  unfold joinedFacts
  exact (and_t (and_t (and_t (and_t (and_t (and_t (and_t (and_t (and_t (and_t (and_t (and_t (and_t (and_t (and_t (and_t (and_t (and_t (and_t (and_t (and_t (and_t (and_t (and_t (and_t (and_t (and_t (and_t (and_t (and_t (and_t shrinkUnder_wf laidK) mapsK) (by kernel_rfl)) (by kernel_rfl)) (by kernel_rfl)) stopsK) (by kernel_rfl)) knobsK) shrinkUnder_inPlace) shrinkUnder_unfollowed) shrinkUnder_recurses) shrinkUnder_named) (by kernel_rfl)) (by kernel_rfl)) (by kernel_rfl)) (by kernel_rfl)) (by kernel_rfl)) (by kernel_rfl)) (by kernel_rfl)) (by kernel_rfl)) (by kernel_rfl)) (by kernel_rfl)) (by kernel_rfl)) heardK) enterK) (lifts_eq rfl)) (make_eq rfl)) (by kernel_rfl)) (by kernel_rfl)) (by kernel_rfl)) (by kernel_rfl))

theorem shrinkUnder_fn : Try.prog.funcNamed Rows.shrinkUnderRow.func = some 19 := by kernel_rfl
theorem shrinkUnder_holds : Rows.ShrinkUnderSaid :=
  OpenClaim.holds_of_wide 19 Try.f19 rfl rfl rfl rfl rfl rfl rfl ⟨rfl, rfl, rfl, rfl, rfl⟩ rfl rfl rfl rfl rfl shrinkUnder_fn Try.func19 shrinkUnder_closed
    (of_decide_eq_true (by kernel_rfl)) (by unfold Func.isWrapper; first | (rw [if_pos (by decide +kernel)]; kernel_rfl) | (rw [if_neg (by decide +kernel)]; exact ⟨rfl, rfl⟩))
    (fun os started H enc _ => shrinkUnder_lifted os started H enc)

#print axioms shrinkUnder_holds
end Go.Proofs.Ytjbfplfopagpjaa
