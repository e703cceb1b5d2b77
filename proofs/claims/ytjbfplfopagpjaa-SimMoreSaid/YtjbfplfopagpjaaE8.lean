/- SimMore: for every input the law tells true, and its arguments read behind the call as they did; no condition. -/
import Derived.Test.YtjbfplfopagpjaaD3
import Derived.Test.YtjbfplfopagpjaaC14
import Derived.Test.YtjbfplfopagpjaaD5
namespace Go.Proofs.Ytjbfplfopagpjaa
open Go.ChangeShapes Go.WideShapes Go.ChangeAt Go.RowKit Go.Vd

theorem rd67 : ReadsW Try.prog 67 (fun x : Aig × Gate × List Bool × List Bool => in8 x.1 x.2.1 x.2.2.1 x.2.2.2) (fun x => Fit x.1 ∧ x.1.g.length * 16 ≤ reachBytes) :=
  (readsW_struct (T := 67) (N := 11) (flds := [(0, 27), (7, 58), (9, 28), (10, 28)]) Try.underlying67 (by kernel_rfl) rfl (readsFW_cons (sz := 7) (o' := 7) rd27W (by kernel_rfl) rfl (readsFW_cons (sz := 2) (o' := 9) rd58.toW (by kernel_rfl) rfl (readsFW_cons (sz := 1) (o' := 10) rd28.toW (by kernel_rfl) rfl (readsFW_cons (sz := 1) (o' := 11) rd28.toW (by kernel_rfl) rfl (readsFW_nil (Nat.le_refl _))))))).map (fun p => (p.1, p.2.1, p.2.2.1, p.2.2.2.1)) (fun _ => rfl) (fun _ h => h.1)

set_option maxRecDepth 100000 in
theorem simMore_lifted (os : Os) (started : os.Started) (H : Type) (enc : TypeId × Value → H) :
    ReturnsInHanded {} Try.checked os 8 .any (Rows.simMoreSpec.pre6 enc Try.prog Try.f8 Rows.simMoreRow.domain false) (Rows.simMoreSpec.post enc Try.prog Try.f8 false true false false) := by
  refine returnsInHanded_of_change_sized (C := Try.checked) ownK started (by kernel_rfl) Try.func8
    (ChangeSpec.witness6 (enc := enc) (C := Try.checked) false ⟨#[], #[.agg #[.int .i64 0, .slice none 0 0, .slice none 0 0, .slice none 0 0, .slice none 0 0, .slice none 0 0, .slice none 0 0, .int .i64 0, .int .i64 0, .slice none 0 0, .slice none 0 0]], []⟩ 8 (by kernel_rfl) (by kernel_rfl) (by kernel_rfl) (by kernel_rfl)) ?_
  intro W base args ds gs before hval0 hW hcnd hwt _
  have hval : ∀ (j : Nat) t v, Try.f8.params[j]? = some t → args[j]? = some v → Value.okWide Try.prog W .any base t v := hval0
  have hW' := hW
  obtain ⟨p, q, hA0, hV, rfl, hfz, hnd⟩ := hW
  have hA : DataW.TrodAll enc Try.prog W 0 (fun _ => true) true Try.f8.params.toList args.toList ds p := hA0
  rw [Try.params8] at hA hval
  obtain ⟨v0, d0, rfl, rfl, h0⟩ := trodAll_one hA
  obtain ⟨rfl, rfl⟩ := trodVars_none hV
  obtain ⟨cs0, hv0, _⟩ := okWide_struct Try.underlying67 (hval 0 67 v0 rfl rfl)
  obtain ⟨x, hx, hr0⟩ := arg_aggW rd67 h0 hv0 (weight_at (j := 0) hwt rfl rfl)
  have hlt := hW'.lt
  refine ((pc_8 x.1 x.2.1 x.2.2.1 x.2.2.2 hx.1 hx.2).2 W (fun _ => True) #[v0] ⟨rfl, fun i x u hx hu => ?_⟩).mono fun e W' ⟨u, he, hb, hu⟩ => ?_
  · match i with
    | 0 => cases hx; cases hu; exact hr0
    | i + 1 => simp at hx
  · cases hu
    refine ⟨_, he, post_true hW' hb Try.underlying4 rfl rfl (fun sp hsp => ?_) (fun _ => rfl)⟩
    have e0 : ∀ x ∈ p, x ∈ (p) ++ [] := fun x hx => by simp [hx]
    have := trodAll_mk1 (stays (by kernel_rfl) (of_decide_eq_true (by kernel_rfl)) h0 hb (fun x hx => hlt x (e0 x hx)) (fun x hx => hsp x (e0 x hx)))
    simp only [List.append_nil] at this ⊢
    exact this

theorem simMore_inPlace : (Rows.simMoreRow.inPlace == Try.prog.inPlace 8) = true := by kernel_rfl
theorem simMore_unfollowed : (Rows.simMoreRow.unfollowed == Try.prog.unfollowed 8) = true := by kernel_rfl
theorem simMore_recurses : (Rows.simMoreRow.recurses == Try.prog.recurses 8) = true := by kernel_rfl
theorem simMore_named : (Rows.simMoreRow.named == Try.prog.varsNamed 8) = true := by kernel_rfl
theorem simMore_wf : Rows.simMoreRow.wf (OpenSpec.ofChange Rows.simMoreSpec) = true := by kernel_rfl
theorem simMore_closed : joinedFacts Try.prog 8 Try.f8 Rows.simMoreSpec Rows.simMoreRow = true := by
  unfold joinedFacts
  exact (and_t (and_t (and_t (and_t (and_t (and_t (and_t (and_t (and_t (and_t (and_t (and_t (and_t (and_t (and_t (and_t (and_t (and_t (and_t (and_t (and_t (and_t (and_t (and_t (and_t (and_t (and_t (and_t (and_t (and_t (and_t simMore_wf laidK) mapsK) (by kernel_rfl)) (by kernel_rfl)) (by kernel_rfl)) stopsK) (by kernel_rfl)) knobsK) simMore_inPlace) simMore_unfollowed) simMore_recurses) simMore_named) (by kernel_rfl)) (by kernel_rfl)) (by kernel_rfl)) (by kernel_rfl)) (by kernel_rfl)) (by kernel_rfl)) (by kernel_rfl)) (by kernel_rfl)) (by kernel_rfl)) (by kernel_rfl)) (by kernel_rfl)) heardK) enterK) (lifts_eq rfl)) (make_eq rfl)) (by kernel_rfl)) (by kernel_rfl)) (by kernel_rfl)) (by kernel_rfl))

theorem simMore_fn : Try.prog.funcNamed Rows.simMoreRow.func = some 8 := by kernel_rfl
theorem simMore_holds : Rows.SimMoreSaid :=
  OpenClaim.holds_of_wide 8 Try.f8 rfl rfl rfl rfl rfl rfl rfl ⟨rfl, rfl, rfl, rfl, rfl⟩ rfl rfl rfl rfl rfl simMore_fn Try.func8 simMore_closed
    (of_decide_eq_true (by kernel_rfl)) (by unfold Func.isWrapper; first | (rw [if_pos (by decide +kernel)]; kernel_rfl) | (rw [if_neg (by decide +kernel)]; exact ⟨rfl, rfl⟩))
    (fun os started H enc _ => simMore_lifted os started H enc)

#print axioms simMore_holds
end Go.Proofs.Ytjbfplfopagpjaa
