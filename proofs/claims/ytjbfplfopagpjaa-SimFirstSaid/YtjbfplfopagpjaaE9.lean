/- SimFirst: for every model and row the law tells true, and its arguments read behind the call as they did; no condition. -/
import Derived.Test.YtjbfplfopagpjaaD3
import Derived.Test.YtjbfplfopagpjaaC8
namespace Go.Proofs.Ytjbfplfopagpjaa
open Go.ChangeShapes Go.WideShapes Go.ChangeAt Go.RowKit Go.Vd

set_option maxRecDepth 100000 in
theorem simFirst_lifted (os : Os) (started : os.Started) (H : Type) (enc : TypeId × Value → H) :
    ReturnsInHanded {} Try.checked os 9 .any (Rows.simFirstSpec.pre6 enc Try.prog Try.f9 Rows.simFirstRow.domain false) (Rows.simFirstSpec.post enc Try.prog Try.f9 false true false false) := by
  refine returnsInHanded_of_change (C := Try.checked) ownK started (by kernel_rfl) Try.func9
    (ChangeSpec.witness6 (enc := enc) (C := Try.checked) false ⟨#[], #[.agg #[.int .i64 0, .slice none 0 0, .slice none 0 0, .slice none 0 0, .slice none 0 0, .slice none 0 0, .slice none 0 0], .slice none 0 0], []⟩ 8 (by kernel_rfl) (by kernel_rfl) (by kernel_rfl) (by kernel_rfl)) ?_
  intro W base args ds gs before hval0 hW hcnd _
  have hval : ∀ (j : Nat) t v, Try.f9.params[j]? = some t → args[j]? = some v → Value.okWide Try.prog W .any base t v := hval0
  have hW' := hW
  obtain ⟨p, q, hA0, hV, rfl, hfz, hnd⟩ := hW
  have hA : DataW.TrodAll enc Try.prog W 0 (fun _ => true) true Try.f9.params.toList args.toList ds p := hA0
  rw [Try.params9] at hA hval
  obtain ⟨v0, v1, d0, d1, p0, p1, rfl, rfl, rfl, h0, h1⟩ := trodAll_two hA
  obtain ⟨rfl, rfl⟩ := trodVars_none hV
  obtain ⟨cs0, hv0, _⟩ := okWide_struct Try.underlying27 (hval 0 27 v0 rfl rfl)
  obtain ⟨a, hfit, hr0⟩ := arg_agg rd27 h0 hv0
  obtain ⟨a1, n1, c1, hv1⟩ := okWide_slice Try.underlying28 (hval 1 28 v1 rfl rfl)
  obtain ⟨fr, hfrf, hr1⟩ := arg_one rd28 h1 (fun cs e => by rw [hv1] at e; cases e)
  have hlt := hW'.lt
  refine ((pc_9 a fr hfit).2 W (fun _ => True) #[v0, v1] ⟨rfl, fun i x u hx hu => ?_⟩).mono fun e W' ⟨u, he, hb, hu⟩ => ?_
  · match i with
    | 0 => cases hx; cases hu; exact hr0
    | 1 => cases hx; cases hu; exact hr1
    | i + 2 => simp at hx
  · cases hu
    refine ⟨_, he, post_true hW' hb Try.underlying4 rfl rfl (fun sp hsp => ?_) (fun _ => rfl)⟩
    have e0 : ∀ x ∈ p0, x ∈ (p0 ++ p1) ++ [] := fun x hx => by simp [hx]
    have e1 : ∀ x ∈ p1, x ∈ (p0 ++ p1) ++ [] := fun x hx => by simp [hx]
    have := trodAll_mk2 (stays (by kernel_rfl) (of_decide_eq_true (by kernel_rfl)) h0 hb (fun x hx => hlt x (e0 x hx)) (fun x hx => hsp x (e0 x hx))) (stays (by kernel_rfl) (of_decide_eq_true (by kernel_rfl)) h1 hb (fun x hx => hlt x (e1 x hx)) (fun x hx => hsp x (e1 x hx)))
    simp only [List.append_nil] at this ⊢
    exact this

theorem simFirst_inPlace : (Rows.simFirstRow.inPlace == Try.prog.inPlace 9) = true := by kernel_rfl
theorem simFirst_unfollowed : (Rows.simFirstRow.unfollowed == Try.prog.unfollowed 9) = true := by kernel_rfl
theorem simFirst_recurses : (Rows.simFirstRow.recurses == Try.prog.recurses 9) = true := by kernel_rfl
theorem simFirst_named : (Rows.simFirstRow.named == Try.prog.varsNamed 9) = true := by kernel_rfl
theorem simFirst_wf : Rows.simFirstRow.wf (OpenSpec.ofChange Rows.simFirstSpec) = true := by kernel_rfl
theorem simFirst_closed : joinedFacts Try.prog 9 Try.f9 Rows.simFirstSpec Rows.simFirstRow = true := by
  unfold joinedFacts
  exact (and_t (and_t (and_t (and_t (and_t (and_t (and_t (and_t (and_t (and_t (and_t (and_t (and_t (and_t (and_t (and_t (and_t (and_t (and_t (and_t (and_t (and_t (and_t (and_t (and_t (and_t (and_t (and_t (and_t (and_t (and_t simFirst_wf laidK) mapsK) (by kernel_rfl)) (by kernel_rfl)) (by kernel_rfl)) stopsK) (by kernel_rfl)) knobsK) simFirst_inPlace) simFirst_unfollowed) simFirst_recurses) simFirst_named) (by kernel_rfl)) (by kernel_rfl)) (by kernel_rfl)) (by kernel_rfl)) (by kernel_rfl)) (by kernel_rfl)) (by kernel_rfl)) (by kernel_rfl)) (by kernel_rfl)) (by kernel_rfl)) (by kernel_rfl)) heardK) enterK) (lifts_eq rfl)) (make_eq rfl)) (by kernel_rfl)) (by kernel_rfl)) (by kernel_rfl)) (by kernel_rfl))

theorem simFirst_fn : Try.prog.funcNamed Rows.simFirstRow.func = some 9 := by kernel_rfl
theorem simFirst_holds : Rows.SimFirstSaid :=
  OpenClaim.holds_of_wide 9 Try.f9 rfl rfl rfl rfl rfl rfl rfl ⟨rfl, rfl, rfl, rfl, rfl⟩ rfl rfl rfl rfl rfl simFirst_fn Try.func9 simFirst_closed
    (of_decide_eq_true (by kernel_rfl)) (by unfold Func.isWrapper; first | (rw [if_pos (by decide +kernel)]; kernel_rfl) | (rw [if_neg (by decide +kernel)]; exact ⟨rfl, rfl⟩))
    (fun os started H enc _ => simFirst_lifted os started H enc)

#print axioms simFirst_holds
end Go.Proofs.Ytjbfplfopagpjaa
