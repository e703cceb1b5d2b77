/- TernTells: for every input the law tells true, and its arguments read behind the call as they did; no condition. -/
import Derived.Test.YtjbfplfopagpjaaD4
import Derived.Test.YtjbfplfopagpjaaC17
namespace Go.Proofs.Ytjbfplfopagpjaa
open Go.ChangeShapes Go.WideShapes Go.ChangeAt Go.RowKit Go.Vd

set_option maxRecDepth 100000 in
theorem ternTells_lifted (os : Os) (started : os.Started) (H : Type) (enc : TypeId × Value → H) :
    ReturnsInHanded {} Try.checked os 10 .any (Rows.ternTellsSpec.pre6 enc Try.prog Try.f10 Rows.ternTellsRow.domain false) (Rows.ternTellsSpec.post enc Try.prog Try.f10 false true false false) := by
  refine returnsInHanded_of_change (C := Try.checked) ownK started (by kernel_rfl) Try.func10
    (ChangeSpec.witness6 (enc := enc) (C := Try.checked) false ⟨#[], #[.slice none 0 0, .slice none 0 0], []⟩ 8 (by kernel_rfl) (by kernel_rfl) (by kernel_rfl) (by kernel_rfl)) ?_
  intro W base args ds gs before hval0 hW hcnd _
  have hval : ∀ (j : Nat) t v, Try.f10.params[j]? = some t → args[j]? = some v → Value.okWide Try.prog W .any base t v := hval0
  have hW' := hW
  obtain ⟨p, q, hA0, hV, rfl, hfz, hnd⟩ := hW
  have hA : DataW.TrodAll enc Try.prog W 0 (fun _ => true) true Try.f10.params.toList args.toList ds p := hA0
  rw [Try.params10] at hA hval
  obtain ⟨v0, v1, d0, d1, p0, p1, rfl, rfl, rfl, h0, h1⟩ := trodAll_two hA
  obtain ⟨rfl, rfl⟩ := trodVars_none hV
  obtain ⟨a0, n0, c0, hv0⟩ := okWide_slice Try.underlying70 (hval 0 70 v0 rfl rfl)
  obtain ⟨l, hlf, hr0⟩ := arg_one rd70 h0 (fun cs e => by rw [hv0] at e; cases e)
  obtain ⟨a1, n1, c1, hv1⟩ := okWide_slice Try.underlying70 (hval 1 70 v1 rfl rfl)
  obtain ⟨m, hmf, hr1⟩ := arg_one rd70 h1 (fun cs e => by rw [hv1] at e; cases e)
  have hlt := hW'.lt
  refine ((pc_10 l m hlf.2.nn hmf.2.nn hlf.1 hmf.1).2 W (fun _ => True) #[v0, v1] ⟨rfl, fun i x u hx hu => ?_⟩).mono fun e W' ⟨u, he, hb, hu⟩ => ?_
  · match i with
    | 0 => cases hx; cases hu; exact hr0
    | 1 => cases hx; cases hu; exact hr1
    | i + 2 => simp at hx
  · cases hu
    refine ⟨_, he, post_true hW' hb Try.underlying4 rfl rfl (fun sp hsp => ?_) (fun _ => rfl)⟩
    have e0 : ∀ x ∈ p0, x ∈ (p0 ++ p1) ++ [] := fun x hx => by simp [hx]
    have e1 : ∀ x ∈ p1, x ∈ (p0 ++ p1) ++ [] := fun x hx => by simp [hx]
    have := trodAll_mk2 (stays (by kernel_rfl) (of_decide_eq_true (by kernel_rfl)) h0 hb (fun x hx => hlt x (e0 x hx)) (fun x hx => hsp x (e0 x hx))) (stays (by kernel_rfl) (of_decide_eq_true (by kernel_rfl)) h1 hb (fun x hx => hlt x (e1 x hx)) (fun x hx => hsp x (e1 x hx)))
    simp only [List.append_nil] at this ⊢
    exact this

theorem ternTells_inPlace : (Rows.ternTellsRow.inPlace == Try.prog.inPlace 10) = true := by kernel_rfl
theorem ternTells_unfollowed : (Rows.ternTellsRow.unfollowed == Try.prog.unfollowed 10) = true := by kernel_rfl
theorem ternTells_recurses : (Rows.ternTellsRow.recurses == Try.prog.recurses 10) = true := by kernel_rfl
theorem ternTells_named : (Rows.ternTellsRow.named == Try.prog.varsNamed 10) = true := by kernel_rfl
theorem ternTells_wf : Rows.ternTellsRow.wf (OpenSpec.ofChange Rows.ternTellsSpec) = true := by kernel_rfl
theorem ternTells_closed : joinedFacts Try.prog 10 Try.f10 Rows.ternTellsSpec Rows.ternTellsRow = true := by
  unfold joinedFacts
  exact (and_t (and_t (and_t (and_t (and_t (and_t (and_t (and_t (and_t (and_t (and_t (and_t (and_t (and_t (and_t (and_t (and_t (and_t (and_t (and_t (and_t (and_t (and_t (and_t (and_t (and_t (and_t (and_t (and_t (and_t (and_t ternTells_wf laidK) mapsK) (by kernel_rfl)) (by kernel_rfl)) (by kernel_rfl)) stopsK) (by kernel_rfl)) knobsK) ternTells_inPlace) ternTells_unfollowed) ternTells_recurses) ternTells_named) (by kernel_rfl)) (by kernel_rfl)) (by kernel_rfl)) (by kernel_rfl)) (by kernel_rfl)) (by kernel_rfl)) (by kernel_rfl)) (by kernel_rfl)) (by kernel_rfl)) (by kernel_rfl)) (by kernel_rfl)) heardK) enterK) (lifts_eq rfl)) (make_eq rfl)) (by kernel_rfl)) (by kernel_rfl)) (by kernel_rfl)) (by kernel_rfl))

theorem ternTells_fn : Try.prog.funcNamed Rows.ternTellsRow.func = some 10 := by kernel_rfl
theorem ternTells_holds : Rows.TernTellsSaid :=
  OpenClaim.holds_of_wide 10 Try.f10 rfl rfl rfl rfl rfl rfl rfl ⟨rfl, rfl, rfl, rfl, rfl⟩ rfl rfl rfl rfl rfl ternTells_fn Try.func10 ternTells_closed
    (of_decide_eq_true (by kernel_rfl)) (by unfold Func.isWrapper; first | (rw [if_pos (by decide +kernel)]; kernel_rfl) | (rw [if_neg (by decide +kernel)]; exact ⟨rfl, rfl⟩))
    (fun os started H enc _ => ternTells_lifted os started H enc)

#print axioms ternTells_holds
end Go.Proofs.Ytjbfplfopagpjaa
