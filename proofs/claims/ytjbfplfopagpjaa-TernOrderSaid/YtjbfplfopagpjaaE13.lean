/- TernOrder: for every input the law tells true, and its arguments read behind the call as they did; no condition. -/
import Derived.Test.YtjbfplfopagpjaaD4
import Derived.Test.YtjbfplfopagpjaaC17
namespace Go.Proofs.Ytjbfplfopagpjaa
open Go.ChangeShapes Go.WideShapes Go.ChangeAt Go.RowKit Go.Vd

set_option maxRecDepth 100000 in
theorem ternOrder_lifted (os : Os) (started : os.Started) (H : Type) (enc : TypeId × Value → H) :
    ReturnsInHanded {} Try.checked os 13 .any (Rows.ternOrderSpec.pre6 enc Try.prog Try.f13 Rows.ternOrderRow.domain false) (Rows.ternOrderSpec.post enc Try.prog Try.f13 false true false false) := by
  refine returnsInHanded_of_change (C := Try.checked) ownK started (by kernel_rfl) Try.func13
    (ChangeSpec.witness6 (enc := enc) (C := Try.checked) false ⟨#[], #[.int .u8 0, .int .u8 0, .int .u8 0], []⟩ 8 (by kernel_rfl) (by kernel_rfl) (by kernel_rfl) (by kernel_rfl)) ?_
  intro W base args ds gs before hval0 hW hcnd _
  have hval : ∀ (j : Nat) t v, Try.f13.params[j]? = some t → args[j]? = some v → Value.okWide Try.prog W .any base t v := hval0
  have hW' := hW
  obtain ⟨p, q, hA0, hV, rfl, hfz, hnd⟩ := hW
  have hA : DataW.TrodAll enc Try.prog W 0 (fun _ => true) true Try.f13.params.toList args.toList ds p := hA0
  rw [Try.params13] at hA hval
  obtain ⟨v0, v1, v2, d0, d1, d2, p0, p1, p2, rfl, rfl, rfl, h0, h1, h2⟩ := trodAll_three hA
  obtain ⟨rfl, rfl⟩ := trodVars_none hV
  obtain ⟨n0, hv0⟩ := okWide_int Try.underlying72 (hval 0 72 v0 rfl rfl)
  obtain ⟨x, hxf, hr0⟩ := arg_one rd72 h0 (fun cs e => by rw [hv0] at e; cases e)
  obtain ⟨n1, hv1⟩ := okWide_int Try.underlying72 (hval 1 72 v1 rfl rfl)
  obtain ⟨y, hyf, hr1⟩ := arg_one rd72 h1 (fun cs e => by rw [hv1] at e; cases e)
  obtain ⟨n2, hv2⟩ := okWide_int Try.underlying72 (hval 2 72 v2 rfl rfl)
  obtain ⟨z, hzf, hr2⟩ := arg_one rd72 h2 (fun cs e => by rw [hv2] at e; cases e)
  have hlt := hW'.lt
  refine ((pc_13 x y z hxf.1 hyf.1 hzf.1).2 W (fun _ => True) #[v0, v1, v2] ⟨rfl, fun i x u hx hu => ?_⟩).mono fun e W' ⟨u, he, hb, hu⟩ => ?_
  · match i with
    | 0 => cases hx; cases hu; exact hr0
    | 1 => cases hx; cases hu; exact hr1
    | 2 => cases hx; cases hu; exact hr2
    | i + 3 => simp at hx
  · cases hu
    refine ⟨_, he, post_true hW' hb Try.underlying4 rfl rfl (fun sp hsp => ?_) (fun _ => rfl)⟩
    have e0 : ∀ x ∈ p0, x ∈ (p0 ++ p1 ++ p2) ++ [] := fun x hx => by simp [hx]
    have e1 : ∀ x ∈ p1, x ∈ (p0 ++ p1 ++ p2) ++ [] := fun x hx => by simp [hx]
    have e2 : ∀ x ∈ p2, x ∈ (p0 ++ p1 ++ p2) ++ [] := fun x hx => by simp [hx]
    have := trodAll_mk3 (stays (by kernel_rfl) (of_decide_eq_true (by kernel_rfl)) h0 hb (fun x hx => hlt x (e0 x hx)) (fun x hx => hsp x (e0 x hx))) (stays (by kernel_rfl) (of_decide_eq_true (by kernel_rfl)) h1 hb (fun x hx => hlt x (e1 x hx)) (fun x hx => hsp x (e1 x hx))) (stays (by kernel_rfl) (of_decide_eq_true (by kernel_rfl)) h2 hb (fun x hx => hlt x (e2 x hx)) (fun x hx => hsp x (e2 x hx)))
    simp only [List.append_nil, List.append_assoc] at this ⊢
    exact this

theorem ternOrder_inPlace : (Rows.ternOrderRow.inPlace == Try.prog.inPlace 13) = true := by kernel_rfl
theorem ternOrder_unfollowed : (Rows.ternOrderRow.unfollowed == Try.prog.unfollowed 13) = true := by kernel_rfl
theorem ternOrder_recurses : (Rows.ternOrderRow.recurses == Try.prog.recurses 13) = true := by kernel_rfl
theorem ternOrder_named : (Rows.ternOrderRow.named == Try.prog.varsNamed 13) = true := by kernel_rfl
theorem ternOrder_wf : Rows.ternOrderRow.wf (OpenSpec.ofChange Rows.ternOrderSpec) = true := by kernel_rfl
theorem ternOrder_closed : joinedFacts Try.prog 13 Try.f13 Rows.ternOrderSpec Rows.ternOrderRow = true := by
  unfold joinedFacts
  exact (and_t (and_t (and_t (and_t (and_t (and_t (and_t (and_t (and_t (and_t (and_t (and_t (and_t (and_t (and_t (and_t (and_t (and_t (and_t (and_t (and_t (and_t (and_t (and_t (and_t (and_t (and_t (and_t (and_t (and_t (and_t ternOrder_wf laidK) mapsK) (by kernel_rfl)) (by kernel_rfl)) (by kernel_rfl)) stopsK) (by kernel_rfl)) knobsK) ternOrder_inPlace) ternOrder_unfollowed) ternOrder_recurses) ternOrder_named) (by kernel_rfl)) (by kernel_rfl)) (by kernel_rfl)) (by kernel_rfl)) (by kernel_rfl)) (by kernel_rfl)) (by kernel_rfl)) (by kernel_rfl)) (by kernel_rfl)) (by kernel_rfl)) (by kernel_rfl)) heardK) enterK) (lifts_eq rfl)) (make_eq rfl)) (by kernel_rfl)) (by kernel_rfl)) (by kernel_rfl)) (by kernel_rfl))

theorem ternOrder_fn : Try.prog.funcNamed Rows.ternOrderRow.func = some 13 := by kernel_rfl
theorem ternOrder_holds : Rows.TernOrderSaid :=
  OpenClaim.holds_of_wide 13 Try.f13 rfl rfl rfl rfl rfl rfl rfl ⟨rfl, rfl, rfl, rfl, rfl⟩ rfl rfl rfl rfl rfl ternOrder_fn Try.func13 ternOrder_closed
    (of_decide_eq_true (by kernel_rfl)) (by unfold Func.isWrapper; first | (rw [if_pos (by decide +kernel)]; kernel_rfl) | (rw [if_neg (by decide +kernel)]; exact ⟨rfl, rfl⟩))
    (fun os started H enc _ => ternOrder_lifted os started H enc)

#print axioms ternOrder_holds
end Go.Proofs.Ytjbfplfopagpjaa
