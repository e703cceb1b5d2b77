/- TernExact: for every input the law tells true, and its arguments read behind the call as they did; no condition. -/
import Derived.Test.YtjbfplfopagpjaaD4
import Derived.Test.YtjbfplfopagpjaaC19
namespace Go.Proofs.Ytjbfplfopagpjaa
open Go.ChangeShapes Go.WideShapes Go.ChangeAt Go.RowKit Go.Vd

theorem rd95 : Reads Try.prog 95 (fun x : Aig × List Bool × List Bool × Int => in15 x.1 x.2.1 x.2.2.1 x.2.2.2) (fun x => Fit x.1) :=
  (reads_struct (T := 95) (N := 10) (flds := [(0, 27), (7, 28), (8, 28), (9, 3)]) Try.underlying95 (by kernel_rfl) rfl (readsF_cons (sz := 7) (o' := 7) rd27 (by kernel_rfl) rfl (readsF_cons (sz := 1) (o' := 8) rd28 (by kernel_rfl) rfl (readsF_cons (sz := 1) (o' := 9) rd28 (by kernel_rfl) rfl (readsF_cons (sz := 1) (o' := 10) rd3 (by kernel_rfl) rfl (readsF_nil (Nat.le_refl _))))))).map (fun p => (p.1, p.2.1, p.2.2.1, p.2.2.2.1)) (fun _ => rfl) (fun _ h => h.1)

set_option maxRecDepth 100000 in
theorem ternExact_lifted (os : Os) (started : os.Started) (H : Type) (enc : TypeId × Value → H) :
    ReturnsInHanded {} Try.checked os 15 .any (Rows.ternExactSpec.pre6 enc Try.prog Try.f15 Rows.ternExactRow.domain false) (Rows.ternExactSpec.post enc Try.prog Try.f15 false true false false) := by
  refine returnsInHanded_of_change (C := Try.checked) ownK started (by kernel_rfl) Try.func15
    (ChangeSpec.witness6 (enc := enc) (C := Try.checked) false ⟨#[], #[.agg #[.int .i64 0, .slice none 0 0, .slice none 0 0, .slice none 0 0, .slice none 0 0, .slice none 0 0, .slice none 0 0, .slice none 0 0, .slice none 0 0, .int .i64 0]], []⟩ 8 (by kernel_rfl) (by kernel_rfl) (by kernel_rfl) (by kernel_rfl)) ?_
  intro W base args ds gs before hval0 hW hcnd _
  have hval : ∀ (j : Nat) t v, Try.f15.params[j]? = some t → args[j]? = some v → Value.okWide Try.prog W .any base t v := hval0
  have hW' := hW
  obtain ⟨p, q, hA0, hV, rfl, hfz, hnd⟩ := hW
  have hA : DataW.TrodAll enc Try.prog W 0 (fun _ => true) true Try.f15.params.toList args.toList ds p := hA0
  rw [Try.params15] at hA hval
  obtain ⟨v0, d0, rfl, rfl, h0⟩ := trodAll_one hA
  obtain ⟨rfl, rfl⟩ := trodVars_none hV
  obtain ⟨cs0, hv0, _⟩ := okWide_struct Try.underlying95 (hval 0 95 v0 rfl rfl)
  obtain ⟨x, hx, hr0⟩ := arg_agg rd95 h0 hv0
  have hlt := hW'.lt
  refine ((pc_15 x.1 x.2.1 x.2.2.1 x.2.2.2 hx).2 W (fun _ => True) #[v0] ⟨rfl, fun i x u hx hu => ?_⟩).mono fun e W' ⟨u, he, hb, hu⟩ => ?_
  · match i with
    | 0 => cases hx; cases hu; exact hr0
    | i + 1 => simp at hx
  · cases hu
    refine ⟨_, he, post_true hW' hb Try.underlying4 rfl rfl (fun sp hsp => ?_) (fun _ => rfl)⟩
    have e0 : ∀ x ∈ p, x ∈ (p) ++ [] := fun x hx => by simp [hx]
    have := trodAll_mk1 (stays (by kernel_rfl) (of_decide_eq_true (by kernel_rfl)) h0 hb (fun x hx => hlt x (e0 x hx)) (fun x hx => hsp x (e0 x hx)))
    simp only [List.append_nil] at this ⊢
    exact this

theorem ternExact_inPlace : (Rows.ternExactRow.inPlace == Try.prog.inPlace 15) = true := by kernel_rfl
theorem ternExact_unfollowed : (Rows.ternExactRow.unfollowed == Try.prog.unfollowed 15) = true := by kernel_rfl
theorem ternExact_recurses : (Rows.ternExactRow.recurses == Try.prog.recurses 15) = true := by kernel_rfl
theorem ternExact_named : (Rows.ternExactRow.named == Try.prog.varsNamed 15) = true := by kernel_rfl
theorem ternExact_wf : Rows.ternExactRow.wf (OpenSpec.ofChange Rows.ternExactSpec) = true := by kernel_rfl
theorem ternExact_closed : joinedFacts Try.prog 15 Try.f15 Rows.ternExactSpec Rows.ternExactRow = true := by
  unfold joinedFacts
  exact (and_t (and_t (and_t (and_t (and_t (and_t (and_t (and_t (and_t (and_t (and_t (and_t (and_t (and_t (and_t (and_t (and_t (and_t (and_t (and_t (and_t (and_t (and_t (and_t (and_t (and_t (and_t (and_t (and_t (and_t (and_t ternExact_wf laidK) mapsK) (by kernel_rfl)) (by kernel_rfl)) (by kernel_rfl)) stopsK) (by kernel_rfl)) knobsK) ternExact_inPlace) ternExact_unfollowed) ternExact_recurses) ternExact_named) (by kernel_rfl)) (by kernel_rfl)) (by kernel_rfl)) (by kernel_rfl)) (by kernel_rfl)) (by kernel_rfl)) (by kernel_rfl)) (by kernel_rfl)) (by kernel_rfl)) (by kernel_rfl)) (by kernel_rfl)) heardK) enterK) (lifts_eq rfl)) (make_eq rfl)) (by kernel_rfl)) (by kernel_rfl)) (by kernel_rfl)) (by kernel_rfl))

theorem ternExact_fn : Try.prog.funcNamed Rows.ternExactRow.func = some 15 := by kernel_rfl
theorem ternExact_holds : Rows.TernExactSaid :=
  OpenClaim.holds_of_wide 15 Try.f15 rfl rfl rfl rfl rfl rfl rfl ⟨rfl, rfl, rfl, rfl, rfl⟩ rfl rfl rfl rfl rfl ternExact_fn Try.func15 ternExact_closed
    (of_decide_eq_true (by kernel_rfl)) (by unfold Func.isWrapper; first | (rw [if_pos (by decide +kernel)]; kernel_rfl) | (rw [if_neg (by decide +kernel)]; exact ⟨rfl, rfl⟩))
    (fun os started H enc _ => ternExact_lifted os started H enc)

#print axioms ternExact_holds
end Go.Proofs.Ytjbfplfopagpjaa
