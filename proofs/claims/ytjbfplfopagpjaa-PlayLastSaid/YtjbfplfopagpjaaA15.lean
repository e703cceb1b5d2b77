/- A nil slice taken for an empty row of the call's own. -/
import Derived.Test.YtjbfplfopagpjaaA14
namespace Go.Vd
open Go.RowKit

theorem le_nil {s : St} {t id e sz : Nat} (ht : s.t t = some .nils) (hr : s.h id = .res) (hsz : 0 < sz) : Le s { s with t := upd s.t t (some (.own id)), h := upd s.h id (.row e sz []) } := by
  refine ⟨rfl, ?_⟩
  intro B ι a w S
  obtain ⟨S', _⟩ := S.fresh (w' := w) hr (.row none 0 0) (.row e sz []) (fun b h => by cases h) rfl rfl rfl (Nat.le_refl _) (fun _ _ => rfl) (fun _ => ⟨hsz, by simp, .inl ⟨rfl, rfl⟩⟩)
  refine ⟨_, S'.os, S'.tape, S'.output, S'.size, S'.frame, S'.inj, S'.bnd, S'.blks, ?_, S'.marks, S'.pins, S'.defs⟩
  intro n d hn
  by_cases hnt : n = t
  · subst hnt
    simp only [upd_same] at hn
    cases hn
    obtain ⟨u, h1, h2⟩ := S.tmps n _ ht
    refine ⟨u, h1, .own id u (by rw [upd_same]; simp) (fun g q c h => ?_)⟩
    rw [upd_same] at h
    cases h
    exact h2.nils_inv
  · simp only [upd_ne _ _ hnt] at hn
    exact S'.tmps n d hn

end Go.Vd
