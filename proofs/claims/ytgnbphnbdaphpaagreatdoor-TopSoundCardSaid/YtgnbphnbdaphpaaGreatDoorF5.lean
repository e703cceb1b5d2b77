/- TopSound: of any bytes of a model, a certificate and a trace the law tells true, and its argument reads behind the call as it did; the listed package variables start as the program's text lays them, which the card ties to that text. -/
import Derived.Test.YtgnbphnbdaphpaaGreatDoorMi
namespace Go.Proofs.YtgnbphnbdaphpaaGreatDoor
open Go.ChangeShapes Go.WideShapes Go.ChangeAt Go.RowKit Go.Vd
theorem topSound_holds : Rows.TopSoundCardSaid :=
 Claim7.holds_tied_plain_at .later [] [.data, .data, .data, .data, .listed, .data, .pinned] true (true, "b62ac410409ba09a8af4ed8381e456295777f0c046060ada44d50f6cf33601cc") true
  pX (fun _ h => by cases h) (by as_aux_lemma => kernel_rfl) (fun _ h => by cases h) topSound_row_tie rfl ⟨rfl, rfl⟩ (by as_aux_lemma => kernel_rfl) rfl
  (fun f fn hf hfn => by
   obtain rfl : f = 3 := Option.some.inj (topSound_fn.symm.trans hf) |>.symm
   obtain rfl : fn = Tryz.f3 := (Option.some.inj (Tryz.func3.symm.trans hfn)).symm
   exact ⟨by as_aux_lemma => kernel_rfl, fun j t ht => by
    rw [Tryz.params3] at ht
    have hm : t ∈ [24] := by simpa using Array.mem_of_getElem? ht
    have hall : ([24].all fun u => !Tryz.prog.wantsStandIn u) = true := by as_aux_lemma => kernel_rfl
    exact (show Tryz.prog.wantsStandIn t = false by simpa using List.all_eq_true.1 hall t hm)⟩)
  (by as_aux_lemma => kernel_rfl)
end Go.Proofs.YtgnbphnbdaphpaaGreatDoor
