/- The document's example holds of the program. -/
import Derived.Test.YtjbfplfopagpjaaC6
namespace Go.Vd
open Go.Proofs

def ex08 : Aig := ⟨0, [⟨3, 0⟩], [], [2, 3], [], [], []⟩
theorem ex08_bd : Bd ex08 := ⟨by decide, by decide, by decide, by decide, by decide, by decide, by decide⟩

theorem pc_29  : PCall Try.prog 29 [] (.bool true) := by
  refine pc_of tab_ok (f := 29) (fn := Try.f29) (N := 144) (rs := [.tmp 0]) (by kernel_rfl) rfl (by kernel_rfl) rfl rfl [] trivial rfl rfl ?_
  intro B
  refine wp_seq ?_
  refine wp_reg (by kernel_rfl) ?_
  refine ar_assign rfl rfl rfl rfl ?_
  refine ar_nil ?_
  refine then_n ?_
  refine wp_seq ?_
  refine wp_reg (by kernel_rfl) ?_
  refine ar_build [] tab_ok rfl tb63 rfl rfl trivial rfl rfl rfl rfl rfl rfl ?_
  refine ar_bs [] tab_ok rfl tb22 rfl tb63 rfl trivial rfl rfl rfl rfl rfl rfl rfl rfl ?_
  refine ar_bs [] tab_ok rfl tb24 rfl tb3 rfl trivial rfl rfl rfl rfl rfl rfl rfl rfl ?_
  refine ar_build [] tab_ok rfl tb27 rfl rfl trivial rfl rfl rfl rfl rfl rfl ?_
  refine ar_alloc (id := 1) tab_ok rfl rfl tb27 rfl rfl rfl rfl ?_
  refine ar_st [] tab_ok rfl tb27 rfl rfl rfl trivial rfl rfl rfl rfl rfl rfl rfl rfl ?_
  refine ar_nil ?_
  refine then_n ?_
  refine wp_seq ?_
  refine wp_reg (by kernel_rfl) ?_
  refine ar_lda tab_ok rfl rfl rfl tb27 rfl rfl rfl rfl rfl rfl ?_
  refine ar_bs [] tab_ok rfl tb28 rfl tb4 rfl trivial rfl rfl rfl rfl rfl rfl rfl rfl ?_
  refine ar_bs [] tab_ok rfl tb28 rfl tb4 rfl trivial rfl rfl rfl rfl rfl rfl rfl rfl ?_
  refine ar_bs [] tab_ok rfl tb28 rfl tb4 rfl trivial rfl rfl rfl rfl rfl rfl rfl rfl ?_
  refine ar_bs [] tab_ok rfl tb29 rfl tb28 rfl trivial rfl rfl rfl rfl rfl rfl rfl rfl ?_
  refine ar_call [] (pc_38 ex08 [true] [[], []] ex08_bd (by decide)) rfl rfl rfl rfl rfl rfl trivial (.inl rfl) rfl rfl rfl ?_
  refine ar_to (d' := .v (.tup [slBB [[false], [true], [false]], .int .i64 0])) (by kernel_rfl) ?_
  refine ar_move rfl rfl rfl rfl ?_
  refine ar_ext rfl rfl rfl rfl rfl ?_
  refine ar_ext rfl rfl rfl rfl rfl ?_
  refine ar_assign rfl rfl rfl rfl ?_
  refine ar_assign rfl rfl rfl rfl ?_
  refine ar_nil ?_
  refine then_n ?_
  refine wp_seq ?_
  refine wp_reg (by kernel_rfl) ?_
  refine ar_lda tab_ok rfl rfl rfl tb27 rfl rfl rfl rfl rfl rfl ?_
  refine ar_bs [] tab_ok rfl tb28 rfl tb4 rfl trivial rfl rfl rfl rfl rfl rfl rfl rfl ?_
  refine ar_call [] (pc_34 ex08 [true] [] ex08_bd) rfl rfl rfl rfl rfl rfl trivial (.inl rfl) rfl rfl rfl ?_
  refine ar_to (d' := .v (StepR.v ⟨[false], [true, false], [], [], 0⟩)) (by kernel_rfl) ?_
  refine ar_move rfl rfl rfl rfl ?_
  refine ar_ext rfl rfl rfl rfl rfl ?_
  refine ar_ext rfl rfl rfl rfl rfl ?_
  refine ar_ext rfl rfl rfl rfl rfl ?_
  refine ar_alloc (id := 5) tab_ok rfl rfl tb40 rfl rfl rfl rfl ?_
  refine ar_assign rfl rfl rfl rfl ?_
  refine ar_st [] tab_ok rfl tb40 rfl rfl rfl trivial rfl rfl rfl rfl rfl rfl rfl rfl ?_
  refine ar_assign rfl rfl rfl rfl ?_
  refine ar_nil ?_
  refine then_n ?_
  refine wp_seq ?_
  refine wp_reg (by kernel_rfl) ?_
  refine ar_lda tab_ok rfl rfl rfl tb27 rfl rfl rfl rfl rfl rfl ?_
  refine ar_bs [] tab_ok rfl tb28 rfl tb4 rfl trivial rfl rfl rfl rfl rfl rfl rfl rfl ?_
  refine ar_call [] (pc_32 ex08 [true] [] ex08_bd) rfl rfl rfl rfl rfl rfl trivial (.inl rfl) rfl rfl rfl ?_
  refine ar_to (d' := .v (.tup [slB [false, true], .int .i64 0])) (by kernel_rfl) ?_
  refine ar_move rfl rfl rfl rfl ?_
  refine ar_ext rfl rfl rfl rfl rfl ?_
  refine ar_ext rfl rfl rfl rfl rfl ?_
  refine ar_assign rfl rfl rfl rfl ?_
  refine ar_assign rfl rfl rfl rfl ?_
  refine ar_nil ?_
  refine then_n ?_
  refine wp_seq ?_
  refine wp_reg (by kernel_rfl) ?_
  refine ar_lda tab_ok rfl rfl rfl tb27 rfl rfl rfl rfl rfl rfl ?_
  refine ar_bs [] tab_ok rfl tb28 rfl tb4 rfl trivial rfl rfl rfl rfl rfl rfl rfl rfl ?_
  refine ar_call [] (pc_36 ex08 [true] ex08_bd) rfl rfl rfl rfl rfl rfl trivial (.inl rfl) rfl rfl rfl ?_
  refine ar_to (d' := .v (.tup [slB [false], .int .i64 0])) (by kernel_rfl) ?_
  refine ar_move rfl rfl rfl rfl ?_
  refine ar_ext rfl rfl rfl rfl rfl ?_
  refine ar_ext rfl rfl rfl rfl rfl ?_
  refine ar_assign rfl rfl rfl rfl ?_
  refine ar_assign rfl rfl rfl rfl ?_
  refine ar_nil ?_
  refine then_n ?_
  refine wp_seq ?_
  refine wp_reg (by kernel_rfl) ?_
  refine ar_move rfl rfl rfl rfl ?_
  refine ar_eql rfl rfl rfl (decide_eq_true (by rfl)) rfl rfl ?_
  refine ar_move rfl rfl rfl rfl ?_
  refine ar_move rfl rfl rfl rfl ?_
  refine ar_eql rfl rfl rfl (decide_eq_true (by rfl)) rfl rfl ?_
  refine ar_pickT rfl rfl rfl rfl rfl ?_
  refine ar_move rfl rfl rfl rfl ?_
  refine ar_move rfl rfl rfl rfl ?_
  refine ar_eql rfl rfl rfl (decide_eq_true (by rfl)) rfl rfl ?_
  refine ar_pickT rfl rfl rfl rfl rfl ?_
  refine ar_move rfl rfl rfl rfl ?_
  refine ar_move rfl rfl rfl rfl ?_
  refine ar_eql rfl rfl rfl (decide_eq_true (by rfl)) rfl rfl ?_
  refine ar_pickT rfl rfl rfl rfl rfl ?_
  refine ar_assign rfl rfl rfl rfl ?_
  refine ar_nil ?_
  refine then_n ?_
  refine wp_seq ?_
  refine wp_reg (by kernel_rfl) ?_
  refine ar_move rfl rfl rfl rfl ?_
  refine ar_move rfl rfl rfl rfl ?_
  refine ar_move rfl rfl rfl rfl ?_
  refine ar_len tab_ok rfl rfl tb29 rfl rfl rfl rfl ?_
  refine ar_eql rfl rfl rfl (decide_eq_true (by rfl)) rfl rfl ?_
  refine ar_pickT rfl rfl rfl rfl rfl ?_
  refine ar_move rfl rfl rfl rfl ?_
  refine ar_move rfl rfl rfl rfl ?_
  refine ar_ia tab_ok rfl rfl rfl tb29 rfl tb28 (by decide) rfl rfl rfl rfl ?_
  refine ar_ld_ref tab_ok rfl rfl tb28 rfl rfl rfl rfl ?_
  refine ar_len tab_ok rfl rfl tb28 rfl rfl rfl rfl ?_
  refine ar_eql rfl rfl rfl (decide_eq_true (by rfl)) rfl rfl ?_
  refine ar_pickT rfl rfl rfl rfl rfl ?_
  refine ar_move rfl rfl rfl rfl ?_
  refine ar_move rfl rfl rfl rfl ?_
  refine ar_ia tab_ok rfl rfl rfl tb29 rfl tb28 (by decide) rfl rfl rfl rfl ?_
  refine ar_ld_ref tab_ok rfl rfl tb28 rfl rfl rfl rfl ?_
  refine ar_ia tab_ok rfl rfl rfl tb28 rfl tb4 (by decide) rfl rfl rfl rfl ?_
  refine ar_ld_ref tab_ok rfl rfl tb4 rfl rfl rfl rfl ?_
  refine ar_to (d' := .v (.bool false)) (congrArg (fun b => D.v (V.bool b)) rfl) ?_
  refine ar_not rfl rfl rfl rfl rfl ?_
  refine ar_pickT rfl rfl rfl rfl rfl ?_
  refine ar_move rfl rfl rfl rfl ?_
  refine ar_move rfl rfl rfl rfl ?_
  refine ar_ia tab_ok rfl rfl rfl tb29 rfl tb28 (by decide) rfl rfl rfl rfl ?_
  refine ar_ld_ref tab_ok rfl rfl tb28 rfl rfl rfl rfl ?_
  refine ar_ia tab_ok rfl rfl rfl tb28 rfl tb4 (by decide) rfl rfl rfl rfl ?_
  refine ar_ld_ref tab_ok rfl rfl tb4 rfl rfl rfl rfl ?_
  refine ar_to (d' := .v (.bool true)) (congrArg (fun b => D.v (V.bool b)) rfl) ?_
  refine ar_pickT rfl rfl rfl rfl rfl ?_
  refine ar_move rfl rfl rfl rfl ?_
  refine ar_move rfl rfl rfl rfl ?_
  refine ar_ia tab_ok rfl rfl rfl tb29 rfl tb28 (by decide) rfl rfl rfl rfl ?_
  refine ar_ld_ref tab_ok rfl rfl tb28 rfl rfl rfl rfl ?_
  refine ar_ia tab_ok rfl rfl rfl tb28 rfl tb4 (by decide) rfl rfl rfl rfl ?_
  refine ar_ld_ref tab_ok rfl rfl tb4 rfl rfl rfl rfl ?_
  refine ar_to (d' := .v (.bool false)) (congrArg (fun b => D.v (V.bool b)) rfl) ?_
  refine ar_not rfl rfl rfl rfl rfl ?_
  refine ar_pickT rfl rfl rfl rfl rfl ?_
  refine ar_move rfl rfl rfl rfl ?_
  refine ar_move rfl rfl rfl rfl ?_
  refine ar_len tab_ok rfl rfl tb28 rfl rfl rfl rfl ?_
  refine ar_eql rfl rfl rfl (decide_eq_true (by rfl)) rfl rfl ?_
  refine ar_pickT rfl rfl rfl rfl rfl ?_
  refine ar_move rfl rfl rfl rfl ?_
  refine ar_move rfl rfl rfl rfl ?_
  refine ar_ia tab_ok rfl rfl rfl tb28 rfl tb4 (by decide) rfl rfl rfl rfl ?_
  refine ar_ld_ref tab_ok rfl rfl tb4 rfl rfl rfl rfl ?_
  refine ar_to (d' := .v (.bool false)) (congrArg (fun b => D.v (V.bool b)) rfl) ?_
  refine ar_not rfl rfl rfl rfl rfl ?_
  refine ar_pickT rfl rfl rfl rfl rfl ?_
  refine ar_move rfl rfl rfl rfl ?_
  refine ar_ia_arr tab_ok rfl rfl rfl rfl tb40 rfl tb28 (by decide) (by omega) rfl rfl rfl rfl ?_
  refine ar_ld tab_ok rfl rfl rfl tb28 rfl rfl rfl rfl rfl ?_
  refine ar_len tab_ok rfl rfl tb28 rfl rfl rfl rfl ?_
  refine ar_eql rfl rfl rfl (decide_eq_true (by rfl)) rfl rfl ?_
  refine ar_pickT rfl rfl rfl rfl rfl ?_
  refine ar_move rfl rfl rfl rfl ?_
  refine ar_ia_arr tab_ok rfl rfl rfl rfl tb40 rfl tb28 (by decide) (by omega) rfl rfl rfl rfl ?_
  refine ar_ld tab_ok rfl rfl rfl tb28 rfl rfl rfl rfl rfl ?_
  refine ar_ia tab_ok rfl rfl rfl tb28 rfl tb4 (by decide) rfl rfl rfl rfl ?_
  refine ar_ld_ref tab_ok rfl rfl tb4 rfl rfl rfl rfl ?_
  refine ar_to (d' := .v (.bool true)) (congrArg (fun b => D.v (V.bool b)) rfl) ?_
  refine ar_pickT rfl rfl rfl rfl rfl ?_
  refine ar_move rfl rfl rfl rfl ?_
  refine ar_ia_arr tab_ok rfl rfl rfl rfl tb40 rfl tb28 (by decide) (by omega) rfl rfl rfl rfl ?_
  refine ar_ld tab_ok rfl rfl rfl tb28 rfl rfl rfl rfl rfl ?_
  refine ar_ia tab_ok rfl rfl rfl tb28 rfl tb4 (by decide) rfl rfl rfl rfl ?_
  refine ar_ld_ref tab_ok rfl rfl tb4 rfl rfl rfl rfl ?_
  refine ar_to (d' := .v (.bool false)) (congrArg (fun b => D.v (V.bool b)) rfl) ?_
  refine ar_not rfl rfl rfl rfl rfl ?_
  refine ar_pickT rfl rfl rfl rfl rfl ?_
  refine ar_move rfl rfl rfl rfl ?_
  refine ar_move rfl rfl rfl rfl ?_
  refine ar_call [] (pc_42 _ _) rfl rfl rfl rfl rfl rfl trivial (.inl rfl) rfl rfl rfl ?_
  refine ar_to (d' := .v (.bool true)) (congrArg (fun b => D.v (V.bool b)) rfl) ?_
  refine ar_pickT rfl rfl rfl rfl rfl ?_
  refine ar_move rfl rfl rfl rfl ?_
  refine ar_move rfl rfl rfl rfl ?_
  refine ar_call [] (pc_42 _ _) rfl rfl rfl rfl rfl rfl trivial (.inl rfl) rfl rfl rfl ?_
  refine ar_to (d' := .v (.bool false)) (congrArg (fun b => D.v (V.bool b)) rfl) ?_
  refine ar_not rfl rfl rfl rfl rfl ?_
  refine ar_pickT rfl rfl rfl rfl rfl ?_
  refine ar_move rfl rfl rfl rfl ?_
  refine ar_move rfl rfl rfl rfl ?_
  refine ar_len tab_ok rfl rfl tb28 rfl rfl rfl rfl ?_
  refine ar_eql rfl rfl rfl (decide_eq_true (by rfl)) rfl rfl ?_
  refine ar_pickT rfl rfl rfl rfl rfl ?_
  refine ar_move rfl rfl rfl rfl ?_
  refine ar_move rfl rfl rfl rfl ?_
  refine ar_ia tab_ok rfl rfl rfl tb28 rfl tb4 (by decide) rfl rfl rfl rfl ?_
  refine ar_ld_ref tab_ok rfl rfl tb4 rfl rfl rfl rfl ?_
  refine ar_not rfl rfl rfl rfl rfl ?_
  refine ar_pickT rfl rfl rfl rfl rfl ?_
  refine ar_assign rfl rfl rfl rfl ?_
  refine ar_nil ?_
  refine then_n ?_
  refine wp_ret ?_
  refine ret_post rfl rfl ?_
  rfl

end Go.Vd
