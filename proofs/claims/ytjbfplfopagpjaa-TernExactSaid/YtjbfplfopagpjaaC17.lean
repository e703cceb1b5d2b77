/- TernTells, TernSteps, TernOrder: as the program tells them. -/
import Derived.Test.YtjbfplfopagpjaaC16
namespace Go.Vd
open Go.Proofs

def ex09 : Aig := ⟨2, [], [⟨4, 2⟩], [6, 7], [], [], []⟩
theorem ex09_bd : Bd ex09 := ⟨by decide, by decide, by decide, by decide, by decide, by decide, by decide⟩
theorem nn_of {l : List Int} (h : l.all (fun x => decide (0 ≤ x)) = true) : Nn l := fun x hx => by simpa using List.all_eq_true.1 h x hx
theorem tri_of {l : List Int} (h : l.all (fun x => decide (0 ≤ x) && decide (x ≤ 2)) = true) : TriL l := fun x hx => by simpa [Tri] using List.all_eq_true.1 h x hx
theorem get3U {x y z : List Int} {j : Nat} (h : j < 3) : ([.v (slU x), .v (slU y), .v (slU z)] : List D)[j]? = some (.v (slU ([x, y, z].getD j default))) := by
  rcases j with _ | _ | _ | j
  · rfl
  · rfl
  · rfl
  · omega
theorem le3U {x y z : List Int} {j : Nat} (hx : x.length ≤ 20000) (hy : y.length ≤ 20000) (hz : z.length ≤ 20000) : ([x, y, z].getD j default).length ≤ 9223372036854775807 := by
  rcases j with _ | _ | _ | j
  · simp; omega
  · simp; omega
  · simp; omega
  · simp [default]
theorem valuesT_le {a : Aig} {st inp : List Int} (hb : Bd a) : (valuesT a st inp).1.length ≤ 100000 := by
  by_cases h : shapeT a st inp
  · rw [valuesT_ok h, valsT_len]
    have := h.1.1; have := h.2.1; have := hb.i1; have := hb.l1; have := hb.g1
    simp; omega
  · rw [valuesT_bad h]; simp
theorem stepT_le {a : Aig} {st inp : List Int} (hb : Bd a) : (stepT a st inp).n.length ≤ 20000 ∧ (stepT a st inp).o.length ≤ 20000 ∧ (stepT a st inp).b.length ≤ 20000 ∧ (stepT a st inp).c.length ≤ 20000 := by
  by_cases h : shapeT a st inp
  · rw [stepT_ok h]
    have := hb.l1; have := hb.o1; have := hb.b1; have := hb.c1
    simp; omega
  · rw [stepT_bad h]; simp

theorem pc_44  : PCall Try.prog 44 [] (.bool true) := by
  refine pc_of tab_ok (f := 44) (fn := Try.f44) (N := 88) (rs := [.tmp 0]) (by kernel_rfl) rfl (by kernel_rfl) rfl rfl [] trivial rfl rfl ?_
  intro B
  refine wp_seq ?_
  refine wp_reg (by kernel_rfl) ?_
  refine ar_assign rfl rfl rfl rfl ?_
  refine ar_nil ?_
  refine then_n ?_
  refine wp_seq ?_
  refine wp_reg (by kernel_rfl) ?_
  refine ar_build [] tab_ok rfl tb58 rfl rfl trivial rfl rfl rfl rfl rfl rfl ?_
  refine ar_bs [] tab_ok rfl tb23 rfl tb58 rfl trivial rfl rfl rfl rfl rfl rfl rfl rfl ?_
  refine ar_bs [] tab_ok rfl tb24 rfl tb3 rfl trivial rfl rfl rfl rfl rfl rfl rfl rfl ?_
  refine ar_build [] tab_ok rfl tb27 rfl rfl trivial rfl rfl rfl rfl rfl rfl ?_
  refine ar_alloc (id := 1) tab_ok rfl rfl tb27 rfl rfl rfl rfl ?_
  refine ar_st [] tab_ok rfl tb27 rfl rfl rfl trivial rfl rfl rfl rfl rfl rfl rfl rfl ?_
  refine ar_nil ?_
  refine then_n ?_
  refine wp_seq ?_
  refine wp_reg (by kernel_rfl) ?_
  refine ar_lda tab_ok rfl rfl rfl tb27 rfl rfl rfl rfl rfl rfl ?_
  refine ar_bs [] tab_ok rfl tb70 rfl tb72 rfl trivial rfl rfl rfl rfl rfl rfl rfl rfl ?_
  refine ar_call [] (pc_56 ex09 [] [0, 2] ex09_bd (nn_of (by decide)) (nn_of (by decide)) (by decide) (by decide)) rfl rfl rfl rfl rfl rfl trivial (.inl rfl) rfl rfl rfl ?_
  refine ar_to (d' := .v (.tup [slU [0, 0, 2, 0], .int .i64 0])) (by kernel_rfl) ?_
  refine ar_move rfl rfl rfl rfl ?_
  refine ar_ext rfl rfl rfl rfl rfl ?_
  refine ar_ext rfl rfl rfl rfl rfl ?_
  refine ar_assign rfl rfl rfl rfl ?_
  refine ar_assign rfl rfl rfl rfl ?_
  refine ar_nil ?_
  refine then_n ?_
  refine wp_seq ?_
  refine wp_reg (by kernel_rfl) ?_
  refine ar_lda tab_ok rfl rfl rfl tb27 rfl rfl rfl rfl rfl rfl ?_
  refine ar_bs [] tab_ok rfl tb70 rfl tb72 rfl trivial rfl rfl rfl rfl rfl rfl rfl rfl ?_
  refine ar_call [] (pc_58 ex09 [] [1, 2] ex09_bd (nn_of (by decide)) (nn_of (by decide)) (by decide) (by decide)) rfl rfl rfl rfl rfl rfl trivial (.inl rfl) rfl rfl rfl ?_
  refine ar_to (d' := .v (StepT.v ⟨[], [2, 2], [], [], 0⟩)) (by kernel_rfl) ?_
  refine ar_move rfl rfl rfl rfl ?_
  refine ar_ext rfl rfl rfl rfl rfl ?_
  refine ar_ext rfl rfl rfl rfl rfl ?_
  refine ar_ext rfl rfl rfl rfl rfl ?_
  refine ar_alloc (id := 5) tab_ok rfl rfl tb83 rfl rfl rfl rfl ?_
  refine ar_assign rfl rfl rfl rfl ?_
  refine ar_st [] tab_ok rfl tb83 rfl rfl rfl trivial rfl rfl rfl rfl rfl rfl rfl rfl ?_
  refine ar_assign rfl rfl rfl rfl ?_
  refine ar_nil ?_
  refine then_n ?_
  refine wp_seq ?_
  refine wp_reg (by kernel_rfl) ?_
  refine ar_move rfl rfl rfl rfl ?_
  refine ar_eql rfl rfl rfl (decide_eq_true (by rfl)) rfl rfl ?_
  refine ar_move rfl rfl rfl rfl ?_
  refine ar_move rfl rfl rfl rfl ?_
  refine ar_eql rfl rfl rfl (decide_eq_true (by rfl)) rfl rfl ?_
  refine ar_pickT rfl rfl rfl rfl rfl ?_
  refine ar_move rfl rfl rfl rfl ?_
  refine ar_move rfl rfl rfl rfl ?_
  refine ar_len tab_ok rfl rfl tb70 rfl rfl rfl rfl ?_
  refine ar_eql rfl rfl rfl (decide_eq_true (by rfl)) rfl rfl ?_
  refine ar_pickT rfl rfl rfl rfl rfl ?_
  refine ar_move rfl rfl rfl rfl ?_
  refine ar_move rfl rfl rfl rfl ?_
  refine ar_ia tab_ok rfl rfl rfl tb70 rfl tb72 (by decide) rfl rfl rfl rfl ?_
  refine ar_ld_ref tab_ok rfl rfl tb72 rfl rfl rfl rfl ?_
  refine ar_eql rfl rfl rfl (decide_eq_true (by rfl)) rfl rfl ?_
  refine ar_pickT rfl rfl rfl rfl rfl ?_
  refine ar_move rfl rfl rfl rfl ?_
  refine ar_ia_arr tab_ok rfl rfl rfl rfl tb83 rfl tb70 (by decide) (by omega) rfl rfl rfl rfl ?_
  refine ar_ld tab_ok rfl rfl rfl tb70 rfl rfl rfl rfl rfl ?_
  refine ar_len tab_ok rfl rfl tb70 rfl rfl rfl rfl ?_
  refine ar_eql rfl rfl rfl (decide_eq_true (by rfl)) rfl rfl ?_
  refine ar_pickT rfl rfl rfl rfl rfl ?_
  refine ar_move rfl rfl rfl rfl ?_
  refine ar_ia_arr tab_ok rfl rfl rfl rfl tb83 rfl tb70 (by decide) (by omega) rfl rfl rfl rfl ?_
  refine ar_ld tab_ok rfl rfl rfl tb70 rfl rfl rfl rfl rfl ?_
  refine ar_ia tab_ok rfl rfl rfl tb70 rfl tb72 (by decide) rfl rfl rfl rfl ?_
  refine ar_ld_ref tab_ok rfl rfl tb72 rfl rfl rfl rfl ?_
  refine ar_eql rfl rfl rfl (decide_eq_true (by rfl)) rfl rfl ?_
  refine ar_pickT rfl rfl rfl rfl rfl ?_
  refine ar_move rfl rfl rfl rfl ?_
  refine ar_ia_arr tab_ok rfl rfl rfl rfl tb83 rfl tb70 (by decide) (by omega) rfl rfl rfl rfl ?_
  refine ar_ld tab_ok rfl rfl rfl tb70 rfl rfl rfl rfl rfl ?_
  refine ar_ia tab_ok rfl rfl rfl tb70 rfl tb72 (by decide) rfl rfl rfl rfl ?_
  refine ar_ld_ref tab_ok rfl rfl tb72 rfl rfl rfl rfl ?_
  refine ar_eql rfl rfl rfl (decide_eq_true (by rfl)) rfl rfl ?_
  refine ar_pickT rfl rfl rfl rfl rfl ?_
  refine ar_move rfl rfl rfl rfl ?_
  refine ar_call [] (pc_49 0 2 tri0 tri2) rfl rfl rfl rfl rfl rfl trivial (.inl rfl) rfl rfl rfl ?_
  refine ar_eql rfl rfl rfl (decide_eq_true (by rfl)) rfl rfl ?_
  refine ar_pickT rfl rfl rfl rfl rfl ?_
  refine ar_move rfl rfl rfl rfl ?_
  refine ar_call [] (pc_47 0 tri0) rfl rfl rfl rfl rfl rfl trivial (.inl rfl) rfl rfl rfl ?_
  refine ar_eql rfl rfl rfl (decide_eq_true (by rfl)) rfl rfl ?_
  refine ar_pickT rfl rfl rfl rfl rfl ?_
  refine ar_move rfl rfl rfl rfl ?_
  refine ar_move rfl rfl rfl rfl ?_
  refine ar_call [] (pc_61 [0, 0, 2, 0] 7 (tri_of (by decide))) rfl rfl rfl rfl rfl rfl trivial (.inl rfl) rfl rfl rfl ?_
  refine ar_eql rfl rfl rfl (decide_eq_true (by rfl)) rfl rfl ?_
  refine ar_pickT rfl rfl rfl rfl rfl ?_
  refine ar_move rfl rfl rfl rfl ?_
  refine ar_bs [] tab_ok rfl tb70 rfl tb72 rfl trivial rfl rfl rfl rfl rfl rfl rfl rfl ?_
  refine ar_bs [] tab_ok rfl tb70 rfl tb72 rfl trivial rfl rfl rfl rfl rfl rfl rfl rfl ?_
  refine ar_call [] (pc_51 [1] [2] (by decide) (by decide)) rfl rfl rfl rfl rfl rfl trivial (.inl rfl) rfl rfl rfl ?_
  refine ar_to (d' := .v (.bool true)) (congrArg (fun b => D.v (V.bool b)) rfl) ?_
  refine ar_pickT rfl rfl rfl rfl rfl ?_
  refine ar_move rfl rfl rfl rfl ?_
  refine ar_bs [] tab_ok rfl tb70 rfl tb72 rfl trivial rfl rfl rfl rfl rfl rfl rfl rfl ?_
  refine ar_call [] (pc_53 [0, 1, 2] (by decide) (tri_of (by decide))) rfl rfl rfl rfl rfl rfl trivial (.inl rfl) rfl rfl rfl ?_
  refine ar_to (d' := .v (.str ⟨#[48, 49, 120]⟩)) (by kernel_rfl) ?_
  refine ar_seql (z := true) rfl rfl rfl (by exact beq_self_eq_true _) rfl rfl ?_
  refine ar_pickT rfl rfl rfl rfl rfl ?_
  refine ar_move rfl rfl rfl rfl ?_
  refine ar_move rfl rfl rfl rfl ?_
  refine ar_call [] (pc_45 [0, 0, 2, 0] (by decide)) rfl rfl rfl rfl rfl rfl trivial (.inl rfl) rfl rfl rfl ?_
  refine ar_pickT rfl rfl rfl rfl rfl ?_
  refine ar_assign rfl rfl rfl rfl ?_
  refine ar_nil ?_
  refine then_n ?_
  refine wp_ret ?_
  refine ret_post rfl rfl ?_
  rfl

theorem pc_10 (l m : List Int) (h0 : Nn l) (h1 : Nn m) (hll : l.length ≤ 9223372036854775807) (hlm : m.length ≤ 9223372036854775807) : PCall Try.prog 10 [slU l, slU m] (.bool true) := by
  refine pc_of tab_ok (f := 10) (fn := Try.f10) (N := 92) (rs := [.tmp 4]) (by kernel_rfl) rfl (by kernel_rfl) rfl rfl [(0, .v (slU l)), (1, .v (slU m))] ⟨rfl, rfl, trivial⟩ rfl rfl ?_
  intro B
  refine wp_seq ?_
  refine wp_reg (by kernel_rfl) ?_
  refine ar_assign rfl rfl rfl rfl ?_
  refine ar_nil ?_
  refine then_n ?_
  refine wp_seq ?_
  refine wp_reg (by kernel_rfl) ?_
  refine ar_call [] (pc_44) rfl rfl rfl rfl rfl rfl trivial (.inl rfl) rfl rfl rfl ?_
  refine ar_assign rfl rfl rfl rfl ?_
  refine ar_nil ?_
  refine then_n ?_
  refine wp_seq ?_
  refine wp_seq ?_
  refine wp_reg (by kernel_rfl) ?_
  refine ar_move rfl rfl rfl rfl ?_
  refine ar_len tab_ok rfl rfl tb70 rfl len_map rfl rfl ?_
  refine ar_gtr_s rfl rfl rfl rfl rfl (fun h10 => ?_) (fun h10 => ?_)
  · refine ar_move rfl rfl rfl rfl ?_
    refine ar_skip rfl rfl ?_
    refine ar_skip rfl rfl ?_
    refine ar_skip rfl rfl ?_
    refine ar_pickT rfl rfl rfl rfl rfl ?_
    refine ar_nil ?_
    refine then_n ?_
    refine wp_condT rfl ?_
    refine wp_seq ?_
    refine wp_reg (by kernel_rfl) ?_
    refine ar_move rfl rfl rfl rfl ?_
    refine ar_assign rfl rfl rfl rfl ?_
    refine ar_nil ?_
    refine then_n ?_
    refine wp_ret ?_
    refine then_r (ret_post rfl rfl ?_)
    rfl
  · refine ar_move rfl rfl rfl rfl ?_
    refine ar_move rfl rfl rfl rfl ?_
    refine ar_len tab_ok rfl rfl tb70 rfl len_map rfl rfl ?_
    refine ar_gtr_s rfl rfl rfl rfl rfl (fun h14 => ?_) (fun h14 => ?_)
    · refine ar_pickF rfl rfl rfl rfl rfl ?_
      refine ar_nil ?_
      refine then_n ?_
      refine wp_condT rfl ?_
      refine wp_seq ?_
      refine wp_reg (by kernel_rfl) ?_
      refine ar_move rfl rfl rfl rfl ?_
      refine ar_assign rfl rfl rfl rfl ?_
      refine ar_nil ?_
      refine then_n ?_
      refine wp_ret ?_
      refine then_r (ret_post rfl rfl ?_)
      rfl
    · refine ar_pickF rfl rfl rfl rfl rfl ?_
      refine ar_nil ?_
      refine then_n ?_
      refine wp_condF rfl ?_
      refine wp_skip ?_
      refine then_n ?_
      refine wp_seq ?_
      refine wp_seq ?_
      refine wp_reg (by kernel_rfl) ?_
      refine ar_move rfl rfl rfl rfl ?_
      refine ar_call [] (pc_45 l (by omega)) rfl rfl rfl rfl rfl rfl trivial (.inl rfl) rfl rfl rfl ?_
      refine ar_move rfl rfl rfl rfl ?_
      refine ar_call [] (pc_46 l (by omega)) rfl rfl rfl rfl rfl rfl trivial (.inl rfl) rfl rfl rfl ?_
      refine ar_bneq tab_ok rfl rfl rfl tb4 rfl rfl rfl rfl ?_
      refine ar_to (d' := .v (.bool false)) (congrArg (fun b => D.v (V.bool b)) (bne_self_eq_false _)) ?_
      refine ar_nil ?_
      refine then_n ?_
      refine wp_condF rfl ?_
      refine wp_skip ?_
      refine then_n ?_
      refine wp_seq ?_
      refine wp_seq ?_
      refine wp_reg (by kernel_rfl) ?_
      refine ar_move rfl rfl rfl rfl ?_
      refine ar_call [] (pc_46 l (by omega)) rfl rfl rfl rfl rfl rfl trivial (.inl rfl) rfl rfl rfl ?_
      refine ar_split (fun h23 => ?_) (fun h23 => ?_)
      · refine ar_not rfl rfl rfl rfl rfl ?_
        refine ar_move rfl rfl rfl rfl ?_
        refine ar_move rfl rfl rfl rfl ?_
        refine ar_call [] (pc_46 m (by omega)) rfl rfl rfl rfl rfl rfl trivial (.inl rfl) rfl rfl rfl ?_
        refine ar_split (fun h27 => ?_) (fun h27 => ?_)
        · refine ar_not rfl rfl rfl rfl rfl ?_
          refine ar_pickF rfl rfl rfl rfl rfl ?_
          refine ar_nil ?_
          refine then_n ?_
          refine wp_condF rfl ?_
          refine wp_skip ?_
          refine then_n ?_
          refine wp_seq ?_
          refine wp_seq ?_
          have htl := triL_of h23 h0
          have htm := triL_of h27 h1
          refine wp_reg (by kernel_rfl) ?_
          refine ar_assign rfl rfl rfl rfl ?_
          refine ar_nil ?_
          refine then_n ?_
          refine wp_block ?_
          refine wp_loop (α := Nat) (fun j => mk [(0, .v (slU l)), (1, .v (slU m)), (5, .v (.bool true)), (6, .v (.int .i64 (j : Nat)))] [] 0) (fun j => j ≤ l.length) (fun j => l.length - j) 0 (Nat.zero_le _) (le_to ⟨rfl, rfl, rfl, rfl, trivial⟩ trivial rfl rfl rfl rfl) ?_
          rintro j hinv
          refine wp_seq ?_
          refine wp_seq ?_
          refine wp_reg (by kernel_rfl) ?_
          refine ar_move rfl rfl rfl rfl ?_
          refine ar_move rfl rfl rfl rfl ?_
          refine ar_len tab_ok rfl rfl tb70 rfl len_map rfl rfl ?_
          refine ar_lss_s rfl rfl rfl rfl rfl (fun h34 => ?_) (fun h34 => ?_)
          · refine ar_nil ?_
            refine then_n ?_
            refine wp_condT rfl ?_
            refine wp_skip ?_
            refine then_n ?_
            refine wp_seq ?_
            refine wp_block ?_
            refine wp_seq ?_
            refine wp_draw (L := [([], []), ([], []), ([], []), ([], []), ([], []), ([], []), ([], []), ([], []), ([], []), ([], []), ([], []), ([], []), ([], []), ([], []), ([], []), ([], []), ([], []), ([], []), ([], []), ([], []), ([], []), ([], []), ([], []), ([], []), ([], []), ([], []), ([], []), ([], []), ([], []), ([], []), ([], []), ([], []), ([], []), ([], []), ([], []), ([], []), ([], []), ([], [])]) (by kernel_rfl) mixed (by kernel_rfl) ?_
            refine ar_move rfl rfl rfl rfl ?_
            refine ar_move rfl rfl rfl rfl ?_
            refine ar_ia tab_ok rfl rfl rfl tb70 rfl tb72 (by omega) (map_get (n := j) (by omega)) rfl rfl rfl ?_
            refine ar_ld_ref tab_ok rfl rfl tb72 rfl rfl rfl rfl ?_
            refine ar_call [] (pc_47 _ (htl _ (getD_mem (by omega)))) rfl rfl rfl rfl rfl rfl trivial (.inl rfl) rfl rfl rfl ?_
            refine ar_move rfl rfl rfl rfl ?_
            refine ar_move rfl rfl rfl rfl ?_
            refine ar_ia tab_ok rfl rfl rfl tb70 rfl tb72 (by omega) (map_get (n := j) (by omega)) rfl rfl rfl ?_
            refine ar_ld_ref tab_ok rfl rfl tb72 rfl rfl rfl rfl ?_
            refine ar_call [] (pc_48 _) rfl rfl rfl rfl rfl rfl trivial (.inl rfl) rfl rfl rfl ?_
            refine ar_neq rfl rfl rfl (decide_eq_false (by exact fun h => h rfl)) rfl rfl ?_
            refine ar_move rfl rfl rfl rfl ?_
            refine ar_move rfl rfl rfl rfl ?_
            refine ar_move rfl rfl rfl rfl ?_
            refine ar_len tab_ok rfl rfl tb70 rfl len_map rfl rfl ?_
            refine ar_lss_s rfl rfl rfl rfl rfl (fun h52 => ?_) (fun h52 => ?_)
            · refine ar_move rfl rfl rfl rfl ?_
              refine ar_move rfl rfl rfl rfl ?_
              refine ar_move rfl rfl rfl rfl ?_
              refine ar_ia tab_ok rfl rfl rfl tb70 rfl tb72 (by omega) (map_get (n := j) (by omega)) rfl rfl rfl ?_
              refine ar_ld_ref tab_ok rfl rfl tb72 rfl rfl rfl rfl ?_
              refine ar_move rfl rfl rfl rfl ?_
              refine ar_move rfl rfl rfl rfl ?_
              refine ar_ia tab_ok rfl rfl rfl tb70 rfl tb72 (by omega) (map_get (n := j) (by omega)) rfl rfl rfl ?_
              refine ar_ld_ref tab_ok rfl rfl tb72 rfl rfl rfl rfl ?_
              refine ar_call [] (pc_49 _ _ (htl _ (getD_mem (by omega))) (htm _ (getD_mem (by omega)))) rfl rfl rfl rfl rfl rfl trivial (.inl rfl) rfl rfl rfl ?_
              refine ar_move rfl rfl rfl rfl ?_
              refine ar_move rfl rfl rfl rfl ?_
              refine ar_ia tab_ok rfl rfl rfl tb70 rfl tb72 (by omega) (map_get (n := j) (by omega)) rfl rfl rfl ?_
              refine ar_ld_ref tab_ok rfl rfl tb72 rfl rfl rfl rfl ?_
              refine ar_move rfl rfl rfl rfl ?_
              refine ar_move rfl rfl rfl rfl ?_
              refine ar_ia tab_ok rfl rfl rfl tb70 rfl tb72 (by omega) (map_get (n := j) (by omega)) rfl rfl rfl ?_
              refine ar_ld_ref tab_ok rfl rfl tb72 rfl rfl rfl rfl ?_
              refine ar_call [] (pc_50 _ _) rfl rfl rfl rfl rfl rfl trivial (.inl rfl) rfl rfl rfl ?_
              refine ar_neq rfl rfl rfl (decide_eq_false (by exact fun h => h rfl)) rfl rfl ?_
              refine ar_pickT rfl rfl rfl rfl rfl ?_
              refine ar_pickF rfl rfl rfl rfl rfl ?_
              refine ar_nil ?_
              refine then_n ?_
              refine wp_condF rfl ?_
              refine wp_skip ?_
              refine inblk_n ?_
              refine then_n ?_
              refine wp_reg (by kernel_rfl) ?_
              refine ar_move rfl rfl rfl rfl ?_
              refine ar_addi rfl rfl rfl rfl (by omega) (by omega) rfl rfl ?_
              refine ar_assign rfl rfl rfl rfl ?_
              refine ar_nil ?_
              exact loop_n (j + 1) (by omega) (by omega) (le_to ⟨rfl, rfl, rfl, rfl, trivial⟩ trivial rfl rfl rfl rfl)
            · refine ar_move rfl rfl rfl rfl ?_
              refine ar_skip rfl rfl ?_
              refine ar_skip rfl rfl ?_
              refine ar_skip rfl rfl ?_
              refine ar_skip rfl rfl ?_
              refine ar_skip rfl rfl ?_
              refine ar_skip rfl rfl ?_
              refine ar_skip rfl rfl ?_
              refine ar_skip rfl rfl ?_
              refine ar_skip rfl rfl ?_
              refine ar_skip rfl rfl ?_
              refine ar_skip rfl rfl ?_
              refine ar_skip rfl rfl ?_
              refine ar_skip rfl rfl ?_
              refine ar_skip rfl rfl ?_
              refine ar_skip rfl rfl ?_
              refine ar_skip rfl rfl ?_
              refine ar_skip rfl rfl ?_
              refine ar_skip rfl rfl ?_
              refine ar_skip rfl rfl ?_
              refine ar_pickF rfl rfl rfl rfl rfl ?_
              refine ar_pickF rfl rfl rfl rfl rfl ?_
              refine ar_nil ?_
              refine then_n ?_
              refine wp_condF rfl ?_
              refine wp_skip ?_
              refine inblk_n ?_
              refine then_n ?_
              refine wp_reg (by kernel_rfl) ?_
              refine ar_move rfl rfl rfl rfl ?_
              refine ar_addi rfl rfl rfl rfl (by omega) (by omega) rfl rfl ?_
              refine ar_assign rfl rfl rfl rfl ?_
              refine ar_nil ?_
              exact loop_n (j + 1) (by omega) (by omega) (le_to ⟨rfl, rfl, rfl, rfl, trivial⟩ trivial rfl rfl rfl rfl)
          · refine ar_nil ?_
            refine then_n ?_
            refine wp_condF rfl ?_
            refine wp_exit ?_
            refine then_x (loop_x (inblk_e ?_))
            refine then_n ?_
            refine wp_seq ?_
            refine wp_reg (by kernel_rfl) ?_
            refine ar_move rfl rfl rfl rfl ?_
            refine ar_move rfl rfl rfl rfl ?_
            refine ar_move rfl rfl rfl rfl ?_
            refine ar_move rfl rfl rfl rfl ?_
            refine ar_call [] (pc_51 l m (by omega) (by omega)) rfl rfl rfl rfl rfl rfl trivial (.inl rfl) rfl rfl rfl ?_
            refine ar_move rfl rfl rfl rfl ?_
            refine ar_move rfl rfl rfl rfl ?_
            refine ar_call [] (pc_52 l m (by omega) (by omega)) rfl rfl rfl rfl rfl rfl trivial (.inl rfl) rfl rfl rfl ?_
            refine ar_beql tab_ok rfl rfl rfl tb4 rfl rfl rfl rfl ?_
            refine ar_to (d' := .v (.bool true)) (congrArg (fun b => D.v (V.bool b)) (beq_self_eq_true _)) ?_
            refine ar_pickT rfl rfl rfl rfl rfl ?_
            refine ar_move rfl rfl rfl rfl ?_
            refine ar_move rfl rfl rfl rfl ?_
            refine ar_call [] (pc_53 l (by omega) htl) rfl rfl rfl rfl rfl rfl trivial (.inl rfl) rfl rfl rfl ?_
            refine ar_move rfl rfl rfl rfl ?_
            refine ar_call [] (pc_54 l (by omega)) rfl rfl rfl rfl rfl rfl trivial (.inl rfl) rfl rfl rfl ?_
            refine ar_seql (z := true) rfl rfl rfl (by exact beq_self_eq_true _) rfl rfl ?_
            refine ar_pickT rfl rfl rfl rfl rfl ?_
            refine ar_assign rfl rfl rfl rfl ?_
            refine ar_nil ?_
            refine then_n ?_
            refine wp_ret ?_
            refine ret_post rfl rfl ?_
            rfl
        · refine ar_not rfl rfl rfl rfl rfl ?_
          refine ar_pickF rfl rfl rfl rfl rfl ?_
          refine ar_nil ?_
          refine then_n ?_
          refine wp_condT rfl ?_
          refine wp_seq ?_
          refine wp_reg (by kernel_rfl) ?_
          refine ar_move rfl rfl rfl rfl ?_
          refine ar_assign rfl rfl rfl rfl ?_
          refine ar_nil ?_
          refine then_n ?_
          refine wp_ret ?_
          refine then_r (ret_post rfl rfl ?_)
          rfl
      · refine ar_not rfl rfl rfl rfl rfl ?_
        refine ar_move rfl rfl rfl rfl ?_
        refine ar_skip rfl rfl ?_
        refine ar_skip rfl rfl ?_
        refine ar_skip rfl rfl ?_
        refine ar_pickT rfl rfl rfl rfl rfl ?_
        refine ar_nil ?_
        refine then_n ?_
        refine wp_condT rfl ?_
        refine wp_seq ?_
        refine wp_reg (by kernel_rfl) ?_
        refine ar_move rfl rfl rfl rfl ?_
        refine ar_assign rfl rfl rfl rfl ?_
        refine ar_nil ?_
        refine then_n ?_
        refine wp_ret ?_
        refine then_r (ret_post rfl rfl ?_)
        rfl

abbrev in11 (a : Aig) (st inp : List Int) (l : Int) : List V := [.int .i64 a.i, slL a.l, slG a.g, slI a.outs, slI a.bad, slI a.con, slN a.names, slU st, slU inp, .int .i64 l]

theorem pc_11 (a : Aig) (st inp : List Int) (l : Int) (hf : Fit a) (h0 : Nn st) (h1 : Nn inp) (hl : l ≤ 9223372036854775807) : PCall Try.prog 11 [.agg (in11 a st inp l)] (.bool true) := by
  refine pc_of tab_ok (f := 11) (fn := Try.f11) (N := 114) (rs := [.tmp 2]) (by kernel_rfl) rfl (by kernel_rfl) rfl rfl [(0, .v (.agg (in11 a st inp l)))] ⟨rfl, trivial⟩ rfl rfl ?_
  intro B
  refine wp_seq ?_
  refine wp_reg (by kernel_rfl) ?_
  refine ar_box 1 [] rfl rfl rfl ⟨rfl, trivial⟩ rfl rfl rfl ?_
  refine ar_assign rfl rfl rfl rfl ?_
  refine ar_nil ?_
  refine then_n ?_
  refine wp_seq ?_
  refine wp_reg (by kernel_rfl) ?_
  refine ar_fa tab_ok rfl rfl rfl tb78 rfl rfl rfl rfl rfl ?_
  refine ar_lda (d := .v (aigV a)) tab_ok rfl rfl rfl tb27 rfl rfl rfl rfl rfl rfl ?_
  refine ar_alloc (id := 3) tab_ok rfl rfl tb27 rfl rfl rfl rfl ?_
  refine ar_st [] tab_ok rfl tb27 rfl rfl rfl trivial rfl rfl rfl rfl rfl rfl rfl rfl ?_
  refine ar_nil ?_
  refine then_n ?_
  refine wp_seq ?_
  refine wp_reg (by kernel_rfl) ?_
  refine ar_fa tab_ok rfl rfl rfl tb78 rfl rfl rfl rfl rfl ?_
  refine ar_ld tab_ok rfl rfl rfl tb70 rfl rfl rfl rfl rfl ?_
  refine ar_assign rfl rfl rfl rfl ?_
  refine ar_nil ?_
  refine then_n ?_
  refine wp_seq ?_
  refine wp_reg (by kernel_rfl) ?_
  refine ar_fa tab_ok rfl rfl rfl tb78 rfl rfl rfl rfl rfl ?_
  refine ar_ld tab_ok rfl rfl rfl tb70 rfl rfl rfl rfl rfl ?_
  refine ar_assign rfl rfl rfl rfl ?_
  refine ar_nil ?_
  refine then_n ?_
  refine wp_seq ?_
  refine wp_reg (by kernel_rfl) ?_
  refine ar_fa tab_ok rfl rfl rfl tb78 rfl rfl rfl rfl rfl ?_
  refine ar_ld tab_ok rfl rfl rfl tb3 rfl rfl rfl rfl rfl ?_
  refine ar_assign rfl rfl rfl rfl ?_
  refine ar_nil ?_
  refine then_n ?_
  refine wp_seq ?_
  refine wp_reg (by kernel_rfl) ?_
  refine ar_call [] (pc_44) rfl rfl rfl rfl rfl rfl trivial (.inl rfl) rfl rfl rfl ?_
  refine ar_assign rfl rfl rfl rfl ?_
  refine ar_nil ?_
  refine then_n ?_
  refine wp_seq ?_
  refine wp_seq ?_
  refine wp_reg (by kernel_rfl) ?_
  refine ar_lda tab_ok rfl rfl rfl tb27 rfl rfl rfl rfl rfl rfl ?_
  refine ar_callE [] (pce_55 a hf) rfl rfl rfl rfl rfl rfl trivial (.inl rfl) rfl rfl rfl ?_
  rintro _ ⟨b29, rfl, hb29⟩
  refine ar_split (fun h29 => ?_) (fun h29 => ?_)
  · refine ar_not rfl rfl rfl rfl rfl ?_
    refine ar_move rfl rfl rfl rfl ?_
    refine ar_move rfl rfl rfl rfl ?_
    refine ar_len tab_ok rfl rfl tb70 rfl len_map rfl rfl ?_
    refine ar_gtr_s rfl rfl rfl rfl rfl (fun h34 => ?_) (fun h34 => ?_)
    · refine ar_pickF rfl rfl rfl rfl rfl ?_
      refine ar_move rfl rfl rfl rfl ?_
      refine ar_skip rfl rfl ?_
      refine ar_skip rfl rfl ?_
      refine ar_skip rfl rfl ?_
      refine ar_pickT rfl rfl rfl rfl rfl ?_
      refine ar_nil ?_
      refine then_n ?_
      refine wp_condT rfl ?_
      refine wp_seq ?_
      refine wp_reg (by kernel_rfl) ?_
      refine ar_move rfl rfl rfl rfl ?_
      refine ar_assign rfl rfl rfl rfl ?_
      refine ar_nil ?_
      refine then_n ?_
      refine wp_ret ?_
      refine then_r (ret_post rfl rfl ?_)
      rfl
    · refine ar_pickF rfl rfl rfl rfl rfl ?_
      refine ar_move rfl rfl rfl rfl ?_
      refine ar_move rfl rfl rfl rfl ?_
      refine ar_len tab_ok rfl rfl tb70 rfl len_map rfl rfl ?_
      refine ar_gtr_s rfl rfl rfl rfl rfl (fun h39 => ?_) (fun h39 => ?_)
      · refine ar_pickF rfl rfl rfl rfl rfl ?_
        refine ar_nil ?_
        refine then_n ?_
        refine wp_condT rfl ?_
        refine wp_seq ?_
        refine wp_reg (by kernel_rfl) ?_
        refine ar_move rfl rfl rfl rfl ?_
        refine ar_assign rfl rfl rfl rfl ?_
        refine ar_nil ?_
        refine then_n ?_
        refine wp_ret ?_
        refine then_r (ret_post rfl rfl ?_)
        rfl
      · refine ar_pickF rfl rfl rfl rfl rfl ?_
        refine ar_nil ?_
        refine then_n ?_
        refine wp_condF rfl ?_
        refine wp_skip ?_
        refine then_n ?_
        refine wp_seq ?_
        have hg := hb29 h29
        have hbd := hg.bd
        have hvt := valuesT_tri (a := a) h0 h1
        refine wp_reg (by kernel_rfl) ?_
        refine ar_lda tab_ok rfl rfl rfl tb27 rfl rfl rfl rfl rfl rfl ?_
        refine ar_move rfl rfl rfl rfl ?_
        refine ar_move rfl rfl rfl rfl ?_
        refine ar_call [] (pc_56 a st inp hbd h0 h1 (by omega) (by omega)) rfl rfl rfl rfl rfl rfl trivial (.inl rfl) rfl rfl rfl ?_
        refine ar_move rfl rfl rfl rfl ?_
        refine ar_ext rfl rfl rfl rfl rfl ?_
        refine ar_ext rfl rfl rfl rfl rfl ?_
        refine ar_assign rfl rfl rfl rfl ?_
        refine ar_assign rfl rfl rfl rfl ?_
        refine ar_nil ?_
        refine then_n ?_
        refine wp_seq ?_
        refine wp_reg (by kernel_rfl) ?_
        refine ar_lda tab_ok rfl rfl rfl tb27 rfl rfl rfl rfl rfl rfl ?_
        refine ar_move rfl rfl rfl rfl ?_
        refine ar_move rfl rfl rfl rfl ?_
        refine ar_call [] (pc_57 a st inp hg (by omega) (by omega)) rfl rfl rfl rfl rfl rfl trivial (.inl rfl) rfl rfl rfl ?_
        refine ar_move rfl rfl rfl rfl ?_
        refine ar_ext rfl rfl rfl rfl rfl ?_
        refine ar_ext rfl rfl rfl rfl rfl ?_
        refine ar_assign rfl rfl rfl rfl ?_
        refine ar_assign rfl rfl rfl rfl ?_
        refine ar_nil ?_
        refine then_n ?_
        refine wp_seq ?_
        refine wp_reg (by kernel_rfl) ?_
        refine ar_lda tab_ok rfl rfl rfl tb27 rfl rfl rfl rfl rfl rfl ?_
        refine ar_move rfl rfl rfl rfl ?_
        refine ar_move rfl rfl rfl rfl ?_
        refine ar_call [] (pc_58 a st inp hbd h0 h1 (by omega) (by omega)) rfl rfl rfl rfl rfl rfl trivial (.inl rfl) rfl rfl rfl ?_
        refine ar_move rfl rfl rfl rfl ?_
        refine ar_ext rfl rfl rfl rfl rfl ?_
        refine ar_ext rfl rfl rfl rfl rfl ?_
        refine ar_ext rfl rfl rfl rfl rfl ?_
        refine ar_alloc (id := 13) tab_ok rfl rfl tb83 rfl rfl rfl rfl ?_
        refine ar_assign rfl rfl rfl rfl ?_
        refine ar_st [] tab_ok rfl tb83 rfl rfl rfl trivial rfl rfl rfl rfl rfl rfl rfl rfl ?_
        refine ar_assign rfl rfl rfl rfl ?_
        refine ar_nil ?_
        refine then_n ?_
        refine wp_seq ?_
        refine wp_reg (by kernel_rfl) ?_
        refine ar_lda tab_ok rfl rfl rfl tb27 rfl rfl rfl rfl rfl rfl ?_
        refine ar_move rfl rfl rfl rfl ?_
        refine ar_move rfl rfl rfl rfl ?_
        refine ar_call [] (pc_59 a st inp hg (by omega) (by omega)) rfl rfl rfl rfl rfl rfl trivial (.inl rfl) rfl rfl rfl ?_
        refine ar_move rfl rfl rfl rfl ?_
        refine ar_ext rfl rfl rfl rfl rfl ?_
        refine ar_ext rfl rfl rfl rfl rfl ?_
        refine ar_ext rfl rfl rfl rfl rfl ?_
        refine ar_alloc (id := 16) tab_ok rfl rfl tb83 rfl rfl rfl rfl ?_
        refine ar_assign rfl rfl rfl rfl ?_
        refine ar_st [] tab_ok rfl tb83 rfl rfl rfl trivial rfl rfl rfl rfl rfl rfl rfl rfl ?_
        refine ar_assign rfl rfl rfl rfl ?_
        refine ar_nil ?_
        refine then_n ?_
        refine wp_seq ?_
        refine wp_seq ?_
        refine wp_reg (by kernel_rfl) ?_
        refine ar_assign rfl rfl rfl rfl ?_
        refine ar_nil ?_
        refine then_n ?_
        refine wp_block ?_
        refine wp_loop (α := Nat) (fun j => mk [(6, .v (.int .i64 l)), (7, .v (.bool true)), (8, .v (slU (valuesT a st inp).1)), (9, .v (.int .i64 (valuesT a st inp).2)), (10, .v (slU (valuesT a st inp).1)), (11, .v (.int .i64 (valuesT a st inp).2)), (12, .v (slU (stepT a st inp).n)), (13, .ptr 13 0), (14, .v (.int .i64 (stepT a st inp).e)), (15, .v (slU (stepT a st inp).n)), (16, .ptr 16 0), (17, .v (.int .i64 (stepT a st inp).e)), (18, .v (.int .i64 (j : Nat)))] [(13, .box [.v (slU (stepT a st inp).o), .v (slU (stepT a st inp).b), .v (slU (stepT a st inp).c)]), (16, .box [.v (slU (stepT a st inp).o), .v (slU (stepT a st inp).b), .v (slU (stepT a st inp).c)])] 0) (fun j => j ≤ 3) (fun j => 3 - j) 0 (by omega) (le_to ⟨rfl, rfl, rfl, rfl, rfl, rfl, rfl, rfl, rfl, rfl, rfl, rfl, rfl, trivial⟩ ⟨rfl, rfl, trivial⟩ rfl rfl rfl rfl) ?_
        rintro j hinv
        refine wp_seq ?_
        refine wp_seq ?_
        refine wp_reg (by kernel_rfl) ?_
        refine ar_move rfl rfl rfl rfl ?_
        refine ar_lss_s rfl rfl rfl rfl rfl (fun h73 => ?_) (fun h73 => ?_)
        · refine ar_nil ?_
          refine then_n ?_
          refine wp_condT rfl ?_
          refine wp_skip ?_
          refine then_n ?_
          refine wp_seq ?_
          refine wp_block ?_
          refine wp_seq ?_
          refine wp_draw (L := [([], []), ([13], []), ([13], []), ([], []), ([16], []), ([16], []), ([], []), ([], [])]) (by kernel_rfl) mixed (by kernel_rfl) ?_
          refine ar_move rfl rfl rfl rfl ?_
          refine ar_ia_arr (j := j) tab_ok rfl rfl rfl rfl tb83 rfl tb70 (by omega) (by omega) (by simp) rfl rfl rfl ?_
          refine ar_ld tab_ok rfl rfl rfl tb70 rfl (get3U (by omega)) rfl rfl rfl ?_
          refine ar_move rfl rfl rfl rfl ?_
          refine ar_ia_arr (j := j) tab_ok rfl rfl rfl rfl tb83 rfl tb70 (by omega) (by omega) (by simp) rfl rfl rfl ?_
          refine ar_ld tab_ok rfl rfl rfl tb70 rfl (get3U (by omega)) rfl rfl rfl ?_
          refine ar_call [] (pc_60 _ _ (le3U (stepT_le hbd).2.1 (stepT_le hbd).2.2.1 (stepT_le hbd).2.2.2) (le3U (stepT_le hbd).2.1 (stepT_le hbd).2.2.1 (stepT_le hbd).2.2.2)) rfl rfl rfl rfl rfl rfl trivial (.inl rfl) rfl rfl rfl ?_
          refine ar_to (d' := .v (.bool true)) (congrArg (fun b => D.v (V.bool b)) (decide_eq_true rfl)) ?_
          refine ar_not rfl rfl rfl rfl rfl ?_
          refine ar_nil ?_
          refine then_n ?_
          refine wp_condF rfl ?_
          refine wp_skip ?_
          refine inblk_n ?_
          refine then_n ?_
          refine wp_reg (by kernel_rfl) ?_
          refine ar_move rfl rfl rfl rfl ?_
          refine ar_addi rfl rfl rfl rfl (by omega) (by omega) rfl rfl ?_
          refine ar_assign rfl rfl rfl rfl ?_
          refine ar_nil ?_
          exact loop_n (j + 1) (by omega) (by omega) (le_to ⟨rfl, rfl, rfl, rfl, rfl, rfl, rfl, rfl, rfl, rfl, rfl, rfl, rfl, trivial⟩ ⟨rfl, rfl, trivial⟩ rfl rfl rfl rfl)
        · refine ar_nil ?_
          refine then_n ?_
          refine wp_condF rfl ?_
          refine wp_exit ?_
          refine then_x (loop_x (inblk_e ?_))
          refine then_n ?_
          refine wp_seq ?_
          refine wp_reg (by kernel_rfl) ?_
          refine ar_move rfl rfl rfl rfl ?_
          refine ar_move rfl rfl rfl rfl ?_
          refine ar_move rfl rfl rfl rfl ?_
          refine ar_move rfl rfl rfl rfl ?_
          refine ar_call [] (pc_60 _ _ (by have := valuesT_le (st := st) (inp := inp) hbd; omega) (by have := valuesT_le (st := st) (inp := inp) hbd; omega)) rfl rfl rfl rfl rfl rfl trivial (.inl rfl) rfl rfl rfl ?_
          refine ar_to (d' := .v (.bool true)) (congrArg (fun b => D.v (V.bool b)) (decide_eq_true rfl)) ?_
          refine ar_pickT rfl rfl rfl rfl rfl ?_
          refine ar_move rfl rfl rfl rfl ?_
          refine ar_move rfl rfl rfl rfl ?_
          refine ar_move rfl rfl rfl rfl ?_
          refine ar_eql rfl rfl rfl (decide_eq_true (by rfl)) rfl rfl ?_
          refine ar_pickT rfl rfl rfl rfl rfl ?_
          refine ar_move rfl rfl rfl rfl ?_
          refine ar_move rfl rfl rfl rfl ?_
          refine ar_move rfl rfl rfl rfl ?_
          refine ar_call [] (pc_60 _ _ (by have := (stepT_le (st := st) (inp := inp) hbd).1; omega) (by have := (stepT_le (st := st) (inp := inp) hbd).1; omega)) rfl rfl rfl rfl rfl rfl trivial (.inl rfl) rfl rfl rfl ?_
          refine ar_to (d' := .v (.bool true)) (congrArg (fun b => D.v (V.bool b)) (decide_eq_true rfl)) ?_
          refine ar_pickT rfl rfl rfl rfl rfl ?_
          refine ar_move rfl rfl rfl rfl ?_
          refine ar_move rfl rfl rfl rfl ?_
          refine ar_move rfl rfl rfl rfl ?_
          refine ar_eql rfl rfl rfl (decide_eq_true (by rfl)) rfl rfl ?_
          refine ar_pickT rfl rfl rfl rfl rfl ?_
          refine ar_move rfl rfl rfl rfl ?_
          refine ar_move rfl rfl rfl rfl ?_
          refine ar_move rfl rfl rfl rfl ?_
          refine ar_call [] (pc_61 _ _ hvt) rfl rfl rfl rfl rfl rfl trivial (.inl rfl) rfl rfl rfl ?_
          refine ar_move rfl rfl rfl rfl ?_
          refine ar_move rfl rfl rfl rfl ?_
          refine ar_call [] (pc_62 _ _ hl) rfl rfl rfl rfl rfl rfl trivial (.inl rfl) rfl rfl rfl ?_
          refine ar_eql rfl rfl rfl (decide_eq_true (by rfl)) rfl rfl ?_
          refine ar_pickT rfl rfl rfl rfl rfl ?_
          refine ar_assign rfl rfl rfl rfl ?_
          refine ar_nil ?_
          refine then_n ?_
          refine wp_ret ?_
          refine ret_post rfl rfl ?_
          rfl
  · refine ar_not rfl rfl rfl rfl rfl ?_
    refine ar_move rfl rfl rfl rfl ?_
    refine ar_skip rfl rfl ?_
    refine ar_skip rfl rfl ?_
    refine ar_skip rfl rfl ?_
    refine ar_pickT rfl rfl rfl rfl rfl ?_
    refine ar_move rfl rfl rfl rfl ?_
    refine ar_skip rfl rfl ?_
    refine ar_skip rfl rfl ?_
    refine ar_skip rfl rfl ?_
    refine ar_pickT rfl rfl rfl rfl rfl ?_
    refine ar_nil ?_
    refine then_n ?_
    refine wp_condT rfl ?_
    refine wp_seq ?_
    refine wp_reg (by kernel_rfl) ?_
    refine ar_move rfl rfl rfl rfl ?_
    refine ar_assign rfl rfl rfl rfl ?_
    refine ar_nil ?_
    refine then_n ?_
    refine wp_ret ?_
    refine then_r (ret_post rfl rfl ?_)
    rfl


section
variable {x y z : Int} (hx : Tri x) (hy : Tri y) (hz : Tri z)
include hx
theorem tr_nn : notT (notT x) = x := by rcases hx.cases with rfl | rfl | rfl <;> rfl
theorem tr_xx : andT x x = x := by rcases hx.cases with rfl | rfl | rfl <;> rfl
theorem tr_x1 : andT x 1 = x := by rcases hx.cases with rfl | rfl | rfl <;> rfl
theorem tr_x0 : andT x 0 = 0 := by rcases hx.cases with rfl | rfl | rfl <;> rfl
theorem tr_low2 : pairs lowT [notT x] [notT 2] = true := by rcases hx.cases with rfl | rfl | rfl <;> rfl
include hy
theorem tr_low1 : pairs lowT [andT x y] [andT x 2] = true := by rcases hx.cases with rfl | rfl | rfl <;> rcases hy.cases with rfl | rfl | rfl <;> rfl
theorem tr_comm : andT x y = andT y x := by rcases hx.cases with rfl | rfl | rfl <;> rcases hy.cases with rfl | rfl | rfl <;> rfl
include hz
theorem tr_assoc : andT (andT x y) z = andT x (andT y z) := by rcases hx.cases with rfl | rfl | rfl <;> rcases hy.cases with rfl | rfl | rfl <;> rcases hz.cases with rfl | rfl | rfl <;> rfl
end

theorem pc_13 (x y z : Int) (h0 : 0 ≤ x) (h1 : 0 ≤ y) (h2 : 0 ≤ z) : PCall Try.prog 13 [.int .u8 x, .int .u8 y, .int .u8 z] (.bool true) := by
  refine pc_of tab_ok (f := 13) (fn := Try.f13) (N := 88) (rs := [.tmp 6]) (by kernel_rfl) rfl (by kernel_rfl) rfl rfl [(0, .v (.int .u8 x)), (1, .v (.int .u8 y)), (2, .v (.int .u8 z))] ⟨rfl, rfl, rfl, trivial⟩ rfl rfl ?_
  intro B
  refine wp_seq ?_
  refine wp_reg (by kernel_rfl) ?_
  refine ar_assign rfl rfl rfl rfl ?_
  refine ar_nil ?_
  refine then_n ?_
  refine wp_seq ?_
  refine wp_reg (by kernel_rfl) ?_
  refine ar_call [] (pc_44) rfl rfl rfl rfl rfl rfl trivial (.inl rfl) rfl rfl rfl ?_
  refine ar_assign rfl rfl rfl rfl ?_
  refine ar_nil ?_
  refine then_n ?_
  refine wp_seq ?_
  refine wp_seq ?_
  refine wp_reg (by kernel_rfl) ?_
  refine ar_move rfl rfl rfl rfl ?_
  refine ar_gtr_s rfl rfl rfl rfl rfl (fun h13 => ?_) (fun h13 => ?_)
  · refine ar_move rfl rfl rfl rfl ?_
    refine ar_skip rfl rfl ?_
    refine ar_skip rfl rfl ?_
    refine ar_pickT rfl rfl rfl rfl rfl ?_
    refine ar_move rfl rfl rfl rfl ?_
    refine ar_skip rfl rfl ?_
    refine ar_skip rfl rfl ?_
    refine ar_pickT rfl rfl rfl rfl rfl ?_
    refine ar_nil ?_
    refine then_n ?_
    refine wp_condT rfl ?_
    refine wp_seq ?_
    refine wp_reg (by kernel_rfl) ?_
    refine ar_move rfl rfl rfl rfl ?_
    refine ar_assign rfl rfl rfl rfl ?_
    refine ar_nil ?_
    refine then_n ?_
    refine wp_ret ?_
    refine then_r (ret_post rfl rfl ?_)
    first | rfl | exact congrArg V.bool (tr_low2 hx)
  · refine ar_move rfl rfl rfl rfl ?_
    refine ar_move rfl rfl rfl rfl ?_
    refine ar_gtr_s rfl rfl rfl rfl rfl (fun h16 => ?_) (fun h16 => ?_)
    · refine ar_pickF rfl rfl rfl rfl rfl ?_
      refine ar_move rfl rfl rfl rfl ?_
      refine ar_skip rfl rfl ?_
      refine ar_skip rfl rfl ?_
      refine ar_pickT rfl rfl rfl rfl rfl ?_
      refine ar_nil ?_
      refine then_n ?_
      refine wp_condT rfl ?_
      refine wp_seq ?_
      refine wp_reg (by kernel_rfl) ?_
      refine ar_move rfl rfl rfl rfl ?_
      refine ar_assign rfl rfl rfl rfl ?_
      refine ar_nil ?_
      refine then_n ?_
      refine wp_ret ?_
      refine then_r (ret_post rfl rfl ?_)
      first | rfl | exact congrArg V.bool (tr_low2 hx)
    · refine ar_pickF rfl rfl rfl rfl rfl ?_
      refine ar_move rfl rfl rfl rfl ?_
      refine ar_move rfl rfl rfl rfl ?_
      refine ar_gtr_s rfl rfl rfl rfl rfl (fun h20 => ?_) (fun h20 => ?_)
      · refine ar_pickF rfl rfl rfl rfl rfl ?_
        refine ar_nil ?_
        refine then_n ?_
        refine wp_condT rfl ?_
        refine wp_seq ?_
        refine wp_reg (by kernel_rfl) ?_
        refine ar_move rfl rfl rfl rfl ?_
        refine ar_assign rfl rfl rfl rfl ?_
        refine ar_nil ?_
        refine then_n ?_
        refine wp_ret ?_
        refine then_r (ret_post rfl rfl ?_)
        first | rfl | exact congrArg V.bool (tr_low2 hx)
      · refine ar_pickF rfl rfl rfl rfl rfl ?_
        refine ar_nil ?_
        refine then_n ?_
        refine wp_condF rfl ?_
        refine wp_skip ?_
        refine then_n ?_
        refine wp_seq ?_
        have hx : Tri x := ⟨h0, by omega⟩
        have hy : Tri y := ⟨h1, by omega⟩
        have hz : Tri z := ⟨h2, by omega⟩
        refine wp_reg (by kernel_rfl) ?_
        refine ar_move rfl rfl rfl rfl ?_
        refine ar_move rfl rfl rfl rfl ?_
        refine ar_call [] (pc_49 _ _ hx hy) rfl rfl rfl rfl rfl rfl trivial (.inl rfl) rfl rfl rfl ?_
        refine ar_assign rfl rfl rfl rfl ?_
        refine ar_nil ?_
        refine then_n ?_
        refine wp_seq ?_
        refine wp_reg (by kernel_rfl) ?_
        refine ar_move rfl rfl rfl rfl ?_
        refine ar_call [] (pc_49 _ _ hx tri2) rfl rfl rfl rfl rfl rfl trivial (.inl rfl) rfl rfl rfl ?_
        refine ar_assign rfl rfl rfl rfl ?_
        refine ar_nil ?_
        refine then_n ?_
        refine wp_seq ?_
        refine wp_reg (by kernel_rfl) ?_
        refine ar_move rfl rfl rfl rfl ?_
        refine ar_bs [] tab_ok rfl tb70 rfl tb72 rfl trivial rfl rfl rfl rfl rfl rfl rfl rfl ?_
        refine ar_move rfl rfl rfl rfl ?_
        refine ar_bs [] tab_ok rfl tb70 rfl tb72 rfl trivial rfl rfl rfl rfl rfl rfl rfl rfl ?_
        refine ar_call [] (pc_51 [andT x y] [andT x 2] (by simp) (by simp)) rfl rfl rfl rfl rfl rfl trivial (.inl rfl) rfl rfl rfl ?_
        refine ar_to (d' := .v (.bool true)) (congrArg (fun b => D.v (V.bool b)) (tr_low1 hx hy)) ?_
        refine ar_move rfl rfl rfl rfl ?_
        refine ar_move rfl rfl rfl rfl ?_
        refine ar_call [] (pc_47 _ hx) rfl rfl rfl rfl rfl rfl trivial (.inl rfl) rfl rfl rfl ?_
        refine ar_bs [] tab_ok rfl tb70 rfl tb72 rfl trivial rfl rfl rfl rfl rfl rfl rfl rfl ?_
        refine ar_call [] (pc_47 _ tri2) rfl rfl rfl rfl rfl rfl trivial (.inl rfl) rfl rfl rfl ?_
        refine ar_bs [] tab_ok rfl tb70 rfl tb72 rfl trivial rfl rfl rfl rfl rfl rfl rfl rfl ?_
        refine ar_call [] (pc_51 [notT x] [notT 2] (by simp) (by simp)) rfl rfl rfl rfl rfl rfl trivial (.inl rfl) rfl rfl rfl ?_
        refine ar_pickT rfl rfl rfl rfl rfl ?_
        refine ar_assign rfl rfl rfl rfl ?_
        refine ar_nil ?_
        refine then_n ?_
        refine wp_seq ?_
        refine wp_reg (by kernel_rfl) ?_
        refine ar_move rfl rfl rfl rfl ?_
        refine ar_move rfl rfl rfl rfl ?_
        refine ar_move rfl rfl rfl rfl ?_
        refine ar_move rfl rfl rfl rfl ?_
        refine ar_move rfl rfl rfl rfl ?_
        refine ar_call [] (pc_49 _ _ hy hx) rfl rfl rfl rfl rfl rfl trivial (.inl rfl) rfl rfl rfl ?_
        refine ar_eql rfl rfl rfl (decide_eq_true (by exact tr_comm hx hy)) rfl rfl ?_
        refine ar_pickT rfl rfl rfl rfl rfl ?_
        refine ar_move rfl rfl rfl rfl ?_
        refine ar_move rfl rfl rfl rfl ?_
        refine ar_move rfl rfl rfl rfl ?_
        refine ar_call [] (pc_49 _ _ (andT_tri _ _) hz) rfl rfl rfl rfl rfl rfl trivial (.inl rfl) rfl rfl rfl ?_
        refine ar_move rfl rfl rfl rfl ?_
        refine ar_move rfl rfl rfl rfl ?_
        refine ar_move rfl rfl rfl rfl ?_
        refine ar_call [] (pc_49 _ _ hy hz) rfl rfl rfl rfl rfl rfl trivial (.inl rfl) rfl rfl rfl ?_
        refine ar_call [] (pc_49 _ _ hx (andT_tri _ _)) rfl rfl rfl rfl rfl rfl trivial (.inl rfl) rfl rfl rfl ?_
        refine ar_eql rfl rfl rfl (decide_eq_true (by exact tr_assoc hx hy hz)) rfl rfl ?_
        refine ar_pickT rfl rfl rfl rfl rfl ?_
        refine ar_move rfl rfl rfl rfl ?_
        refine ar_move rfl rfl rfl rfl ?_
        refine ar_call [] (pc_49 _ _ hx tri1) rfl rfl rfl rfl rfl rfl trivial (.inl rfl) rfl rfl rfl ?_
        refine ar_move rfl rfl rfl rfl ?_
        refine ar_eql rfl rfl rfl (decide_eq_true (by exact tr_x1 hx)) rfl rfl ?_
        refine ar_pickT rfl rfl rfl rfl rfl ?_
        refine ar_move rfl rfl rfl rfl ?_
        refine ar_move rfl rfl rfl rfl ?_
        refine ar_call [] (pc_49 _ _ hx tri0) rfl rfl rfl rfl rfl rfl trivial (.inl rfl) rfl rfl rfl ?_
        refine ar_eql rfl rfl rfl (decide_eq_true (by exact tr_x0 hx)) rfl rfl ?_
        refine ar_pickT rfl rfl rfl rfl rfl ?_
        refine ar_move rfl rfl rfl rfl ?_
        refine ar_move rfl rfl rfl rfl ?_
        refine ar_call [] (pc_47 _ hx) rfl rfl rfl rfl rfl rfl trivial (.inl rfl) rfl rfl rfl ?_
        refine ar_call [] (pc_47 _ (notT_tri _)) rfl rfl rfl rfl rfl rfl trivial (.inl rfl) rfl rfl rfl ?_
        refine ar_move rfl rfl rfl rfl ?_
        refine ar_eql rfl rfl rfl (decide_eq_true (by exact tr_nn hx)) rfl rfl ?_
        refine ar_pickT rfl rfl rfl rfl rfl ?_
        refine ar_move rfl rfl rfl rfl ?_
        refine ar_move rfl rfl rfl rfl ?_
        refine ar_move rfl rfl rfl rfl ?_
        refine ar_call [] (pc_49 _ _ hx hx) rfl rfl rfl rfl rfl rfl trivial (.inl rfl) rfl rfl rfl ?_
        refine ar_move rfl rfl rfl rfl ?_
        refine ar_eql rfl rfl rfl (decide_eq_true (by exact tr_xx hx)) rfl rfl ?_
        refine ar_pickT rfl rfl rfl rfl rfl ?_
        refine ar_move rfl rfl rfl rfl ?_
        refine ar_move rfl rfl rfl rfl ?_
        refine ar_pickT rfl rfl rfl rfl rfl ?_
        refine ar_assign rfl rfl rfl rfl ?_
        refine ar_nil ?_
        refine then_n ?_
        refine wp_ret ?_
        refine ret_post rfl rfl ?_
        first | rfl | exact congrArg V.bool (tr_low2 hx)

end Go.Vd
