/- SimShapes: states and rows of inputs that aren't as long as they should be are refused: as the program tells it. -/
import Derived.Test.YtjbfplfopagpjaaC9
namespace Go.Vd
open Go.Proofs

theorem pc_36_ok (a : Aig) (fr : List Bool) (hb : Bd a) (h : fr.length = a.l.length) : PCall Try.prog 36 [aigV a, slB fr] (.tup [slB (startF a.l fr), .int .i64 0]) := by
  have := pc_36 a fr hb
  rwa [startS_ok h] at this
theorem pc_36_bad (a : Aig) (fr : List Bool) (hb : Bd a) (h : ¬ fr.length = a.l.length) : PCall Try.prog 36 [aigV a, slB fr] (.tup [slB [], .int .i64 7]) := by
  have := pc_36 a fr hb
  rwa [startS_bad h] at this
theorem shape_start {a : Aig} {st inp : List Bool} (h : shapeOk a st inp) : shapeOk a (startF a.l st) inp := ⟨startF_len h.1, h.2⟩
theorem runS_one_ok {a : Aig} {st inp : List Bool} (h : shapeOk a st inp) : (runS a st [inp]).2 = 0 := by
  simp only [runS, startS_ok h.1, if_pos, runGo, stepS_is (shape_start h)]
theorem runS_one_bad {a : Aig} {st inp : List Bool} (h : ¬ shapeOk a st inp) : runS a st [inp] = ([], 7) := by
  by_cases hs : st.length = a.l.length
  · have h' : ¬ shapeOk a (startF a.l st) inp := fun hh => h ⟨hs, hh.2⟩
    simp [runS, startS_ok hs, runGo, stepS_not h']
  · simp [runS, startS_bad hs]
theorem pc_38_ok (a : Aig) (st inp : List Bool) (hb : Bd a) (h : shapeOk a st inp) : PCall Try.prog 38 [aigV a, slB st, slBB [inp]] (.tup [slBB (runS a st [inp]).1, .int .i64 0]) := by
  have := pc_38 a st [inp] hb (by simp)
  rwa [runS_one_ok h] at this
theorem pc_38_bad (a : Aig) (st inp : List Bool) (hb : Bd a) (h : ¬ shapeOk a st inp) : PCall Try.prog 38 [aigV a, slB st, slBB [inp]] (.tup [slBB [], .int .i64 7]) := by
  have := pc_38 a st [inp] hb (by simp)
  rwa [runS_one_bad h] at this

theorem pc_6 (a : Aig) (st inp : List Bool) (hf : Fit a) : PCall Try.prog 6 [aigV a, slB st, slB inp] (.bool true) := by
  refine pc_of tab_ok (f := 6) (fn := Try.f6) (N := 150) (rs := [.tmp 6]) (by kernel_rfl) rfl (by kernel_rfl) rfl rfl [(0, .v (aigV a)), (1, .v (slB st)), (2, .v (slB inp))] ⟨rfl, rfl, rfl, trivial⟩ rfl rfl ?_
  intro B
  refine wp_seq ?_
  refine wp_reg (by kernel_rfl) ?_
  refine ar_box 3 [] rfl rfl rfl ⟨rfl, trivial⟩ rfl rfl rfl ?_
  refine ar_assign rfl rfl rfl rfl ?_
  refine ar_nil ?_
  refine then_n ?_
  refine wp_seq ?_
  refine wp_reg (by kernel_rfl) ?_
  refine ar_call [] (pc_29) rfl rfl rfl rfl rfl rfl trivial (.inl rfl) rfl rfl rfl ?_
  refine ar_assign rfl rfl rfl rfl ?_
  refine ar_nil ?_
  refine then_n ?_
  refine wp_seq ?_
  refine wp_seq ?_
  refine wp_reg (by kernel_rfl) ?_
  refine ar_lda tab_ok rfl rfl rfl tb27 rfl rfl rfl rfl rfl rfl ?_
  refine ar_callE [] (pce_30 a hf) rfl rfl rfl rfl rfl rfl trivial (.inl rfl) rfl rfl rfl ?_
  rintro _ ⟨b21, rfl, hb21⟩
  refine ar_split (fun h21 => ?_) (fun h21 => ?_)
  · refine ar_not rfl rfl rfl rfl rfl ?_
    refine ar_move rfl rfl rfl rfl ?_
    refine ar_move rfl rfl rfl rfl ?_
    refine ar_len tab_ok rfl rfl tb28 rfl len_map rfl rfl ?_
    refine ar_gtr_s rfl rfl rfl rfl rfl (fun h26 => ?_) (fun h26 => ?_)
    · refine ar_pickF rfl rfl rfl rfl rfl ?_
      refine ar_move rfl rfl rfl rfl ?_
      refine ar_skip rfl rfl ?_
      refine ar_skip rfl rfl ?_
      refine ar_skip rfl rfl ?_
      refine ar_pickT rfl rfl rfl rfl rfl ?_
      refine ar_nil ?_
      refine then_n ?_
      refine wp_condT rfl ?_
      refine wp_seq ?_
      refine wp_reg (by kernel_rfl) ?_
      refine ar_move rfl rfl rfl rfl ?_
      refine ar_assign rfl rfl rfl rfl ?_
      refine ar_nil ?_
      refine then_n ?_
      refine wp_ret ?_
      refine then_r (ret_post rfl rfl ?_)
      rfl
    · refine ar_pickF rfl rfl rfl rfl rfl ?_
      refine ar_move rfl rfl rfl rfl ?_
      refine ar_move rfl rfl rfl rfl ?_
      refine ar_len tab_ok rfl rfl tb28 rfl len_map rfl rfl ?_
      refine ar_gtr_s rfl rfl rfl rfl rfl (fun h31 => ?_) (fun h31 => ?_)
      · refine ar_pickF rfl rfl rfl rfl rfl ?_
        refine ar_nil ?_
        refine then_n ?_
        refine wp_condT rfl ?_
        refine wp_seq ?_
        refine wp_reg (by kernel_rfl) ?_
        refine ar_move rfl rfl rfl rfl ?_
        refine ar_assign rfl rfl rfl rfl ?_
        refine ar_nil ?_
        refine then_n ?_
        refine wp_ret ?_
        refine then_r (ret_post rfl rfl ?_)
        rfl
      · refine ar_pickF rfl rfl rfl rfl rfl ?_
        refine ar_nil ?_
        refine then_n ?_
        refine wp_condF rfl ?_
        refine wp_skip ?_
        refine then_n ?_
        refine wp_seq ?_
        by_cases hs : shapeOk a st inp
        · have hbd := (hb21 h21).bd
          have hs1 := hs.1; have hs2 := hs.2
          refine wp_reg (by kernel_rfl) ?_
          refine ar_lda tab_ok rfl rfl rfl tb27 rfl rfl rfl rfl rfl rfl ?_
          refine ar_move rfl rfl rfl rfl ?_
          refine ar_move rfl rfl rfl rfl ?_
          refine ar_call [] (pc_32_ok a st inp hbd hs) rfl rfl rfl rfl rfl rfl trivial (.inl rfl) rfl rfl rfl ?_
          refine ar_move rfl rfl rfl rfl ?_
          refine ar_ext rfl rfl rfl rfl rfl ?_
          refine ar_ext rfl rfl rfl rfl rfl ?_
          refine ar_assign rfl rfl rfl rfl ?_
          refine ar_assign rfl rfl rfl rfl ?_
          refine ar_nil ?_
          refine then_n ?_
          refine wp_seq ?_
          refine wp_reg (by kernel_rfl) ?_
          refine ar_lda tab_ok rfl rfl rfl tb27 rfl rfl rfl rfl rfl rfl ?_
          refine ar_move rfl rfl rfl rfl ?_
          refine ar_move rfl rfl rfl rfl ?_
          refine ar_call [] (pc_34_ok a st inp hbd hs) rfl rfl rfl rfl rfl rfl trivial (.inl rfl) rfl rfl rfl ?_
          refine ar_move rfl rfl rfl rfl ?_
          refine ar_ext rfl rfl rfl rfl rfl ?_
          refine ar_ext rfl rfl rfl rfl rfl ?_
          refine ar_ext rfl rfl rfl rfl rfl ?_
          refine ar_alloc (id := 11) tab_ok rfl rfl tb40 rfl rfl rfl rfl ?_
          refine ar_assign rfl rfl rfl rfl ?_
          refine ar_st [] tab_ok rfl tb40 rfl rfl rfl trivial rfl rfl rfl rfl rfl rfl rfl rfl ?_
          refine ar_assign rfl rfl rfl rfl ?_
          refine ar_nil ?_
          refine then_n ?_
          refine wp_seq ?_
          refine wp_reg (by kernel_rfl) ?_
          refine ar_lda tab_ok rfl rfl rfl tb27 rfl rfl rfl rfl rfl rfl ?_
          refine ar_move rfl rfl rfl rfl ?_
          refine ar_call [] (pc_36_ok a st hbd hs1) rfl rfl rfl rfl rfl rfl trivial (.inl rfl) rfl rfl rfl ?_
          refine ar_move rfl rfl rfl rfl ?_
          refine ar_ext rfl rfl rfl rfl rfl ?_
          refine ar_ext rfl rfl rfl rfl rfl ?_
          refine ar_assign rfl rfl rfl rfl ?_
          refine ar_assign rfl rfl rfl rfl ?_
          refine ar_nil ?_
          refine then_n ?_
          refine wp_seq ?_
          refine wp_reg (by kernel_rfl) ?_
          refine ar_lda tab_ok rfl rfl rfl tb27 rfl rfl rfl rfl rfl rfl ?_
          refine ar_move rfl rfl rfl rfl ?_
          refine ar_move rfl rfl rfl rfl ?_
          refine ar_bs [] tab_ok rfl tb29 rfl tb28 rfl trivial rfl rfl rfl rfl rfl rfl rfl rfl ?_
          refine ar_call [] (pc_38_ok a st inp hbd hs) rfl rfl rfl rfl rfl rfl trivial (.inl rfl) rfl rfl rfl ?_
          refine ar_move rfl rfl rfl rfl ?_
          refine ar_ext rfl rfl rfl rfl rfl ?_
          refine ar_ext rfl rfl rfl rfl rfl ?_
          refine ar_assign rfl rfl rfl rfl ?_
          refine ar_assign rfl rfl rfl rfl ?_
          refine ar_nil ?_
          refine then_n ?_
          refine wp_seq ?_
          refine wp_reg (by kernel_rfl) ?_
          refine ar_move rfl rfl rfl rfl ?_
          refine ar_len tab_ok rfl rfl tb28 rfl len_map rfl rfl ?_
          refine ar_fa tab_ok rfl rfl rfl tb27 rfl rfl rfl rfl rfl ?_
          refine ar_ld tab_ok rfl rfl rfl tb22 rfl rfl rfl rfl rfl ?_
          refine ar_len tab_ok rfl rfl tb22 rfl len_map rfl rfl ?_
          refine ar_eql rfl rfl rfl (decide_eq_true (by omega)) rfl rfl ?_
          refine ar_assign rfl rfl rfl rfl ?_
          refine ar_nil ?_
          refine then_n ?_
          refine wp_seq ?_
          refine wp_reg (by kernel_rfl) ?_
          refine ar_move rfl rfl rfl rfl ?_
          refine ar_move rfl rfl rfl rfl ?_
          refine ar_move rfl rfl rfl rfl ?_
          refine ar_len tab_ok rfl rfl tb28 rfl len_map rfl rfl ?_
          refine ar_fa tab_ok rfl rfl rfl tb27 rfl rfl rfl rfl rfl ?_
          refine ar_ld tab_ok rfl rfl rfl tb3 rfl rfl rfl rfl rfl ?_
          refine ar_eql rfl rfl rfl (decide_eq_true (by omega)) rfl rfl ?_
          refine ar_pickT rfl rfl rfl rfl rfl ?_
          refine ar_assign rfl rfl rfl rfl ?_
          refine ar_nil ?_
          refine then_n ?_
          refine wp_seq ?_
          refine wp_seq ?_
          refine wp_reg (by kernel_rfl) ?_
          refine ar_move rfl rfl rfl rfl ?_
          refine ar_move rfl rfl rfl rfl ?_
          refine ar_eql rfl rfl rfl (decide_eq_true (by rfl)) rfl rfl ?_
          refine ar_bneq (z := false) tab_ok rfl rfl rfl tb4 rfl (by rfl) rfl rfl ?_
          refine ar_move rfl rfl rfl rfl ?_
          refine ar_move rfl rfl rfl rfl ?_
          refine ar_move rfl rfl rfl rfl ?_
          refine ar_eql rfl rfl rfl (decide_eq_true (by rfl)) rfl rfl ?_
          refine ar_bneq (z := false) tab_ok rfl rfl rfl tb4 rfl (by rfl) rfl rfl ?_
          refine ar_pickF rfl rfl rfl rfl rfl ?_
          refine ar_move rfl rfl rfl rfl ?_
          refine ar_move rfl rfl rfl rfl ?_
          refine ar_move rfl rfl rfl rfl ?_
          refine ar_eql rfl rfl rfl (decide_eq_true (by rfl)) rfl rfl ?_
          refine ar_bneq (z := false) tab_ok rfl rfl rfl tb4 rfl (by rfl) rfl rfl ?_
          refine ar_pickF rfl rfl rfl rfl rfl ?_
          refine ar_move rfl rfl rfl rfl ?_
          refine ar_move rfl rfl rfl rfl ?_
          refine ar_move rfl rfl rfl rfl ?_
          refine ar_eql rfl rfl rfl (decide_eq_true (by rfl)) rfl rfl ?_
          refine ar_bneq (z := false) tab_ok rfl rfl rfl tb4 rfl (by rfl) rfl rfl ?_
          refine ar_pickF rfl rfl rfl rfl rfl ?_
          refine ar_nil ?_
          refine then_n ?_
          refine wp_condF rfl ?_
          refine wp_skip ?_
          refine then_n ?_
          refine wp_seq ?_
          refine wp_reg (by kernel_rfl) ?_
          refine ar_move rfl rfl rfl rfl ?_
          refine ar_move rfl rfl rfl rfl ?_
          refine ar_move rfl rfl rfl rfl ?_
          refine ar_move rfl rfl rfl rfl ?_
          refine ar_skip rfl rfl ?_
          refine ar_skip rfl rfl ?_
          refine ar_skip rfl rfl ?_
          refine ar_skip rfl rfl ?_
          refine ar_skip rfl rfl ?_
          refine ar_skip rfl rfl ?_
          refine ar_skip rfl rfl ?_
          refine ar_skip rfl rfl ?_
          refine ar_skip rfl rfl ?_
          refine ar_skip rfl rfl ?_
          refine ar_skip rfl rfl ?_
          refine ar_skip rfl rfl ?_
          refine ar_skip rfl rfl ?_
          refine ar_skip rfl rfl ?_
          refine ar_skip rfl rfl ?_
          refine ar_skip rfl rfl ?_
          refine ar_skip rfl rfl ?_
          refine ar_skip rfl rfl ?_
          refine ar_skip rfl rfl ?_
          refine ar_skip rfl rfl ?_
          refine ar_skip rfl rfl ?_
          refine ar_skip rfl rfl ?_
          refine ar_skip rfl rfl ?_
          refine ar_skip rfl rfl ?_
          refine ar_skip rfl rfl ?_
          refine ar_skip rfl rfl ?_
          refine ar_skip rfl rfl ?_
          refine ar_skip rfl rfl ?_
          refine ar_skip rfl rfl ?_
          refine ar_skip rfl rfl ?_
          refine ar_skip rfl rfl ?_
          refine ar_skip rfl rfl ?_
          refine ar_skip rfl rfl ?_
          refine ar_pickT rfl rfl rfl rfl rfl ?_
          refine ar_pickT rfl rfl rfl rfl rfl ?_
          refine ar_move rfl rfl rfl rfl ?_
          refine ar_move rfl rfl rfl rfl ?_
          refine ar_move rfl rfl rfl rfl ?_
          refine ar_skip rfl rfl ?_
          refine ar_skip rfl rfl ?_
          refine ar_skip rfl rfl ?_
          refine ar_skip rfl rfl ?_
          refine ar_skip rfl rfl ?_
          refine ar_skip rfl rfl ?_
          refine ar_skip rfl rfl ?_
          refine ar_pickT rfl rfl rfl rfl rfl ?_
          refine ar_pickT rfl rfl rfl rfl rfl ?_
          refine ar_assign rfl rfl rfl rfl ?_
          refine ar_nil ?_
          refine then_n ?_
          refine wp_ret ?_
          refine ret_post rfl rfl ?_
          rfl
        · have hbd := (hb21 h21).bd
          refine wp_reg (by kernel_rfl) ?_
          refine ar_lda tab_ok rfl rfl rfl tb27 rfl rfl rfl rfl rfl rfl ?_
          refine ar_move rfl rfl rfl rfl ?_
          refine ar_move rfl rfl rfl rfl ?_
          refine ar_call [] (pc_32_bad a st inp hbd hs) rfl rfl rfl rfl rfl rfl trivial (.inl rfl) rfl rfl rfl ?_
          refine ar_move rfl rfl rfl rfl ?_
          refine ar_ext rfl rfl rfl rfl rfl ?_
          refine ar_ext rfl rfl rfl rfl rfl ?_
          refine ar_assign rfl rfl rfl rfl ?_
          refine ar_assign rfl rfl rfl rfl ?_
          refine ar_nil ?_
          refine then_n ?_
          refine wp_seq ?_
          refine wp_reg (by kernel_rfl) ?_
          refine ar_lda tab_ok rfl rfl rfl tb27 rfl rfl rfl rfl rfl rfl ?_
          refine ar_move rfl rfl rfl rfl ?_
          refine ar_move rfl rfl rfl rfl ?_
          refine ar_call [] (pc_34_bad a st inp hbd hs) rfl rfl rfl rfl rfl rfl trivial (.inl rfl) rfl rfl rfl ?_
          refine ar_move rfl rfl rfl rfl ?_
          refine ar_ext rfl rfl rfl rfl rfl ?_
          refine ar_ext rfl rfl rfl rfl rfl ?_
          refine ar_ext rfl rfl rfl rfl rfl ?_
          refine ar_alloc (id := 11) tab_ok rfl rfl tb40 rfl rfl rfl rfl ?_
          refine ar_assign rfl rfl rfl rfl ?_
          refine ar_st [] tab_ok rfl tb40 rfl rfl rfl trivial rfl rfl rfl rfl rfl rfl rfl rfl ?_
          refine ar_assign rfl rfl rfl rfl ?_
          refine ar_nil ?_
          refine then_n ?_
          refine wp_seq ?_
          by_cases hs1 : st.length = a.l.length
          · have hs2 : ¬ (inp.length : Int) = a.i := fun e => hs ⟨hs1, e⟩
            refine wp_reg (by kernel_rfl) ?_
            refine ar_lda tab_ok rfl rfl rfl tb27 rfl rfl rfl rfl rfl rfl ?_
            refine ar_move rfl rfl rfl rfl ?_
            refine ar_call [] (pc_36_ok a st hbd hs1) rfl rfl rfl rfl rfl rfl trivial (.inl rfl) rfl rfl rfl ?_
            refine ar_move rfl rfl rfl rfl ?_
            refine ar_ext rfl rfl rfl rfl rfl ?_
            refine ar_ext rfl rfl rfl rfl rfl ?_
            refine ar_assign rfl rfl rfl rfl ?_
            refine ar_assign rfl rfl rfl rfl ?_
            refine ar_nil ?_
            refine then_n ?_
            refine wp_seq ?_
            refine wp_reg (by kernel_rfl) ?_
            refine ar_lda tab_ok rfl rfl rfl tb27 rfl rfl rfl rfl rfl rfl ?_
            refine ar_move rfl rfl rfl rfl ?_
            refine ar_move rfl rfl rfl rfl ?_
            refine ar_bs [] tab_ok rfl tb29 rfl tb28 rfl trivial rfl rfl rfl rfl rfl rfl rfl rfl ?_
            refine ar_call [] (pc_38_bad a st inp hbd hs) rfl rfl rfl rfl rfl rfl trivial (.inl rfl) rfl rfl rfl ?_
            refine ar_move rfl rfl rfl rfl ?_
            refine ar_ext rfl rfl rfl rfl rfl ?_
            refine ar_ext rfl rfl rfl rfl rfl ?_
            refine ar_assign rfl rfl rfl rfl ?_
            refine ar_assign rfl rfl rfl rfl ?_
            refine ar_nil ?_
            refine then_n ?_
            refine wp_seq ?_
            refine wp_reg (by kernel_rfl) ?_
            refine ar_move rfl rfl rfl rfl ?_
            refine ar_len tab_ok rfl rfl tb28 rfl len_map rfl rfl ?_
            refine ar_fa tab_ok rfl rfl rfl tb27 rfl rfl rfl rfl rfl ?_
            refine ar_ld tab_ok rfl rfl rfl tb22 rfl rfl rfl rfl rfl ?_
            refine ar_len tab_ok rfl rfl tb22 rfl len_map rfl rfl ?_
            refine ar_eql rfl rfl rfl (decide_eq_true (by omega)) rfl rfl ?_
            refine ar_assign rfl rfl rfl rfl ?_
            refine ar_nil ?_
            refine then_n ?_
            refine wp_seq ?_
            refine wp_reg (by kernel_rfl) ?_
            refine ar_move rfl rfl rfl rfl ?_
            refine ar_move rfl rfl rfl rfl ?_
            refine ar_move rfl rfl rfl rfl ?_
            refine ar_len tab_ok rfl rfl tb28 rfl len_map rfl rfl ?_
            refine ar_fa tab_ok rfl rfl rfl tb27 rfl rfl rfl rfl rfl ?_
            refine ar_ld tab_ok rfl rfl rfl tb3 rfl rfl rfl rfl rfl ?_
            refine ar_eql rfl rfl rfl (decide_eq_false (by omega)) rfl rfl ?_
            refine ar_pickT rfl rfl rfl rfl rfl ?_
            refine ar_assign rfl rfl rfl rfl ?_
            refine ar_nil ?_
            refine then_n ?_
            refine wp_seq ?_
            refine wp_seq ?_
            refine wp_reg (by kernel_rfl) ?_
            refine ar_move rfl rfl rfl rfl ?_
            refine ar_move rfl rfl rfl rfl ?_
            refine ar_eql rfl rfl rfl (decide_eq_false (by decide)) rfl rfl ?_
            refine ar_bneq (z := false) tab_ok rfl rfl rfl tb4 rfl (by rfl) rfl rfl ?_
            refine ar_move rfl rfl rfl rfl ?_
            refine ar_move rfl rfl rfl rfl ?_
            refine ar_move rfl rfl rfl rfl ?_
            refine ar_eql rfl rfl rfl (decide_eq_false (by decide)) rfl rfl ?_
            refine ar_bneq (z := false) tab_ok rfl rfl rfl tb4 rfl (by rfl) rfl rfl ?_
            refine ar_pickF rfl rfl rfl rfl rfl ?_
            refine ar_move rfl rfl rfl rfl ?_
            refine ar_move rfl rfl rfl rfl ?_
            refine ar_move rfl rfl rfl rfl ?_
            refine ar_eql rfl rfl rfl (decide_eq_true (by rfl)) rfl rfl ?_
            refine ar_bneq (z := false) tab_ok rfl rfl rfl tb4 rfl (by rfl) rfl rfl ?_
            refine ar_pickF rfl rfl rfl rfl rfl ?_
            refine ar_move rfl rfl rfl rfl ?_
            refine ar_move rfl rfl rfl rfl ?_
            refine ar_move rfl rfl rfl rfl ?_
            refine ar_eql rfl rfl rfl (decide_eq_false (by decide)) rfl rfl ?_
            refine ar_bneq (z := false) tab_ok rfl rfl rfl tb4 rfl (by rfl) rfl rfl ?_
            refine ar_pickF rfl rfl rfl rfl rfl ?_
            refine ar_nil ?_
            refine then_n ?_
            refine wp_condF rfl ?_
            refine wp_skip ?_
            refine then_n ?_
            refine wp_seq ?_
            refine wp_reg (by kernel_rfl) ?_
            refine ar_move rfl rfl rfl rfl ?_
            refine ar_move rfl rfl rfl rfl ?_
            refine ar_move rfl rfl rfl rfl ?_
            refine ar_move rfl rfl rfl rfl ?_
            refine ar_move rfl rfl rfl rfl ?_
            refine ar_eql rfl rfl rfl (decide_eq_true (by rfl)) rfl rfl ?_
            refine ar_move rfl rfl rfl rfl ?_
            refine ar_move rfl rfl rfl rfl ?_
            refine ar_eql rfl rfl rfl (decide_eq_true (by rfl)) rfl rfl ?_
            refine ar_pickT rfl rfl rfl rfl rfl ?_
            refine ar_move rfl rfl rfl rfl ?_
            refine ar_move rfl rfl rfl rfl ?_
            refine ar_eql rfl rfl rfl (decide_eq_true (by rfl)) rfl rfl ?_
            refine ar_pickT rfl rfl rfl rfl rfl ?_
            refine ar_move rfl rfl rfl rfl ?_
            refine ar_move rfl rfl rfl rfl ?_
            refine ar_len tab_ok rfl rfl tb28 rfl rfl rfl rfl ?_
            refine ar_move rfl rfl rfl rfl ?_
            refine ar_len tab_ok rfl rfl tb28 rfl rfl rfl rfl ?_
            refine ar_addi (z := 0) rfl rfl rfl rfl (by decide) (by decide) rfl rfl ?_
            refine ar_move rfl rfl rfl rfl ?_
            refine ar_len tab_ok rfl rfl tb29 rfl rfl rfl rfl ?_
            refine ar_addi (z := 0) rfl rfl rfl rfl (by decide) (by decide) rfl rfl ?_
            refine ar_ia_arr tab_ok rfl rfl rfl rfl tb40 rfl tb28 (by omega) (by omega) rfl rfl rfl rfl ?_
            refine ar_ld tab_ok rfl rfl rfl tb28 rfl rfl rfl rfl rfl ?_
            refine ar_len tab_ok rfl rfl tb28 rfl rfl rfl rfl ?_
            refine ar_addi (z := 0) rfl rfl rfl rfl (by decide) (by decide) rfl rfl ?_
            refine ar_ia_arr tab_ok rfl rfl rfl rfl tb40 rfl tb28 (by omega) (by omega) rfl rfl rfl rfl ?_
            refine ar_ld tab_ok rfl rfl rfl tb28 rfl rfl rfl rfl rfl ?_
            refine ar_len tab_ok rfl rfl tb28 rfl rfl rfl rfl ?_
            refine ar_addi (z := 0) rfl rfl rfl rfl (by decide) (by decide) rfl rfl ?_
            refine ar_ia_arr tab_ok rfl rfl rfl rfl tb40 rfl tb28 (by omega) (by omega) rfl rfl rfl rfl ?_
            refine ar_ld tab_ok rfl rfl rfl tb28 rfl rfl rfl rfl rfl ?_
            refine ar_len tab_ok rfl rfl tb28 rfl rfl rfl rfl ?_
            refine ar_addi (z := 0) rfl rfl rfl rfl (by decide) (by decide) rfl rfl ?_
            refine ar_eql rfl rfl rfl (decide_eq_true (by rfl)) rfl rfl ?_
            refine ar_pickT rfl rfl rfl rfl rfl ?_
            refine ar_pickF rfl rfl rfl rfl rfl ?_
            refine ar_pickT rfl rfl rfl rfl rfl ?_
            refine ar_move rfl rfl rfl rfl ?_
            refine ar_move rfl rfl rfl rfl ?_
            refine ar_move rfl rfl rfl rfl ?_
            refine ar_skip rfl rfl ?_
            refine ar_skip rfl rfl ?_
            refine ar_skip rfl rfl ?_
            refine ar_skip rfl rfl ?_
            refine ar_skip rfl rfl ?_
            refine ar_skip rfl rfl ?_
            refine ar_skip rfl rfl ?_
            refine ar_pickT rfl rfl rfl rfl rfl ?_
            refine ar_pickT rfl rfl rfl rfl rfl ?_
            refine ar_assign rfl rfl rfl rfl ?_
            refine ar_nil ?_
            refine then_n ?_
            refine wp_ret ?_
            refine ret_post rfl rfl ?_
            rfl
          · skip
            refine wp_reg (by kernel_rfl) ?_
            refine ar_lda tab_ok rfl rfl rfl tb27 rfl rfl rfl rfl rfl rfl ?_
            refine ar_move rfl rfl rfl rfl ?_
            refine ar_call [] (pc_36_bad a st hbd hs1) rfl rfl rfl rfl rfl rfl trivial (.inl rfl) rfl rfl rfl ?_
            refine ar_move rfl rfl rfl rfl ?_
            refine ar_ext rfl rfl rfl rfl rfl ?_
            refine ar_ext rfl rfl rfl rfl rfl ?_
            refine ar_assign rfl rfl rfl rfl ?_
            refine ar_assign rfl rfl rfl rfl ?_
            refine ar_nil ?_
            refine then_n ?_
            refine wp_seq ?_
            refine wp_reg (by kernel_rfl) ?_
            refine ar_lda tab_ok rfl rfl rfl tb27 rfl rfl rfl rfl rfl rfl ?_
            refine ar_move rfl rfl rfl rfl ?_
            refine ar_move rfl rfl rfl rfl ?_
            refine ar_bs [] tab_ok rfl tb29 rfl tb28 rfl trivial rfl rfl rfl rfl rfl rfl rfl rfl ?_
            refine ar_call [] (pc_38_bad a st inp hbd hs) rfl rfl rfl rfl rfl rfl trivial (.inl rfl) rfl rfl rfl ?_
            refine ar_move rfl rfl rfl rfl ?_
            refine ar_ext rfl rfl rfl rfl rfl ?_
            refine ar_ext rfl rfl rfl rfl rfl ?_
            refine ar_assign rfl rfl rfl rfl ?_
            refine ar_assign rfl rfl rfl rfl ?_
            refine ar_nil ?_
            refine then_n ?_
            refine wp_seq ?_
            refine wp_reg (by kernel_rfl) ?_
            refine ar_move rfl rfl rfl rfl ?_
            refine ar_len tab_ok rfl rfl tb28 rfl len_map rfl rfl ?_
            refine ar_fa tab_ok rfl rfl rfl tb27 rfl rfl rfl rfl rfl ?_
            refine ar_ld tab_ok rfl rfl rfl tb22 rfl rfl rfl rfl rfl ?_
            refine ar_len tab_ok rfl rfl tb22 rfl len_map rfl rfl ?_
            refine ar_eql rfl rfl rfl (decide_eq_false (by omega)) rfl rfl ?_
            refine ar_assign rfl rfl rfl rfl ?_
            refine ar_nil ?_
            refine then_n ?_
            refine wp_seq ?_
            refine wp_reg (by kernel_rfl) ?_
            refine ar_move rfl rfl rfl rfl ?_
            refine ar_move rfl rfl rfl rfl ?_
            refine ar_skip rfl rfl ?_
            refine ar_skip rfl rfl ?_
            refine ar_skip rfl rfl ?_
            refine ar_skip rfl rfl ?_
            refine ar_skip rfl rfl ?_
            refine ar_pickF rfl rfl rfl rfl rfl ?_
            refine ar_assign rfl rfl rfl rfl ?_
            refine ar_nil ?_
            refine then_n ?_
            refine wp_seq ?_
            refine wp_seq ?_
            refine wp_reg (by kernel_rfl) ?_
            refine ar_move rfl rfl rfl rfl ?_
            refine ar_move rfl rfl rfl rfl ?_
            refine ar_eql rfl rfl rfl (decide_eq_false (by decide)) rfl rfl ?_
            refine ar_bneq (z := false) tab_ok rfl rfl rfl tb4 rfl (by rfl) rfl rfl ?_
            refine ar_move rfl rfl rfl rfl ?_
            refine ar_move rfl rfl rfl rfl ?_
            refine ar_move rfl rfl rfl rfl ?_
            refine ar_eql rfl rfl rfl (decide_eq_false (by decide)) rfl rfl ?_
            refine ar_bneq (z := false) tab_ok rfl rfl rfl tb4 rfl (by rfl) rfl rfl ?_
            refine ar_pickF rfl rfl rfl rfl rfl ?_
            refine ar_move rfl rfl rfl rfl ?_
            refine ar_move rfl rfl rfl rfl ?_
            refine ar_move rfl rfl rfl rfl ?_
            refine ar_eql rfl rfl rfl (decide_eq_false (by decide)) rfl rfl ?_
            refine ar_bneq (z := false) tab_ok rfl rfl rfl tb4 rfl (by rfl) rfl rfl ?_
            refine ar_pickF rfl rfl rfl rfl rfl ?_
            refine ar_move rfl rfl rfl rfl ?_
            refine ar_move rfl rfl rfl rfl ?_
            refine ar_move rfl rfl rfl rfl ?_
            refine ar_eql rfl rfl rfl (decide_eq_false (by decide)) rfl rfl ?_
            refine ar_bneq (z := false) tab_ok rfl rfl rfl tb4 rfl (by rfl) rfl rfl ?_
            refine ar_pickF rfl rfl rfl rfl rfl ?_
            refine ar_nil ?_
            refine then_n ?_
            refine wp_condF rfl ?_
            refine wp_skip ?_
            refine then_n ?_
            refine wp_seq ?_
            refine wp_reg (by kernel_rfl) ?_
            refine ar_move rfl rfl rfl rfl ?_
            refine ar_move rfl rfl rfl rfl ?_
            refine ar_move rfl rfl rfl rfl ?_
            refine ar_move rfl rfl rfl rfl ?_
            refine ar_move rfl rfl rfl rfl ?_
            refine ar_eql rfl rfl rfl (decide_eq_true (by rfl)) rfl rfl ?_
            refine ar_move rfl rfl rfl rfl ?_
            refine ar_move rfl rfl rfl rfl ?_
            refine ar_eql rfl rfl rfl (decide_eq_true (by rfl)) rfl rfl ?_
            refine ar_pickT rfl rfl rfl rfl rfl ?_
            refine ar_move rfl rfl rfl rfl ?_
            refine ar_move rfl rfl rfl rfl ?_
            refine ar_eql rfl rfl rfl (decide_eq_true (by rfl)) rfl rfl ?_
            refine ar_pickT rfl rfl rfl rfl rfl ?_
            refine ar_move rfl rfl rfl rfl ?_
            refine ar_move rfl rfl rfl rfl ?_
            refine ar_len tab_ok rfl rfl tb28 rfl rfl rfl rfl ?_
            refine ar_move rfl rfl rfl rfl ?_
            refine ar_len tab_ok rfl rfl tb28 rfl rfl rfl rfl ?_
            refine ar_addi (z := 0) rfl rfl rfl rfl (by decide) (by decide) rfl rfl ?_
            refine ar_move rfl rfl rfl rfl ?_
            refine ar_len tab_ok rfl rfl tb29 rfl rfl rfl rfl ?_
            refine ar_addi (z := 0) rfl rfl rfl rfl (by decide) (by decide) rfl rfl ?_
            refine ar_ia_arr tab_ok rfl rfl rfl rfl tb40 rfl tb28 (by omega) (by omega) rfl rfl rfl rfl ?_
            refine ar_ld tab_ok rfl rfl rfl tb28 rfl rfl rfl rfl rfl ?_
            refine ar_len tab_ok rfl rfl tb28 rfl rfl rfl rfl ?_
            refine ar_addi (z := 0) rfl rfl rfl rfl (by decide) (by decide) rfl rfl ?_
            refine ar_ia_arr tab_ok rfl rfl rfl rfl tb40 rfl tb28 (by omega) (by omega) rfl rfl rfl rfl ?_
            refine ar_ld tab_ok rfl rfl rfl tb28 rfl rfl rfl rfl rfl ?_
            refine ar_len tab_ok rfl rfl tb28 rfl rfl rfl rfl ?_
            refine ar_addi (z := 0) rfl rfl rfl rfl (by decide) (by decide) rfl rfl ?_
            refine ar_ia_arr tab_ok rfl rfl rfl rfl tb40 rfl tb28 (by omega) (by omega) rfl rfl rfl rfl ?_
            refine ar_ld tab_ok rfl rfl rfl tb28 rfl rfl rfl rfl rfl ?_
            refine ar_len tab_ok rfl rfl tb28 rfl rfl rfl rfl ?_
            refine ar_addi (z := 0) rfl rfl rfl rfl (by decide) (by decide) rfl rfl ?_
            refine ar_eql rfl rfl rfl (decide_eq_true (by rfl)) rfl rfl ?_
            refine ar_pickT rfl rfl rfl rfl rfl ?_
            refine ar_pickF rfl rfl rfl rfl rfl ?_
            refine ar_pickT rfl rfl rfl rfl rfl ?_
            refine ar_move rfl rfl rfl rfl ?_
            refine ar_move rfl rfl rfl rfl ?_
            refine ar_move rfl rfl rfl rfl ?_
            refine ar_move rfl rfl rfl rfl ?_
            refine ar_eql rfl rfl rfl (decide_eq_true (by rfl)) rfl rfl ?_
            refine ar_move rfl rfl rfl rfl ?_
            refine ar_move rfl rfl rfl rfl ?_
            refine ar_len tab_ok rfl rfl tb28 rfl rfl rfl rfl ?_
            refine ar_eql rfl rfl rfl (decide_eq_true (by rfl)) rfl rfl ?_
            refine ar_pickT rfl rfl rfl rfl rfl ?_
            refine ar_pickF rfl rfl rfl rfl rfl ?_
            refine ar_pickT rfl rfl rfl rfl rfl ?_
            refine ar_assign rfl rfl rfl rfl ?_
            refine ar_nil ?_
            refine then_n ?_
            refine wp_ret ?_
            refine ret_post rfl rfl ?_
            rfl
  · refine ar_not rfl rfl rfl rfl rfl ?_
    refine ar_move rfl rfl rfl rfl ?_
    refine ar_skip rfl rfl ?_
    refine ar_skip rfl rfl ?_
    refine ar_skip rfl rfl ?_
    refine ar_pickT rfl rfl rfl rfl rfl ?_
    refine ar_move rfl rfl rfl rfl ?_
    refine ar_skip rfl rfl ?_
    refine ar_skip rfl rfl ?_
    refine ar_skip rfl rfl ?_
    refine ar_pickT rfl rfl rfl rfl rfl ?_
    refine ar_nil ?_
    refine then_n ?_
    refine wp_condT rfl ?_
    refine wp_seq ?_
    refine wp_reg (by kernel_rfl) ?_
    refine ar_move rfl rfl rfl rfl ?_
    refine ar_assign rfl rfl rfl rfl ?_
    refine ar_nil ?_
    refine then_n ?_
    refine wp_ret ?_
    refine then_r (ret_post rfl rfl ?_)
    rfl

end Go.Vd
