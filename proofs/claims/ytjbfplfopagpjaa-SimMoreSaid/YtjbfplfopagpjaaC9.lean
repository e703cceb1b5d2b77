/- SimTaken: what a step tells are the values of its literals: as the program tells it. -/
import Derived.Test.YtjbfplfopagpjaaC7
namespace Go.Vd
open Go.Proofs

theorem getD_map {α β : Type} [Inhabited α] [Inhabited β] {f : α → β} {xs : List α} {j : Nat} (h : j < xs.length) : (xs.map f).getD j default = f (xs.getD j default) := by
  simp [List.getD_eq_getElem?_getD, h]
abbrev valsV (a : Aig) (st inp : List Bool) : List Bool := valsOf (false :: (inp ++ st)) a.g
abbrev stepOk (a : Aig) (st inp : List Bool) : StepR := ⟨a.l.map fun l => litv (valsV a st inp) l.next, a.outs.map (litv (valsV a st inp)), a.bad.map (litv (valsV a st inp)), a.con.map (litv (valsV a st inp)), 0⟩
def shapeOk (a : Aig) (st inp : List Bool) : Prop := st.length = a.l.length ∧ (inp.length : Int) = a.i
theorem pc_32_ok (a : Aig) (st inp : List Bool) (hb : Bd a) (h : shapeOk a st inp) : PCall Try.prog 32 [aigV a, slB st, slB inp] (.tup [slB (valsV a st inp), .int .i64 0]) := by
  have := pc_32 a st inp hb
  rwa [valuesS_ok h.1 h.2] at this
theorem pc_32_bad (a : Aig) (st inp : List Bool) (hb : Bd a) (h : ¬ shapeOk a st inp) : PCall Try.prog 32 [aigV a, slB st, slB inp] (.tup [slB [], .int .i64 7]) := by
  have := pc_32 a st inp hb
  rwa [valuesS_bad h] at this
theorem stepS_is {a : Aig} {st inp : List Bool} (h : shapeOk a st inp) : stepS a st inp = stepOk a st inp := by
  rw [stepS_ok (by rw [valuesS_ok h.1 h.2]), valuesS_ok h.1 h.2]
theorem stepS_not {a : Aig} {st inp : List Bool} (h : ¬ shapeOk a st inp) : stepS a st inp = ⟨[], [], [], [], 7⟩ := by
  rw [stepS_bad (by rw [valuesS_bad h]; decide), valuesS_bad h]
theorem pc_34_ok (a : Aig) (st inp : List Bool) (hb : Bd a) (h : shapeOk a st inp) : PCall Try.prog 34 [aigV a, slB st, slB inp] (stepOk a st inp).v := by
  have := pc_34 a st inp hb
  rwa [stepS_is h] at this
theorem pc_34_bad (a : Aig) (st inp : List Bool) (hb : Bd a) (h : ¬ shapeOk a st inp) : PCall Try.prog 34 [aigV a, slB st, slB inp] (StepR.v ⟨[], [], [], [], 7⟩) := by
  have := pc_34 a st inp hb
  rwa [stepS_not h] at this

theorem pc_7 (a : Aig) (st inp : List Bool) (hf : Fit a) : PCall Try.prog 7 [aigV a, slB st, slB inp] (.bool true) := by
  refine pc_of tab_ok (f := 7) (fn := Try.f7) (N := 149) (rs := [.tmp 6]) (by kernel_rfl) rfl (by kernel_rfl) rfl rfl [(0, .v (aigV a)), (1, .v (slB st)), (2, .v (slB inp))] ⟨rfl, rfl, rfl, trivial⟩ rfl rfl ?_
  intro B
  refine wp_seq ?_
  refine wp_reg (by kernel_rfl) ?_
  refine ar_box 3 [] rfl rfl rfl ⟨rfl, trivial⟩ rfl rfl rfl ?_
  refine ar_assign rfl rfl rfl rfl ?_
  refine ar_nil ?_
  refine then_n ?_
  refine wp_seq ?_
  refine wp_reg (by kernel_rfl) ?_
  refine ar_call [] (pc_29) rfl rfl rfl rfl rfl rfl trivial (.inl rfl) rfl rfl rfl ?_
  refine ar_assign rfl rfl rfl rfl ?_
  refine ar_nil ?_
  refine then_n ?_
  refine wp_seq ?_
  refine wp_seq ?_
  refine wp_reg (by kernel_rfl) ?_
  refine ar_lda tab_ok rfl rfl rfl tb27 rfl rfl rfl rfl rfl rfl ?_
  refine ar_callE [] (pce_30 a hf) rfl rfl rfl rfl rfl rfl trivial (.inl rfl) rfl rfl rfl ?_
  rintro _ ⟨b19, rfl, hb19⟩
  refine ar_split (fun h19 => ?_) (fun h19 => ?_)
  · refine ar_not rfl rfl rfl rfl rfl ?_
    refine ar_move rfl rfl rfl rfl ?_
    refine ar_move rfl rfl rfl rfl ?_
    refine ar_len tab_ok rfl rfl tb28 rfl len_map rfl rfl ?_
    refine ar_gtr_s rfl rfl rfl rfl rfl (fun h24 => ?_) (fun h24 => ?_)
    · refine ar_pickF rfl rfl rfl rfl rfl ?_
      refine ar_move rfl rfl rfl rfl ?_
      refine ar_skip rfl rfl ?_
      refine ar_skip rfl rfl ?_
      refine ar_skip rfl rfl ?_
      refine ar_pickT rfl rfl rfl rfl rfl ?_
      refine ar_nil ?_
      refine then_n ?_
      refine wp_condT rfl ?_
      refine wp_seq ?_
      refine wp_reg (by kernel_rfl) ?_
      refine ar_move rfl rfl rfl rfl ?_
      refine ar_assign rfl rfl rfl rfl ?_
      refine ar_nil ?_
      refine then_n ?_
      refine wp_ret ?_
      refine then_r (ret_post rfl rfl ?_)
      rfl
    · refine ar_pickF rfl rfl rfl rfl rfl ?_
      refine ar_move rfl rfl rfl rfl ?_
      refine ar_move rfl rfl rfl rfl ?_
      refine ar_len tab_ok rfl rfl tb28 rfl len_map rfl rfl ?_
      refine ar_gtr_s rfl rfl rfl rfl rfl (fun h29 => ?_) (fun h29 => ?_)
      · refine ar_pickF rfl rfl rfl rfl rfl ?_
        refine ar_nil ?_
        refine then_n ?_
        refine wp_condT rfl ?_
        refine wp_seq ?_
        refine wp_reg (by kernel_rfl) ?_
        refine ar_move rfl rfl rfl rfl ?_
        refine ar_assign rfl rfl rfl rfl ?_
        refine ar_nil ?_
        refine then_n ?_
        refine wp_ret ?_
        refine then_r (ret_post rfl rfl ?_)
        rfl
      · refine ar_pickF rfl rfl rfl rfl rfl ?_
        refine ar_nil ?_
        refine then_n ?_
        refine wp_condF rfl ?_
        refine wp_skip ?_
        refine then_n ?_
        refine wp_seq ?_
        by_cases hs : shapeOk a st inp
        · have hg := (hb19 h19)
          have hbd := hg.bd
          have hq1 := hbd.o1; have hq2 := hbd.b1; have hq3 := hbd.c1; have hq4 := hbd.l1
          refine wp_reg (by kernel_rfl) ?_
          refine ar_lda tab_ok rfl rfl rfl tb27 rfl rfl rfl rfl rfl rfl ?_
          refine ar_move rfl rfl rfl rfl ?_
          refine ar_move rfl rfl rfl rfl ?_
          refine ar_call [] (pc_32_ok a st inp hbd hs) rfl rfl rfl rfl rfl rfl trivial (.inl rfl) rfl rfl rfl ?_
          refine ar_move rfl rfl rfl rfl ?_
          refine ar_ext rfl rfl rfl rfl rfl ?_
          refine ar_ext rfl rfl rfl rfl rfl ?_
          refine ar_assign rfl rfl rfl rfl ?_
          refine ar_assign rfl rfl rfl rfl ?_
          refine ar_nil ?_
          refine then_n ?_
          refine wp_seq ?_
          refine wp_reg (by kernel_rfl) ?_
          refine ar_lda tab_ok rfl rfl rfl tb27 rfl rfl rfl rfl rfl rfl ?_
          refine ar_move rfl rfl rfl rfl ?_
          refine ar_move rfl rfl rfl rfl ?_
          refine ar_call [] (pc_34_ok a st inp hbd hs) rfl rfl rfl rfl rfl rfl trivial (.inl rfl) rfl rfl rfl ?_
          refine ar_move rfl rfl rfl rfl ?_
          refine ar_ext rfl rfl rfl rfl rfl ?_
          refine ar_ext rfl rfl rfl rfl rfl ?_
          refine ar_ext rfl rfl rfl rfl rfl ?_
          refine ar_alloc (id := 11) tab_ok rfl rfl tb40 rfl rfl rfl rfl ?_
          refine ar_assign rfl rfl rfl rfl ?_
          refine ar_st [] tab_ok rfl tb40 rfl rfl rfl trivial rfl rfl rfl rfl rfl rfl rfl rfl ?_
          refine ar_assign rfl rfl rfl rfl ?_
          refine ar_nil ?_
          refine then_n ?_
          refine wp_seq ?_
          refine wp_seq ?_
          refine wp_reg (by kernel_rfl) ?_
          refine ar_move rfl rfl rfl rfl ?_
          refine ar_neq rfl rfl rfl (decide_eq_false (by exact fun h => h rfl)) rfl rfl ?_
          refine ar_move rfl rfl rfl rfl ?_
          refine ar_move rfl rfl rfl rfl ?_
          refine ar_neq rfl rfl rfl (decide_eq_false (by exact fun h => h rfl)) rfl rfl ?_
          refine ar_pickF rfl rfl rfl rfl rfl ?_
          refine ar_nil ?_
          refine then_n ?_
          refine wp_condF rfl ?_
          refine wp_skip ?_
          refine then_n ?_
          refine wp_seq ?_
          refine wp_seq ?_
          refine wp_reg (by kernel_rfl) ?_
          refine ar_move rfl rfl rfl rfl ?_
          refine ar_len tab_ok rfl rfl tb28 rfl len_map rfl rfl ?_
          refine ar_fa tab_ok rfl rfl rfl tb27 rfl rfl rfl rfl rfl ?_
          refine ar_ld tab_ok rfl rfl rfl tb22 rfl rfl rfl rfl rfl ?_
          refine ar_len tab_ok rfl rfl tb22 rfl len_map rfl rfl ?_
          refine ar_neq rfl rfl rfl (decide_eq_false (by simp)) rfl rfl ?_
          refine ar_move rfl rfl rfl rfl ?_
          refine ar_ia_arr tab_ok rfl rfl rfl rfl tb40 rfl tb28 (by omega) (by omega) rfl rfl rfl rfl ?_
          refine ar_ld tab_ok rfl rfl rfl tb28 rfl rfl rfl rfl rfl ?_
          refine ar_len tab_ok rfl rfl tb28 rfl len_map rfl rfl ?_
          refine ar_fa tab_ok rfl rfl rfl tb27 rfl rfl rfl rfl rfl ?_
          refine ar_ld tab_ok rfl rfl rfl tb24 rfl rfl rfl rfl rfl ?_
          refine ar_len tab_ok rfl rfl tb24 rfl len_map rfl rfl ?_
          refine ar_neq rfl rfl rfl (decide_eq_false (by simp)) rfl rfl ?_
          refine ar_pickF rfl rfl rfl rfl rfl ?_
          refine ar_move rfl rfl rfl rfl ?_
          refine ar_ia_arr tab_ok rfl rfl rfl rfl tb40 rfl tb28 (by omega) (by omega) rfl rfl rfl rfl ?_
          refine ar_ld tab_ok rfl rfl rfl tb28 rfl rfl rfl rfl rfl ?_
          refine ar_len tab_ok rfl rfl tb28 rfl len_map rfl rfl ?_
          refine ar_fa tab_ok rfl rfl rfl tb27 rfl rfl rfl rfl rfl ?_
          refine ar_ld tab_ok rfl rfl rfl tb24 rfl rfl rfl rfl rfl ?_
          refine ar_len tab_ok rfl rfl tb24 rfl len_map rfl rfl ?_
          refine ar_neq rfl rfl rfl (decide_eq_false (by simp)) rfl rfl ?_
          refine ar_pickF rfl rfl rfl rfl rfl ?_
          refine ar_move rfl rfl rfl rfl ?_
          refine ar_ia_arr tab_ok rfl rfl rfl rfl tb40 rfl tb28 (by omega) (by omega) rfl rfl rfl rfl ?_
          refine ar_ld tab_ok rfl rfl rfl tb28 rfl rfl rfl rfl rfl ?_
          refine ar_len tab_ok rfl rfl tb28 rfl len_map rfl rfl ?_
          refine ar_fa tab_ok rfl rfl rfl tb27 rfl rfl rfl rfl rfl ?_
          refine ar_ld tab_ok rfl rfl rfl tb24 rfl rfl rfl rfl rfl ?_
          refine ar_len tab_ok rfl rfl tb24 rfl len_map rfl rfl ?_
          refine ar_neq rfl rfl rfl (decide_eq_false (by simp)) rfl rfl ?_
          refine ar_pickF rfl rfl rfl rfl rfl ?_
          refine ar_nil ?_
          refine then_n ?_
          refine wp_condF rfl ?_
          refine wp_skip ?_
          refine then_n ?_
          refine wp_seq ?_
          refine wp_seq ?_
          refine wp_reg (by kernel_rfl) ?_
          refine ar_assign rfl rfl rfl rfl ?_
          refine ar_nil ?_
          refine then_n ?_
          refine wp_block ?_
          refine wp_loop (α := Nat) (fun j => mk [(3, .ptr 3 0), (7, .v (.bool true)), (8, .v (slB (valsV a st inp))), (10, .v (slB (a.l.map fun l => litv (valsV a st inp) l.next))), (11, .ptr 11 0), (13, .v (.int .i64 (j : Nat)))] [(3, .box ((encA a).map .v)), (11, .box [.v (slB (a.outs.map (litv (valsV a st inp)))), .v (slB (a.bad.map (litv (valsV a st inp)))), .v (slB (a.con.map (litv (valsV a st inp))))])] 0) (fun j => j ≤ a.l.length) (fun j => a.l.length - j) 0 (Nat.zero_le _) (le_to ⟨rfl, rfl, rfl, rfl, rfl, rfl, trivial⟩ ⟨rfl, rfl, trivial⟩ rfl rfl rfl rfl) ?_
          rintro j hinv
          refine wp_seq ?_
          refine wp_seq ?_
          refine wp_reg (by kernel_rfl) ?_
          refine ar_move rfl rfl rfl rfl ?_
          refine ar_move rfl rfl rfl rfl ?_
          refine ar_len tab_ok rfl rfl tb28 rfl len_map rfl rfl ?_
          refine ar_lss_s rfl rfl rfl rfl rfl (fun h95 => ?_) (fun h95 => ?_)
          · refine ar_nil ?_
            refine then_n ?_
            refine wp_condT rfl ?_
            refine wp_skip ?_
            refine then_n ?_
            refine wp_seq ?_
            refine wp_block ?_
            refine wp_seq ?_
            refine wp_draw (L := [([], []), ([], []), ([], []), ([], []), ([], []), ([3], []), ([3], []), ([], []), ([], []), ([], []), ([], []), ([], []), ([], [])]) (by kernel_rfl) mixed (by kernel_rfl) ?_
            refine ar_move rfl rfl rfl rfl ?_
            refine ar_move rfl rfl rfl rfl ?_
            refine ar_ia tab_ok rfl rfl rfl tb28 rfl tb4 (by omega) (map_get (n := j) (by simp at h95 ⊢; omega)) rfl rfl rfl ?_
            refine ar_ld_ref tab_ok rfl rfl tb4 rfl rfl rfl rfl ?_
            refine ar_move rfl rfl rfl rfl ?_
            refine ar_fa tab_ok rfl rfl rfl tb27 rfl rfl rfl rfl rfl ?_
            refine ar_ld tab_ok rfl rfl rfl tb22 rfl rfl rfl rfl rfl ?_
            refine ar_move rfl rfl rfl rfl ?_
            refine ar_ia tab_ok rfl rfl rfl tb22 rfl tb63 (by omega) (map_get (n := j) (by simp at h95 ⊢; omega)) rfl rfl rfl ?_
            refine ar_fa_ref tab_ok rfl rfl tb63 rfl rfl rfl rfl ?_
            refine ar_ld_ref tab_ok rfl rfl tb3 rfl rfl rfl rfl ?_
            refine ar_call [] (pc_42 _ _) rfl rfl rfl rfl rfl rfl trivial (.inl rfl) rfl rfl rfl ?_
            refine ar_bneq (z := false) tab_ok rfl rfl rfl tb4 rfl (by rw [getD_map (by simp at h95; omega)] <;> simp) rfl rfl ?_
            refine ar_nil ?_
            refine then_n ?_
            refine wp_condF rfl ?_
            refine wp_skip ?_
            refine inblk_n ?_
            refine then_n ?_
            refine wp_reg (by kernel_rfl) ?_
            refine ar_move rfl rfl rfl rfl ?_
            refine ar_addi rfl rfl rfl rfl (by omega) (by omega) rfl rfl ?_
            refine ar_assign rfl rfl rfl rfl ?_
            refine ar_nil ?_
            exact loop_n (j + 1) (by simp at h95; omega) (by simp at h95; omega) (le_to ⟨rfl, rfl, rfl, rfl, rfl, rfl, trivial⟩ ⟨rfl, rfl, trivial⟩ rfl rfl rfl rfl)
          · refine ar_nil ?_
            refine then_n ?_
            refine wp_condF rfl ?_
            refine wp_exit ?_
            refine then_x (loop_x (inblk_e ?_))
            refine then_n ?_
            refine wp_seq ?_
            refine wp_draw (L := [([111], [111]), ([3], []), ([3], []), ([111, 114], [111, 114]), ([3], []), ([3], []), ([114, 117], [114, 117]), ([3], []), ([3], []), ([117, 120], [117, 120]), ([], [])]) (by kernel_rfl) mixed (by kernel_rfl) ?_
            refine ar_bs_own (es := ([] : List Int).map encI) 111 [] tab_ok rfl tb24 rfl tb3 rfl rfl ⟨rfl, trivial⟩ rfl rfl rfl rfl rfl rfl rfl rfl rfl ?_
            refine ar_fa tab_ok rfl rfl rfl tb27 rfl rfl rfl rfl rfl ?_
            refine ar_ld tab_ok rfl rfl rfl tb24 rfl rfl rfl rfl rfl ?_
            refine ar_app 114 [] tab_ok rfl tb24 rfl tb24 rfl tb3 rfl rfl rfl rfl ⟨rfl, rfl, trivial⟩ rfl (el_3 _) app_map (by constructor <;> simp <;> omega) rfl rfl rfl ?_
            refine ar_fa tab_ok rfl rfl rfl tb27 rfl rfl rfl rfl rfl ?_
            refine ar_ld tab_ok rfl rfl rfl tb24 rfl rfl rfl rfl rfl ?_
            refine ar_app 117 [] tab_ok rfl tb24 rfl tb24 rfl tb3 rfl rfl rfl rfl ⟨rfl, rfl, trivial⟩ rfl (el_3 _) app_map (by constructor <;> simp <;> omega) rfl rfl rfl ?_
            refine ar_fa tab_ok rfl rfl rfl tb27 rfl rfl rfl rfl rfl ?_
            refine ar_ld tab_ok rfl rfl rfl tb24 rfl rfl rfl rfl rfl ?_
            refine ar_app 120 [] tab_ok rfl tb24 rfl tb24 rfl tb3 rfl rfl rfl rfl ⟨rfl, rfl, trivial⟩ rfl (el_3 _) app_map (by constructor <;> simp <;> omega) rfl rfl rfl ?_
            refine ar_assign rfl rfl rfl rfl ?_
            refine ar_nil ?_
            refine then_n ?_
            refine wp_seq ?_
            refine wp_draw (L := [([121], [121]), ([11], []), ([11], []), ([121, 124], [121, 124]), ([11], []), ([11], []), ([124, 127], [124, 127]), ([11], []), ([11], []), ([127, 130], [127, 130]), ([], [])]) (by kernel_rfl) mixed (by kernel_rfl) ?_
            refine ar_bs_own (es := ([] : List Bool).map encB) 121 [] tab_ok rfl tb28 rfl tb4 rfl rfl ⟨rfl, trivial⟩ rfl rfl rfl rfl rfl rfl rfl rfl rfl ?_
            refine ar_ia_arr tab_ok rfl rfl rfl rfl tb40 rfl tb28 (by omega) (by omega) rfl rfl rfl rfl ?_
            refine ar_ld tab_ok rfl rfl rfl tb28 rfl rfl rfl rfl rfl ?_
            refine ar_app 124 [] tab_ok rfl tb28 rfl tb28 rfl tb4 rfl rfl rfl rfl ⟨rfl, rfl, trivial⟩ rfl (el_4 _) app_map (by constructor <;> simp <;> omega) rfl rfl rfl ?_
            refine ar_ia_arr tab_ok rfl rfl rfl rfl tb40 rfl tb28 (by omega) (by omega) rfl rfl rfl rfl ?_
            refine ar_ld tab_ok rfl rfl rfl tb28 rfl rfl rfl rfl rfl ?_
            refine ar_app 127 [] tab_ok rfl tb28 rfl tb28 rfl tb4 rfl rfl rfl rfl ⟨rfl, rfl, trivial⟩ rfl (el_4 _) app_map (by constructor <;> simp <;> omega) rfl rfl rfl ?_
            refine ar_ia_arr tab_ok rfl rfl rfl rfl tb40 rfl tb28 (by omega) (by omega) rfl rfl rfl rfl ?_
            refine ar_ld tab_ok rfl rfl rfl tb28 rfl rfl rfl rfl rfl ?_
            refine ar_app 130 [] tab_ok rfl tb28 rfl tb28 rfl tb4 rfl rfl rfl rfl ⟨rfl, rfl, trivial⟩ rfl (el_4 _) app_map (by constructor <;> simp <;> omega) rfl rfl rfl ?_
            refine ar_assign rfl rfl rfl rfl ?_
            refine ar_nil ?_
            refine then_n ?_
            refine wp_seq ?_
            refine wp_seq ?_
            refine wp_reg (by kernel_rfl) ?_
            refine ar_assign rfl rfl rfl rfl ?_
            refine ar_nil ?_
            refine then_n ?_
            refine wp_block ?_
            refine wp_loop (α := Nat) (fun j => mk [(7, .v (.bool true)), (8, .v (slB (valsV a st inp))), (14, .own 120), (15, .own 130), (16, .v (.int .i64 (j : Nat)))] [(120, .row 3 1 ((a.outs ++ a.bad ++ a.con).map encI)), (130, .row 4 1 (((a.outs ++ a.bad ++ a.con).map (litv (valsV a st inp))).map encB))] 0) (fun j => j ≤ (a.outs ++ a.bad ++ a.con).length) (fun j => (a.outs ++ a.bad ++ a.con).length - j) 0 (Nat.zero_le _) (le_to ⟨rfl, rfl, rfl, rfl, rfl, trivial⟩ ⟨rfl, (row_eq rfl (by simp)), trivial⟩ rfl rfl rfl rfl) ?_
            rintro j hinv
            refine wp_seq ?_
            refine wp_seq ?_
            refine wp_reg (by kernel_rfl) ?_
            refine ar_move rfl rfl rfl rfl ?_
            refine ar_move rfl rfl rfl rfl ?_
            refine ar_len_own tab_ok rfl rfl rfl tb24 rfl len_map rfl rfl rfl ?_
            refine ar_lss_s rfl rfl rfl rfl rfl (fun h134 => ?_) (fun h134 => ?_)
            · refine ar_nil ?_
              refine then_n ?_
              refine wp_condT rfl ?_
              refine wp_skip ?_
              refine then_n ?_
              refine wp_seq ?_
              refine wp_block ?_
              refine wp_seq ?_
              refine wp_draw (L := [([], []), ([], []), ([130], []), ([130], []), ([], []), ([], []), ([], []), ([120], []), ([120], []), ([], []), ([], [])]) (by kernel_rfl) mixed (by kernel_rfl) ?_
              refine ar_move rfl rfl rfl rfl ?_
              refine ar_move rfl rfl rfl rfl ?_
              refine ar_ia_own tab_ok rfl rfl rfl rfl tb28 rfl tb4 rfl (by omega) (by simp; simp at h134; omega) rfl rfl rfl rfl ?_
              refine ar_ld_eptr tab_ok rfl rfl rfl tb4 rfl (map_get (n := j) (by simp; simp at h134; omega)) rfl rfl rfl ?_
              refine ar_move rfl rfl rfl rfl ?_
              refine ar_move rfl rfl rfl rfl ?_
              refine ar_move rfl rfl rfl rfl ?_
              refine ar_ia_own tab_ok rfl rfl rfl rfl tb24 rfl tb3 rfl (by omega) (by simp; simp at h134; omega) rfl rfl rfl rfl ?_
              refine ar_ld_eptr tab_ok rfl rfl rfl tb3 rfl (map_get (n := j) (by simp; simp at h134; omega)) rfl rfl rfl ?_
              refine ar_call [] (pc_42 _ _) rfl rfl rfl rfl rfl rfl trivial (.inl rfl) rfl rfl rfl ?_
              refine ar_bneq (z := false) tab_ok rfl rfl rfl tb4 rfl (by rw [getD_map (by simp; simp at h134; omega)] <;> simp) rfl rfl ?_
              refine ar_nil ?_
              refine then_n ?_
              refine wp_condF rfl ?_
              refine wp_skip ?_
              refine inblk_n ?_
              refine then_n ?_
              refine wp_reg (by kernel_rfl) ?_
              refine ar_move rfl rfl rfl rfl ?_
              refine ar_addi rfl rfl rfl rfl (by omega) (by simp at h134; omega) rfl rfl ?_
              refine ar_assign rfl rfl rfl rfl ?_
              refine ar_nil ?_
              exact loop_n (j + 1) (by omega) (by omega) (le_to ⟨rfl, rfl, rfl, rfl, rfl, trivial⟩ ⟨rfl, rfl, trivial⟩ rfl rfl rfl rfl)
            · refine ar_nil ?_
              refine then_n ?_
              refine wp_condF rfl ?_
              refine wp_exit ?_
              refine then_x (loop_x (inblk_e ?_))
              refine then_n ?_
              refine wp_seq ?_
              refine wp_reg (by kernel_rfl) ?_
              refine ar_move rfl rfl rfl rfl ?_
              refine ar_assign rfl rfl rfl rfl ?_
              refine ar_nil ?_
              refine then_n ?_
              refine wp_ret ?_
              refine ret_post rfl rfl ?_
              rfl
        · have hbd := (hb19 h19).bd
          refine wp_reg (by kernel_rfl) ?_
          refine ar_lda tab_ok rfl rfl rfl tb27 rfl rfl rfl rfl rfl rfl ?_
          refine ar_move rfl rfl rfl rfl ?_
          refine ar_move rfl rfl rfl rfl ?_
          refine ar_call [] (pc_32_bad a st inp hbd hs) rfl rfl rfl rfl rfl rfl trivial (.inl rfl) rfl rfl rfl ?_
          refine ar_move rfl rfl rfl rfl ?_
          refine ar_ext rfl rfl rfl rfl rfl ?_
          refine ar_ext rfl rfl rfl rfl rfl ?_
          refine ar_assign rfl rfl rfl rfl ?_
          refine ar_assign rfl rfl rfl rfl ?_
          refine ar_nil ?_
          refine then_n ?_
          refine wp_seq ?_
          refine wp_reg (by kernel_rfl) ?_
          refine ar_lda tab_ok rfl rfl rfl tb27 rfl rfl rfl rfl rfl rfl ?_
          refine ar_move rfl rfl rfl rfl ?_
          refine ar_move rfl rfl rfl rfl ?_
          refine ar_call [] (pc_34_bad a st inp hbd hs) rfl rfl rfl rfl rfl rfl trivial (.inl rfl) rfl rfl rfl ?_
          refine ar_move rfl rfl rfl rfl ?_
          refine ar_ext rfl rfl rfl rfl rfl ?_
          refine ar_ext rfl rfl rfl rfl rfl ?_
          refine ar_ext rfl rfl rfl rfl rfl ?_
          refine ar_alloc (id := 11) tab_ok rfl rfl tb40 rfl rfl rfl rfl ?_
          refine ar_assign rfl rfl rfl rfl ?_
          refine ar_st [] tab_ok rfl tb40 rfl rfl rfl trivial rfl rfl rfl rfl rfl rfl rfl rfl ?_
          refine ar_assign rfl rfl rfl rfl ?_
          refine ar_nil ?_
          refine then_n ?_
          refine wp_seq ?_
          refine wp_seq ?_
          refine wp_reg (by kernel_rfl) ?_
          refine ar_move rfl rfl rfl rfl ?_
          refine ar_neq rfl rfl rfl (decide_eq_true (by decide)) rfl rfl ?_
          refine ar_move rfl rfl rfl rfl ?_
          refine ar_skip rfl rfl ?_
          refine ar_skip rfl rfl ?_
          refine ar_pickT rfl rfl rfl rfl rfl ?_
          refine ar_nil ?_
          refine then_n ?_
          refine wp_condT rfl ?_
          refine wp_seq ?_
          refine wp_reg (by kernel_rfl) ?_
          refine ar_move rfl rfl rfl rfl ?_
          refine ar_move rfl rfl rfl rfl ?_
          refine ar_move rfl rfl rfl rfl ?_
          refine ar_move rfl rfl rfl rfl ?_
          refine ar_eql rfl rfl rfl (decide_eq_true (by rfl)) rfl rfl ?_
          refine ar_pickT rfl rfl rfl rfl rfl ?_
          refine ar_assign rfl rfl rfl rfl ?_
          refine ar_nil ?_
          refine then_n ?_
          refine wp_ret ?_
          refine then_r (ret_post rfl rfl ?_)
          rfl
  · refine ar_not rfl rfl rfl rfl rfl ?_
    refine ar_move rfl rfl rfl rfl ?_
    refine ar_skip rfl rfl ?_
    refine ar_skip rfl rfl ?_
    refine ar_skip rfl rfl ?_
    refine ar_pickT rfl rfl rfl rfl rfl ?_
    refine ar_move rfl rfl rfl rfl ?_
    refine ar_skip rfl rfl ?_
    refine ar_skip rfl rfl ?_
    refine ar_skip rfl rfl ?_
    refine ar_pickT rfl rfl rfl rfl rfl ?_
    refine ar_nil ?_
    refine then_n ?_
    refine wp_condT rfl ?_
    refine wp_seq ?_
    refine wp_reg (by kernel_rfl) ?_
    refine ar_move rfl rfl rfl rfl ?_
    refine ar_assign rfl rfl rfl rfl ?_
    refine ar_nil ?_
    refine then_n ?_
    refine wp_ret ?_
    refine then_r (ret_post rfl rfl ?_)
    rfl

end Go.Vd
