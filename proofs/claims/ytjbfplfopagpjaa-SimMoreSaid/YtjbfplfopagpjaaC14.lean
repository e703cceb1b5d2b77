/- SimMore: a gate more at the end changes no value of those ahead, nor a step; it is both its inputs: as the program tells it. -/
import Derived.Test.YtjbfplfopagpjaaC13
namespace Go.Vd
open Go.Proofs

abbrev moreA (a : Aig) (g : Gate) : Aig := ⟨a.i, a.l, a.g ++ [g], a.outs, a.bad, a.con, a.names⟩
theorem valsV_more (a : Aig) (g : Gate) (st inp : List Bool) : valsV (moreA a g) st inp = valsV a st inp ++ [litv (valsV a st inp) g.a && litv (valsV a st inp) g.b] := by
  show valsOf _ (a.g ++ [g]) = _
  rw [valsOf_append]; rfl
theorem valsV_len (a : Aig) (st inp : List Bool) : (valsV a st inp).length = 1 + inp.length + st.length + a.g.length := by
  show (valsOf (false :: (inp ++ st)) a.g).length = _
  rw [valsOf_len]; simp; omega
theorem step_more {a : Aig} (hg : Good a) (g : Gate) {st inp : List Bool} (hs : shapeOk a st inp) :
    (stepOk a st inp).n = (stepOk (moreA a g) st inp).n ∧ (stepOk a st inp).b = (stepOk (moreA a g) st inp).b ∧ (stepOk a st inp).c = (stepOk (moreA a g) st inp).c := by
  have hl : ∀ l : Int, l ≤ 2 * varsS a + 1 → litv (valsV a st inp) l = litv (valsV (moreA a g) st inp) l := fun l h => by
    rw [valsV_more]
    refine (litv_pre ?_).symm
    rw [valsV_len]
    have hv : varsS a = a.i + a.l.length + a.g.length := rfl
    have h1 := hs.1; have h2 := hs.2
    omega
  refine ⟨List.map_congr_left fun l hm => ?_, List.map_congr_left fun l hm => hl l (hg.lit (.inr (.inl hm))).2, List.map_congr_left fun l hm => hl l (hg.lit (.inr (.inr hm))).2⟩
  obtain ⟨j, hj, rfl⟩ := List.getElem_of_mem hm
  have := hg.right.l j hj
  rw [List.getD_eq_getElem?_getD, List.getElem?_eq_getElem hj] at this
  exact hl _ this.2.1
theorem fit_more {a : Aig} (hf : Fit a) (g : Gate) (hw : a.g.length * 16 ≤ reachBytes) : Fit (moreA a g) := ⟨hf.l, by
  simp only [List.length_append, List.length_cons, List.length_nil]
  simp only [reachBytes] at hw
  omega, hf.o, hf.b, hf.c, hf.n, hf.s⟩
abbrev in8 (a : Aig) (g : Gate) (st inp : List Bool) : List V := [.int .i64 a.i, slL a.l, slG a.g, slI a.outs, slI a.bad, slI a.con, slN a.names, .int .i64 g.a, .int .i64 g.b, slB st, slB inp]


theorem more_s {a : Aig} {st inp : List Bool} (h : ¬ (valuesS a st inp).2 ≠ 0) : shapeOk a st inp := by
  by_cases hs : shapeOk a st inp
  · exact hs
  · rw [valuesS_bad hs] at h; exact absurd (by decide) h
theorem more_f {a : Aig} {g : Gate} {st inp : List Bool} (h : ¬ (valuesS a st inp).2 ≠ 0) : ¬ (valuesS (moreA a g) st inp).2 ≠ 0 := by
  have hs := more_s h
  rw [valuesS_ok (a := moreA a g) hs.1 hs.2]; exact fun h => h rfl
theorem more_e {a : Aig} {g : Gate} {st inp : List Bool} (h : (valuesS a st inp).2 ≠ 0) : (valuesS a st inp).2 = (valuesS (moreA a g) st inp).2 := by
  have hs : ¬ shapeOk a st inp := fun hs => h (by rw [valuesS_ok hs.1 hs.2])
  rw [valuesS_bad hs, valuesS_bad (a := moreA a g) hs]

theorem pc_8 (a : Aig) (g : Gate) (st inp : List Bool) (hf : Fit a) (hw : a.g.length * 16 ≤ reachBytes) : PCall Try.prog 8 [.agg (in8 a g st inp)] (.bool true) := by
  refine pc_of tab_ok (f := 8) (fn := Try.f8) (N := 151) (rs := [.tmp 2]) (by kernel_rfl) rfl (by kernel_rfl) rfl rfl [(0, .v (.agg (in8 a g st inp)))] ⟨rfl, trivial⟩ rfl rfl ?_
  intro B
  have hw0 : a.g.length * 16 ≤ 140737488351232 := hw
  refine wp_seq ?_
  refine wp_reg (by kernel_rfl) ?_
  refine ar_box 1 [] rfl rfl rfl ⟨rfl, trivial⟩ rfl rfl rfl ?_
  refine ar_assign rfl rfl rfl rfl ?_
  refine ar_nil ?_
  refine then_n ?_
  refine wp_seq ?_
  refine wp_reg (by kernel_rfl) ?_
  refine ar_fa tab_ok rfl rfl rfl tb67 rfl rfl rfl rfl rfl ?_
  refine ar_lda (d := .v (aigV a)) tab_ok rfl rfl rfl tb27 rfl rfl rfl rfl rfl rfl ?_
  refine ar_alloc (id := 3) tab_ok rfl rfl tb27 rfl rfl rfl rfl ?_
  refine ar_st [] tab_ok rfl tb27 rfl rfl rfl trivial rfl rfl rfl rfl rfl rfl rfl rfl ?_
  refine ar_nil ?_
  refine then_n ?_
  refine wp_seq ?_
  refine wp_reg (by kernel_rfl) ?_
  refine ar_fa tab_ok rfl rfl rfl tb67 rfl rfl rfl rfl rfl ?_
  refine ar_lda tab_ok rfl rfl rfl tb58 rfl rfl rfl rfl rfl rfl ?_
  refine ar_alloc (id := 4) tab_ok rfl rfl tb58 rfl rfl rfl rfl ?_
  refine ar_st [] tab_ok rfl tb58 rfl rfl rfl trivial rfl rfl rfl rfl rfl rfl rfl rfl ?_
  refine ar_nil ?_
  refine then_n ?_
  refine wp_seq ?_
  refine wp_reg (by kernel_rfl) ?_
  refine ar_fa tab_ok rfl rfl rfl tb67 rfl rfl rfl rfl rfl ?_
  refine ar_ld tab_ok rfl rfl rfl tb28 rfl rfl rfl rfl rfl ?_
  refine ar_assign rfl rfl rfl rfl ?_
  refine ar_nil ?_
  refine then_n ?_
  refine wp_seq ?_
  refine wp_reg (by kernel_rfl) ?_
  refine ar_fa tab_ok rfl rfl rfl tb67 rfl rfl rfl rfl rfl ?_
  refine ar_ld tab_ok rfl rfl rfl tb28 rfl rfl rfl rfl rfl ?_
  refine ar_assign rfl rfl rfl rfl ?_
  refine ar_nil ?_
  refine then_n ?_
  refine wp_seq ?_
  refine wp_reg (by kernel_rfl) ?_
  refine ar_call [] (pc_29) rfl rfl rfl rfl rfl rfl trivial (.inl rfl) rfl rfl rfl ?_
  refine ar_assign rfl rfl rfl rfl ?_
  refine ar_nil ?_
  refine then_n ?_
  refine wp_seq ?_
  refine wp_reg (by kernel_rfl) ?_
  refine ar_lda tab_ok rfl rfl rfl tb27 rfl rfl rfl rfl rfl rfl ?_
  refine ar_alloc (id := 8) tab_ok rfl rfl tb27 rfl rfl rfl rfl ?_
  refine ar_st [] tab_ok rfl tb27 rfl rfl rfl trivial rfl rfl rfl rfl rfl rfl rfl rfl ?_
  refine ar_nil ?_
  refine then_n ?_
  refine wp_seq ?_
  refine wp_draw (L := [([30], [30]), ([3], []), ([3], []), ([30, 33], [30, 33]), ([4], []), ([], []), ([33, 36], [33, 36]), ([8], []), ([8, 36], [8])]) (by kernel_rfl) mixed (by kernel_rfl) ?_
  refine ar_bs_own (es := ([] : List Gate).map encG) 30 [] tab_ok rfl tb23 rfl tb58 rfl rfl ⟨rfl, trivial⟩ rfl rfl rfl rfl rfl rfl rfl rfl rfl ?_
  refine ar_fa tab_ok rfl rfl rfl tb27 rfl rfl rfl rfl rfl ?_
  refine ar_ld tab_ok rfl rfl rfl tb23 rfl rfl rfl rfl rfl ?_
  refine ar_app 33 [] tab_ok rfl tb23 rfl tb23 rfl tb58 rfl rfl rfl rfl ⟨rfl, rfl, trivial⟩ rfl (el_58 _) app_map (by constructor <;> simp <;> omega) rfl rfl rfl ?_
  refine ar_lda tab_ok rfl rfl rfl tb58 rfl rfl rfl rfl rfl rfl ?_
  refine ar_bs [] tab_ok rfl tb23 rfl tb58 rfl trivial rfl rfl rfl rfl rfl rfl rfl rfl ?_
  refine ar_app 36 [] tab_ok rfl tb23 rfl tb23 rfl tb58 rfl rfl rfl rfl ⟨rfl, rfl, trivial⟩ rfl (elOk.cons rfl rfl elOk.nil) app_one (by constructor <;> simp <;> omega) rfl rfl rfl ?_
  refine ar_fa tab_ok rfl rfl rfl tb27 rfl rfl rfl rfl rfl ?_
  refine ar_st [(36, _)] tab_ok rfl tb23 rfl rfl rfl ⟨rfl, trivial⟩ rfl rfl rfl rfl rfl rfl rfl rfl ?_
  refine ar_nil ?_
  refine then_n ?_
  refine wp_seq ?_
  refine wp_seq ?_
  refine wp_le (le_give_row (id := 36) rfl) ?_
  refine wp_to [(3, .ptr 3 0), (4, .ptr 4 0), (5, .v (slB st)), (6, .v (slB inp)), (7, .v (.bool true)), (8, .ptr 8 0)] [(3, .box ((encA a).map .v)), (4, .box ((encG g).map .v)), (8, .box ((encA (moreA a g)).map .v))] ⟨rfl, rfl, rfl, rfl, rfl, rfl, trivial⟩ ⟨rfl, rfl, rfl, trivial⟩ rfl rfl rfl rfl ?_
  refine wp_reg (by kernel_rfl) ?_
  refine ar_lda tab_ok rfl rfl rfl tb27 rfl rfl rfl rfl rfl rfl ?_
  refine ar_callE [] (pce_30 a hf) rfl rfl rfl rfl rfl rfl trivial (.inl rfl) rfl rfl rfl ?_
  rintro _ ⟨b39, rfl, hb39⟩
  refine ar_split (fun h39 => ?_) (fun h39 => ?_)
  · refine ar_not rfl rfl rfl rfl rfl ?_
    refine ar_move rfl rfl rfl rfl ?_
    refine ar_lda tab_ok rfl rfl rfl tb27 rfl rfl rfl rfl rfl rfl ?_
    refine ar_callE [] (pce_30 (moreA a g) (fit_more hf g hw)) rfl rfl rfl rfl rfl rfl trivial (.inl rfl) rfl rfl rfl ?_
    rintro _ ⟨b43, rfl, hb43⟩
    refine ar_split (fun h43 => ?_) (fun h43 => ?_)
    · refine ar_not rfl rfl rfl rfl rfl ?_
      refine ar_pickF rfl rfl rfl rfl rfl ?_
      refine ar_move rfl rfl rfl rfl ?_
      refine ar_move rfl rfl rfl rfl ?_
      refine ar_len tab_ok rfl rfl tb28 rfl len_map rfl rfl ?_
      refine ar_gtr_s rfl rfl rfl rfl rfl (fun h49 => ?_) (fun h49 => ?_)
      · refine ar_pickF rfl rfl rfl rfl rfl ?_
        refine ar_move rfl rfl rfl rfl ?_
        refine ar_skip rfl rfl ?_
        refine ar_skip rfl rfl ?_
        refine ar_skip rfl rfl ?_
        refine ar_pickT rfl rfl rfl rfl rfl ?_
        refine ar_nil ?_
        refine then_n ?_
        refine wp_condT rfl ?_
        refine wp_seq ?_
        refine wp_reg (by kernel_rfl) ?_
        refine ar_move rfl rfl rfl rfl ?_
        refine ar_assign rfl rfl rfl rfl ?_
        refine ar_nil ?_
        refine then_n ?_
        refine wp_ret ?_
        refine then_r (ret_post rfl rfl ?_)
        first | rfl | exact congrArg V.bool (decide_eq_true hst.2.2)
      · refine ar_pickF rfl rfl rfl rfl rfl ?_
        refine ar_move rfl rfl rfl rfl ?_
        refine ar_move rfl rfl rfl rfl ?_
        refine ar_len tab_ok rfl rfl tb28 rfl len_map rfl rfl ?_
        refine ar_gtr_s rfl rfl rfl rfl rfl (fun h54 => ?_) (fun h54 => ?_)
        · refine ar_pickF rfl rfl rfl rfl rfl ?_
          refine ar_nil ?_
          refine then_n ?_
          refine wp_condT rfl ?_
          refine wp_seq ?_
          refine wp_reg (by kernel_rfl) ?_
          refine ar_move rfl rfl rfl rfl ?_
          refine ar_assign rfl rfl rfl rfl ?_
          refine ar_nil ?_
          refine then_n ?_
          refine wp_ret ?_
          refine then_r (ret_post rfl rfl ?_)
          first | rfl | exact congrArg V.bool (decide_eq_true hst.2.2)
        · refine ar_pickF rfl rfl rfl rfl rfl ?_
          refine ar_nil ?_
          refine then_n ?_
          refine wp_condF rfl ?_
          refine wp_skip ?_
          refine then_n ?_
          refine wp_seq ?_
          have hg := hb39 h39
          have hgm := hb43 h43
          have hbd := hg.bd
          have hbm := hgm.bd
          have hq1 := hbd.i1; have hq2 := hbd.l1; have hq3 := hbd.g1
          refine wp_reg (by kernel_rfl) ?_
          refine ar_lda tab_ok rfl rfl rfl tb27 rfl rfl rfl rfl rfl rfl ?_
          refine ar_move rfl rfl rfl rfl ?_
          refine ar_move rfl rfl rfl rfl ?_
          refine ar_call [] (pc_32 a st inp hbd) rfl rfl rfl rfl rfl rfl trivial (.inl rfl) rfl rfl rfl ?_
          refine ar_move rfl rfl rfl rfl ?_
          refine ar_ext rfl rfl rfl rfl rfl ?_
          refine ar_ext rfl rfl rfl rfl rfl ?_
          refine ar_assign rfl rfl rfl rfl ?_
          refine ar_assign rfl rfl rfl rfl ?_
          refine ar_nil ?_
          refine then_n ?_
          refine wp_seq ?_
          refine wp_reg (by kernel_rfl) ?_
          refine ar_lda tab_ok rfl rfl rfl tb27 rfl rfl rfl rfl rfl rfl ?_
          refine ar_move rfl rfl rfl rfl ?_
          refine ar_move rfl rfl rfl rfl ?_
          refine ar_call [] (pc_32 (moreA a g) st inp hbm) rfl rfl rfl rfl rfl rfl trivial (.inl rfl) rfl rfl rfl ?_
          refine ar_move rfl rfl rfl rfl ?_
          refine ar_ext rfl rfl rfl rfl rfl ?_
          refine ar_ext rfl rfl rfl rfl rfl ?_
          refine ar_assign rfl rfl rfl rfl ?_
          refine ar_assign rfl rfl rfl rfl ?_
          refine ar_nil ?_
          refine then_n ?_
          refine wp_seq ?_
          refine wp_reg (by kernel_rfl) ?_
          refine ar_lda tab_ok rfl rfl rfl tb27 rfl rfl rfl rfl rfl rfl ?_
          refine ar_move rfl rfl rfl rfl ?_
          refine ar_move rfl rfl rfl rfl ?_
          refine ar_call [] (pc_34 a st inp hbd) rfl rfl rfl rfl rfl rfl trivial (.inl rfl) rfl rfl rfl ?_
          refine ar_move rfl rfl rfl rfl ?_
          refine ar_ext rfl rfl rfl rfl rfl ?_
          refine ar_ext rfl rfl rfl rfl rfl ?_
          refine ar_ext rfl rfl rfl rfl rfl ?_
          refine ar_alloc (id := 14) tab_ok rfl rfl tb40 rfl rfl rfl rfl ?_
          refine ar_assign rfl rfl rfl rfl ?_
          refine ar_st [] tab_ok rfl tb40 rfl rfl rfl trivial rfl rfl rfl rfl rfl rfl rfl rfl ?_
          refine ar_assign rfl rfl rfl rfl ?_
          refine ar_nil ?_
          refine then_n ?_
          refine wp_seq ?_
          refine wp_reg (by kernel_rfl) ?_
          refine ar_lda tab_ok rfl rfl rfl tb27 rfl rfl rfl rfl rfl rfl ?_
          refine ar_move rfl rfl rfl rfl ?_
          refine ar_move rfl rfl rfl rfl ?_
          refine ar_call [] (pc_34 (moreA a g) st inp hbm) rfl rfl rfl rfl rfl rfl trivial (.inl rfl) rfl rfl rfl ?_
          refine ar_move rfl rfl rfl rfl ?_
          refine ar_ext rfl rfl rfl rfl rfl ?_
          refine ar_ext rfl rfl rfl rfl rfl ?_
          refine ar_ext rfl rfl rfl rfl rfl ?_
          refine ar_alloc (id := 17) tab_ok rfl rfl tb40 rfl rfl rfl rfl ?_
          refine ar_assign rfl rfl rfl rfl ?_
          refine ar_st [] tab_ok rfl tb40 rfl rfl rfl trivial rfl rfl rfl rfl rfl rfl rfl rfl ?_
          refine ar_assign rfl rfl rfl rfl ?_
          refine ar_nil ?_
          refine then_n ?_
          refine wp_seq ?_
          refine wp_seq ?_
          refine wp_reg (by kernel_rfl) ?_
          refine ar_move rfl rfl rfl rfl ?_
          refine ar_neq_s rfl rfl rfl rfl rfl (fun h88 => ?_) (fun h88 => ?_)
          · refine ar_move rfl rfl rfl rfl ?_
            refine ar_skip rfl rfl ?_
            refine ar_skip rfl rfl ?_
            refine ar_pickT rfl rfl rfl rfl rfl ?_
            refine ar_nil ?_
            refine then_n ?_
            refine wp_condT rfl ?_
            refine wp_seq ?_
            refine wp_reg (by kernel_rfl) ?_
            refine ar_move rfl rfl rfl rfl ?_
            refine ar_move rfl rfl rfl rfl ?_
            refine ar_move rfl rfl rfl rfl ?_
            refine ar_move rfl rfl rfl rfl ?_
            refine ar_eql rfl rfl rfl (decide_eq_true (by exact more_e h88)) rfl rfl ?_
            refine ar_pickT rfl rfl rfl rfl rfl ?_
            refine ar_assign rfl rfl rfl rfl ?_
            refine ar_nil ?_
            refine then_n ?_
            refine wp_ret ?_
            refine then_r (ret_post rfl rfl ?_)
            first | rfl | exact congrArg V.bool (decide_eq_true hst.2.2)
          · refine ar_move rfl rfl rfl rfl ?_
            refine ar_move rfl rfl rfl rfl ?_
            refine ar_neq rfl rfl rfl (decide_eq_false (by exact more_f h88)) rfl rfl ?_
            refine ar_pickF rfl rfl rfl rfl rfl ?_
            refine ar_nil ?_
            refine then_n ?_
            refine wp_condF rfl ?_
            refine wp_skip ?_
            refine then_n ?_
            refine wp_seq ?_
            have hs : shapeOk a st inp := more_s h88
            have hs1 := hs.1; have hs2 := hs.2
            have hv1 : valuesS a st inp = (valsV a st inp, 0) := valuesS_ok hs.1 hs.2
            have hv2 : valuesS (moreA a g) st inp = (valsV (moreA a g) st inp, 0) := valuesS_ok hs.1 hs.2
            have hv3 := valsV_more a g st inp
            have hl1 := valsV_len a st inp
            have hst1 := stepS_is hs
            have hst2 : stepS (moreA a g) st inp = stepOk (moreA a g) st inp := stepS_is (a := moreA a g) hs
            rw [hv1, hv2, hst1, hst2]
            have hst := step_more hg g hs
            refine wp_reg (by kernel_rfl) ?_
            refine ar_move rfl rfl rfl rfl ?_
            refine ar_len tab_ok rfl rfl tb28 rfl (len_map (xs := valsV a st inp)) rfl rfl ?_
            refine ar_assign rfl rfl rfl rfl ?_
            refine ar_nil ?_
            refine then_n ?_
            refine wp_seq ?_
            refine wp_seq ?_
            refine wp_draw (L := [([], []), ([], []), ([], []), ([], []), ([], []), ([], []), ([], []), ([], []), ([], []), ([], []), ([], []), ([], []), ([], []), ([], []), ([], []), ([], []), ([], []), ([], []), ([], []), ([4], []), ([4], []), ([], []), ([], []), ([], []), ([4], []), ([4], []), ([], []), ([], []), ([], []), ([], [])]) (by kernel_rfl) mixed (by kernel_rfl) ?_
            refine ar_move rfl rfl rfl rfl ?_
            refine ar_len tab_ok rfl rfl tb28 rfl (len_map (xs := valsV (moreA a g) st inp)) rfl rfl ?_
            refine ar_move rfl rfl rfl rfl ?_
            refine ar_addi rfl rfl rfl rfl (by omega) (by omega) rfl rfl ?_
            refine ar_neq rfl rfl rfl (decide_eq_false (by rw [hv3]; simp)) rfl rfl ?_
            refine ar_move rfl rfl rfl rfl ?_
            refine ar_move rfl rfl rfl rfl ?_
            refine ar_move rfl rfl rfl rfl ?_
            refine ar_slice_hi (es' := (valsV a st inp).map encB) ((valsV a st inp).length) tab_ok rfl tb28 rfl tb4 rfl rfl rfl (by rw [hv3]; simp) (fun el h => by obtain ⟨_, _, rfl⟩ := List.mem_map.1 h; rfl) (by rw [hv3, List.map_append, List.take_left' (by simp)]) rfl rfl ?_
            refine ar_move rfl rfl rfl rfl ?_
            refine ar_call [] (pc_40 (valsV a st inp) (valsV a st inp) (by omega)) rfl rfl rfl rfl rfl rfl trivial (.inl rfl) rfl rfl rfl ?_
            refine ar_to (d' := .v (.bool true)) (congrArg (fun b => D.v (V.bool b)) (decide_eq_true rfl)) ?_
            refine ar_not rfl rfl rfl rfl rfl ?_
            refine ar_pickF rfl rfl rfl rfl rfl ?_
            refine ar_move rfl rfl rfl rfl ?_
            refine ar_move rfl rfl rfl rfl ?_
            refine ar_move rfl rfl rfl rfl ?_
            refine ar_ia (el := encB (litv (valsV a st inp) g.a && litv (valsV a st inp) g.b)) tab_ok rfl rfl rfl tb28 rfl tb4 (by omega) (by rw [hv3]; simp) rfl rfl rfl ?_
            refine ar_ld_ref tab_ok rfl rfl tb4 rfl rfl rfl rfl ?_
            refine ar_move rfl rfl rfl rfl ?_
            refine ar_fa tab_ok rfl rfl rfl tb58 rfl rfl rfl rfl rfl ?_
            refine ar_ld tab_ok rfl rfl rfl tb3 rfl rfl rfl rfl rfl ?_
            refine ar_call [] (pc_42 _ _) rfl rfl rfl rfl rfl rfl trivial (.inl rfl) rfl rfl rfl ?_
            refine ar_split (fun h122 => ?_) (fun h122 => ?_)
            · refine ar_move rfl rfl rfl rfl ?_
              refine ar_move rfl rfl rfl rfl ?_
              refine ar_fa tab_ok rfl rfl rfl tb58 rfl rfl rfl rfl rfl ?_
              refine ar_ld tab_ok rfl rfl rfl tb3 rfl rfl rfl rfl rfl ?_
              refine ar_call [] (pc_42 _ _) rfl rfl rfl rfl rfl rfl trivial (.inl rfl) rfl rfl rfl ?_
              refine ar_pickT rfl rfl rfl rfl rfl ?_
              refine ar_bneq tab_ok rfl rfl rfl tb4 rfl rfl rfl rfl ?_
              refine ar_to (d' := .v (.bool false)) (congrArg (fun b => D.v (V.bool b)) (by rw [h122]; simp)) ?_
              refine ar_pickF rfl rfl rfl rfl rfl ?_
              refine ar_nil ?_
              refine then_n ?_
              refine wp_condF rfl ?_
              refine wp_skip ?_
              refine then_n ?_
              refine wp_seq ?_
              refine wp_reg (by kernel_rfl) ?_
              refine ar_move rfl rfl rfl rfl ?_
              refine ar_move rfl rfl rfl rfl ?_
              refine ar_move rfl rfl rfl rfl ?_
              refine ar_move rfl rfl rfl rfl ?_
              refine ar_call [] (pc_40 _ _ (by simp; omega)) rfl rfl rfl rfl rfl rfl trivial (.inl rfl) rfl rfl rfl ?_
              refine ar_to (d' := .v (.bool true)) (congrArg (fun b => D.v (V.bool b)) (decide_eq_true hst.1)) ?_
              refine ar_pickT rfl rfl rfl rfl rfl ?_
              refine ar_move rfl rfl rfl rfl ?_
              refine ar_ia_arr tab_ok rfl rfl rfl rfl tb40 rfl tb28 (by omega) (by omega) rfl rfl rfl rfl ?_
              refine ar_ld tab_ok rfl rfl rfl tb28 rfl rfl rfl rfl rfl ?_
              refine ar_ia_arr tab_ok rfl rfl rfl rfl tb40 rfl tb28 (by omega) (by omega) rfl rfl rfl rfl ?_
              refine ar_ld tab_ok rfl rfl rfl tb28 rfl rfl rfl rfl rfl ?_
              refine ar_call [] (pc_40 _ _ (by have := hbd.b1; simp; omega)) rfl rfl rfl rfl rfl rfl trivial (.inl rfl) rfl rfl rfl ?_
              refine ar_to (d' := .v (.bool true)) (congrArg (fun b => D.v (V.bool b)) (decide_eq_true hst.2.1)) ?_
              refine ar_pickT rfl rfl rfl rfl rfl ?_
              refine ar_move rfl rfl rfl rfl ?_
              refine ar_ia_arr tab_ok rfl rfl rfl rfl tb40 rfl tb28 (by omega) (by omega) rfl rfl rfl rfl ?_
              refine ar_ld tab_ok rfl rfl rfl tb28 rfl rfl rfl rfl rfl ?_
              refine ar_ia_arr tab_ok rfl rfl rfl rfl tb40 rfl tb28 (by omega) (by omega) rfl rfl rfl rfl ?_
              refine ar_ld tab_ok rfl rfl rfl tb28 rfl rfl rfl rfl rfl ?_
              refine ar_call [] (pc_40 _ _ (by have := hbd.c1; simp; omega)) rfl rfl rfl rfl rfl rfl trivial (.inl rfl) rfl rfl rfl ?_
              refine ar_pickT rfl rfl rfl rfl rfl ?_
              refine ar_assign rfl rfl rfl rfl ?_
              refine ar_nil ?_
              refine then_n ?_
              refine wp_ret ?_
              refine ret_post rfl rfl ?_
              first | rfl | exact congrArg V.bool (decide_eq_true hst.2.2)
            · refine ar_move rfl rfl rfl rfl ?_
              refine ar_skip rfl rfl ?_
              refine ar_skip rfl rfl ?_
              refine ar_skip rfl rfl ?_
              refine ar_skip rfl rfl ?_
              refine ar_pickF rfl rfl rfl rfl rfl ?_
              refine ar_bneq tab_ok rfl rfl rfl tb4 rfl rfl rfl rfl ?_
              refine ar_to (d' := .v (.bool false)) (congrArg (fun b => D.v (V.bool b)) (by rw [h122]; simp)) ?_
              refine ar_pickF rfl rfl rfl rfl rfl ?_
              refine ar_nil ?_
              refine then_n ?_
              refine wp_condF rfl ?_
              refine wp_skip ?_
              refine then_n ?_
              refine wp_seq ?_
              refine wp_reg (by kernel_rfl) ?_
              refine ar_move rfl rfl rfl rfl ?_
              refine ar_move rfl rfl rfl rfl ?_
              refine ar_move rfl rfl rfl rfl ?_
              refine ar_move rfl rfl rfl rfl ?_
              refine ar_call [] (pc_40 _ _ (by simp; omega)) rfl rfl rfl rfl rfl rfl trivial (.inl rfl) rfl rfl rfl ?_
              refine ar_to (d' := .v (.bool true)) (congrArg (fun b => D.v (V.bool b)) (decide_eq_true hst.1)) ?_
              refine ar_pickT rfl rfl rfl rfl rfl ?_
              refine ar_move rfl rfl rfl rfl ?_
              refine ar_ia_arr tab_ok rfl rfl rfl rfl tb40 rfl tb28 (by omega) (by omega) rfl rfl rfl rfl ?_
              refine ar_ld tab_ok rfl rfl rfl tb28 rfl rfl rfl rfl rfl ?_
              refine ar_ia_arr tab_ok rfl rfl rfl rfl tb40 rfl tb28 (by omega) (by omega) rfl rfl rfl rfl ?_
              refine ar_ld tab_ok rfl rfl rfl tb28 rfl rfl rfl rfl rfl ?_
              refine ar_call [] (pc_40 _ _ (by have := hbd.b1; simp; omega)) rfl rfl rfl rfl rfl rfl trivial (.inl rfl) rfl rfl rfl ?_
              refine ar_to (d' := .v (.bool true)) (congrArg (fun b => D.v (V.bool b)) (decide_eq_true hst.2.1)) ?_
              refine ar_pickT rfl rfl rfl rfl rfl ?_
              refine ar_move rfl rfl rfl rfl ?_
              refine ar_ia_arr tab_ok rfl rfl rfl rfl tb40 rfl tb28 (by omega) (by omega) rfl rfl rfl rfl ?_
              refine ar_ld tab_ok rfl rfl rfl tb28 rfl rfl rfl rfl rfl ?_
              refine ar_ia_arr tab_ok rfl rfl rfl rfl tb40 rfl tb28 (by omega) (by omega) rfl rfl rfl rfl ?_
              refine ar_ld tab_ok rfl rfl rfl tb28 rfl rfl rfl rfl rfl ?_
              refine ar_call [] (pc_40 _ _ (by have := hbd.c1; simp; omega)) rfl rfl rfl rfl rfl rfl trivial (.inl rfl) rfl rfl rfl ?_
              refine ar_pickT rfl rfl rfl rfl rfl ?_
              refine ar_assign rfl rfl rfl rfl ?_
              refine ar_nil ?_
              refine then_n ?_
              refine wp_ret ?_
              refine ret_post rfl rfl ?_
              first | rfl | exact congrArg V.bool (decide_eq_true hst.2.2)
    · refine ar_not rfl rfl rfl rfl rfl ?_
      refine ar_pickF rfl rfl rfl rfl rfl ?_
      refine ar_move rfl rfl rfl rfl ?_
      refine ar_skip rfl rfl ?_
      refine ar_skip rfl rfl ?_
      refine ar_skip rfl rfl ?_
      refine ar_pickT rfl rfl rfl rfl rfl ?_
      refine ar_move rfl rfl rfl rfl ?_
      refine ar_skip rfl rfl ?_
      refine ar_skip rfl rfl ?_
      refine ar_skip rfl rfl ?_
      refine ar_pickT rfl rfl rfl rfl rfl ?_
      refine ar_nil ?_
      refine then_n ?_
      refine wp_condT rfl ?_
      refine wp_seq ?_
      refine wp_reg (by kernel_rfl) ?_
      refine ar_move rfl rfl rfl rfl ?_
      refine ar_assign rfl rfl rfl rfl ?_
      refine ar_nil ?_
      refine then_n ?_
      refine wp_ret ?_
      refine then_r (ret_post rfl rfl ?_)
      first | rfl | exact congrArg V.bool (decide_eq_true hst.2.2)
  · refine ar_not rfl rfl rfl rfl rfl ?_
    refine ar_move rfl rfl rfl rfl ?_
    refine ar_skip rfl rfl ?_
    refine ar_skip rfl rfl ?_
    refine ar_skip rfl rfl ?_
    refine ar_pickT rfl rfl rfl rfl rfl ?_
    refine ar_move rfl rfl rfl rfl ?_
    refine ar_skip rfl rfl ?_
    refine ar_skip rfl rfl ?_
    refine ar_skip rfl rfl ?_
    refine ar_pickT rfl rfl rfl rfl rfl ?_
    refine ar_move rfl rfl rfl rfl ?_
    refine ar_skip rfl rfl ?_
    refine ar_skip rfl rfl ?_
    refine ar_skip rfl rfl ?_
    refine ar_pickT rfl rfl rfl rfl rfl ?_
    refine ar_nil ?_
    refine then_n ?_
    refine wp_condT rfl ?_
    refine wp_seq ?_
    refine wp_reg (by kernel_rfl) ?_
    refine ar_move rfl rfl rfl rfl ?_
    refine ar_assign rfl rfl rfl rfl ?_
    refine ar_nil ?_
    refine then_n ?_
    refine wp_ret ?_
    refine then_r (ret_post rfl rfl ?_)
    first | rfl | exact congrArg V.bool (decide_eq_true hst.2.2)

end Go.Vd
