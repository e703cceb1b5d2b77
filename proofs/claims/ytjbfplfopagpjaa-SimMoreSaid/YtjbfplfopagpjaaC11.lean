/- SimTells: values, a literal, a step, a state at first, and a run, are as the document says: as the program tells it. -/
import Derived.Test.YtjbfplfopagpjaaC10
namespace Go.Vd
open Go.Proofs

theorem valuesS_le {a : Aig} {st inp : List Bool} (hb : Bd a) : (valuesS a st inp).1.length ≤ 100000 := by
  by_cases h : shapeOk a st inp
  · rw [valuesS_ok h.1 h.2, valsOf_len]
    have := h.1; have := h.2; have := hb.i1; have := hb.l1; have := hb.g1
    simp; omega
  · rw [valuesS_bad h]; simp
theorem stepS_le {a : Aig} {st inp : List Bool} (hb : Bd a) : (stepS a st inp).n.length ≤ 20000 ∧ (stepS a st inp).o.length ≤ 20000 ∧ (stepS a st inp).b.length ≤ 20000 ∧ (stepS a st inp).c.length ≤ 20000 := by
  by_cases h : shapeOk a st inp
  · rw [stepS_is h]
    have := hb.l1; have := hb.o1; have := hb.b1; have := hb.c1
    simp; omega
  · rw [stepS_not h]; simp
theorem startS_le {a : Aig} {fr : List Bool} (hb : Bd a) : (startS a fr).1.length ≤ 20000 := by
  by_cases h : fr.length = a.l.length
  · rw [startS_ok h, startF_len h]; exact hb.l1
  · rw [startS_bad h]; simp
theorem runGo_le {a : Aig} (hb : Bd a) : ∀ (ins acc : List (List Bool)) (s : List Bool), (∀ r, r ∈ acc → r.length ≤ 20000) → (runGo a acc s ins).1.length ≤ acc.length + ins.length ∧ ∀ r, r ∈ (runGo a acc s ins).1 → r.length ≤ 20000
  | [], acc, s, h => ⟨by simp [runGo], h⟩
  | x :: xs, acc, s, h => by
    simp only [runGo]
    by_cases h0 : (stepS a s x).e = 0
    · rw [if_pos h0]
      have := runGo_le hb xs (acc ++ [(stepS a s x).n]) (stepS a s x).n (fun r hr => by
        rcases List.mem_append.1 hr with hr | hr
        · exact h r hr
        · simp at hr; subst hr; exact (stepS_le hb).1)
      refine ⟨?_, this.2⟩
      have := this.1
      simp at this ⊢; omega
    · rw [if_neg h0]; simp
theorem runS_le {a : Aig} {fr : List Bool} {ins : List (List Bool)} (hb : Bd a) : (runS a fr ins).1.length ≤ 1 + ins.length ∧ ∀ r, r ∈ (runS a fr ins).1 → r.length ≤ 20000 := by
  simp only [runS]
  by_cases h : (startS a fr).2 = 0
  · rw [if_pos h]
    have := runGo_le hb ins [(startS a fr).1] (startS a fr).1 (fun r hr => by simp at hr; subst hr; exact startS_le hb)
    simpa using this
  · rw [if_neg h]; simp
theorem get3 {x y z : List Bool} {j : Nat} (h : j < 3) : ([.v (slB x), .v (slB y), .v (slB z)] : List D)[j]? = some (.v (slB ([x, y, z].getD j default))) := by
  rcases j with _ | _ | _ | j
  · rfl
  · rfl
  · rfl
  · omega
theorem le3 {x y z : List Bool} {j : Nat} (hx : x.length ≤ 20000) (hy : y.length ≤ 20000) (hz : z.length ≤ 20000) : ([x, y, z].getD j default).length ≤ 9223372036854775807 := by
  rcases j with _ | _ | _ | j
  · simp; omega
  · simp; omega
  · simp; omega
  · simp [default]
abbrev in3 (a : Aig) (st : List Bool) (ins : List (List Bool)) (l : Int) : List V := [.int .i64 a.i, slL a.l, slG a.g, slI a.outs, slI a.bad, slI a.con, slN a.names, slB st, slBB ins, .int .i64 l]

theorem pc_3 (a : Aig) (st : List Bool) (ins : List (List Bool)) (l : Int) (hf : Fit a) (hl : l ≤ 9223372036854775807) : PCall Try.prog 3 [.agg (in3 a st ins l)] (.bool true) := by
  refine pc_of tab_ok (f := 3) (fn := Try.f3) (N := 175) (rs := [.tmp 2]) (by kernel_rfl) rfl (by kernel_rfl) rfl rfl [(0, .v (.agg (in3 a st ins l)))] ⟨rfl, trivial⟩ rfl rfl ?_
  intro B
  refine wp_seq ?_
  refine wp_reg (by kernel_rfl) ?_
  refine ar_box 1 [] rfl rfl rfl ⟨rfl, trivial⟩ rfl rfl rfl ?_
  refine ar_assign rfl rfl rfl rfl ?_
  refine ar_nil ?_
  refine then_n ?_
  refine wp_seq ?_
  refine wp_reg (by kernel_rfl) ?_
  refine ar_fa tab_ok rfl rfl rfl tb31 rfl rfl rfl rfl rfl ?_
  refine ar_lda (d := .v (aigV a)) tab_ok rfl rfl rfl tb27 rfl rfl rfl rfl rfl rfl ?_
  refine ar_alloc (id := 3) tab_ok rfl rfl tb27 rfl rfl rfl rfl ?_
  refine ar_st [] tab_ok rfl tb27 rfl rfl rfl trivial rfl rfl rfl rfl rfl rfl rfl rfl ?_
  refine ar_nil ?_
  refine then_n ?_
  refine wp_seq ?_
  refine wp_reg (by kernel_rfl) ?_
  refine ar_fa tab_ok rfl rfl rfl tb31 rfl rfl rfl rfl rfl ?_
  refine ar_ld tab_ok rfl rfl rfl tb28 rfl rfl rfl rfl rfl ?_
  refine ar_assign rfl rfl rfl rfl ?_
  refine ar_nil ?_
  refine then_n ?_
  refine wp_seq ?_
  refine wp_reg (by kernel_rfl) ?_
  refine ar_fa tab_ok rfl rfl rfl tb31 rfl rfl rfl rfl rfl ?_
  refine ar_ld tab_ok rfl rfl rfl tb29 rfl rfl rfl rfl rfl ?_
  refine ar_assign rfl rfl rfl rfl ?_
  refine ar_nil ?_
  refine then_n ?_
  refine wp_seq ?_
  refine wp_reg (by kernel_rfl) ?_
  refine ar_fa tab_ok rfl rfl rfl tb31 rfl rfl rfl rfl rfl ?_
  refine ar_ld tab_ok rfl rfl rfl tb3 rfl rfl rfl rfl rfl ?_
  refine ar_assign rfl rfl rfl rfl ?_
  refine ar_nil ?_
  refine then_n ?_
  refine wp_seq ?_
  refine wp_reg (by kernel_rfl) ?_
  refine ar_call [] (pc_29) rfl rfl rfl rfl rfl rfl trivial (.inl rfl) rfl rfl rfl ?_
  refine ar_assign rfl rfl rfl rfl ?_
  refine ar_nil ?_
  refine then_n ?_
  refine wp_seq ?_
  refine wp_seq ?_
  refine wp_reg (by kernel_rfl) ?_
  refine ar_lda tab_ok rfl rfl rfl tb27 rfl rfl rfl rfl rfl rfl ?_
  refine ar_callE [] (pce_30 a hf) rfl rfl rfl rfl rfl rfl trivial (.inl rfl) rfl rfl rfl ?_
  rintro _ ⟨b38, rfl, hb38⟩
  refine ar_split (fun h38 => ?_) (fun h38 => ?_)
  · refine ar_not rfl rfl rfl rfl rfl ?_
    refine ar_move rfl rfl rfl rfl ?_
    refine ar_move rfl rfl rfl rfl ?_
    refine ar_callE [] (pce_31 ins 20 (by decide) (by decide)) rfl rfl rfl rfl rfl rfl trivial (.inl rfl) rfl rfl rfl ?_
    rintro _ ⟨b42, rfl, hb42⟩
    refine ar_split (fun h42 => ?_) (fun h42 => ?_)
    · refine ar_not rfl rfl rfl rfl rfl ?_
      refine ar_pickF rfl rfl rfl rfl rfl ?_
      refine ar_move rfl rfl rfl rfl ?_
      refine ar_move rfl rfl rfl rfl ?_
      refine ar_len tab_ok rfl rfl tb28 rfl len_map rfl rfl ?_
      refine ar_gtr_s rfl rfl rfl rfl rfl (fun h48 => ?_) (fun h48 => ?_)
      · refine ar_pickF rfl rfl rfl rfl rfl ?_
        refine ar_nil ?_
        refine then_n ?_
        refine wp_condT rfl ?_
        refine wp_seq ?_
        refine wp_reg (by kernel_rfl) ?_
        refine ar_move rfl rfl rfl rfl ?_
        refine ar_assign rfl rfl rfl rfl ?_
        refine ar_nil ?_
        refine then_n ?_
        refine wp_ret ?_
        refine then_r (ret_post rfl rfl ?_)
        rfl
      · refine ar_pickF rfl rfl rfl rfl rfl ?_
        refine ar_nil ?_
        refine then_n ?_
        refine wp_condF rfl ?_
        refine wp_skip ?_
        refine then_n ?_
        refine wp_seq ?_
        refine wp_reg (by kernel_rfl) ?_
        refine ar_assign rfl rfl rfl rfl ?_
        refine ar_nil ?_
        refine then_n ?_
        refine wp_seq ?_
        refine wp_seq ?_
        refine wp_reg (by kernel_rfl) ?_
        refine ar_move rfl rfl rfl rfl ?_
        refine ar_len tab_ok rfl rfl tb29 rfl len_map rfl rfl ?_
        refine ar_gtr_s rfl rfl rfl rfl rfl (fun h53 => ?_) (fun h53 => ?_)
        · refine ar_nil ?_
          refine then_n ?_
          refine wp_condT rfl ?_
          refine wp_reg (by kernel_rfl) ?_
          refine ar_move rfl rfl rfl rfl ?_
          refine ar_ia tab_ok rfl rfl rfl tb29 rfl tb28 (by omega) (map_get (by omega)) rfl rfl rfl ?_
          refine ar_ld_ref tab_ok rfl rfl tb28 rfl rfl rfl rfl ?_
          refine ar_assign rfl rfl rfl rfl ?_
          refine ar_nil ?_
          refine then_n ?_
          refine wp_seq ?_
          have hg := hb38 h38
          have hbd := hg.bd
          have hins := (hb42 h42).1
          refine wp_reg (by kernel_rfl) ?_
          refine ar_lda tab_ok rfl rfl rfl tb27 rfl rfl rfl rfl rfl rfl ?_
          refine ar_move rfl rfl rfl rfl ?_
          refine ar_move rfl rfl rfl rfl ?_
          refine ar_call [] (pc_32 a st (ins.getD 0 default) hbd) rfl rfl rfl rfl rfl rfl trivial (.inl rfl) rfl rfl rfl ?_
          refine ar_move rfl rfl rfl rfl ?_
          refine ar_ext rfl rfl rfl rfl rfl ?_
          refine ar_ext rfl rfl rfl rfl rfl ?_
          refine ar_assign rfl rfl rfl rfl ?_
          refine ar_assign rfl rfl rfl rfl ?_
          refine ar_nil ?_
          refine then_n ?_
          refine wp_seq ?_
          refine wp_reg (by kernel_rfl) ?_
          refine ar_lda tab_ok rfl rfl rfl tb27 rfl rfl rfl rfl rfl rfl ?_
          refine ar_move rfl rfl rfl rfl ?_
          refine ar_move rfl rfl rfl rfl ?_
          refine ar_call [] (pc_33 a st (ins.getD 0 default) hg) rfl rfl rfl rfl rfl rfl trivial (.inl rfl) rfl rfl rfl ?_
          refine ar_move rfl rfl rfl rfl ?_
          refine ar_ext rfl rfl rfl rfl rfl ?_
          refine ar_ext rfl rfl rfl rfl rfl ?_
          refine ar_assign rfl rfl rfl rfl ?_
          refine ar_assign rfl rfl rfl rfl ?_
          refine ar_nil ?_
          refine then_n ?_
          refine wp_seq ?_
          refine wp_reg (by kernel_rfl) ?_
          refine ar_lda tab_ok rfl rfl rfl tb27 rfl rfl rfl rfl rfl rfl ?_
          refine ar_move rfl rfl rfl rfl ?_
          refine ar_move rfl rfl rfl rfl ?_
          refine ar_call [] (pc_34 a st (ins.getD 0 default) hbd) rfl rfl rfl rfl rfl rfl trivial (.inl rfl) rfl rfl rfl ?_
          refine ar_move rfl rfl rfl rfl ?_
          refine ar_ext rfl rfl rfl rfl rfl ?_
          refine ar_ext rfl rfl rfl rfl rfl ?_
          refine ar_ext rfl rfl rfl rfl rfl ?_
          refine ar_alloc (id := 14) tab_ok rfl rfl tb40 rfl rfl rfl rfl ?_
          refine ar_assign rfl rfl rfl rfl ?_
          refine ar_st [] tab_ok rfl tb40 rfl rfl rfl trivial rfl rfl rfl rfl rfl rfl rfl rfl ?_
          refine ar_assign rfl rfl rfl rfl ?_
          refine ar_nil ?_
          refine then_n ?_
          refine wp_seq ?_
          refine wp_reg (by kernel_rfl) ?_
          refine ar_lda tab_ok rfl rfl rfl tb27 rfl rfl rfl rfl rfl rfl ?_
          refine ar_move rfl rfl rfl rfl ?_
          refine ar_move rfl rfl rfl rfl ?_
          refine ar_call [] (pc_35 a st (ins.getD 0 default) hg) rfl rfl rfl rfl rfl rfl trivial (.inl rfl) rfl rfl rfl ?_
          refine ar_move rfl rfl rfl rfl ?_
          refine ar_ext rfl rfl rfl rfl rfl ?_
          refine ar_ext rfl rfl rfl rfl rfl ?_
          refine ar_ext rfl rfl rfl rfl rfl ?_
          refine ar_alloc (id := 17) tab_ok rfl rfl tb40 rfl rfl rfl rfl ?_
          refine ar_assign rfl rfl rfl rfl ?_
          refine ar_st [] tab_ok rfl tb40 rfl rfl rfl trivial rfl rfl rfl rfl rfl rfl rfl rfl ?_
          refine ar_assign rfl rfl rfl rfl ?_
          refine ar_nil ?_
          refine then_n ?_
          refine wp_seq ?_
          refine wp_reg (by kernel_rfl) ?_
          refine ar_lda tab_ok rfl rfl rfl tb27 rfl rfl rfl rfl rfl rfl ?_
          refine ar_move rfl rfl rfl rfl ?_
          refine ar_call [] (pc_36 a st hbd) rfl rfl rfl rfl rfl rfl trivial (.inl rfl) rfl rfl rfl ?_
          refine ar_move rfl rfl rfl rfl ?_
          refine ar_ext rfl rfl rfl rfl rfl ?_
          refine ar_ext rfl rfl rfl rfl rfl ?_
          refine ar_assign rfl rfl rfl rfl ?_
          refine ar_assign rfl rfl rfl rfl ?_
          refine ar_nil ?_
          refine then_n ?_
          refine wp_seq ?_
          refine wp_reg (by kernel_rfl) ?_
          refine ar_lda tab_ok rfl rfl rfl tb27 rfl rfl rfl rfl rfl rfl ?_
          refine ar_move rfl rfl rfl rfl ?_
          refine ar_call [] (pc_37 a st hg) rfl rfl rfl rfl rfl rfl trivial (.inl rfl) rfl rfl rfl ?_
          refine ar_move rfl rfl rfl rfl ?_
          refine ar_ext rfl rfl rfl rfl rfl ?_
          refine ar_ext rfl rfl rfl rfl rfl ?_
          refine ar_assign rfl rfl rfl rfl ?_
          refine ar_assign rfl rfl rfl rfl ?_
          refine ar_nil ?_
          refine then_n ?_
          refine wp_seq ?_
          refine wp_reg (by kernel_rfl) ?_
          refine ar_lda tab_ok rfl rfl rfl tb27 rfl rfl rfl rfl rfl rfl ?_
          refine ar_move rfl rfl rfl rfl ?_
          refine ar_move rfl rfl rfl rfl ?_
          refine ar_call [] (pc_38 a st ins hbd (by omega)) rfl rfl rfl rfl rfl rfl trivial (.inl rfl) rfl rfl rfl ?_
          refine ar_move rfl rfl rfl rfl ?_
          refine ar_ext rfl rfl rfl rfl rfl ?_
          refine ar_ext rfl rfl rfl rfl rfl ?_
          refine ar_assign rfl rfl rfl rfl ?_
          refine ar_assign rfl rfl rfl rfl ?_
          refine ar_nil ?_
          refine then_n ?_
          refine wp_seq ?_
          refine wp_reg (by kernel_rfl) ?_
          refine ar_lda tab_ok rfl rfl rfl tb27 rfl rfl rfl rfl rfl rfl ?_
          refine ar_move rfl rfl rfl rfl ?_
          refine ar_move rfl rfl rfl rfl ?_
          refine ar_call [] (pc_39 a st ins hg (by omega)) rfl rfl rfl rfl rfl rfl trivial (.inl rfl) rfl rfl rfl ?_
          refine ar_move rfl rfl rfl rfl ?_
          refine ar_ext rfl rfl rfl rfl rfl ?_
          refine ar_ext rfl rfl rfl rfl rfl ?_
          refine ar_assign rfl rfl rfl rfl ?_
          refine ar_assign rfl rfl rfl rfl ?_
          refine ar_nil ?_
          refine then_n ?_
          refine wp_seq ?_
          refine wp_seq ?_
          refine wp_reg (by kernel_rfl) ?_
          refine ar_assign rfl rfl rfl rfl ?_
          refine ar_nil ?_
          refine then_n ?_
          refine wp_block ?_
          refine wp_loop (α := Nat) (fun j => mk [(7, .v (.bool true)), (9, .v (slB (valuesS a st (ins.getD 0 default)).1)), (10, .v (.int .i64 (valuesS a st (ins.getD 0 default)).2)), (11, .v (slB (valuesS a st (ins.getD 0 default)).1)), (12, .v (.int .i64 (valuesS a st (ins.getD 0 default)).2)), (13, .v (slB (stepS a st (ins.getD 0 default)).n)), (14, .ptr 14 0), (15, .v (.int .i64 (stepS a st (ins.getD 0 default)).e)), (16, .v (slB (stepS a st (ins.getD 0 default)).n)), (17, .ptr 17 0), (18, .v (.int .i64 (stepS a st (ins.getD 0 default)).e)), (19, .v (slB (startS a st).1)), (20, .v (.int .i64 (startS a st).2)), (21, .v (slB (startS a st).1)), (22, .v (.int .i64 (startS a st).2)), (23, .v (slBB (runS a st ins).1)), (24, .v (.int .i64 (runS a st ins).2)), (25, .v (slBB (runS a st ins).1)), (26, .v (.int .i64 (runS a st ins).2)), (6, .v (.int .i64 l)), (27, .v (.int .i64 (j : Nat)))] [(14, .box [.v (slB (stepS a st (ins.getD 0 default)).o), .v (slB (stepS a st (ins.getD 0 default)).b), .v (slB (stepS a st (ins.getD 0 default)).c)]), (17, .box [.v (slB (stepS a st (ins.getD 0 default)).o), .v (slB (stepS a st (ins.getD 0 default)).b), .v (slB (stepS a st (ins.getD 0 default)).c)])] 0) (fun j => j ≤ 3) (fun j => 3 - j) 0 (by omega) (le_to ⟨rfl, rfl, rfl, rfl, rfl, rfl, rfl, rfl, rfl, rfl, rfl, rfl, rfl, rfl, rfl, rfl, rfl, rfl, rfl, rfl, rfl, trivial⟩ ⟨rfl, rfl, trivial⟩ rfl rfl rfl rfl) ?_
          rintro j hinv
          refine wp_seq ?_
          refine wp_seq ?_
          refine wp_reg (by kernel_rfl) ?_
          refine ar_move rfl rfl rfl rfl ?_
          refine ar_lss_s rfl rfl rfl rfl rfl (fun h114 => ?_) (fun h114 => ?_)
          · refine ar_nil ?_
            refine then_n ?_
            refine wp_condT rfl ?_
            refine wp_skip ?_
            refine then_n ?_
            refine wp_seq ?_
            refine wp_block ?_
            refine wp_seq ?_
            refine wp_draw (L := [([], []), ([14], []), ([14], []), ([], []), ([17], []), ([17], []), ([], []), ([], [])]) (by kernel_rfl) mixed (by kernel_rfl) ?_
            refine ar_move rfl rfl rfl rfl ?_
            refine ar_ia_arr (j := j) tab_ok rfl rfl rfl rfl tb40 rfl tb28 (by omega) (by omega) (by simp) rfl rfl rfl ?_
            refine ar_ld tab_ok rfl rfl rfl tb28 rfl (get3 (by omega)) rfl rfl rfl ?_
            refine ar_move rfl rfl rfl rfl ?_
            refine ar_ia_arr (j := j) tab_ok rfl rfl rfl rfl tb40 rfl tb28 (by omega) (by omega) (by simp) rfl rfl rfl ?_
            refine ar_ld tab_ok rfl rfl rfl tb28 rfl (get3 (by omega)) rfl rfl rfl ?_
            refine ar_call [] (pc_40 _ _ (le3 (stepS_le hbd).2.1 (stepS_le hbd).2.2.1 (stepS_le hbd).2.2.2)) rfl rfl rfl rfl rfl rfl trivial (.inl rfl) rfl rfl rfl ?_
            refine ar_to (d' := .v (.bool true)) (congrArg (fun b => D.v (V.bool b)) (decide_eq_true rfl)) ?_
            refine ar_not rfl rfl rfl rfl rfl ?_
            refine ar_nil ?_
            refine then_n ?_
            refine wp_condF rfl ?_
            refine wp_skip ?_
            refine inblk_n ?_
            refine then_n ?_
            refine wp_reg (by kernel_rfl) ?_
            refine ar_move rfl rfl rfl rfl ?_
            refine ar_addi rfl rfl rfl rfl (by omega) (by omega) rfl rfl ?_
            refine ar_assign rfl rfl rfl rfl ?_
            refine ar_nil ?_
            exact loop_n (j + 1) (by omega) (by omega) (le_to ⟨rfl, rfl, rfl, rfl, rfl, rfl, rfl, rfl, rfl, rfl, rfl, rfl, rfl, rfl, rfl, rfl, rfl, rfl, rfl, rfl, rfl, trivial⟩ ⟨rfl, rfl, trivial⟩ rfl rfl rfl rfl)
          · refine ar_nil ?_
            refine then_n ?_
            refine wp_condF rfl ?_
            refine wp_exit ?_
            refine then_x (loop_x (inblk_e ?_))
            refine then_n ?_
            refine wp_seq ?_
            refine wp_reg (by kernel_rfl) ?_
            refine ar_move rfl rfl rfl rfl ?_
            refine ar_move rfl rfl rfl rfl ?_
            refine ar_move rfl rfl rfl rfl ?_
            refine ar_move rfl rfl rfl rfl ?_
            refine ar_call [] (pc_40 _ _ (by have := valuesS_le (st := st) (inp := (ins.getD 0 default)) hbd; omega)) rfl rfl rfl rfl rfl rfl trivial (.inl rfl) rfl rfl rfl ?_
            refine ar_to (d' := .v (.bool true)) (congrArg (fun b => D.v (V.bool b)) (decide_eq_true rfl)) ?_
            refine ar_pickT rfl rfl rfl rfl rfl ?_
            refine ar_move rfl rfl rfl rfl ?_
            refine ar_move rfl rfl rfl rfl ?_
            refine ar_move rfl rfl rfl rfl ?_
            refine ar_eql rfl rfl rfl (decide_eq_true (by rfl)) rfl rfl ?_
            refine ar_pickT rfl rfl rfl rfl rfl ?_
            refine ar_move rfl rfl rfl rfl ?_
            refine ar_move rfl rfl rfl rfl ?_
            refine ar_move rfl rfl rfl rfl ?_
            refine ar_call [] (pc_40 _ _ (by have := (stepS_le (st := st) (inp := (ins.getD 0 default)) hbd).1; omega)) rfl rfl rfl rfl rfl rfl trivial (.inl rfl) rfl rfl rfl ?_
            refine ar_to (d' := .v (.bool true)) (congrArg (fun b => D.v (V.bool b)) (decide_eq_true rfl)) ?_
            refine ar_pickT rfl rfl rfl rfl rfl ?_
            refine ar_move rfl rfl rfl rfl ?_
            refine ar_move rfl rfl rfl rfl ?_
            refine ar_move rfl rfl rfl rfl ?_
            refine ar_eql rfl rfl rfl (decide_eq_true (by rfl)) rfl rfl ?_
            refine ar_pickT rfl rfl rfl rfl rfl ?_
            refine ar_move rfl rfl rfl rfl ?_
            refine ar_move rfl rfl rfl rfl ?_
            refine ar_move rfl rfl rfl rfl ?_
            refine ar_call [] (pc_40 _ _ (by have := startS_le (fr := st) hbd; omega)) rfl rfl rfl rfl rfl rfl trivial (.inl rfl) rfl rfl rfl ?_
            refine ar_to (d' := .v (.bool true)) (congrArg (fun b => D.v (V.bool b)) (decide_eq_true rfl)) ?_
            refine ar_pickT rfl rfl rfl rfl rfl ?_
            refine ar_move rfl rfl rfl rfl ?_
            refine ar_move rfl rfl rfl rfl ?_
            refine ar_move rfl rfl rfl rfl ?_
            refine ar_eql rfl rfl rfl (decide_eq_true (by rfl)) rfl rfl ?_
            refine ar_pickT rfl rfl rfl rfl rfl ?_
            refine ar_move rfl rfl rfl rfl ?_
            refine ar_move rfl rfl rfl rfl ?_
            refine ar_move rfl rfl rfl rfl ?_
            refine ar_call [] (pc_41 _ _ (by have := (runS_le (fr := st) (ins := ins) hbd).1; omega) (fun r hr => by have := (runS_le (fr := st) (ins := ins) hbd).2 r hr; omega)) rfl rfl rfl rfl rfl rfl trivial (.inl rfl) rfl rfl rfl ?_
            refine ar_to (d' := .v (.bool true)) (congrArg (fun b => D.v (V.bool b)) (decide_eq_true rfl)) ?_
            refine ar_pickT rfl rfl rfl rfl rfl ?_
            refine ar_move rfl rfl rfl rfl ?_
            refine ar_move rfl rfl rfl rfl ?_
            refine ar_move rfl rfl rfl rfl ?_
            refine ar_eql rfl rfl rfl (decide_eq_true (by rfl)) rfl rfl ?_
            refine ar_pickT rfl rfl rfl rfl rfl ?_
            refine ar_move rfl rfl rfl rfl ?_
            refine ar_move rfl rfl rfl rfl ?_
            refine ar_move rfl rfl rfl rfl ?_
            refine ar_call [] (pc_42 _ _) rfl rfl rfl rfl rfl rfl trivial (.inl rfl) rfl rfl rfl ?_
            refine ar_move rfl rfl rfl rfl ?_
            refine ar_move rfl rfl rfl rfl ?_
            refine ar_call [] (pc_43 _ _ hl) rfl rfl rfl rfl rfl rfl trivial (.inl rfl) rfl rfl rfl ?_
            refine ar_beql (z := true) tab_ok rfl rfl rfl tb4 rfl (by simp) rfl rfl ?_
            refine ar_pickT rfl rfl rfl rfl rfl ?_
            refine ar_assign rfl rfl rfl rfl ?_
            refine ar_nil ?_
            refine then_n ?_
            refine wp_ret ?_
            refine ret_post rfl rfl ?_
            rfl
        · refine ar_nil ?_
          refine then_n ?_
          refine wp_condF rfl ?_
          refine wp_skip ?_
          refine then_n ?_
          refine wp_seq ?_
          have hg := hb38 h38
          have hbd := hg.bd
          have hins := (hb42 h42).1
          refine wp_reg (by kernel_rfl) ?_
          refine ar_lda tab_ok rfl rfl rfl tb27 rfl rfl rfl rfl rfl rfl ?_
          refine ar_move rfl rfl rfl rfl ?_
          refine ar_move rfl rfl rfl rfl ?_
          refine ar_call [] (pc_32 a st [] hbd) rfl rfl rfl rfl rfl rfl trivial (.inl rfl) rfl rfl rfl ?_
          refine ar_move rfl rfl rfl rfl ?_
          refine ar_ext rfl rfl rfl rfl rfl ?_
          refine ar_ext rfl rfl rfl rfl rfl ?_
          refine ar_assign rfl rfl rfl rfl ?_
          refine ar_assign rfl rfl rfl rfl ?_
          refine ar_nil ?_
          refine then_n ?_
          refine wp_seq ?_
          refine wp_reg (by kernel_rfl) ?_
          refine ar_lda tab_ok rfl rfl rfl tb27 rfl rfl rfl rfl rfl rfl ?_
          refine ar_move rfl rfl rfl rfl ?_
          refine ar_move rfl rfl rfl rfl ?_
          refine ar_call [] (pc_33 a st [] hg) rfl rfl rfl rfl rfl rfl trivial (.inl rfl) rfl rfl rfl ?_
          refine ar_move rfl rfl rfl rfl ?_
          refine ar_ext rfl rfl rfl rfl rfl ?_
          refine ar_ext rfl rfl rfl rfl rfl ?_
          refine ar_assign rfl rfl rfl rfl ?_
          refine ar_assign rfl rfl rfl rfl ?_
          refine ar_nil ?_
          refine then_n ?_
          refine wp_seq ?_
          refine wp_reg (by kernel_rfl) ?_
          refine ar_lda tab_ok rfl rfl rfl tb27 rfl rfl rfl rfl rfl rfl ?_
          refine ar_move rfl rfl rfl rfl ?_
          refine ar_move rfl rfl rfl rfl ?_
          refine ar_call [] (pc_34 a st [] hbd) rfl rfl rfl rfl rfl rfl trivial (.inl rfl) rfl rfl rfl ?_
          refine ar_move rfl rfl rfl rfl ?_
          refine ar_ext rfl rfl rfl rfl rfl ?_
          refine ar_ext rfl rfl rfl rfl rfl ?_
          refine ar_ext rfl rfl rfl rfl rfl ?_
          refine ar_alloc (id := 14) tab_ok rfl rfl tb40 rfl rfl rfl rfl ?_
          refine ar_assign rfl rfl rfl rfl ?_
          refine ar_st [] tab_ok rfl tb40 rfl rfl rfl trivial rfl rfl rfl rfl rfl rfl rfl rfl ?_
          refine ar_assign rfl rfl rfl rfl ?_
          refine ar_nil ?_
          refine then_n ?_
          refine wp_seq ?_
          refine wp_reg (by kernel_rfl) ?_
          refine ar_lda tab_ok rfl rfl rfl tb27 rfl rfl rfl rfl rfl rfl ?_
          refine ar_move rfl rfl rfl rfl ?_
          refine ar_move rfl rfl rfl rfl ?_
          refine ar_call [] (pc_35 a st [] hg) rfl rfl rfl rfl rfl rfl trivial (.inl rfl) rfl rfl rfl ?_
          refine ar_move rfl rfl rfl rfl ?_
          refine ar_ext rfl rfl rfl rfl rfl ?_
          refine ar_ext rfl rfl rfl rfl rfl ?_
          refine ar_ext rfl rfl rfl rfl rfl ?_
          refine ar_alloc (id := 17) tab_ok rfl rfl tb40 rfl rfl rfl rfl ?_
          refine ar_assign rfl rfl rfl rfl ?_
          refine ar_st [] tab_ok rfl tb40 rfl rfl rfl trivial rfl rfl rfl rfl rfl rfl rfl rfl ?_
          refine ar_assign rfl rfl rfl rfl ?_
          refine ar_nil ?_
          refine then_n ?_
          refine wp_seq ?_
          refine wp_reg (by kernel_rfl) ?_
          refine ar_lda tab_ok rfl rfl rfl tb27 rfl rfl rfl rfl rfl rfl ?_
          refine ar_move rfl rfl rfl rfl ?_
          refine ar_call [] (pc_36 a st hbd) rfl rfl rfl rfl rfl rfl trivial (.inl rfl) rfl rfl rfl ?_
          refine ar_move rfl rfl rfl rfl ?_
          refine ar_ext rfl rfl rfl rfl rfl ?_
          refine ar_ext rfl rfl rfl rfl rfl ?_
          refine ar_assign rfl rfl rfl rfl ?_
          refine ar_assign rfl rfl rfl rfl ?_
          refine ar_nil ?_
          refine then_n ?_
          refine wp_seq ?_
          refine wp_reg (by kernel_rfl) ?_
          refine ar_lda tab_ok rfl rfl rfl tb27 rfl rfl rfl rfl rfl rfl ?_
          refine ar_move rfl rfl rfl rfl ?_
          refine ar_call [] (pc_37 a st hg) rfl rfl rfl rfl rfl rfl trivial (.inl rfl) rfl rfl rfl ?_
          refine ar_move rfl rfl rfl rfl ?_
          refine ar_ext rfl rfl rfl rfl rfl ?_
          refine ar_ext rfl rfl rfl rfl rfl ?_
          refine ar_assign rfl rfl rfl rfl ?_
          refine ar_assign rfl rfl rfl rfl ?_
          refine ar_nil ?_
          refine then_n ?_
          refine wp_seq ?_
          refine wp_reg (by kernel_rfl) ?_
          refine ar_lda tab_ok rfl rfl rfl tb27 rfl rfl rfl rfl rfl rfl ?_
          refine ar_move rfl rfl rfl rfl ?_
          refine ar_move rfl rfl rfl rfl ?_
          refine ar_call [] (pc_38 a st ins hbd (by omega)) rfl rfl rfl rfl rfl rfl trivial (.inl rfl) rfl rfl rfl ?_
          refine ar_move rfl rfl rfl rfl ?_
          refine ar_ext rfl rfl rfl rfl rfl ?_
          refine ar_ext rfl rfl rfl rfl rfl ?_
          refine ar_assign rfl rfl rfl rfl ?_
          refine ar_assign rfl rfl rfl rfl ?_
          refine ar_nil ?_
          refine then_n ?_
          refine wp_seq ?_
          refine wp_reg (by kernel_rfl) ?_
          refine ar_lda tab_ok rfl rfl rfl tb27 rfl rfl rfl rfl rfl rfl ?_
          refine ar_move rfl rfl rfl rfl ?_
          refine ar_move rfl rfl rfl rfl ?_
          refine ar_call [] (pc_39 a st ins hg (by omega)) rfl rfl rfl rfl rfl rfl trivial (.inl rfl) rfl rfl rfl ?_
          refine ar_move rfl rfl rfl rfl ?_
          refine ar_ext rfl rfl rfl rfl rfl ?_
          refine ar_ext rfl rfl rfl rfl rfl ?_
          refine ar_assign rfl rfl rfl rfl ?_
          refine ar_assign rfl rfl rfl rfl ?_
          refine ar_nil ?_
          refine then_n ?_
          refine wp_seq ?_
          refine wp_seq ?_
          refine wp_reg (by kernel_rfl) ?_
          refine ar_assign rfl rfl rfl rfl ?_
          refine ar_nil ?_
          refine then_n ?_
          refine wp_block ?_
          refine wp_loop (α := Nat) (fun j => mk [(7, .v (.bool true)), (9, .v (slB (valuesS a st []).1)), (10, .v (.int .i64 (valuesS a st []).2)), (11, .v (slB (valuesS a st []).1)), (12, .v (.int .i64 (valuesS a st []).2)), (13, .v (slB (stepS a st []).n)), (14, .ptr 14 0), (15, .v (.int .i64 (stepS a st []).e)), (16, .v (slB (stepS a st []).n)), (17, .ptr 17 0), (18, .v (.int .i64 (stepS a st []).e)), (19, .v (slB (startS a st).1)), (20, .v (.int .i64 (startS a st).2)), (21, .v (slB (startS a st).1)), (22, .v (.int .i64 (startS a st).2)), (23, .v (slBB (runS a st ins).1)), (24, .v (.int .i64 (runS a st ins).2)), (25, .v (slBB (runS a st ins).1)), (26, .v (.int .i64 (runS a st ins).2)), (6, .v (.int .i64 l)), (27, .v (.int .i64 (j : Nat)))] [(14, .box [.v (slB (stepS a st []).o), .v (slB (stepS a st []).b), .v (slB (stepS a st []).c)]), (17, .box [.v (slB (stepS a st []).o), .v (slB (stepS a st []).b), .v (slB (stepS a st []).c)])] 0) (fun j => j ≤ 3) (fun j => 3 - j) 0 (by omega) (le_to ⟨rfl, rfl, rfl, rfl, rfl, rfl, rfl, rfl, rfl, rfl, rfl, rfl, rfl, rfl, rfl, rfl, rfl, rfl, rfl, rfl, rfl, trivial⟩ ⟨rfl, rfl, trivial⟩ rfl rfl rfl rfl) ?_
          rintro j hinv
          refine wp_seq ?_
          refine wp_seq ?_
          refine wp_reg (by kernel_rfl) ?_
          refine ar_move rfl rfl rfl rfl ?_
          refine ar_lss_s rfl rfl rfl rfl rfl (fun h114 => ?_) (fun h114 => ?_)
          · refine ar_nil ?_
            refine then_n ?_
            refine wp_condT rfl ?_
            refine wp_skip ?_
            refine then_n ?_
            refine wp_seq ?_
            refine wp_block ?_
            refine wp_seq ?_
            refine wp_draw (L := [([], []), ([14], []), ([14], []), ([], []), ([17], []), ([17], []), ([], []), ([], [])]) (by kernel_rfl) mixed (by kernel_rfl) ?_
            refine ar_move rfl rfl rfl rfl ?_
            refine ar_ia_arr (j := j) tab_ok rfl rfl rfl rfl tb40 rfl tb28 (by omega) (by omega) (by simp) rfl rfl rfl ?_
            refine ar_ld tab_ok rfl rfl rfl tb28 rfl (get3 (by omega)) rfl rfl rfl ?_
            refine ar_move rfl rfl rfl rfl ?_
            refine ar_ia_arr (j := j) tab_ok rfl rfl rfl rfl tb40 rfl tb28 (by omega) (by omega) (by simp) rfl rfl rfl ?_
            refine ar_ld tab_ok rfl rfl rfl tb28 rfl (get3 (by omega)) rfl rfl rfl ?_
            refine ar_call [] (pc_40 _ _ (le3 (stepS_le hbd).2.1 (stepS_le hbd).2.2.1 (stepS_le hbd).2.2.2)) rfl rfl rfl rfl rfl rfl trivial (.inl rfl) rfl rfl rfl ?_
            refine ar_to (d' := .v (.bool true)) (congrArg (fun b => D.v (V.bool b)) (decide_eq_true rfl)) ?_
            refine ar_not rfl rfl rfl rfl rfl ?_
            refine ar_nil ?_
            refine then_n ?_
            refine wp_condF rfl ?_
            refine wp_skip ?_
            refine inblk_n ?_
            refine then_n ?_
            refine wp_reg (by kernel_rfl) ?_
            refine ar_move rfl rfl rfl rfl ?_
            refine ar_addi rfl rfl rfl rfl (by omega) (by omega) rfl rfl ?_
            refine ar_assign rfl rfl rfl rfl ?_
            refine ar_nil ?_
            exact loop_n (j + 1) (by omega) (by omega) (le_to ⟨rfl, rfl, rfl, rfl, rfl, rfl, rfl, rfl, rfl, rfl, rfl, rfl, rfl, rfl, rfl, rfl, rfl, rfl, rfl, rfl, rfl, trivial⟩ ⟨rfl, rfl, trivial⟩ rfl rfl rfl rfl)
          · refine ar_nil ?_
            refine then_n ?_
            refine wp_condF rfl ?_
            refine wp_exit ?_
            refine then_x (loop_x (inblk_e ?_))
            refine then_n ?_
            refine wp_seq ?_
            refine wp_reg (by kernel_rfl) ?_
            refine ar_move rfl rfl rfl rfl ?_
            refine ar_move rfl rfl rfl rfl ?_
            refine ar_move rfl rfl rfl rfl ?_
            refine ar_move rfl rfl rfl rfl ?_
            refine ar_call [] (pc_40 _ _ (by have := valuesS_le (st := st) (inp := []) hbd; omega)) rfl rfl rfl rfl rfl rfl trivial (.inl rfl) rfl rfl rfl ?_
            refine ar_to (d' := .v (.bool true)) (congrArg (fun b => D.v (V.bool b)) (decide_eq_true rfl)) ?_
            refine ar_pickT rfl rfl rfl rfl rfl ?_
            refine ar_move rfl rfl rfl rfl ?_
            refine ar_move rfl rfl rfl rfl ?_
            refine ar_move rfl rfl rfl rfl ?_
            refine ar_eql rfl rfl rfl (decide_eq_true (by rfl)) rfl rfl ?_
            refine ar_pickT rfl rfl rfl rfl rfl ?_
            refine ar_move rfl rfl rfl rfl ?_
            refine ar_move rfl rfl rfl rfl ?_
            refine ar_move rfl rfl rfl rfl ?_
            refine ar_call [] (pc_40 _ _ (by have := (stepS_le (st := st) (inp := []) hbd).1; omega)) rfl rfl rfl rfl rfl rfl trivial (.inl rfl) rfl rfl rfl ?_
            refine ar_to (d' := .v (.bool true)) (congrArg (fun b => D.v (V.bool b)) (decide_eq_true rfl)) ?_
            refine ar_pickT rfl rfl rfl rfl rfl ?_
            refine ar_move rfl rfl rfl rfl ?_
            refine ar_move rfl rfl rfl rfl ?_
            refine ar_move rfl rfl rfl rfl ?_
            refine ar_eql rfl rfl rfl (decide_eq_true (by rfl)) rfl rfl ?_
            refine ar_pickT rfl rfl rfl rfl rfl ?_
            refine ar_move rfl rfl rfl rfl ?_
            refine ar_move rfl rfl rfl rfl ?_
            refine ar_move rfl rfl rfl rfl ?_
            refine ar_call [] (pc_40 _ _ (by have := startS_le (fr := st) hbd; omega)) rfl rfl rfl rfl rfl rfl trivial (.inl rfl) rfl rfl rfl ?_
            refine ar_to (d' := .v (.bool true)) (congrArg (fun b => D.v (V.bool b)) (decide_eq_true rfl)) ?_
            refine ar_pickT rfl rfl rfl rfl rfl ?_
            refine ar_move rfl rfl rfl rfl ?_
            refine ar_move rfl rfl rfl rfl ?_
            refine ar_move rfl rfl rfl rfl ?_
            refine ar_eql rfl rfl rfl (decide_eq_true (by rfl)) rfl rfl ?_
            refine ar_pickT rfl rfl rfl rfl rfl ?_
            refine ar_move rfl rfl rfl rfl ?_
            refine ar_move rfl rfl rfl rfl ?_
            refine ar_move rfl rfl rfl rfl ?_
            refine ar_call [] (pc_41 _ _ (by have := (runS_le (fr := st) (ins := ins) hbd).1; omega) (fun r hr => by have := (runS_le (fr := st) (ins := ins) hbd).2 r hr; omega)) rfl rfl rfl rfl rfl rfl trivial (.inl rfl) rfl rfl rfl ?_
            refine ar_to (d' := .v (.bool true)) (congrArg (fun b => D.v (V.bool b)) (decide_eq_true rfl)) ?_
            refine ar_pickT rfl rfl rfl rfl rfl ?_
            refine ar_move rfl rfl rfl rfl ?_
            refine ar_move rfl rfl rfl rfl ?_
            refine ar_move rfl rfl rfl rfl ?_
            refine ar_eql rfl rfl rfl (decide_eq_true (by rfl)) rfl rfl ?_
            refine ar_pickT rfl rfl rfl rfl rfl ?_
            refine ar_move rfl rfl rfl rfl ?_
            refine ar_move rfl rfl rfl rfl ?_
            refine ar_move rfl rfl rfl rfl ?_
            refine ar_call [] (pc_42 _ _) rfl rfl rfl rfl rfl rfl trivial (.inl rfl) rfl rfl rfl ?_
            refine ar_move rfl rfl rfl rfl ?_
            refine ar_move rfl rfl rfl rfl ?_
            refine ar_call [] (pc_43 _ _ hl) rfl rfl rfl rfl rfl rfl trivial (.inl rfl) rfl rfl rfl ?_
            refine ar_beql (z := true) tab_ok rfl rfl rfl tb4 rfl (by simp) rfl rfl ?_
            refine ar_pickT rfl rfl rfl rfl rfl ?_
            refine ar_assign rfl rfl rfl rfl ?_
            refine ar_nil ?_
            refine then_n ?_
            refine wp_ret ?_
            refine ret_post rfl rfl ?_
            rfl
    · refine ar_not rfl rfl rfl rfl rfl ?_
      refine ar_pickF rfl rfl rfl rfl rfl ?_
      refine ar_move rfl rfl rfl rfl ?_
      refine ar_skip rfl rfl ?_
      refine ar_skip rfl rfl ?_
      refine ar_skip rfl rfl ?_
      refine ar_pickT rfl rfl rfl rfl rfl ?_
      refine ar_nil ?_
      refine then_n ?_
      refine wp_condT rfl ?_
      refine wp_seq ?_
      refine wp_reg (by kernel_rfl) ?_
      refine ar_move rfl rfl rfl rfl ?_
      refine ar_assign rfl rfl rfl rfl ?_
      refine ar_nil ?_
      refine then_n ?_
      refine wp_ret ?_
      refine then_r (ret_post rfl rfl ?_)
      rfl
  · refine ar_not rfl rfl rfl rfl rfl ?_
    refine ar_move rfl rfl rfl rfl ?_
    refine ar_skip rfl rfl ?_
    refine ar_skip rfl rfl ?_
    refine ar_skip rfl rfl ?_
    refine ar_pickT rfl rfl rfl rfl rfl ?_
    refine ar_move rfl rfl rfl rfl ?_
    refine ar_skip rfl rfl ?_
    refine ar_skip rfl rfl ?_
    refine ar_skip rfl rfl ?_
    refine ar_pickT rfl rfl rfl rfl rfl ?_
    refine ar_nil ?_
    refine then_n ?_
    refine wp_condT rfl ?_
    refine wp_seq ?_
    refine wp_reg (by kernel_rfl) ?_
    refine ar_move rfl rfl rfl rfl ?_
    refine ar_assign rfl rfl rfl rfl ?_
    refine ar_nil ?_
    refine then_n ?_
    refine wp_ret ?_
    refine then_r (ret_post rfl rfl ?_)
    rfl

end Go.Vd
