/- SimRuns: a run's states are those of its steps, one by one; in two parts it is the same; it hangs on nothing that free says of latches that are reset: as the program tells it. -/
import Derived.Test.YtjbfplfopagpjaaC12
import Derived.Test.YtjbfplfopagpjaaC8
namespace Go.Vd
open Go.Proofs

abbrev nxt (a : Aig) (s r : List Bool) : List Bool := (stepOk a s r).n
def statesR (a : Aig) (s : List Bool) : List (List Bool) → List (List Bool)
  | [] => [s]
  | r :: rs => s :: statesR a (nxt a s r) rs
theorem statesR_len (a : Aig) : ∀ (ins : List (List Bool)) (s : List Bool), (statesR a s ins).length = ins.length + 1
  | [], _ => rfl
  | r :: rs, s => by simp [statesR, statesR_len a rs]
theorem statesR_zero (a : Aig) (s : List Bool) (ins : List (List Bool)) : (statesR a s ins).getD 0 default = s := by cases ins <;> rfl
theorem statesR_get (a : Aig) : ∀ (ins : List (List Bool)) (s : List Bool) (j : Nat), j < ins.length → (statesR a s ins).getD (j + 1) default = nxt a ((statesR a s ins).getD j default) (ins.getD j default)
  | [], _, _, h => by simp at h
  | r :: rs, s, 0, _ => by
    show (statesR a (nxt a s r) rs).getD 0 default = _
    rw [statesR_zero]; rfl
  | r :: rs, s, j + 1, h => by
    show (statesR a (nxt a s r) rs).getD (j + 1) default = nxt a ((statesR a (nxt a s r) rs).getD j default) (rs.getD j default)
    exact statesR_get a rs _ j (by simpa using h)
theorem statesR_take (a : Aig) : ∀ (ins : List (List Bool)) (s : List Bool) (k : Nat), k ≤ ins.length → statesR a s (ins.take k) = (statesR a s ins).take (k + 1)
  | [], s, 0, _ => rfl
  | [], _, k + 1, h => by simp at h
  | r :: rs, s, 0, _ => rfl
  | r :: rs, s, k + 1, h => by
    show s :: statesR a (nxt a s r) (rs.take k) = s :: (statesR a (nxt a s r) rs).take (k + 1)
    rw [statesR_take a rs _ k (by simpa using h)]
theorem nxt_len (a : Aig) (s r : List Bool) : (nxt a s r).length = a.l.length := List.length_map ..
theorem runGo_ok (a : Aig) : ∀ (ins : List (List Bool)) (acc : List (List Bool)) (s : List Bool), s.length = a.l.length → (∀ r, r ∈ ins → (r.length : Int) = a.i) → runGo a (acc ++ [s]) s ins = (acc ++ statesR a s ins, 0)
  | [], acc, s, _, _ => rfl
  | r :: rs, acc, s, hs, hr => by
    have h1 := stepS_is (a := a) (st := s) (inp := r) ⟨hs, hr r List.mem_cons_self⟩
    simp only [runGo, h1, if_pos]
    rw [runGo_ok a rs (acc ++ [s]) (stepOk a s r).n (nxt_len a s r) (fun x hx => hr x (List.mem_cons_of_mem _ hx)), List.append_assoc]
    rfl
theorem runS_right {a : Aig} {fr : List Bool} {ins : List (List Bool)} (h : fr.length = a.l.length) (hr : ∀ r, r ∈ ins → (r.length : Int) = a.i) : runS a fr ins = (statesR a (startF a.l fr) ins, 0) := by
  simp only [runS, startS_ok h, if_pos]
  exact runGo_ok a ins [] _ (startF_len h) hr
theorem runGo_wrong (a : Aig) : ∀ (ins : List (List Bool)) (acc : List (List Bool)) (s : List Bool), s.length = a.l.length → (∃ r, r ∈ ins ∧ ¬ (r.length : Int) = a.i) → runGo a acc s ins = ([], 7)
  | [], _, _, _, h => by obtain ⟨_, h, _⟩ := h; cases h
  | r :: rs, acc, s, hs, hx => by
    by_cases h0 : (r.length : Int) = a.i
    · have h1 := stepS_is (a := a) (st := s) (inp := r) ⟨hs, h0⟩
      simp only [runGo, h1, if_pos]
      refine runGo_wrong a rs _ _ (nxt_len a s r) ?_
      obtain ⟨x, hx1, hx2⟩ := hx
      rcases List.mem_cons.1 hx1 with rfl | hx1
      · exact absurd h0 hx2
      · exact ⟨x, hx1, hx2⟩
    · have h1 := stepS_not (a := a) (st := s) (inp := r) (fun h => h0 h.2)
      simp [runGo, h1]
theorem runS_wrong {a : Aig} {fr : List Bool} {ins : List (List Bool)} (h : fr.length = a.l.length) (hr : ∃ r, r ∈ ins ∧ ¬ (r.length : Int) = a.i) : runS a fr ins = ([], 7) := by
  simp only [runS, startS_ok h, if_pos]
  exact runGo_wrong a ins _ _ (startF_len h) hr
theorem startF_same {ls : List Latch} {x y : List Bool} (hx : x.length = ls.length) (hy : y.length = ls.length) (h : ∀ j, j < ls.length → ¬ (ls.getD j default).reset < 2 → x.getD j default = y.getD j default) : startF ls x = startF ls y := by
  refine getD_ext (by rw [startF_len hx, startF_len hy]) fun j hj => ?_
  rw [startF_len hx] at hj
  rw [startF_get hj hx, startF_get hj hy]
  by_cases h0 : (ls.getD j default).reset < 2
  · rw [if_pos h0, if_pos h0]
  · rw [if_neg h0, if_neg h0, h j hj h0]


theorem statesR_rows (a : Aig) : ∀ (ins : List (List Bool)) (s : List Bool), s.length = a.l.length → ∀ r, r ∈ statesR a s ins → r.length = a.l.length
  | [], s, h, r, hr => by simp [statesR] at hr; subst hr; exact h
  | x :: xs, s, h, r, hr => by
    rcases List.mem_cons.1 hr with rfl | hr
    · exact h
    · exact statesR_rows a xs _ (nxt_len a s x) r hr
theorem pc_38_right (a : Aig) (fr : List Bool) (ins : List (List Bool)) (hb : Bd a) (hl : ins.length ≤ 1000000) (h : fr.length = a.l.length) (hr : ∀ r, r ∈ ins → (r.length : Int) = a.i) : PCall Try.prog 38 [aigV a, slB fr, slBB ins] (.tup [slBB (statesR a (startF a.l fr) ins), .int .i64 0]) := by
  have := pc_38 a fr ins hb hl
  rwa [runS_right h hr] at this
abbrev in5 (a : Aig) (fr : List Bool) (ins : List (List Bool)) (n : Int) (ot : List Bool) : List V := [.int .i64 a.i, slL a.l, slG a.g, slI a.outs, slI a.bad, slI a.con, slN a.names, slB fr, slBB ins, .int .u8 n, slB ot]

theorem pc_5 (a : Aig) (fr : List Bool) (ins : List (List Bool)) (n : Int) (ot : List Bool) (hf : Fit a) (hn0 : 0 ≤ n) (hn1 : n ≤ 255) : PCall Try.prog 5 [.agg (in5 a fr ins n ot)] (.bool true) := by
  refine pc_of tab_ok (f := 5) (fn := Try.f5) (N := 200) (rs := [.tmp 2]) (by kernel_rfl) rfl (by kernel_rfl) rfl rfl [(0, .v (.agg (in5 a fr ins n ot)))] ⟨rfl, trivial⟩ rfl rfl ?_
  intro B
  refine wp_seq ?_
  refine wp_reg (by kernel_rfl) ?_
  refine ar_box 1 [] rfl rfl rfl ⟨rfl, trivial⟩ rfl rfl rfl ?_
  refine ar_assign rfl rfl rfl rfl ?_
  refine ar_nil ?_
  refine then_n ?_
  refine wp_seq ?_
  refine wp_reg (by kernel_rfl) ?_
  refine ar_fa tab_ok rfl rfl rfl tb61 rfl rfl rfl rfl rfl ?_
  refine ar_lda (d := .v (aigV a)) tab_ok rfl rfl rfl tb27 rfl rfl rfl rfl rfl rfl ?_
  refine ar_alloc (id := 3) tab_ok rfl rfl tb27 rfl rfl rfl rfl ?_
  refine ar_st [] tab_ok rfl tb27 rfl rfl rfl trivial rfl rfl rfl rfl rfl rfl rfl rfl ?_
  refine ar_nil ?_
  refine then_n ?_
  refine wp_seq ?_
  refine wp_reg (by kernel_rfl) ?_
  refine ar_fa tab_ok rfl rfl rfl tb61 rfl rfl rfl rfl rfl ?_
  refine ar_ld tab_ok rfl rfl rfl tb28 rfl rfl rfl rfl rfl ?_
  refine ar_assign rfl rfl rfl rfl ?_
  refine ar_nil ?_
  refine then_n ?_
  refine wp_seq ?_
  refine wp_reg (by kernel_rfl) ?_
  refine ar_fa tab_ok rfl rfl rfl tb61 rfl rfl rfl rfl rfl ?_
  refine ar_ld tab_ok rfl rfl rfl tb29 rfl rfl rfl rfl rfl ?_
  refine ar_assign rfl rfl rfl rfl ?_
  refine ar_nil ?_
  refine then_n ?_
  refine wp_seq ?_
  refine wp_reg (by kernel_rfl) ?_
  refine ar_fa tab_ok rfl rfl rfl tb61 rfl rfl rfl rfl rfl ?_
  refine ar_ld tab_ok rfl rfl rfl tb5 rfl rfl rfl rfl rfl ?_
  refine ar_assign rfl rfl rfl rfl ?_
  refine ar_nil ?_
  refine then_n ?_
  refine wp_seq ?_
  refine wp_reg (by kernel_rfl) ?_
  refine ar_fa tab_ok rfl rfl rfl tb61 rfl rfl rfl rfl rfl ?_
  refine ar_ld tab_ok rfl rfl rfl tb28 rfl rfl rfl rfl rfl ?_
  refine ar_assign rfl rfl rfl rfl ?_
  refine ar_nil ?_
  refine then_n ?_
  refine wp_seq ?_
  refine wp_reg (by kernel_rfl) ?_
  refine ar_call [] (pc_29) rfl rfl rfl rfl rfl rfl trivial (.inl rfl) rfl rfl rfl ?_
  refine ar_assign rfl rfl rfl rfl ?_
  refine ar_nil ?_
  refine then_n ?_
  refine wp_seq ?_
  refine wp_seq ?_
  refine wp_reg (by kernel_rfl) ?_
  refine ar_lda tab_ok rfl rfl rfl tb27 rfl rfl rfl rfl rfl rfl ?_
  refine ar_callE [] (pce_30 a hf) rfl rfl rfl rfl rfl rfl trivial (.inl rfl) rfl rfl rfl ?_
  rintro _ ⟨b35, rfl, hb35⟩
  refine ar_split (fun h35 => ?_) (fun h35 => ?_)
  · refine ar_not rfl rfl rfl rfl rfl ?_
    refine ar_move rfl rfl rfl rfl ?_
    refine ar_move rfl rfl rfl rfl ?_
    refine ar_callE [] (pce_31 ins 20 (by decide) (by decide)) rfl rfl rfl rfl rfl rfl trivial (.inl rfl) rfl rfl rfl ?_
    rintro _ ⟨b39, rfl, hb39⟩
    refine ar_split (fun h39 => ?_) (fun h39 => ?_)
    · refine ar_not rfl rfl rfl rfl rfl ?_
      refine ar_pickF rfl rfl rfl rfl rfl ?_
      refine ar_move rfl rfl rfl rfl ?_
      refine ar_move rfl rfl rfl rfl ?_
      refine ar_len tab_ok rfl rfl tb28 rfl len_map rfl rfl ?_
      refine ar_fa tab_ok rfl rfl rfl tb27 rfl rfl rfl rfl rfl ?_
      refine ar_ld tab_ok rfl rfl rfl tb22 rfl rfl rfl rfl rfl ?_
      refine ar_len tab_ok rfl rfl tb22 rfl len_map rfl rfl ?_
      refine ar_neq_s rfl rfl rfl rfl rfl (fun h48 => ?_) (fun h48 => ?_)
      · refine ar_pickF rfl rfl rfl rfl rfl ?_
        refine ar_move rfl rfl rfl rfl ?_
        refine ar_skip rfl rfl ?_
        refine ar_skip rfl rfl ?_
        refine ar_skip rfl rfl ?_
        refine ar_skip rfl rfl ?_
        refine ar_skip rfl rfl ?_
        refine ar_skip rfl rfl ?_
        refine ar_pickT rfl rfl rfl rfl rfl ?_
        refine ar_nil ?_
        refine then_n ?_
        refine wp_condT rfl ?_
        refine wp_seq ?_
        refine wp_reg (by kernel_rfl) ?_
        refine ar_move rfl rfl rfl rfl ?_
        refine ar_assign rfl rfl rfl rfl ?_
        refine ar_nil ?_
        refine then_n ?_
        refine wp_ret ?_
        refine then_r (ret_post rfl rfl ?_)
        first | rfl | (rw [decide_eq_true (by rw [startF_same hm2 hfl hm3])])
      · refine ar_pickF rfl rfl rfl rfl rfl ?_
        refine ar_move rfl rfl rfl rfl ?_
        refine ar_move rfl rfl rfl rfl ?_
        refine ar_len tab_ok rfl rfl tb28 rfl len_map rfl rfl ?_
        refine ar_fa tab_ok rfl rfl rfl tb27 rfl rfl rfl rfl rfl ?_
        refine ar_ld tab_ok rfl rfl rfl tb22 rfl rfl rfl rfl rfl ?_
        refine ar_len tab_ok rfl rfl tb22 rfl len_map rfl rfl ?_
        refine ar_neq_s rfl rfl rfl rfl rfl (fun h56 => ?_) (fun h56 => ?_)
        · refine ar_pickF rfl rfl rfl rfl rfl ?_
          refine ar_nil ?_
          refine then_n ?_
          refine wp_condT rfl ?_
          refine wp_seq ?_
          refine wp_reg (by kernel_rfl) ?_
          refine ar_move rfl rfl rfl rfl ?_
          refine ar_assign rfl rfl rfl rfl ?_
          refine ar_nil ?_
          refine then_n ?_
          refine wp_ret ?_
          refine then_r (ret_post rfl rfl ?_)
          first | rfl | (rw [decide_eq_true (by rw [startF_same hm2 hfl hm3])])
        · refine ar_pickF rfl rfl rfl rfl rfl ?_
          refine ar_nil ?_
          refine then_n ?_
          refine wp_condF rfl ?_
          refine wp_skip ?_
          refine then_n ?_
          refine wp_seq ?_
          have hg := hb35 h35
          have hbd := hg.bd
          have hins := (hb39 h39).1
          have hfl : fr.length = a.l.length := by omega
          have hot : ot.length = a.l.length := by omega
          have hq2 := hbd.l1
          refine wp_reg (by kernel_rfl) ?_
          refine ar_lda tab_ok rfl rfl rfl tb27 rfl rfl rfl rfl rfl rfl ?_
          refine ar_move rfl rfl rfl rfl ?_
          refine ar_move rfl rfl rfl rfl ?_
          refine ar_call [] (pc_38 a fr ins hbd (by omega)) rfl rfl rfl rfl rfl rfl trivial (.inl rfl) rfl rfl rfl ?_
          refine ar_move rfl rfl rfl rfl ?_
          refine ar_ext rfl rfl rfl rfl rfl ?_
          refine ar_ext rfl rfl rfl rfl rfl ?_
          refine ar_assign rfl rfl rfl rfl ?_
          refine ar_assign rfl rfl rfl rfl ?_
          refine ar_nil ?_
          refine then_n ?_
          refine wp_seq ?_
          refine wp_seq ?_
          refine wp_reg (by kernel_rfl) ?_
          refine ar_assign rfl rfl rfl rfl ?_
          refine ar_nil ?_
          refine then_n ?_
          refine wp_block ?_
          refine wp_loop (α := Nat) (fun j => mk [(3, .ptr 3 0), (4, .v (slB fr)), (5, .v (slBB ins)), (6, .v (.int .u8 n)), (7, .v (slB ot)), (8, .v (.bool true)), (9, .v (slBB (runS a fr ins).1)), (10, .v (.int .i64 (runS a fr ins).2)), (11, .v (.int .i64 (j : Nat)))] [(3, .box ((encA a).map .v))] 0) (fun j => j ≤ ins.length ∧ ∀ q, q < j → ((ins.getD q default).length : Int) = a.i) (fun j => ins.length - j) 0 ⟨Nat.zero_le _, fun q hq => absurd hq (Nat.not_lt_zero q)⟩ (le_to ⟨rfl, rfl, rfl, rfl, rfl, rfl, rfl, rfl, rfl, trivial⟩ ⟨rfl, trivial⟩ rfl rfl rfl rfl) ?_
          rintro j ⟨hj1, hj2⟩
          refine wp_seq ?_
          refine wp_seq ?_
          refine wp_reg (by kernel_rfl) ?_
          refine ar_move rfl rfl rfl rfl ?_
          refine ar_move rfl rfl rfl rfl ?_
          refine ar_len tab_ok rfl rfl tb29 rfl len_map rfl rfl ?_
          refine ar_lss_s rfl rfl rfl rfl rfl (fun h69 => ?_) (fun h69 => ?_)
          · refine ar_nil ?_
            refine then_n ?_
            refine wp_condT rfl ?_
            refine wp_skip ?_
            refine then_n ?_
            refine wp_seq ?_
            refine wp_block ?_
            refine wp_seq ?_
            refine wp_draw (L := [([], []), ([], []), ([], []), ([], []), ([], []), ([3], []), ([3], []), ([], [])]) (by kernel_rfl) mixed (by kernel_rfl) ?_
            refine ar_move rfl rfl rfl rfl ?_
            refine ar_move rfl rfl rfl rfl ?_
            refine ar_ia tab_ok rfl rfl rfl tb29 rfl tb28 (by omega) (map_get (n := j) (by omega)) rfl rfl rfl ?_
            refine ar_ld_ref tab_ok rfl rfl tb28 rfl rfl rfl rfl ?_
            refine ar_len tab_ok rfl rfl tb28 rfl len_map rfl rfl ?_
            refine ar_fa tab_ok rfl rfl rfl tb27 rfl rfl rfl rfl rfl ?_
            refine ar_ld tab_ok rfl rfl rfl tb3 rfl rfl rfl rfl rfl ?_
            refine ar_neq_s rfl rfl rfl rfl rfl (fun h79 => ?_) (fun h79 => ?_)
            · refine ar_nil ?_
              refine then_n ?_
              refine wp_condT rfl ?_
              refine wp_seq ?_
              refine wp_reg (by kernel_rfl) ?_
              refine ar_move rfl rfl rfl rfl ?_
              refine ar_move rfl rfl rfl rfl ?_
              refine ar_move rfl rfl rfl rfl ?_
              refine ar_eql rfl rfl rfl (decide_eq_true (by rw [runS_wrong hfl ⟨_, getD_mem (by omega), h79⟩])) rfl rfl ?_
              refine ar_pickT rfl rfl rfl rfl rfl ?_
              refine ar_move rfl rfl rfl rfl ?_
              refine ar_move rfl rfl rfl rfl ?_
              refine ar_len tab_ok rfl rfl tb29 rfl len_map rfl rfl ?_
              refine ar_eql rfl rfl rfl (decide_eq_true (by rw [runS_wrong hfl ⟨_, getD_mem (by omega), h79⟩]; rfl)) rfl rfl ?_
              refine ar_pickT rfl rfl rfl rfl rfl ?_
              refine ar_assign rfl rfl rfl rfl ?_
              refine ar_nil ?_
              refine then_n ?_
              refine wp_ret ?_
              refine inblk_r (then_r (loop_r (inblk_r (then_r (ret_post rfl rfl ?_)))))
              first | rfl | (rw [decide_eq_true (by rw [startF_same hm2 hfl hm3])])
            · refine ar_nil ?_
              refine then_n ?_
              refine wp_condF rfl ?_
              refine wp_skip ?_
              refine inblk_n ?_
              refine then_n ?_
              refine wp_reg (by kernel_rfl) ?_
              refine ar_move rfl rfl rfl rfl ?_
              refine ar_addi rfl rfl rfl rfl (by omega) (by omega) rfl rfl ?_
              refine ar_assign rfl rfl rfl rfl ?_
              refine ar_nil ?_
              exact loop_n (j + 1) ⟨by omega, fun q hq => (Nat.lt_succ_iff_lt_or_eq.1 hq).elim (hj2 q) (fun e => e ▸ Decidable.not_not.1 h79)⟩ (by omega) (le_to ⟨rfl, rfl, rfl, rfl, rfl, rfl, rfl, rfl, rfl, trivial⟩ ⟨rfl, trivial⟩ rfl rfl rfl rfl)
          · refine ar_nil ?_
            refine then_n ?_
            refine wp_condF rfl ?_
            refine wp_exit ?_
            refine then_x (loop_x (inblk_e ?_))
            refine then_n ?_
            refine wp_seq ?_
            refine wp_seq ?_
            have hall : ∀ r, r ∈ ins → (r.length : Int) = a.i := fun r hr => by obtain ⟨q, hq, rfl⟩ := List.getElem_of_mem hr; have := hj2 q (by omega); rwa [List.getD_eq_getElem?_getD, List.getElem?_eq_getElem hq] at this
            rw [runS_right hfl hall]
            refine wp_reg (by kernel_rfl) ?_
            refine ar_move rfl rfl rfl rfl ?_
            refine ar_neq rfl rfl rfl (decide_eq_false (by exact fun h => h rfl)) rfl rfl ?_
            refine ar_move rfl rfl rfl rfl ?_
            refine ar_move rfl rfl rfl rfl ?_
            refine ar_len tab_ok rfl rfl tb29 rfl len_map rfl rfl ?_
            refine ar_move rfl rfl rfl rfl ?_
            refine ar_len tab_ok rfl rfl tb29 rfl len_map rfl rfl ?_
            refine ar_addi rfl rfl rfl rfl (by omega) (by omega) rfl rfl ?_
            refine ar_neq rfl rfl rfl (decide_eq_false (by show ¬ (((statesR a (startF a.l fr) ins).length : Nat) : Int) ≠ _; rw [statesR_len]; simp)) rfl rfl ?_
            refine ar_pickF rfl rfl rfl rfl rfl ?_
            refine ar_nil ?_
            refine then_n ?_
            refine wp_condF rfl ?_
            refine wp_skip ?_
            refine then_n ?_
            refine wp_seq ?_
            refine wp_seq ?_
            refine wp_reg (by kernel_rfl) ?_
            refine ar_assign rfl rfl rfl rfl ?_
            refine ar_nil ?_
            refine then_n ?_
            refine wp_block ?_
            refine wp_loop (α := Nat) (fun j => mk [(3, .ptr 3 0), (4, .v (slB fr)), (5, .v (slBB ins)), (6, .v (.int .u8 n)), (7, .v (slB ot)), (8, .v (.bool true)), (9, .v (slBB (statesR a (startF a.l fr) ins))), (12, .v (.int .i64 (j : Nat)))] [(3, .box ((encA a).map .v))] 0) (fun j => j ≤ ins.length) (fun j => ins.length - j) 0 (Nat.zero_le _) (le_to ⟨rfl, rfl, rfl, rfl, rfl, rfl, rfl, rfl, trivial⟩ ⟨rfl, trivial⟩ rfl rfl rfl rfl) ?_
            rintro j hinv
            have hrow : ((statesR a (startF a.l fr) ins).getD j default).length = a.l.length := statesR_rows a ins _ (startF_len hfl) _ (getD_mem (by rw [statesR_len]; omega))
            refine wp_seq ?_
            refine wp_seq ?_
            refine wp_reg (by kernel_rfl) ?_
            refine ar_move rfl rfl rfl rfl ?_
            refine ar_move rfl rfl rfl rfl ?_
            refine ar_len tab_ok rfl rfl tb29 rfl len_map rfl rfl ?_
            refine ar_lss_s rfl rfl rfl rfl rfl (fun h103 => ?_) (fun h103 => ?_)
            · refine ar_nil ?_
              refine then_n ?_
              refine wp_condT rfl ?_
              refine wp_skip ?_
              refine then_n ?_
              refine wp_seq ?_
              refine wp_block ?_
              refine wp_seq ?_
              refine wp_draw (L := [([3], []), ([], []), ([], []), ([], []), ([], []), ([], []), ([], []), ([], []), ([], []), ([], []), ([], []), ([], []), ([], []), ([], []), ([14], [14]), ([], []), ([14], [14]), ([], [])]) (by kernel_rfl) mixed (by kernel_rfl) ?_
              refine ar_lda tab_ok rfl rfl rfl tb27 rfl rfl rfl rfl rfl rfl ?_
              refine ar_move rfl rfl rfl rfl ?_
              refine ar_move rfl rfl rfl rfl ?_
              refine ar_ia tab_ok rfl rfl rfl tb29 rfl tb28 (by omega) (map_get (n := j) (by rw [statesR_len]; omega)) rfl rfl rfl ?_
              refine ar_ld_ref tab_ok rfl rfl tb28 rfl rfl rfl rfl ?_
              refine ar_move rfl rfl rfl rfl ?_
              refine ar_move rfl rfl rfl rfl ?_
              refine ar_ia tab_ok rfl rfl rfl tb29 rfl tb28 (by omega) (map_get (n := j) (by omega)) rfl rfl rfl ?_
              refine ar_ld_ref tab_ok rfl rfl tb28 rfl rfl rfl rfl ?_
              refine ar_call [] (pc_34_ok a ((statesR a (startF a.l fr) ins).getD j default) (ins.getD j default) hbd ⟨hrow, hall _ (getD_mem (by omega))⟩) rfl rfl rfl rfl rfl rfl trivial (.inl rfl) rfl rfl rfl ?_
              refine ar_move rfl rfl rfl rfl ?_
              refine ar_ext rfl rfl rfl rfl rfl ?_
              refine ar_ext rfl rfl rfl rfl rfl ?_
              refine ar_ext rfl rfl rfl rfl rfl ?_
              refine ar_alloc (id := 14) tab_ok rfl rfl tb40 rfl rfl rfl rfl ?_
              refine ar_assign rfl rfl rfl rfl ?_
              refine ar_st [] tab_ok rfl tb40 rfl rfl rfl trivial rfl rfl rfl rfl rfl rfl rfl rfl ?_
              refine ar_assign rfl rfl rfl rfl ?_
              refine ar_nil ?_
              refine then_n ?_
              refine wp_seq ?_
              refine wp_reg (by kernel_rfl) ?_
              refine ar_move rfl rfl rfl rfl ?_
              refine ar_neq rfl rfl rfl (decide_eq_false (by exact fun h => h rfl)) rfl rfl ?_
              refine ar_move rfl rfl rfl rfl ?_
              refine ar_move rfl rfl rfl rfl ?_
              refine ar_move rfl rfl rfl rfl ?_
              refine ar_move rfl rfl rfl rfl ?_
              refine ar_addi rfl rfl rfl rfl (by omega) (by omega) rfl rfl ?_
              refine ar_ia tab_ok rfl rfl rfl tb29 rfl tb28 (by omega) (map_get (n := j + 1) (by rw [statesR_len]; omega)) rfl rfl rfl ?_
              refine ar_ld_ref tab_ok rfl rfl tb28 rfl rfl rfl rfl ?_
              refine ar_call [] (pc_40 (nxt a ((statesR a (startF a.l fr) ins).getD j default) (ins.getD j default)) _ (by rw [nxt_len]; omega)) rfl rfl rfl rfl rfl rfl trivial (.inl rfl) rfl rfl rfl ?_
              refine ar_to (d' := .v (.bool true)) (congrArg (fun b => D.v (V.bool b)) (decide_eq_true (statesR_get a ins _ j (by omega)).symm)) ?_
              refine ar_not rfl rfl rfl rfl rfl ?_
              refine ar_pickF rfl rfl rfl rfl rfl ?_
              refine ar_nil ?_
              refine then_n ?_
              refine wp_condF rfl ?_
              refine wp_skip ?_
              refine inblk_n ?_
              refine then_n ?_
              refine wp_reg (by kernel_rfl) ?_
              refine ar_move rfl rfl rfl rfl ?_
              refine ar_addi rfl rfl rfl rfl (by omega) (by omega) rfl rfl ?_
              refine ar_assign rfl rfl rfl rfl ?_
              refine ar_nil ?_
              exact loop_n (j + 1) (by omega) (by omega) (le_to ⟨rfl, rfl, rfl, rfl, rfl, rfl, rfl, rfl, trivial⟩ ⟨rfl, trivial⟩ rfl rfl rfl rfl)
            · refine ar_nil ?_
              refine then_n ?_
              refine wp_condF rfl ?_
              refine wp_exit ?_
              refine then_x (loop_x (inblk_e ?_))
              refine then_n ?_
              refine wp_seq ?_
              have hkk : ∃ kn : Nat, (kn : Int) = n % ((ins.length : Int) + 1) ∧ kn ≤ ins.length := ⟨(n % ((ins.length : Int) + 1)).toNat, Int.toNat_of_nonneg (Int.emod_nonneg _ (by omega)), by have := Int.emod_lt_of_pos n (show 0 < (ins.length : Int) + 1 by omega); omega⟩
              obtain ⟨kn, hk1, hk2⟩ := hkk
              refine wp_reg (by kernel_rfl) ?_
              refine ar_move rfl rfl rfl rfl ?_
              refine ar_conv (z := n) tab_ok rfl rfl tb5 tb3 rfl rfl (IntWalk.i64_in _ ⟨by omega, by omega⟩) rfl rfl ?_
              refine ar_move rfl rfl rfl rfl ?_
              refine ar_len tab_ok rfl rfl tb29 rfl len_map rfl rfl ?_
              refine ar_addi rfl rfl rfl rfl (by omega) (by omega) rfl rfl ?_
              refine ar_rem (z := (kn : Int)) rfl rfl rfl (by omega) (by rw [Int.tmod_eq_emod_of_nonneg (by omega)]; exact hk1.symm) rfl rfl ?_
              refine ar_assign rfl rfl rfl rfl ?_
              refine ar_nil ?_
              refine then_n ?_
              refine wp_seq ?_
              refine wp_draw (L := [([3], []), ([], []), ([], []), ([], []), ([], []), ([], []), ([], []), ([], []), ([], []), ([], []), ([], [])]) (by kernel_rfl) mixed (by kernel_rfl) ?_
              refine ar_lda tab_ok rfl rfl rfl tb27 rfl rfl rfl rfl rfl rfl ?_
              refine ar_move rfl rfl rfl rfl ?_
              refine ar_move rfl rfl rfl rfl ?_
              refine ar_move rfl rfl rfl rfl ?_
              refine ar_slice_hi (es' := (ins.take kn).map encBs) kn tab_ok rfl tb29 rfl tb28 rfl rfl rfl (by simp; omega) (fun el h => by obtain ⟨_, _, rfl⟩ := List.mem_map.1 h; rfl) List.map_take.symm rfl rfl ?_
              refine ar_call [] (pc_38_right a fr (ins.take kn) hbd (by simp; omega) hfl (fun r hr => hall r (List.mem_of_mem_take hr))) rfl rfl rfl rfl rfl rfl trivial (.inl rfl) rfl rfl rfl ?_
              refine ar_move rfl rfl rfl rfl ?_
              refine ar_ext rfl rfl rfl rfl rfl ?_
              refine ar_ext rfl rfl rfl rfl rfl ?_
              refine ar_assign rfl rfl rfl rfl ?_
              refine ar_assign rfl rfl rfl rfl ?_
              refine ar_nil ?_
              refine then_n ?_
              refine wp_seq ?_
              refine wp_reg (by kernel_rfl) ?_
              refine ar_bs_own (es := ([] : List Bool).map encB) 147 [] tab_ok rfl tb28 rfl tb4 rfl rfl ⟨rfl, trivial⟩ rfl rfl rfl rfl rfl rfl rfl rfl rfl ?_
              refine ar_move rfl rfl rfl rfl ?_
              refine ar_app 149 [] tab_ok rfl tb28 rfl tb28 rfl tb4 rfl rfl rfl rfl ⟨rfl, rfl, trivial⟩ rfl (el_4 _) app_map (by constructor <;> simp <;> omega) rfl rfl rfl ?_
              refine ar_assign rfl rfl rfl rfl ?_
              refine ar_nil ?_
              refine then_n ?_
              refine wp_seq ?_
              refine wp_seq ?_
              refine wp_reg (by kernel_rfl) ?_
              refine ar_assign rfl rfl rfl rfl ?_
              refine ar_nil ?_
              refine then_n ?_
              refine wp_block ?_
              refine wp_loop (α := Nat × List Bool) (fun ⟨j, m⟩ => mk [(3, .ptr 3 0), (5, .v (slBB ins)), (7, .v (slB ot)), (8, .v (.bool true)), (9, .v (slBB (statesR a (startF a.l fr) ins))), (16, .v (.int .i64 (kn : Nat))), (17, .v (slBB (statesR a (startF a.l fr) (ins.take kn)))), (18, .v (.int .i64 0)), (19, .own 149), (20, .v (.int .i64 (j : Nat)))] [(3, .box ((encA a).map .v)), (149, .row 4 1 (m.map encB))] 0) (fun ⟨j, m⟩ => j ≤ a.l.length ∧ m.length = a.l.length ∧ ∀ q, q < a.l.length → ¬ (a.l.getD q default).reset < 2 → m.getD q default = fr.getD q default) (fun ⟨j, m⟩ => a.l.length - j) ⟨0, fr⟩ ⟨Nat.zero_le _, hfl, fun _ _ _ => rfl⟩ (le_to ⟨rfl, rfl, rfl, rfl, rfl, rfl, rfl, rfl, rfl, rfl, trivial⟩ ⟨rfl, rfl, trivial⟩ rfl rfl rfl rfl) ?_
              rintro ⟨j, m⟩ ⟨hm1, hm2, hm3⟩
              refine wp_seq ?_
              refine wp_seq ?_
              refine wp_reg (by kernel_rfl) ?_
              refine ar_move rfl rfl rfl rfl ?_
              refine ar_fa tab_ok rfl rfl rfl tb27 rfl rfl rfl rfl rfl ?_
              refine ar_ld tab_ok rfl rfl rfl tb22 rfl rfl rfl rfl rfl ?_
              refine ar_len tab_ok rfl rfl tb22 rfl len_map rfl rfl ?_
              refine ar_lss_s rfl rfl rfl rfl rfl (fun h154 => ?_) (fun h154 => ?_)
              · refine ar_nil ?_
                refine then_n ?_
                refine wp_condT rfl ?_
                refine wp_skip ?_
                refine then_n ?_
                refine wp_seq ?_
                refine wp_block ?_
                refine wp_seq ?_
                refine wp_reg (by kernel_rfl) ?_
                refine ar_fa tab_ok rfl rfl rfl tb27 rfl rfl rfl rfl rfl ?_
                refine ar_ld tab_ok rfl rfl rfl tb22 rfl rfl rfl rfl rfl ?_
                refine ar_move rfl rfl rfl rfl ?_
                refine ar_ia tab_ok rfl rfl rfl tb22 rfl tb63 (by omega) (map_get (n := j) (by omega)) rfl rfl rfl ?_
                refine ar_fa_ref tab_ok rfl rfl tb63 rfl rfl rfl rfl ?_
                refine ar_ld_ref tab_ok rfl rfl tb3 rfl rfl rfl rfl ?_
                refine ar_lss_s rfl rfl rfl rfl rfl (fun h163 => ?_) (fun h163 => ?_)
                · refine ar_nil ?_
                  refine then_n ?_
                  refine wp_condT rfl ?_
                  refine wp_reg (by kernel_rfl) ?_
                  refine ar_move rfl rfl rfl rfl ?_
                  refine ar_move rfl rfl rfl rfl ?_
                  refine ar_move rfl rfl rfl rfl ?_
                  refine ar_move rfl rfl rfl rfl ?_
                  refine ar_ia tab_ok rfl rfl rfl tb28 rfl tb4 (by omega) (map_get (n := j) (by omega)) rfl rfl rfl ?_
                  refine ar_ld_ref tab_ok rfl rfl tb4 rfl rfl rfl rfl ?_
                  refine ar_ia_own tab_ok rfl rfl rfl rfl tb28 rfl tb4 rfl (by omega) (by simp; omega) rfl rfl rfl rfl ?_
                  refine ar_st_e tab_ok rfl tb4 rfl rfl rfl rfl rfl (by simp; omega) set_map rfl rfl rfl ?_
                  refine ar_nil ?_
                  refine inblk_n ?_
                  refine then_n ?_
                  refine wp_reg (by kernel_rfl) ?_
                  refine ar_move rfl rfl rfl rfl ?_
                  refine ar_addi rfl rfl rfl rfl (by omega) (by omega) rfl rfl ?_
                  refine ar_assign rfl rfl rfl rfl ?_
                  refine ar_nil ?_
                  exact loop_n ⟨j + 1, _⟩ (by first | exact ⟨by omega, hm2, hm3⟩ | exact ⟨by omega, by simp [hm2], fun q hq hr => by have hne : ((j : Int)).toNat ≠ q := (fun e => hr (by have e2 : j = q := (by omega); exact e2 ▸ h163)); rw [List.getD_eq_getElem?_getD, List.getElem?_set_ne hne, ← List.getD_eq_getElem?_getD]; exact hm3 q hq hr⟩) (by show a.l.length - (j + 1) < a.l.length - j; omega) (le_to ⟨rfl, rfl, rfl, rfl, rfl, rfl, rfl, rfl, rfl, rfl, trivial⟩ ⟨rfl, rfl, trivial⟩ rfl rfl rfl rfl)
                · refine ar_nil ?_
                  refine then_n ?_
                  refine wp_condF rfl ?_
                  refine wp_skip ?_
                  refine inblk_n ?_
                  refine then_n ?_
                  refine wp_reg (by kernel_rfl) ?_
                  refine ar_move rfl rfl rfl rfl ?_
                  refine ar_addi rfl rfl rfl rfl (by omega) (by omega) rfl rfl ?_
                  refine ar_assign rfl rfl rfl rfl ?_
                  refine ar_nil ?_
                  exact loop_n ⟨j + 1, _⟩ (by first | exact ⟨by omega, hm2, hm3⟩ | exact ⟨by omega, by simp [hm2], fun q hq hr => by have hne : ((j : Int)).toNat ≠ q := (fun e => hr (by have e2 : j = q := (by omega); exact e2 ▸ h163)); rw [List.getD_eq_getElem?_getD, List.getElem?_set_ne hne, ← List.getD_eq_getElem?_getD]; exact hm3 q hq hr⟩) (by show a.l.length - (j + 1) < a.l.length - j; omega) (le_to ⟨rfl, rfl, rfl, rfl, rfl, rfl, rfl, rfl, rfl, rfl, trivial⟩ ⟨rfl, rfl, trivial⟩ rfl rfl rfl rfl)
              · refine ar_nil ?_
                refine then_n ?_
                refine wp_condF rfl ?_
                refine wp_exit ?_
                refine then_x (loop_x (inblk_e ?_))
                refine then_n ?_
                refine wp_seq ?_
                refine wp_le (le_give_row (id := 149) rfl) ?_
                refine wp_to [(3, .ptr 3 0), (5, .v (slBB ins)), (8, .v (.bool true)), (9, .v (slBB (statesR a (startF a.l fr) ins))), (16, .v (.int .i64 (kn : Nat))), (17, .v (slBB (statesR a (startF a.l fr) (ins.take kn)))), (18, .v (.int .i64 0)), (19, .v (slB m))] [(3, .box ((encA a).map .v))] ⟨rfl, rfl, rfl, rfl, rfl, rfl, rfl, rfl, trivial⟩ ⟨rfl, trivial⟩ rfl rfl rfl rfl ?_
                refine wp_reg (by kernel_rfl) ?_
                refine ar_lda tab_ok rfl rfl rfl tb27 rfl rfl rfl rfl rfl rfl ?_
                refine ar_move rfl rfl rfl rfl ?_
                refine ar_move rfl rfl rfl rfl ?_
                refine ar_call [] (pc_38_right a m ins hbd (by omega) hm2 hall) rfl rfl rfl rfl rfl rfl trivial (.inl rfl) rfl rfl rfl ?_
                refine ar_move rfl rfl rfl rfl ?_
                refine ar_ext rfl rfl rfl rfl rfl ?_
                refine ar_ext rfl rfl rfl rfl rfl ?_
                refine ar_assign rfl rfl rfl rfl ?_
                refine ar_assign rfl rfl rfl rfl ?_
                refine ar_nil ?_
                refine then_n ?_
                refine wp_seq ?_
                refine wp_reg (by kernel_rfl) ?_
                refine ar_move rfl rfl rfl rfl ?_
                refine ar_move rfl rfl rfl rfl ?_
                refine ar_move rfl rfl rfl rfl ?_
                refine ar_eql rfl rfl rfl (decide_eq_true (by rfl)) rfl rfl ?_
                refine ar_pickT rfl rfl rfl rfl rfl ?_
                refine ar_move rfl rfl rfl rfl ?_
                refine ar_move rfl rfl rfl rfl ?_
                refine ar_eql rfl rfl rfl (decide_eq_true (by rfl)) rfl rfl ?_
                refine ar_pickT rfl rfl rfl rfl rfl ?_
                refine ar_move rfl rfl rfl rfl ?_
                refine ar_move rfl rfl rfl rfl ?_
                refine ar_move rfl rfl rfl rfl ?_
                refine ar_move rfl rfl rfl rfl ?_
                refine ar_addi rfl rfl rfl rfl (by omega) (by omega) rfl rfl ?_
                refine ar_slice_hi (es' := ((statesR a (startF a.l fr) ins).take (kn + 1)).map encBs) (kn + 1) tab_ok rfl tb29 rfl tb28 rfl rfl rfl (by have := statesR_len a ins (startF a.l fr); simp at this ⊢; omega) (fun el h => by obtain ⟨_, _, rfl⟩ := List.mem_map.1 h; rfl) List.map_take.symm rfl rfl ?_
                refine ar_call [] (pc_41 _ _ (by rw [statesR_len]; simp; omega) (fun r hr => by have := statesR_rows a (ins.take kn) _ (startF_len hfl) r hr; omega)) rfl rfl rfl rfl rfl rfl trivial (.inl rfl) rfl rfl rfl ?_
                refine ar_to (d' := .v (.bool true)) (congrArg (fun b => D.v (V.bool b)) (decide_eq_true (statesR_take a ins _ kn hk2))) ?_
                refine ar_pickT rfl rfl rfl rfl rfl ?_
                refine ar_move rfl rfl rfl rfl ?_
                refine ar_move rfl rfl rfl rfl ?_
                refine ar_move rfl rfl rfl rfl ?_
                refine ar_call [] (pc_41 _ _ (by rw [statesR_len]; omega) (fun r hr => by have := statesR_rows a ins _ (startF_len hm2) r hr; omega)) rfl rfl rfl rfl rfl rfl trivial (.inl rfl) rfl rfl rfl ?_
                refine ar_pickT rfl rfl rfl rfl rfl ?_
                refine ar_assign rfl rfl rfl rfl ?_
                refine ar_nil ?_
                refine then_n ?_
                refine wp_ret ?_
                refine ret_post rfl rfl ?_
                first | rfl | (rw [decide_eq_true (by rw [startF_same hm2 hfl hm3])])
    · refine ar_not rfl rfl rfl rfl rfl ?_
      refine ar_pickF rfl rfl rfl rfl rfl ?_
      refine ar_move rfl rfl rfl rfl ?_
      refine ar_skip rfl rfl ?_
      refine ar_skip rfl rfl ?_
      refine ar_skip rfl rfl ?_
      refine ar_skip rfl rfl ?_
      refine ar_skip rfl rfl ?_
      refine ar_skip rfl rfl ?_
      refine ar_pickT rfl rfl rfl rfl rfl ?_
      refine ar_move rfl rfl rfl rfl ?_
      refine ar_skip rfl rfl ?_
      refine ar_skip rfl rfl ?_
      refine ar_skip rfl rfl ?_
      refine ar_skip rfl rfl ?_
      refine ar_skip rfl rfl ?_
      refine ar_skip rfl rfl ?_
      refine ar_pickT rfl rfl rfl rfl rfl ?_
      refine ar_nil ?_
      refine then_n ?_
      refine wp_condT rfl ?_
      refine wp_seq ?_
      refine wp_reg (by kernel_rfl) ?_
      refine ar_move rfl rfl rfl rfl ?_
      refine ar_assign rfl rfl rfl rfl ?_
      refine ar_nil ?_
      refine then_n ?_
      refine wp_ret ?_
      refine then_r (ret_post rfl rfl ?_)
      first | rfl | (rw [decide_eq_true (by rw [startF_same hm2 hfl hm3])])
  · refine ar_not rfl rfl rfl rfl rfl ?_
    refine ar_move rfl rfl rfl rfl ?_
    refine ar_skip rfl rfl ?_
    refine ar_skip rfl rfl ?_
    refine ar_skip rfl rfl ?_
    refine ar_pickT rfl rfl rfl rfl rfl ?_
    refine ar_move rfl rfl rfl rfl ?_
    refine ar_skip rfl rfl ?_
    refine ar_skip rfl rfl ?_
    refine ar_skip rfl rfl ?_
    refine ar_skip rfl rfl ?_
    refine ar_skip rfl rfl ?_
    refine ar_skip rfl rfl ?_
    refine ar_pickT rfl rfl rfl rfl rfl ?_
    refine ar_move rfl rfl rfl rfl ?_
    refine ar_skip rfl rfl ?_
    refine ar_skip rfl rfl ?_
    refine ar_skip rfl rfl ?_
    refine ar_skip rfl rfl ?_
    refine ar_skip rfl rfl ?_
    refine ar_skip rfl rfl ?_
    refine ar_pickT rfl rfl rfl rfl rfl ?_
    refine ar_nil ?_
    refine then_n ?_
    refine wp_condT rfl ?_
    refine wp_seq ?_
    refine wp_reg (by kernel_rfl) ?_
    refine ar_move rfl rfl rfl rfl ?_
    refine ar_assign rfl rfl rfl rfl ?_
    refine ar_nil ?_
    refine then_n ?_
    refine wp_ret ?_
    refine then_r (ret_post rfl rfl ?_)
    first | rfl | (rw [decide_eq_true (by rw [startF_same hm2 hfl hm3])])

end Go.Vd
