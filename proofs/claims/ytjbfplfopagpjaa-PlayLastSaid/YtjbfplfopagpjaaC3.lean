/- A model that may be asked about is a good one. -/
import Derived.Test.YtjbfplfopagpjaaC2
namespace Go.Vd
open Go.Proofs

structure SmallP (a : Aig) (n : Int) : Prop where
  i1 : a.i ≤ n
  l1 : (a.l.length : Int) ≤ n
  g1 : (a.g.length : Int) ≤ n
  o1 : (a.outs.length : Int) ≤ n
  b1 : (a.bad.length : Int) ≤ n
  c1 : (a.con.length : Int) ≤ n

def latchR (a : Aig) (j : Nat) (l : Latch) : Prop := 0 ≤ l.next ∧ l.next ≤ 2 * varsS a + 1 ∧ (l.reset = 0 ∨ l.reset = 1 ∨ l.reset = 2 * (a.i + j + 1))
def gateR (a : Aig) (j : Nat) (g : Gate) : Prop := 0 ≤ g.b ∧ g.b ≤ g.a ∧ g.a < 2 * (a.i + a.l.length + j + 1)

structure RightP (a : Aig) : Prop where
  i0 : 0 ≤ a.i
  outs : litsR a.outs (varsS a)
  bad : litsR a.bad (varsS a)
  con : litsR a.con (varsS a)
  l : ∀ j, j < a.l.length → latchR a j (a.l.getD j default)
  g : ∀ j, j < a.g.length → gateR a j (a.g.getD j default)

structure Good (a : Aig) : Prop where
  small : SmallP a 40
  right : RightP a

/-- Sizes that memory holds. -/
structure Fit (a : Aig) : Prop where
  l : a.l.length ≤ 9223372036854775807
  g : a.g.length ≤ 9223372036854775807
  o : a.outs.length ≤ 9223372036854775807
  b : a.bad.length ≤ 9223372036854775807
  c : a.con.length ≤ 9223372036854775807
  n : a.names.length ≤ 9223372036854775807
  s : ∀ j, j < a.names.length → (a.names.getD j default).s.size ≤ 9223372036854775807

theorem pce_91 (a : Aig) (n : Int) (hf : Fit a) : PCallE Try.prog 91 [aigV a, .int .i64 n] (fun r => ∃ b : Bool, r = .bool b ∧ (b = true → SmallP a n)) := by
  refine pce_of tab_ok (f := 91) (fn := Try.f91) (N := 67) (rs := [.tmp 4]) (by kernel_rfl) rfl (by kernel_rfl) rfl rfl [(0, .v (aigV a)), (1, .v (.int .i64 n))] ⟨rfl, rfl, trivial⟩ rfl rfl ?_
  intro B
  have hn := hf.n
  refine wp_seq ?_
  refine wp_reg (by kernel_rfl) ?_
  refine ar_box 2 [] rfl rfl rfl ⟨rfl, trivial⟩ rfl rfl rfl ?_
  refine ar_assign rfl rfl rfl rfl ?_
  refine ar_nil ?_
  refine then_n ?_
  refine wp_seq ?_
  refine wp_seq ?_
  refine wp_reg (by kernel_rfl) ?_
  refine ar_fa tab_ok rfl rfl rfl tb27 rfl rfl rfl rfl rfl ?_
  refine ar_ld tab_ok rfl rfl rfl tb3 rfl rfl rfl rfl rfl ?_
  refine ar_move rfl rfl rfl rfl ?_
  refine ar_gtr_s rfl rfl rfl rfl rfl (fun h9 => ?_) (fun h9 => ?_)
  · refine ar_move rfl rfl rfl rfl ?_
    refine ar_skip rfl rfl ?_
    refine ar_skip rfl rfl ?_
    refine ar_skip rfl rfl ?_
    refine ar_skip rfl rfl ?_
    refine ar_skip rfl rfl ?_
    refine ar_pickT rfl rfl rfl rfl rfl ?_
    refine ar_move rfl rfl rfl rfl ?_
    refine ar_skip rfl rfl ?_
    refine ar_skip rfl rfl ?_
    refine ar_skip rfl rfl ?_
    refine ar_skip rfl rfl ?_
    refine ar_skip rfl rfl ?_
    refine ar_pickT rfl rfl rfl rfl rfl ?_
    refine ar_move rfl rfl rfl rfl ?_
    refine ar_skip rfl rfl ?_
    refine ar_skip rfl rfl ?_
    refine ar_skip rfl rfl ?_
    refine ar_skip rfl rfl ?_
    refine ar_skip rfl rfl ?_
    refine ar_pickT rfl rfl rfl rfl rfl ?_
    refine ar_move rfl rfl rfl rfl ?_
    refine ar_skip rfl rfl ?_
    refine ar_skip rfl rfl ?_
    refine ar_skip rfl rfl ?_
    refine ar_skip rfl rfl ?_
    refine ar_skip rfl rfl ?_
    refine ar_pickT rfl rfl rfl rfl rfl ?_
    refine ar_move rfl rfl rfl rfl ?_
    refine ar_skip rfl rfl ?_
    refine ar_skip rfl rfl ?_
    refine ar_skip rfl rfl ?_
    refine ar_skip rfl rfl ?_
    refine ar_skip rfl rfl ?_
    refine ar_pickT rfl rfl rfl rfl rfl ?_
    refine ar_move rfl rfl rfl rfl ?_
    refine ar_skip rfl rfl ?_
    refine ar_skip rfl rfl ?_
    refine ar_skip rfl rfl ?_
    refine ar_skip rfl rfl ?_
    refine ar_skip rfl rfl ?_
    refine ar_pickT rfl rfl rfl rfl rfl ?_
    refine ar_nil ?_
    refine then_n ?_
    refine wp_condT rfl ?_
    refine wp_seq ?_
    refine wp_reg (by kernel_rfl) ?_
    refine ar_assign rfl rfl rfl rfl ?_
    refine ar_nil ?_
    refine then_n ?_
    refine wp_ret ?_
    refine then_r (ret_postE rfl rfl ?_)
    exact ⟨_, rfl, fun h => by cases h⟩
  · refine ar_move rfl rfl rfl rfl ?_
    refine ar_fa tab_ok rfl rfl rfl tb27 rfl rfl rfl rfl rfl ?_
    refine ar_ld tab_ok rfl rfl rfl tb22 rfl rfl rfl rfl rfl ?_
    refine ar_len tab_ok rfl rfl tb22 rfl len_map rfl rfl ?_
    refine ar_move rfl rfl rfl rfl ?_
    refine ar_gtr_s rfl rfl rfl rfl rfl (fun h15 => ?_) (fun h15 => ?_)
    · refine ar_pickF rfl rfl rfl rfl rfl ?_
      refine ar_move rfl rfl rfl rfl ?_
      refine ar_skip rfl rfl ?_
      refine ar_skip rfl rfl ?_
      refine ar_skip rfl rfl ?_
      refine ar_skip rfl rfl ?_
      refine ar_skip rfl rfl ?_
      refine ar_pickT rfl rfl rfl rfl rfl ?_
      refine ar_move rfl rfl rfl rfl ?_
      refine ar_skip rfl rfl ?_
      refine ar_skip rfl rfl ?_
      refine ar_skip rfl rfl ?_
      refine ar_skip rfl rfl ?_
      refine ar_skip rfl rfl ?_
      refine ar_pickT rfl rfl rfl rfl rfl ?_
      refine ar_move rfl rfl rfl rfl ?_
      refine ar_skip rfl rfl ?_
      refine ar_skip rfl rfl ?_
      refine ar_skip rfl rfl ?_
      refine ar_skip rfl rfl ?_
      refine ar_skip rfl rfl ?_
      refine ar_pickT rfl rfl rfl rfl rfl ?_
      refine ar_move rfl rfl rfl rfl ?_
      refine ar_skip rfl rfl ?_
      refine ar_skip rfl rfl ?_
      refine ar_skip rfl rfl ?_
      refine ar_skip rfl rfl ?_
      refine ar_skip rfl rfl ?_
      refine ar_pickT rfl rfl rfl rfl rfl ?_
      refine ar_move rfl rfl rfl rfl ?_
      refine ar_skip rfl rfl ?_
      refine ar_skip rfl rfl ?_
      refine ar_skip rfl rfl ?_
      refine ar_skip rfl rfl ?_
      refine ar_skip rfl rfl ?_
      refine ar_pickT rfl rfl rfl rfl rfl ?_
      refine ar_nil ?_
      refine then_n ?_
      refine wp_condT rfl ?_
      refine wp_seq ?_
      refine wp_reg (by kernel_rfl) ?_
      refine ar_assign rfl rfl rfl rfl ?_
      refine ar_nil ?_
      refine then_n ?_
      refine wp_ret ?_
      refine then_r (ret_postE rfl rfl ?_)
      exact ⟨_, rfl, fun h => by cases h⟩
    · refine ar_pickF rfl rfl rfl rfl rfl ?_
      refine ar_move rfl rfl rfl rfl ?_
      refine ar_fa tab_ok rfl rfl rfl tb27 rfl rfl rfl rfl rfl ?_
      refine ar_ld tab_ok rfl rfl rfl tb23 rfl rfl rfl rfl rfl ?_
      refine ar_len tab_ok rfl rfl tb23 rfl len_map rfl rfl ?_
      refine ar_move rfl rfl rfl rfl ?_
      refine ar_gtr_s rfl rfl rfl rfl rfl (fun h22 => ?_) (fun h22 => ?_)
      · refine ar_pickF rfl rfl rfl rfl rfl ?_
        refine ar_move rfl rfl rfl rfl ?_
        refine ar_skip rfl rfl ?_
        refine ar_skip rfl rfl ?_
        refine ar_skip rfl rfl ?_
        refine ar_skip rfl rfl ?_
        refine ar_skip rfl rfl ?_
        refine ar_pickT rfl rfl rfl rfl rfl ?_
        refine ar_move rfl rfl rfl rfl ?_
        refine ar_skip rfl rfl ?_
        refine ar_skip rfl rfl ?_
        refine ar_skip rfl rfl ?_
        refine ar_skip rfl rfl ?_
        refine ar_skip rfl rfl ?_
        refine ar_pickT rfl rfl rfl rfl rfl ?_
        refine ar_move rfl rfl rfl rfl ?_
        refine ar_skip rfl rfl ?_
        refine ar_skip rfl rfl ?_
        refine ar_skip rfl rfl ?_
        refine ar_skip rfl rfl ?_
        refine ar_skip rfl rfl ?_
        refine ar_pickT rfl rfl rfl rfl rfl ?_
        refine ar_move rfl rfl rfl rfl ?_
        refine ar_skip rfl rfl ?_
        refine ar_skip rfl rfl ?_
        refine ar_skip rfl rfl ?_
        refine ar_skip rfl rfl ?_
        refine ar_skip rfl rfl ?_
        refine ar_pickT rfl rfl rfl rfl rfl ?_
        refine ar_nil ?_
        refine then_n ?_
        refine wp_condT rfl ?_
        refine wp_seq ?_
        refine wp_reg (by kernel_rfl) ?_
        refine ar_assign rfl rfl rfl rfl ?_
        refine ar_nil ?_
        refine then_n ?_
        refine wp_ret ?_
        refine then_r (ret_postE rfl rfl ?_)
        exact ⟨_, rfl, fun h => by cases h⟩
      · refine ar_pickF rfl rfl rfl rfl rfl ?_
        refine ar_move rfl rfl rfl rfl ?_
        refine ar_fa tab_ok rfl rfl rfl tb27 rfl rfl rfl rfl rfl ?_
        refine ar_ld tab_ok rfl rfl rfl tb24 rfl rfl rfl rfl rfl ?_
        refine ar_len tab_ok rfl rfl tb24 rfl len_map rfl rfl ?_
        refine ar_move rfl rfl rfl rfl ?_
        refine ar_gtr_s rfl rfl rfl rfl rfl (fun h29 => ?_) (fun h29 => ?_)
        · refine ar_pickF rfl rfl rfl rfl rfl ?_
          refine ar_move rfl rfl rfl rfl ?_
          refine ar_skip rfl rfl ?_
          refine ar_skip rfl rfl ?_
          refine ar_skip rfl rfl ?_
          refine ar_skip rfl rfl ?_
          refine ar_skip rfl rfl ?_
          refine ar_pickT rfl rfl rfl rfl rfl ?_
          refine ar_move rfl rfl rfl rfl ?_
          refine ar_skip rfl rfl ?_
          refine ar_skip rfl rfl ?_
          refine ar_skip rfl rfl ?_
          refine ar_skip rfl rfl ?_
          refine ar_skip rfl rfl ?_
          refine ar_pickT rfl rfl rfl rfl rfl ?_
          refine ar_move rfl rfl rfl rfl ?_
          refine ar_skip rfl rfl ?_
          refine ar_skip rfl rfl ?_
          refine ar_skip rfl rfl ?_
          refine ar_skip rfl rfl ?_
          refine ar_skip rfl rfl ?_
          refine ar_pickT rfl rfl rfl rfl rfl ?_
          refine ar_nil ?_
          refine then_n ?_
          refine wp_condT rfl ?_
          refine wp_seq ?_
          refine wp_reg (by kernel_rfl) ?_
          refine ar_assign rfl rfl rfl rfl ?_
          refine ar_nil ?_
          refine then_n ?_
          refine wp_ret ?_
          refine then_r (ret_postE rfl rfl ?_)
          exact ⟨_, rfl, fun h => by cases h⟩
        · refine ar_pickF rfl rfl rfl rfl rfl ?_
          refine ar_move rfl rfl rfl rfl ?_
          refine ar_fa tab_ok rfl rfl rfl tb27 rfl rfl rfl rfl rfl ?_
          refine ar_ld tab_ok rfl rfl rfl tb24 rfl rfl rfl rfl rfl ?_
          refine ar_len tab_ok rfl rfl tb24 rfl len_map rfl rfl ?_
          refine ar_move rfl rfl rfl rfl ?_
          refine ar_gtr_s rfl rfl rfl rfl rfl (fun h36 => ?_) (fun h36 => ?_)
          · refine ar_pickF rfl rfl rfl rfl rfl ?_
            refine ar_move rfl rfl rfl rfl ?_
            refine ar_skip rfl rfl ?_
            refine ar_skip rfl rfl ?_
            refine ar_skip rfl rfl ?_
            refine ar_skip rfl rfl ?_
            refine ar_skip rfl rfl ?_
            refine ar_pickT rfl rfl rfl rfl rfl ?_
            refine ar_move rfl rfl rfl rfl ?_
            refine ar_skip rfl rfl ?_
            refine ar_skip rfl rfl ?_
            refine ar_skip rfl rfl ?_
            refine ar_skip rfl rfl ?_
            refine ar_skip rfl rfl ?_
            refine ar_pickT rfl rfl rfl rfl rfl ?_
            refine ar_nil ?_
            refine then_n ?_
            refine wp_condT rfl ?_
            refine wp_seq ?_
            refine wp_reg (by kernel_rfl) ?_
            refine ar_assign rfl rfl rfl rfl ?_
            refine ar_nil ?_
            refine then_n ?_
            refine wp_ret ?_
            refine then_r (ret_postE rfl rfl ?_)
            exact ⟨_, rfl, fun h => by cases h⟩
          · refine ar_pickF rfl rfl rfl rfl rfl ?_
            refine ar_move rfl rfl rfl rfl ?_
            refine ar_fa tab_ok rfl rfl rfl tb27 rfl rfl rfl rfl rfl ?_
            refine ar_ld tab_ok rfl rfl rfl tb24 rfl rfl rfl rfl rfl ?_
            refine ar_len tab_ok rfl rfl tb24 rfl len_map rfl rfl ?_
            refine ar_move rfl rfl rfl rfl ?_
            refine ar_gtr_s rfl rfl rfl rfl rfl (fun h43 => ?_) (fun h43 => ?_)
            · refine ar_pickF rfl rfl rfl rfl rfl ?_
              refine ar_move rfl rfl rfl rfl ?_
              refine ar_skip rfl rfl ?_
              refine ar_skip rfl rfl ?_
              refine ar_skip rfl rfl ?_
              refine ar_skip rfl rfl ?_
              refine ar_skip rfl rfl ?_
              refine ar_pickT rfl rfl rfl rfl rfl ?_
              refine ar_nil ?_
              refine then_n ?_
              refine wp_condT rfl ?_
              refine wp_seq ?_
              refine wp_reg (by kernel_rfl) ?_
              refine ar_assign rfl rfl rfl rfl ?_
              refine ar_nil ?_
              refine then_n ?_
              refine wp_ret ?_
              refine then_r (ret_postE rfl rfl ?_)
              exact ⟨_, rfl, fun h => by cases h⟩
            · refine ar_pickF rfl rfl rfl rfl rfl ?_
              refine ar_move rfl rfl rfl rfl ?_
              refine ar_fa tab_ok rfl rfl rfl tb27 rfl rfl rfl rfl rfl ?_
              refine ar_ld tab_ok rfl rfl rfl tb25 rfl rfl rfl rfl rfl ?_
              refine ar_len tab_ok rfl rfl tb25 rfl len_map rfl rfl ?_
              refine ar_move rfl rfl rfl rfl ?_
              refine ar_gtr_s rfl rfl rfl rfl rfl (fun h50 => ?_) (fun h50 => ?_)
              · refine ar_pickF rfl rfl rfl rfl rfl ?_
                refine ar_nil ?_
                refine then_n ?_
                refine wp_condT rfl ?_
                refine wp_seq ?_
                refine wp_reg (by kernel_rfl) ?_
                refine ar_assign rfl rfl rfl rfl ?_
                refine ar_nil ?_
                refine then_n ?_
                refine wp_ret ?_
                refine then_r (ret_postE rfl rfl ?_)
                exact ⟨_, rfl, fun h => by cases h⟩
              · refine ar_pickF rfl rfl rfl rfl rfl ?_
                refine ar_nil ?_
                refine then_n ?_
                refine wp_condF rfl ?_
                refine wp_skip ?_
                refine then_n ?_
                refine wp_seq ?_
                refine wp_seq ?_
                refine wp_reg (by kernel_rfl) ?_
                refine ar_assign rfl rfl rfl rfl ?_
                refine ar_nil ?_
                refine then_n ?_
                refine wp_block ?_
                refine wp_loop (α := Nat) (fun j => mk [(2, .ptr 2 0), (5, .v (.int .i64 (j : Nat)))] [(2, .box ((encA a).map .v))] 0) (fun j => j ≤ a.names.length) (fun j => a.names.length - j) 0 (Nat.zero_le _) (le_to ⟨rfl, rfl, trivial⟩ ⟨rfl, trivial⟩ rfl rfl rfl rfl) ?_
                rintro j hinv
                refine wp_seq ?_
                refine wp_seq ?_
                refine wp_reg (by kernel_rfl) ?_
                refine ar_move rfl rfl rfl rfl ?_
                refine ar_fa tab_ok rfl rfl rfl tb27 rfl rfl rfl rfl rfl ?_
                refine ar_ld tab_ok rfl rfl rfl tb25 rfl rfl rfl rfl rfl ?_
                refine ar_len tab_ok rfl rfl tb25 rfl len_map rfl rfl ?_
                refine ar_lss_s rfl rfl rfl rfl rfl (fun h56 => ?_) (fun h56 => ?_)
                · refine ar_nil ?_
                  refine then_n ?_
                  refine wp_condT rfl ?_
                  refine wp_skip ?_
                  refine then_n ?_
                  refine wp_seq ?_
                  refine wp_block ?_
                  refine wp_seq ?_
                  refine wp_reg (by kernel_rfl) ?_
                  refine ar_fa tab_ok rfl rfl rfl tb27 rfl rfl rfl rfl rfl ?_
                  refine ar_ld tab_ok rfl rfl rfl tb25 rfl rfl rfl rfl rfl ?_
                  refine ar_move rfl rfl rfl rfl ?_
                  refine ar_ia tab_ok rfl rfl rfl tb25 rfl tb171 (by omega) (map_get (by omega)) rfl rfl rfl ?_
                  refine ar_fa_ref tab_ok rfl rfl tb171 rfl rfl rfl rfl ?_
                  refine ar_ld_ref tab_ok rfl rfl tb9 rfl rfl rfl rfl ?_
                  refine ar_len_str tab_ok rfl rfl tb9 rfl rfl rfl ?_
                  refine ar_gtr_s rfl rfl rfl rfl rfl (fun h66 => ?_) (fun h66 => ?_)
                  · refine ar_nil ?_
                    refine then_n ?_
                    refine wp_condT rfl ?_
                    refine wp_seq ?_
                    refine wp_reg (by kernel_rfl) ?_
                    refine ar_assign rfl rfl rfl rfl ?_
                    refine ar_nil ?_
                    refine then_n ?_
                    refine wp_ret ?_
                    refine inblk_r (then_r (loop_r (inblk_r (then_r (ret_postE rfl rfl ?_)))))
                    exact ⟨_, rfl, fun h => by cases h⟩
                  · refine ar_nil ?_
                    refine then_n ?_
                    refine wp_condF rfl ?_
                    refine wp_skip ?_
                    refine inblk_n ?_
                    refine then_n ?_
                    refine wp_reg (by kernel_rfl) ?_
                    refine ar_move rfl rfl rfl rfl ?_
                    refine ar_addi rfl rfl rfl rfl (by omega) (by omega) rfl rfl ?_
                    refine ar_assign rfl rfl rfl rfl ?_
                    refine ar_nil ?_
                    exact loop_n (j + 1) (by omega) (by omega) (le_to ⟨rfl, rfl, trivial⟩ ⟨rfl, trivial⟩ rfl rfl rfl rfl)
                · refine ar_nil ?_
                  refine then_n ?_
                  refine wp_condF rfl ?_
                  refine wp_exit ?_
                  refine then_x (loop_x (inblk_e ?_))
                  refine then_n ?_
                  refine wp_seq ?_
                  refine wp_reg (by kernel_rfl) ?_
                  refine ar_assign rfl rfl rfl rfl ?_
                  refine ar_nil ?_
                  refine then_n ?_
                  refine wp_ret ?_
                  refine ret_postE rfl rfl ?_
                  refine ⟨_, rfl, fun _ => ⟨by omega, by omega, by omega, by omega, by omega, by omega⟩⟩


def kindS (c : Int) : Int := if c = 105 then 0 else if c = 108 then 1 else if c = 111 then 2 else if c = 98 then 3 else if c = 99 then 4 else -1
theorem kindS_found {c : Int} {j : Nat} (hj : j < 5) (hn : ∀ q, q < j → kindL.getD q 0 ≠ c) (h : kindL.getD j 0 = c) : kindS c = j := by
  rcases j with _ | _ | _ | _ | _ | j
  · subst h; rfl
  · subst h; rfl
  · subst h; rfl
  · subst h; rfl
  · subst h; rfl
  · omega
theorem kindS_none {c : Int} (hn : ∀ q, q < 5 → kindL.getD q 0 ≠ c) : kindS c = -1 := by
  have h0 := hn 0 (by omega); have h1 := hn 1 (by omega); have h2 := hn 2 (by omega); have h3 := hn 3 (by omega); have h4 := hn 4 (by omega)
  simp only [kindL, List.getD_cons_zero, List.getD_cons_succ] at h0 h1 h2 h3 h4
  simp [kindS, Ne.symm h0, Ne.symm h1, Ne.symm h2, Ne.symm h3, Ne.symm h4]
def manyS (a : Aig) (n : Int) : Int := if n = 0 then a.i else if n = 1 then a.l.length else if n = 2 then a.outs.length else if n = 3 then a.bad.length else if n = 4 then a.con.length else 0
def behindS (x y : Name) : Bool := decide (kindS x.kind < kindS y.kind) || (decide (kindS x.kind = kindS y.kind) && decide (x.pos < y.pos))

theorem pc_133 (c : Int) : PCall Try.prog 133 [.int .u8 c] (.int .i64 (kindS c)) := by
  refine pc_of tab_ok (f := 133) (fn := Try.f133) (N := 17) (rs := [.tmp 2]) (by kernel_rfl) rfl (by kernel_rfl) rfl rfl [(0, .v (.int .u8 c))] ⟨rfl, trivial⟩ rfl rfl ?_
  intro B
  refine wp_seq ?_
  refine wp_reg (by kernel_rfl) ?_
  refine ar_assign rfl rfl rfl rfl ?_
  refine ar_nil ?_
  refine then_n ?_
  refine wp_seq ?_
  refine wp_reg (by kernel_rfl) ?_
  refine ar_bs (es := kindL.map encU) [] tab_ok rfl tb146 rfl tb5 rfl trivial rfl rfl rfl rfl rfl rfl rfl rfl ?_
  refine ar_assign rfl rfl rfl rfl ?_
  refine ar_nil ?_
  refine then_n ?_
  refine wp_seq ?_
  refine wp_seq ?_
  refine wp_reg (by kernel_rfl) ?_
  refine ar_assign rfl rfl rfl rfl ?_
  refine ar_nil ?_
  refine then_n ?_
  refine wp_block ?_
  refine wp_loop (α := Nat) (fun j => mk [(0, .v (.int .u8 c)), (3, .v (.sl (kindL.map encU))), (4, .v (.int .i64 (j : Nat)))] [] 0) (fun j => j ≤ 5 ∧ ∀ q, q < j → kindL.getD q 0 ≠ c) (fun j => 5 - j) 0 ⟨by omega, fun q hq => absurd hq (Nat.not_lt_zero q)⟩ (le_to ⟨rfl, rfl, rfl, trivial⟩ trivial rfl rfl rfl rfl) ?_
  rintro j ⟨hj1, hj2⟩
  refine wp_seq ?_
  refine wp_seq ?_
  refine wp_reg (by kernel_rfl) ?_
  refine ar_move rfl rfl rfl rfl ?_
  refine ar_lss_s rfl rfl rfl rfl rfl (fun h7 => ?_) (fun h7 => ?_)
  · refine ar_nil ?_
    refine then_n ?_
    refine wp_condT rfl ?_
    refine wp_skip ?_
    refine then_n ?_
    refine wp_seq ?_
    refine wp_block ?_
    refine wp_seq ?_
    refine wp_reg (by kernel_rfl) ?_
    refine ar_move rfl rfl rfl rfl ?_
    refine ar_move rfl rfl rfl rfl ?_
    refine ar_ia tab_ok rfl rfl rfl tb146 rfl tb5 (by omega) (map_get (xs := kindL) (n := j) (by show _ < 5; omega)) rfl rfl rfl ?_
    refine ar_ld_ref tab_ok rfl rfl tb5 rfl rfl rfl rfl ?_
    refine ar_move rfl rfl rfl rfl ?_
    refine ar_eql_s rfl rfl rfl rfl rfl (fun h15 => ?_) (fun h15 => ?_)
    · refine ar_nil ?_
      refine then_n ?_
      refine wp_condT rfl ?_
      refine wp_seq ?_
      refine wp_reg (by kernel_rfl) ?_
      refine ar_move rfl rfl rfl rfl ?_
      refine ar_assign rfl rfl rfl rfl ?_
      refine ar_nil ?_
      refine then_n ?_
      refine wp_ret ?_
      refine inblk_r (then_r (loop_r (inblk_r (then_r (ret_post rfl rfl ?_)))))
      rw [kindS_found (by omega) hj2 h15]
    · refine ar_nil ?_
      refine then_n ?_
      refine wp_condF rfl ?_
      refine wp_skip ?_
      refine inblk_n ?_
      refine then_n ?_
      refine wp_reg (by kernel_rfl) ?_
      refine ar_move rfl rfl rfl rfl ?_
      refine ar_addi rfl rfl rfl rfl (by omega) (by omega) rfl rfl ?_
      refine ar_assign rfl rfl rfl rfl ?_
      refine ar_nil ?_
      exact loop_n (j + 1) ⟨by omega, fun q hq => (Nat.lt_succ_iff_lt_or_eq.1 hq).elim (hj2 q) (fun e => e ▸ h15)⟩ (by omega) (le_to ⟨rfl, rfl, rfl, trivial⟩ trivial rfl rfl rfl rfl)
  · refine ar_nil ?_
    refine then_n ?_
    refine wp_condF rfl ?_
    refine wp_exit ?_
    refine then_x (loop_x (inblk_e ?_))
    refine then_n ?_
    refine wp_seq ?_
    refine wp_reg (by kernel_rfl) ?_
    refine ar_assign rfl rfl rfl rfl ?_
    refine ar_nil ?_
    refine then_n ?_
    refine wp_ret ?_
    refine ret_post rfl rfl ?_
    rw [kindS_none fun q hq => hj2 q (by omega)]

theorem pc_132 (a : Aig) (n : Int) : PCall Try.prog 132 [aigV a, .int .i64 n] (.int .i64 (manyS a n)) := by
  refine pc_of tab_ok (f := 132) (fn := Try.f132) (N := 30) (rs := [.tmp 4]) (by kernel_rfl) rfl (by kernel_rfl) rfl rfl [(0, .v (aigV a)), (1, .v (.int .i64 n))] ⟨rfl, rfl, trivial⟩ rfl rfl ?_
  intro B
  refine wp_seq ?_
  refine wp_reg (by kernel_rfl) ?_
  refine ar_box 2 [] rfl rfl rfl ⟨rfl, trivial⟩ rfl rfl rfl ?_
  refine ar_assign rfl rfl rfl rfl ?_
  refine ar_nil ?_
  refine then_n ?_
  refine wp_seq ?_
  refine wp_seq ?_
  refine wp_reg (by kernel_rfl) ?_
  refine ar_move rfl rfl rfl rfl ?_
  refine ar_nil ?_
  refine then_n ?_
  refine wp_block ?_
  refine wp_seq ?_
  refine wp_reg (by kernel_rfl) ?_
  refine ar_eql_s rfl rfl rfl rfl rfl (fun h7 => ?_) (fun h7 => ?_)
  · refine ar_assign rfl rfl rfl rfl ?_
    refine ar_nil ?_
    refine then_n ?_
    refine wp_condT rfl ?_
    refine wp_seq ?_
    refine wp_reg (by kernel_rfl) ?_
    refine ar_fa tab_ok rfl rfl rfl tb27 rfl rfl rfl rfl rfl ?_
    refine ar_ld tab_ok rfl rfl rfl tb3 rfl rfl rfl rfl rfl ?_
    refine ar_assign rfl rfl rfl rfl ?_
    refine ar_nil ?_
    refine then_n ?_
    refine wp_ret ?_
    refine inblk_r (then_r (ret_post rfl rfl ?_))
    simp [manyS, *]
  · refine ar_assign rfl rfl rfl rfl ?_
    refine ar_nil ?_
    refine then_n ?_
    refine wp_condF rfl ?_
    refine wp_seq ?_
    refine wp_reg (by kernel_rfl) ?_
    refine ar_eql_s rfl rfl rfl rfl rfl (fun h11 => ?_) (fun h11 => ?_)
    · refine ar_assign rfl rfl rfl rfl ?_
      refine ar_nil ?_
      refine then_n ?_
      refine wp_condT rfl ?_
      refine wp_seq ?_
      refine wp_reg (by kernel_rfl) ?_
      refine ar_fa tab_ok rfl rfl rfl tb27 rfl rfl rfl rfl rfl ?_
      refine ar_ld tab_ok rfl rfl rfl tb22 rfl rfl rfl rfl rfl ?_
      refine ar_len tab_ok rfl rfl tb22 rfl len_map rfl rfl ?_
      refine ar_assign rfl rfl rfl rfl ?_
      refine ar_nil ?_
      refine then_n ?_
      refine wp_ret ?_
      refine inblk_r (then_r (ret_post rfl rfl ?_))
      simp [manyS, *]
    · refine ar_assign rfl rfl rfl rfl ?_
      refine ar_nil ?_
      refine then_n ?_
      refine wp_condF rfl ?_
      refine wp_seq ?_
      refine wp_reg (by kernel_rfl) ?_
      refine ar_eql_s rfl rfl rfl rfl rfl (fun h16 => ?_) (fun h16 => ?_)
      · refine ar_assign rfl rfl rfl rfl ?_
        refine ar_nil ?_
        refine then_n ?_
        refine wp_condT rfl ?_
        refine wp_seq ?_
        refine wp_reg (by kernel_rfl) ?_
        refine ar_fa tab_ok rfl rfl rfl tb27 rfl rfl rfl rfl rfl ?_
        refine ar_ld tab_ok rfl rfl rfl tb24 rfl rfl rfl rfl rfl ?_
        refine ar_len tab_ok rfl rfl tb24 rfl len_map rfl rfl ?_
        refine ar_assign rfl rfl rfl rfl ?_
        refine ar_nil ?_
        refine then_n ?_
        refine wp_ret ?_
        refine inblk_r (then_r (ret_post rfl rfl ?_))
        simp [manyS, *]
      · refine ar_assign rfl rfl rfl rfl ?_
        refine ar_nil ?_
        refine then_n ?_
        refine wp_condF rfl ?_
        refine wp_seq ?_
        refine wp_reg (by kernel_rfl) ?_
        refine ar_eql_s rfl rfl rfl rfl rfl (fun h21 => ?_) (fun h21 => ?_)
        · refine ar_assign rfl rfl rfl rfl ?_
          refine ar_nil ?_
          refine then_n ?_
          refine wp_condT rfl ?_
          refine wp_seq ?_
          refine wp_reg (by kernel_rfl) ?_
          refine ar_fa tab_ok rfl rfl rfl tb27 rfl rfl rfl rfl rfl ?_
          refine ar_ld tab_ok rfl rfl rfl tb24 rfl rfl rfl rfl rfl ?_
          refine ar_len tab_ok rfl rfl tb24 rfl len_map rfl rfl ?_
          refine ar_assign rfl rfl rfl rfl ?_
          refine ar_nil ?_
          refine then_n ?_
          refine wp_ret ?_
          refine inblk_r (then_r (ret_post rfl rfl ?_))
          simp [manyS, *]
        · refine ar_assign rfl rfl rfl rfl ?_
          refine ar_nil ?_
          refine then_n ?_
          refine wp_condF rfl ?_
          refine wp_seq ?_
          refine wp_reg (by kernel_rfl) ?_
          refine ar_eql_s rfl rfl rfl rfl rfl (fun h26 => ?_) (fun h26 => ?_)
          · refine ar_assign rfl rfl rfl rfl ?_
            refine ar_nil ?_
            refine then_n ?_
            refine wp_condT rfl ?_
            refine wp_seq ?_
            refine wp_reg (by kernel_rfl) ?_
            refine ar_fa tab_ok rfl rfl rfl tb27 rfl rfl rfl rfl rfl ?_
            refine ar_ld tab_ok rfl rfl rfl tb24 rfl rfl rfl rfl rfl ?_
            refine ar_len tab_ok rfl rfl tb24 rfl len_map rfl rfl ?_
            refine ar_assign rfl rfl rfl rfl ?_
            refine ar_nil ?_
            refine then_n ?_
            refine wp_ret ?_
            refine inblk_r (then_r (ret_post rfl rfl ?_))
            simp [manyS, *]
          · refine ar_assign rfl rfl rfl rfl ?_
            refine ar_nil ?_
            refine then_n ?_
            refine wp_condF rfl ?_
            refine wp_skip ?_
            refine inblk_n ?_
            refine then_n ?_
            refine wp_seq ?_
            refine wp_reg (by kernel_rfl) ?_
            refine ar_assign rfl rfl rfl rfl ?_
            refine ar_nil ?_
            refine then_n ?_
            refine wp_ret ?_
            refine ret_post rfl rfl ?_
            simp [manyS, *]

theorem pc_134 (x y : Name) : PCall Try.prog 134 [.agg (encN x), .agg (encN y)] (.bool (behindS x y)) := by
  refine pc_of tab_ok (f := 134) (fn := Try.f134) (N := 28) (rs := [.tmp 4]) (by kernel_rfl) rfl (by kernel_rfl) rfl rfl [(0, .v (.agg (encN x))), (1, .v (.agg (encN y)))] ⟨rfl, rfl, trivial⟩ rfl rfl ?_
  intro B
  refine wp_seq ?_
  refine wp_reg (by kernel_rfl) ?_
  refine ar_box 2 [] rfl rfl rfl ⟨rfl, trivial⟩ rfl rfl rfl ?_
  refine ar_box 3 [] rfl rfl rfl ⟨rfl, trivial⟩ rfl rfl rfl ?_
  refine ar_assign rfl rfl rfl rfl ?_
  refine ar_nil ?_
  refine then_n ?_
  refine wp_seq ?_
  refine wp_reg (by kernel_rfl) ?_
  refine ar_fa tab_ok rfl rfl rfl tb171 rfl rfl rfl rfl rfl ?_
  refine ar_ld tab_ok rfl rfl rfl tb5 rfl rfl rfl rfl rfl ?_
  refine ar_call [] (pc_133 _) rfl rfl rfl rfl rfl rfl trivial (.inl rfl) rfl rfl rfl ?_
  refine ar_assign rfl rfl rfl rfl ?_
  refine ar_nil ?_
  refine then_n ?_
  refine wp_seq ?_
  refine wp_reg (by kernel_rfl) ?_
  refine ar_fa tab_ok rfl rfl rfl tb171 rfl rfl rfl rfl rfl ?_
  refine ar_ld tab_ok rfl rfl rfl tb5 rfl rfl rfl rfl rfl ?_
  refine ar_call [] (pc_133 _) rfl rfl rfl rfl rfl rfl trivial (.inl rfl) rfl rfl rfl ?_
  refine ar_assign rfl rfl rfl rfl ?_
  refine ar_nil ?_
  refine then_n ?_
  refine wp_seq ?_
  refine wp_reg (by kernel_rfl) ?_
  refine ar_move rfl rfl rfl rfl ?_
  refine ar_move rfl rfl rfl rfl ?_
  refine ar_lss_s rfl rfl rfl rfl rfl (fun h15 => ?_) (fun h15 => ?_)
  · refine ar_move rfl rfl rfl rfl ?_
    refine ar_skip rfl rfl ?_
    refine ar_skip rfl rfl ?_
    refine ar_skip rfl rfl ?_
    refine ar_skip rfl rfl ?_
    refine ar_skip rfl rfl ?_
    refine ar_skip rfl rfl ?_
    refine ar_skip rfl rfl ?_
    refine ar_skip rfl rfl ?_
    refine ar_skip rfl rfl ?_
    refine ar_skip rfl rfl ?_
    refine ar_pickT rfl rfl rfl rfl rfl ?_
    refine ar_assign rfl rfl rfl rfl ?_
    refine ar_nil ?_
    refine then_n ?_
    refine wp_ret ?_
    refine ret_post rfl rfl ?_
    simp [behindS, *]
  · refine ar_move rfl rfl rfl rfl ?_
    refine ar_move rfl rfl rfl rfl ?_
    refine ar_move rfl rfl rfl rfl ?_
    refine ar_eql_s rfl rfl rfl rfl rfl (fun h19 => ?_) (fun h19 => ?_)
    · refine ar_move rfl rfl rfl rfl ?_
      refine ar_fa tab_ok rfl rfl rfl tb171 rfl rfl rfl rfl rfl ?_
      refine ar_ld tab_ok rfl rfl rfl tb3 rfl rfl rfl rfl rfl ?_
      refine ar_fa tab_ok rfl rfl rfl tb171 rfl rfl rfl rfl rfl ?_
      refine ar_ld tab_ok rfl rfl rfl tb3 rfl rfl rfl rfl rfl ?_
      refine ar_lss rfl rfl rfl rfl rfl rfl ?_
      refine ar_pickT rfl rfl rfl rfl rfl ?_
      refine ar_pickF rfl rfl rfl rfl rfl ?_
      refine ar_assign rfl rfl rfl rfl ?_
      refine ar_nil ?_
      refine then_n ?_
      refine wp_ret ?_
      refine ret_post rfl rfl ?_
      simp [behindS, *]
    · refine ar_move rfl rfl rfl rfl ?_
      refine ar_skip rfl rfl ?_
      refine ar_skip rfl rfl ?_
      refine ar_skip rfl rfl ?_
      refine ar_skip rfl rfl ?_
      refine ar_skip rfl rfl ?_
      refine ar_pickF rfl rfl rfl rfl rfl ?_
      refine ar_pickF rfl rfl rfl rfl rfl ?_
      refine ar_assign rfl rfl rfl rfl ?_
      refine ar_nil ?_
      refine then_n ?_
      refine wp_ret ?_
      refine ret_post rfl rfl ?_
      simp [behindS, *]

theorem pce_92 (a : Aig) (hf : Fit a) : PCallE Try.prog 92 [aigV a] (fun r => ∃ b : Bool, r = .bool b ∧ (b = true → RightP a)) := by
  refine pce_of tab_ok (f := 92) (fn := Try.f92) (N := 195) (rs := [.tmp 2]) (by kernel_rfl) rfl (by kernel_rfl) rfl rfl [(0, .v (aigV a))] ⟨rfl, trivial⟩ rfl rfl ?_
  intro B
  have hn := hf.n; have hv : varsS a = a.i + a.l.length + a.g.length := rfl
  refine wp_seq ?_
  refine wp_reg (by kernel_rfl) ?_
  refine ar_box 1 [] rfl rfl rfl ⟨rfl, trivial⟩ rfl rfl rfl ?_
  refine ar_assign rfl rfl rfl rfl ?_
  refine ar_nil ?_
  refine then_n ?_
  refine wp_seq ?_
  refine wp_seq ?_
  refine wp_reg (by kernel_rfl) ?_
  refine ar_fa tab_ok rfl rfl rfl tb27 rfl rfl rfl rfl rfl ?_
  refine ar_ld tab_ok rfl rfl rfl tb3 rfl rfl rfl rfl rfl ?_
  refine ar_lss_s rfl rfl rfl rfl rfl (fun h17 => ?_) (fun h17 => ?_)
  · refine ar_move rfl rfl rfl rfl ?_
    refine ar_skip rfl rfl ?_
    refine ar_skip rfl rfl ?_
    refine ar_skip rfl rfl ?_
    refine ar_pickT rfl rfl rfl rfl rfl ?_
    refine ar_move rfl rfl rfl rfl ?_
    refine ar_skip rfl rfl ?_
    refine ar_skip rfl rfl ?_
    refine ar_skip rfl rfl ?_
    refine ar_skip rfl rfl ?_
    refine ar_pickT rfl rfl rfl rfl rfl ?_
    refine ar_move rfl rfl rfl rfl ?_
    refine ar_skip rfl rfl ?_
    refine ar_skip rfl rfl ?_
    refine ar_skip rfl rfl ?_
    refine ar_skip rfl rfl ?_
    refine ar_pickT rfl rfl rfl rfl rfl ?_
    refine ar_move rfl rfl rfl rfl ?_
    refine ar_skip rfl rfl ?_
    refine ar_skip rfl rfl ?_
    refine ar_skip rfl rfl ?_
    refine ar_pickT rfl rfl rfl rfl rfl ?_
    refine ar_move rfl rfl rfl rfl ?_
    refine ar_skip rfl rfl ?_
    refine ar_skip rfl rfl ?_
    refine ar_skip rfl rfl ?_
    refine ar_skip rfl rfl ?_
    refine ar_pickT rfl rfl rfl rfl rfl ?_
    refine ar_nil ?_
    refine then_n ?_
    refine wp_condT rfl ?_
    refine wp_seq ?_
    refine wp_reg (by kernel_rfl) ?_
    refine ar_assign rfl rfl rfl rfl ?_
    refine ar_nil ?_
    refine then_n ?_
    refine wp_ret ?_
    refine then_r (ret_postE rfl rfl ?_)
    exact ⟨_, rfl, fun h => by cases h⟩
  · refine ar_move rfl rfl rfl rfl ?_
    refine ar_fa tab_ok rfl rfl rfl tb27 rfl rfl rfl rfl rfl ?_
    refine ar_ld tab_ok rfl rfl rfl tb3 rfl rfl rfl rfl rfl ?_
    refine ar_gtr_s rfl rfl rfl rfl rfl (fun h21 => ?_) (fun h21 => ?_)
    · refine ar_pickF rfl rfl rfl rfl rfl ?_
      refine ar_move rfl rfl rfl rfl ?_
      refine ar_skip rfl rfl ?_
      refine ar_skip rfl rfl ?_
      refine ar_skip rfl rfl ?_
      refine ar_skip rfl rfl ?_
      refine ar_pickT rfl rfl rfl rfl rfl ?_
      refine ar_move rfl rfl rfl rfl ?_
      refine ar_skip rfl rfl ?_
      refine ar_skip rfl rfl ?_
      refine ar_skip rfl rfl ?_
      refine ar_skip rfl rfl ?_
      refine ar_pickT rfl rfl rfl rfl rfl ?_
      refine ar_move rfl rfl rfl rfl ?_
      refine ar_skip rfl rfl ?_
      refine ar_skip rfl rfl ?_
      refine ar_skip rfl rfl ?_
      refine ar_pickT rfl rfl rfl rfl rfl ?_
      refine ar_move rfl rfl rfl rfl ?_
      refine ar_skip rfl rfl ?_
      refine ar_skip rfl rfl ?_
      refine ar_skip rfl rfl ?_
      refine ar_skip rfl rfl ?_
      refine ar_pickT rfl rfl rfl rfl rfl ?_
      refine ar_nil ?_
      refine then_n ?_
      refine wp_condT rfl ?_
      refine wp_seq ?_
      refine wp_reg (by kernel_rfl) ?_
      refine ar_assign rfl rfl rfl rfl ?_
      refine ar_nil ?_
      refine then_n ?_
      refine wp_ret ?_
      refine then_r (ret_postE rfl rfl ?_)
      exact ⟨_, rfl, fun h => by cases h⟩
    · refine ar_pickF rfl rfl rfl rfl rfl ?_
      refine ar_move rfl rfl rfl rfl ?_
      refine ar_fa tab_ok rfl rfl rfl tb27 rfl rfl rfl rfl rfl ?_
      refine ar_ld tab_ok rfl rfl rfl tb22 rfl rfl rfl rfl rfl ?_
      refine ar_len tab_ok rfl rfl tb22 rfl len_map rfl rfl ?_
      refine ar_gtr_s rfl rfl rfl rfl rfl (fun h27 => ?_) (fun h27 => ?_)
      · refine ar_pickF rfl rfl rfl rfl rfl ?_
        refine ar_move rfl rfl rfl rfl ?_
        refine ar_skip rfl rfl ?_
        refine ar_skip rfl rfl ?_
        refine ar_skip rfl rfl ?_
        refine ar_skip rfl rfl ?_
        refine ar_pickT rfl rfl rfl rfl rfl ?_
        refine ar_move rfl rfl rfl rfl ?_
        refine ar_skip rfl rfl ?_
        refine ar_skip rfl rfl ?_
        refine ar_skip rfl rfl ?_
        refine ar_pickT rfl rfl rfl rfl rfl ?_
        refine ar_move rfl rfl rfl rfl ?_
        refine ar_skip rfl rfl ?_
        refine ar_skip rfl rfl ?_
        refine ar_skip rfl rfl ?_
        refine ar_skip rfl rfl ?_
        refine ar_pickT rfl rfl rfl rfl rfl ?_
        refine ar_nil ?_
        refine then_n ?_
        refine wp_condT rfl ?_
        refine wp_seq ?_
        refine wp_reg (by kernel_rfl) ?_
        refine ar_assign rfl rfl rfl rfl ?_
        refine ar_nil ?_
        refine then_n ?_
        refine wp_ret ?_
        refine then_r (ret_postE rfl rfl ?_)
        exact ⟨_, rfl, fun h => by cases h⟩
      · refine ar_pickF rfl rfl rfl rfl rfl ?_
        refine ar_move rfl rfl rfl rfl ?_
        refine ar_fa tab_ok rfl rfl rfl tb27 rfl rfl rfl rfl rfl ?_
        refine ar_ld tab_ok rfl rfl rfl tb23 rfl rfl rfl rfl rfl ?_
        refine ar_len tab_ok rfl rfl tb23 rfl len_map rfl rfl ?_
        refine ar_gtr_s rfl rfl rfl rfl rfl (fun h33 => ?_) (fun h33 => ?_)
        · refine ar_pickF rfl rfl rfl rfl rfl ?_
          refine ar_move rfl rfl rfl rfl ?_
          refine ar_skip rfl rfl ?_
          refine ar_skip rfl rfl ?_
          refine ar_skip rfl rfl ?_
          refine ar_pickT rfl rfl rfl rfl rfl ?_
          refine ar_move rfl rfl rfl rfl ?_
          refine ar_skip rfl rfl ?_
          refine ar_skip rfl rfl ?_
          refine ar_skip rfl rfl ?_
          refine ar_skip rfl rfl ?_
          refine ar_pickT rfl rfl rfl rfl rfl ?_
          refine ar_nil ?_
          refine then_n ?_
          refine wp_condT rfl ?_
          refine wp_seq ?_
          refine wp_reg (by kernel_rfl) ?_
          refine ar_assign rfl rfl rfl rfl ?_
          refine ar_nil ?_
          refine then_n ?_
          refine wp_ret ?_
          refine then_r (ret_postE rfl rfl ?_)
          exact ⟨_, rfl, fun h => by cases h⟩
        · refine ar_pickF rfl rfl rfl rfl rfl ?_
          refine ar_move rfl rfl rfl rfl ?_
          refine ar_lda tab_ok rfl rfl rfl tb27 rfl rfl rfl rfl rfl rfl ?_
          refine ar_call [] (pc_129 a (by omega) (by omega) (by omega) (by omega)) rfl rfl rfl rfl rfl rfl trivial (.inl rfl) rfl rfl rfl ?_
          refine ar_gtr_s rfl rfl rfl rfl rfl (fun h38 => ?_) (fun h38 => ?_)
          · refine ar_pickF rfl rfl rfl rfl rfl ?_
            refine ar_move rfl rfl rfl rfl ?_
            refine ar_skip rfl rfl ?_
            refine ar_skip rfl rfl ?_
            refine ar_skip rfl rfl ?_
            refine ar_skip rfl rfl ?_
            refine ar_pickT rfl rfl rfl rfl rfl ?_
            refine ar_nil ?_
            refine then_n ?_
            refine wp_condT rfl ?_
            refine wp_seq ?_
            refine wp_reg (by kernel_rfl) ?_
            refine ar_assign rfl rfl rfl rfl ?_
            refine ar_nil ?_
            refine then_n ?_
            refine wp_ret ?_
            refine then_r (ret_postE rfl rfl ?_)
            exact ⟨_, rfl, fun h => by cases h⟩
          · refine ar_pickF rfl rfl rfl rfl rfl ?_
            refine ar_move rfl rfl rfl rfl ?_
            refine ar_fa tab_ok rfl rfl rfl tb27 rfl rfl rfl rfl rfl ?_
            refine ar_ld tab_ok rfl rfl rfl tb25 rfl rfl rfl rfl rfl ?_
            refine ar_len tab_ok rfl rfl tb25 rfl len_map rfl rfl ?_
            refine ar_gtr_s rfl rfl rfl rfl rfl (fun h44 => ?_) (fun h44 => ?_)
            · refine ar_pickF rfl rfl rfl rfl rfl ?_
              refine ar_nil ?_
              refine then_n ?_
              refine wp_condT rfl ?_
              refine wp_seq ?_
              refine wp_reg (by kernel_rfl) ?_
              refine ar_assign rfl rfl rfl rfl ?_
              refine ar_nil ?_
              refine then_n ?_
              refine wp_ret ?_
              refine then_r (ret_postE rfl rfl ?_)
              exact ⟨_, rfl, fun h => by cases h⟩
            · refine ar_pickF rfl rfl rfl rfl rfl ?_
              refine ar_nil ?_
              refine then_n ?_
              refine wp_condF rfl ?_
              refine wp_skip ?_
              refine then_n ?_
              refine wp_seq ?_
              refine wp_reg (by kernel_rfl) ?_
              refine ar_lda tab_ok rfl rfl rfl tb27 rfl rfl rfl rfl rfl rfl ?_
              refine ar_call [] (pc_129 a (by omega) (by omega) (by omega) (by omega)) rfl rfl rfl rfl rfl rfl trivial (.inl rfl) rfl rfl rfl ?_
              refine ar_assign rfl rfl rfl rfl ?_
              refine ar_nil ?_
              refine then_n ?_
              refine wp_seq ?_
              refine wp_reg (by kernel_rfl) ?_
              refine ar_fa tab_ok rfl rfl rfl tb27 rfl rfl rfl rfl rfl ?_
              refine ar_ld tab_ok rfl rfl rfl tb24 rfl rfl rfl rfl rfl ?_
              refine ar_move rfl rfl rfl rfl ?_
              refine ar_callE [] (pce_130 a.outs (varsS a) hf.o (by omega) (by omega)) rfl rfl rfl rfl rfl rfl trivial (.inl rfl) rfl rfl rfl ?_
              rintro _ ⟨b51, rfl, hb51⟩
              refine ar_split (fun h51 => ?_) (fun h51 => ?_)
              · refine ar_assign rfl rfl rfl rfl ?_
                refine ar_nil ?_
                refine then_n ?_
                refine wp_seq ?_
                refine wp_reg (by kernel_rfl) ?_
                refine ar_fa tab_ok rfl rfl rfl tb27 rfl rfl rfl rfl rfl ?_
                refine ar_ld tab_ok rfl rfl rfl tb24 rfl rfl rfl rfl rfl ?_
                refine ar_move rfl rfl rfl rfl ?_
                refine ar_callE [] (pce_130 a.bad (varsS a) hf.b (by omega) (by omega)) rfl rfl rfl rfl rfl rfl trivial (.inl rfl) rfl rfl rfl ?_
                rintro _ ⟨b55, rfl, hb55⟩
                refine ar_split (fun h55 => ?_) (fun h55 => ?_)
                · refine ar_assign rfl rfl rfl rfl ?_
                  refine ar_nil ?_
                  refine then_n ?_
                  refine wp_seq ?_
                  refine wp_reg (by kernel_rfl) ?_
                  refine ar_fa tab_ok rfl rfl rfl tb27 rfl rfl rfl rfl rfl ?_
                  refine ar_ld tab_ok rfl rfl rfl tb24 rfl rfl rfl rfl rfl ?_
                  refine ar_move rfl rfl rfl rfl ?_
                  refine ar_callE [] (pce_130 a.con (varsS a) hf.c (by omega) (by omega)) rfl rfl rfl rfl rfl rfl trivial (.inl rfl) rfl rfl rfl ?_
                  rintro _ ⟨b59, rfl, hb59⟩
                  refine ar_split (fun h59 => ?_) (fun h59 => ?_)
                  · refine ar_assign rfl rfl rfl rfl ?_
                    refine ar_nil ?_
                    refine then_n ?_
                    refine wp_seq ?_
                    refine wp_seq ?_
                    refine wp_reg (by kernel_rfl) ?_
                    refine ar_move rfl rfl rfl rfl ?_
                    refine ar_not rfl rfl rfl rfl rfl ?_
                    refine ar_move rfl rfl rfl rfl ?_
                    refine ar_move rfl rfl rfl rfl ?_
                    refine ar_not rfl rfl rfl rfl rfl ?_
                    refine ar_pickF rfl rfl rfl rfl rfl ?_
                    refine ar_move rfl rfl rfl rfl ?_
                    refine ar_move rfl rfl rfl rfl ?_
                    refine ar_not rfl rfl rfl rfl rfl ?_
                    refine ar_pickF rfl rfl rfl rfl rfl ?_
                    refine ar_nil ?_
                    refine then_n ?_
                    refine wp_condF rfl ?_
                    refine wp_skip ?_
                    refine then_n ?_
                    refine wp_seq ?_
                    refine wp_seq ?_
                    refine wp_reg (by kernel_rfl) ?_
                    refine ar_assign rfl rfl rfl rfl ?_
                    refine ar_nil ?_
                    refine then_n ?_
                    refine wp_block ?_
                    refine wp_loop (α := Nat) (fun j1 => mk [(1, .ptr 1 0), (3, .v (.int .i64 (varsS a))), (7, .v (.int .i64 (j1 : Nat)))] [(1, .box ((encA a).map .v))] 0) (fun j1 => j1 ≤ a.l.length ∧ ∀ q, q < j1 → latchR a q (a.l.getD q default)) (fun j1 => a.l.length - j1) 0 ⟨Nat.zero_le _, fun q hq => absurd hq (Nat.not_lt_zero q)⟩ (le_to ⟨rfl, rfl, rfl, trivial⟩ ⟨rfl, trivial⟩ rfl rfl rfl rfl) ?_
                    rintro j1 ⟨hj1a, hj1b⟩
                    refine wp_seq ?_
                    refine wp_seq ?_
                    refine wp_reg (by kernel_rfl) ?_
                    refine ar_move rfl rfl rfl rfl ?_
                    refine ar_fa tab_ok rfl rfl rfl tb27 rfl rfl rfl rfl rfl ?_
                    refine ar_ld tab_ok rfl rfl rfl tb22 rfl rfl rfl rfl rfl ?_
                    refine ar_len tab_ok rfl rfl tb22 rfl len_map rfl rfl ?_
                    refine ar_lss_s rfl rfl rfl rfl rfl (fun h74 => ?_) (fun h74 => ?_)
                    · refine ar_nil ?_
                      refine then_n ?_
                      refine wp_condT rfl ?_
                      refine wp_skip ?_
                      refine then_n ?_
                      refine wp_seq ?_
                      refine wp_block ?_
                      refine wp_seq ?_
                      refine wp_reg (by kernel_rfl) ?_
                      refine ar_fa tab_ok rfl rfl rfl tb27 rfl rfl rfl rfl rfl ?_
                      refine ar_ld tab_ok rfl rfl rfl tb22 rfl rfl rfl rfl rfl ?_
                      refine ar_move rfl rfl rfl rfl ?_
                      refine ar_ia tab_ok rfl rfl rfl tb22 rfl tb63 (by omega) (map_get (n := j1) (by omega)) rfl rfl rfl ?_
                      refine ar_ld_refa tab_ok rfl rfl tb63 rfl rfl rfl rfl rfl ?_
                      refine ar_alloc (id := 8) tab_ok rfl rfl tb63 rfl rfl rfl rfl ?_
                      refine ar_st [] tab_ok rfl tb63 rfl rfl rfl trivial rfl rfl rfl rfl rfl rfl rfl rfl ?_
                      refine ar_nil ?_
                      refine then_n ?_
                      refine wp_seq ?_
                      refine wp_reg (by kernel_rfl) ?_
                      refine ar_fa tab_ok rfl rfl rfl tb63 rfl rfl rfl rfl rfl ?_
                      refine ar_ld tab_ok rfl rfl rfl tb3 rfl rfl rfl rfl rfl ?_
                      refine ar_lss_s rfl rfl rfl rfl rfl (fun h84 => ?_) (fun h84 => ?_)
                      · refine ar_move rfl rfl rfl rfl ?_
                        refine ar_skip rfl rfl ?_
                        refine ar_skip rfl rfl ?_
                        refine ar_skip rfl rfl ?_
                        refine ar_skip rfl rfl ?_
                        refine ar_skip rfl rfl ?_
                        refine ar_skip rfl rfl ?_
                        refine ar_pickT rfl rfl rfl rfl rfl ?_
                        refine ar_move rfl rfl rfl rfl ?_
                        refine ar_skip rfl rfl ?_
                        refine ar_skip rfl rfl ?_
                        refine ar_skip rfl rfl ?_
                        refine ar_skip rfl rfl ?_
                        refine ar_skip rfl rfl ?_
                        refine ar_skip rfl rfl ?_
                        refine ar_skip rfl rfl ?_
                        refine ar_skip rfl rfl ?_
                        refine ar_skip rfl rfl ?_
                        refine ar_skip rfl rfl ?_
                        refine ar_skip rfl rfl ?_
                        refine ar_skip rfl rfl ?_
                        refine ar_skip rfl rfl ?_
                        refine ar_skip rfl rfl ?_
                        refine ar_skip rfl rfl ?_
                        refine ar_skip rfl rfl ?_
                        refine ar_skip rfl rfl ?_
                        refine ar_skip rfl rfl ?_
                        refine ar_skip rfl rfl ?_
                        refine ar_pickT rfl rfl rfl rfl rfl ?_
                        refine ar_nil ?_
                        refine then_n ?_
                        refine wp_condT rfl ?_
                        refine wp_seq ?_
                        refine wp_reg (by kernel_rfl) ?_
                        refine ar_assign rfl rfl rfl rfl ?_
                        refine ar_nil ?_
                        refine then_n ?_
                        refine wp_ret ?_
                        refine inblk_r (then_r (loop_r (inblk_r (then_r (ret_postE rfl rfl ?_)))))
                        exact ⟨_, rfl, fun h => by cases h⟩
                      · refine ar_move rfl rfl rfl rfl ?_
                        refine ar_fa tab_ok rfl rfl rfl tb63 rfl rfl rfl rfl rfl ?_
                        refine ar_ld tab_ok rfl rfl rfl tb3 rfl rfl rfl rfl rfl ?_
                        refine ar_move rfl rfl rfl rfl ?_
                        refine ar_muli rfl rfl rfl rfl (by omega) (by omega) rfl rfl ?_
                        refine ar_addi rfl rfl rfl rfl (by omega) (by omega) rfl rfl ?_
                        refine ar_gtr_s rfl rfl rfl rfl rfl (fun h91 => ?_) (fun h91 => ?_)
                        · refine ar_pickF rfl rfl rfl rfl rfl ?_
                          refine ar_move rfl rfl rfl rfl ?_
                          refine ar_skip rfl rfl ?_
                          refine ar_skip rfl rfl ?_
                          refine ar_skip rfl rfl ?_
                          refine ar_skip rfl rfl ?_
                          refine ar_skip rfl rfl ?_
                          refine ar_skip rfl rfl ?_
                          refine ar_skip rfl rfl ?_
                          refine ar_skip rfl rfl ?_
                          refine ar_skip rfl rfl ?_
                          refine ar_skip rfl rfl ?_
                          refine ar_skip rfl rfl ?_
                          refine ar_skip rfl rfl ?_
                          refine ar_skip rfl rfl ?_
                          refine ar_skip rfl rfl ?_
                          refine ar_skip rfl rfl ?_
                          refine ar_skip rfl rfl ?_
                          refine ar_skip rfl rfl ?_
                          refine ar_skip rfl rfl ?_
                          refine ar_skip rfl rfl ?_
                          refine ar_pickT rfl rfl rfl rfl rfl ?_
                          refine ar_nil ?_
                          refine then_n ?_
                          refine wp_condT rfl ?_
                          refine wp_seq ?_
                          refine wp_reg (by kernel_rfl) ?_
                          refine ar_assign rfl rfl rfl rfl ?_
                          refine ar_nil ?_
                          refine then_n ?_
                          refine wp_ret ?_
                          refine inblk_r (then_r (loop_r (inblk_r (then_r (ret_postE rfl rfl ?_)))))
                          exact ⟨_, rfl, fun h => by cases h⟩
                        · refine ar_pickF rfl rfl rfl rfl rfl ?_
                          refine ar_move rfl rfl rfl rfl ?_
                          refine ar_fa tab_ok rfl rfl rfl tb63 rfl rfl rfl rfl rfl ?_
                          refine ar_ld tab_ok rfl rfl rfl tb3 rfl rfl rfl rfl rfl ?_
                          refine ar_neq_s rfl rfl rfl rfl rfl (fun h96 => ?_) (fun h96 => ?_)
                          · refine ar_move rfl rfl rfl rfl ?_
                            refine ar_fa tab_ok rfl rfl rfl tb63 rfl rfl rfl rfl rfl ?_
                            refine ar_ld tab_ok rfl rfl rfl tb3 rfl rfl rfl rfl rfl ?_
                            refine ar_neq_s rfl rfl rfl rfl rfl (fun h100 => ?_) (fun h100 => ?_)
                            · refine ar_pickT rfl rfl rfl rfl rfl ?_
                              refine ar_move rfl rfl rfl rfl ?_
                              refine ar_fa tab_ok rfl rfl rfl tb63 rfl rfl rfl rfl rfl ?_
                              refine ar_ld tab_ok rfl rfl rfl tb3 rfl rfl rfl rfl rfl ?_
                              refine ar_fa tab_ok rfl rfl rfl tb27 rfl rfl rfl rfl rfl ?_
                              refine ar_ld tab_ok rfl rfl rfl tb3 rfl rfl rfl rfl rfl ?_
                              refine ar_move rfl rfl rfl rfl ?_
                              refine ar_addi rfl rfl rfl rfl (by omega) (by omega) rfl rfl ?_
                              refine ar_addi rfl rfl rfl rfl (by omega) (by omega) rfl rfl ?_
                              refine ar_muli rfl rfl rfl rfl (by omega) (by omega) rfl rfl ?_
                              refine ar_neq_s rfl rfl rfl rfl rfl (fun h111 => ?_) (fun h111 => ?_)
                              · refine ar_pickT rfl rfl rfl rfl rfl ?_
                                refine ar_pickF rfl rfl rfl rfl rfl ?_
                                refine ar_nil ?_
                                refine then_n ?_
                                refine wp_condT rfl ?_
                                refine wp_seq ?_
                                refine wp_reg (by kernel_rfl) ?_
                                refine ar_assign rfl rfl rfl rfl ?_
                                refine ar_nil ?_
                                refine then_n ?_
                                refine wp_ret ?_
                                refine inblk_r (then_r (loop_r (inblk_r (then_r (ret_postE rfl rfl ?_)))))
                                exact ⟨_, rfl, fun h => by cases h⟩
                              · refine ar_pickT rfl rfl rfl rfl rfl ?_
                                refine ar_pickF rfl rfl rfl rfl rfl ?_
                                refine ar_nil ?_
                                refine then_n ?_
                                refine wp_condF rfl ?_
                                refine wp_skip ?_
                                refine inblk_n ?_
                                refine then_n ?_
                                refine wp_reg (by kernel_rfl) ?_
                                refine ar_move rfl rfl rfl rfl ?_
                                refine ar_addi rfl rfl rfl rfl (by omega) (by omega) rfl rfl ?_
                                refine ar_assign rfl rfl rfl rfl ?_
                                refine ar_nil ?_
                                exact loop_n (j1 + 1) ⟨by omega, fun q hq => (Nat.lt_succ_iff_lt_or_eq.1 hq).elim (hj1b q) (fun e => e ▸ ⟨by omega, by omega, by omega⟩)⟩ (by omega) (le_to ⟨rfl, rfl, rfl, trivial⟩ ⟨rfl, trivial⟩ rfl rfl rfl rfl)
                            · refine ar_pickT rfl rfl rfl rfl rfl ?_
                              refine ar_move rfl rfl rfl rfl ?_
                              refine ar_skip rfl rfl ?_
                              refine ar_skip rfl rfl ?_
                              refine ar_skip rfl rfl ?_
                              refine ar_skip rfl rfl ?_
                              refine ar_skip rfl rfl ?_
                              refine ar_skip rfl rfl ?_
                              refine ar_skip rfl rfl ?_
                              refine ar_skip rfl rfl ?_
                              refine ar_skip rfl rfl ?_
                              refine ar_pickF rfl rfl rfl rfl rfl ?_
                              refine ar_pickF rfl rfl rfl rfl rfl ?_
                              refine ar_nil ?_
                              refine then_n ?_
                              refine wp_condF rfl ?_
                              refine wp_skip ?_
                              refine inblk_n ?_
                              refine then_n ?_
                              refine wp_reg (by kernel_rfl) ?_
                              refine ar_move rfl rfl rfl rfl ?_
                              refine ar_addi rfl rfl rfl rfl (by omega) (by omega) rfl rfl ?_
                              refine ar_assign rfl rfl rfl rfl ?_
                              refine ar_nil ?_
                              exact loop_n (j1 + 1) ⟨by omega, fun q hq => (Nat.lt_succ_iff_lt_or_eq.1 hq).elim (hj1b q) (fun e => e ▸ ⟨by omega, by omega, by omega⟩)⟩ (by omega) (le_to ⟨rfl, rfl, rfl, trivial⟩ ⟨rfl, trivial⟩ rfl rfl rfl rfl)
                          · refine ar_move rfl rfl rfl rfl ?_
                            refine ar_skip rfl rfl ?_
                            refine ar_skip rfl rfl ?_
                            refine ar_skip rfl rfl ?_
                            refine ar_pickF rfl rfl rfl rfl rfl ?_
                            refine ar_move rfl rfl rfl rfl ?_
                            refine ar_skip rfl rfl ?_
                            refine ar_skip rfl rfl ?_
                            refine ar_skip rfl rfl ?_
                            refine ar_skip rfl rfl ?_
                            refine ar_skip rfl rfl ?_
                            refine ar_skip rfl rfl ?_
                            refine ar_skip rfl rfl ?_
                            refine ar_skip rfl rfl ?_
                            refine ar_skip rfl rfl ?_
                            refine ar_pickF rfl rfl rfl rfl rfl ?_
                            refine ar_pickF rfl rfl rfl rfl rfl ?_
                            refine ar_nil ?_
                            refine then_n ?_
                            refine wp_condF rfl ?_
                            refine wp_skip ?_
                            refine inblk_n ?_
                            refine then_n ?_
                            refine wp_reg (by kernel_rfl) ?_
                            refine ar_move rfl rfl rfl rfl ?_
                            refine ar_addi rfl rfl rfl rfl (by omega) (by omega) rfl rfl ?_
                            refine ar_assign rfl rfl rfl rfl ?_
                            refine ar_nil ?_
                            exact loop_n (j1 + 1) ⟨by omega, fun q hq => (Nat.lt_succ_iff_lt_or_eq.1 hq).elim (hj1b q) (fun e => e ▸ ⟨by omega, by omega, by omega⟩)⟩ (by omega) (le_to ⟨rfl, rfl, rfl, trivial⟩ ⟨rfl, trivial⟩ rfl rfl rfl rfl)
                    · refine ar_nil ?_
                      refine then_n ?_
                      refine wp_condF rfl ?_
                      refine wp_exit ?_
                      refine then_x (loop_x (inblk_e ?_))
                      refine then_n ?_
                      refine wp_seq ?_
                      refine wp_seq ?_
                      refine wp_reg (by kernel_rfl) ?_
                      refine ar_assign rfl rfl rfl rfl ?_
                      refine ar_nil ?_
                      refine then_n ?_
                      refine wp_block ?_
                      refine wp_loop (α := Nat) (fun j2 => mk [(1, .ptr 1 0), (3, .v (.int .i64 (varsS a))), (9, .v (.int .i64 (j2 : Nat)))] [(1, .box ((encA a).map .v))] 0) (fun j2 => j2 ≤ a.g.length ∧ ∀ q, q < j2 → gateR a q (a.g.getD q default)) (fun j2 => a.g.length - j2) 0 ⟨Nat.zero_le _, fun q hq => absurd hq (Nat.not_lt_zero q)⟩ (le_to ⟨rfl, rfl, rfl, trivial⟩ ⟨rfl, trivial⟩ rfl rfl rfl rfl) ?_
                      rintro j2 ⟨hj2a, hj2b⟩
                      refine wp_seq ?_
                      refine wp_seq ?_
                      refine wp_reg (by kernel_rfl) ?_
                      refine ar_move rfl rfl rfl rfl ?_
                      refine ar_fa tab_ok rfl rfl rfl tb27 rfl rfl rfl rfl rfl ?_
                      refine ar_ld tab_ok rfl rfl rfl tb23 rfl rfl rfl rfl rfl ?_
                      refine ar_len tab_ok rfl rfl tb23 rfl len_map rfl rfl ?_
                      refine ar_lss_s rfl rfl rfl rfl rfl (fun h118 => ?_) (fun h118 => ?_)
                      · refine ar_nil ?_
                        refine then_n ?_
                        refine wp_condT rfl ?_
                        refine wp_skip ?_
                        refine then_n ?_
                        refine wp_seq ?_
                        refine wp_block ?_
                        refine wp_seq ?_
                        refine wp_reg (by kernel_rfl) ?_
                        refine ar_fa tab_ok rfl rfl rfl tb27 rfl rfl rfl rfl rfl ?_
                        refine ar_ld tab_ok rfl rfl rfl tb23 rfl rfl rfl rfl rfl ?_
                        refine ar_move rfl rfl rfl rfl ?_
                        refine ar_ia tab_ok rfl rfl rfl tb23 rfl tb58 (by omega) (map_get (n := j2) (by omega)) rfl rfl rfl ?_
                        refine ar_ld_refa tab_ok rfl rfl tb58 rfl rfl rfl rfl rfl ?_
                        refine ar_alloc (id := 10) tab_ok rfl rfl tb58 rfl rfl rfl rfl ?_
                        refine ar_st [] tab_ok rfl tb58 rfl rfl rfl trivial rfl rfl rfl rfl rfl rfl rfl rfl ?_
                        refine ar_nil ?_
                        refine then_n ?_
                        refine wp_seq ?_
                        refine wp_reg (by kernel_rfl) ?_
                        refine ar_fa tab_ok rfl rfl rfl tb58 rfl rfl rfl rfl rfl ?_
                        refine ar_ld tab_ok rfl rfl rfl tb3 rfl rfl rfl rfl rfl ?_
                        refine ar_lss_s rfl rfl rfl rfl rfl (fun h128 => ?_) (fun h128 => ?_)
                        · refine ar_move rfl rfl rfl rfl ?_
                          refine ar_skip rfl rfl ?_
                          refine ar_skip rfl rfl ?_
                          refine ar_skip rfl rfl ?_
                          refine ar_skip rfl rfl ?_
                          refine ar_skip rfl rfl ?_
                          refine ar_pickT rfl rfl rfl rfl rfl ?_
                          refine ar_move rfl rfl rfl rfl ?_
                          refine ar_skip rfl rfl ?_
                          refine ar_skip rfl rfl ?_
                          refine ar_skip rfl rfl ?_
                          refine ar_skip rfl rfl ?_
                          refine ar_skip rfl rfl ?_
                          refine ar_skip rfl rfl ?_
                          refine ar_skip rfl rfl ?_
                          refine ar_skip rfl rfl ?_
                          refine ar_skip rfl rfl ?_
                          refine ar_skip rfl rfl ?_
                          refine ar_skip rfl rfl ?_
                          refine ar_skip rfl rfl ?_
                          refine ar_skip rfl rfl ?_
                          refine ar_pickT rfl rfl rfl rfl rfl ?_
                          refine ar_nil ?_
                          refine then_n ?_
                          refine wp_condT rfl ?_
                          refine wp_seq ?_
                          refine wp_reg (by kernel_rfl) ?_
                          refine ar_assign rfl rfl rfl rfl ?_
                          refine ar_nil ?_
                          refine then_n ?_
                          refine wp_ret ?_
                          refine inblk_r (then_r (loop_r (inblk_r (then_r (ret_postE rfl rfl ?_)))))
                          exact ⟨_, rfl, fun h => by cases h⟩
                        · refine ar_move rfl rfl rfl rfl ?_
                          refine ar_fa tab_ok rfl rfl rfl tb58 rfl rfl rfl rfl rfl ?_
                          refine ar_ld tab_ok rfl rfl rfl tb3 rfl rfl rfl rfl rfl ?_
                          refine ar_fa tab_ok rfl rfl rfl tb58 rfl rfl rfl rfl rfl ?_
                          refine ar_ld tab_ok rfl rfl rfl tb3 rfl rfl rfl rfl rfl ?_
                          refine ar_gtr_s rfl rfl rfl rfl rfl (fun h134 => ?_) (fun h134 => ?_)
                          · refine ar_pickF rfl rfl rfl rfl rfl ?_
                            refine ar_move rfl rfl rfl rfl ?_
                            refine ar_skip rfl rfl ?_
                            refine ar_skip rfl rfl ?_
                            refine ar_skip rfl rfl ?_
                            refine ar_skip rfl rfl ?_
                            refine ar_skip rfl rfl ?_
                            refine ar_skip rfl rfl ?_
                            refine ar_skip rfl rfl ?_
                            refine ar_skip rfl rfl ?_
                            refine ar_skip rfl rfl ?_
                            refine ar_skip rfl rfl ?_
                            refine ar_skip rfl rfl ?_
                            refine ar_skip rfl rfl ?_
                            refine ar_skip rfl rfl ?_
                            refine ar_pickT rfl rfl rfl rfl rfl ?_
                            refine ar_nil ?_
                            refine then_n ?_
                            refine wp_condT rfl ?_
                            refine wp_seq ?_
                            refine wp_reg (by kernel_rfl) ?_
                            refine ar_assign rfl rfl rfl rfl ?_
                            refine ar_nil ?_
                            refine then_n ?_
                            refine wp_ret ?_
                            refine inblk_r (then_r (loop_r (inblk_r (then_r (ret_postE rfl rfl ?_)))))
                            exact ⟨_, rfl, fun h => by cases h⟩
                          · refine ar_pickF rfl rfl rfl rfl rfl ?_
                            refine ar_move rfl rfl rfl rfl ?_
                            refine ar_fa tab_ok rfl rfl rfl tb58 rfl rfl rfl rfl rfl ?_
                            refine ar_ld tab_ok rfl rfl rfl tb3 rfl rfl rfl rfl rfl ?_
                            refine ar_fa tab_ok rfl rfl rfl tb27 rfl rfl rfl rfl rfl ?_
                            refine ar_ld tab_ok rfl rfl rfl tb3 rfl rfl rfl rfl rfl ?_
                            refine ar_fa tab_ok rfl rfl rfl tb27 rfl rfl rfl rfl rfl ?_
                            refine ar_ld tab_ok rfl rfl rfl tb22 rfl rfl rfl rfl rfl ?_
                            refine ar_len tab_ok rfl rfl tb22 rfl len_map rfl rfl ?_
                            refine ar_addi rfl rfl rfl rfl (by omega) (by omega) rfl rfl ?_
                            refine ar_move rfl rfl rfl rfl ?_
                            refine ar_addi rfl rfl rfl rfl (by omega) (by omega) rfl rfl ?_
                            refine ar_addi rfl rfl rfl rfl (by omega) (by omega) rfl rfl ?_
                            refine ar_muli rfl rfl rfl rfl (by omega) (by omega) rfl rfl ?_
                            refine ar_geq_s rfl rfl rfl rfl rfl (fun h149 => ?_) (fun h149 => ?_)
                            · refine ar_pickF rfl rfl rfl rfl rfl ?_
                              refine ar_nil ?_
                              refine then_n ?_
                              refine wp_condT rfl ?_
                              refine wp_seq ?_
                              refine wp_reg (by kernel_rfl) ?_
                              refine ar_assign rfl rfl rfl rfl ?_
                              refine ar_nil ?_
                              refine then_n ?_
                              refine wp_ret ?_
                              refine inblk_r (then_r (loop_r (inblk_r (then_r (ret_postE rfl rfl ?_)))))
                              exact ⟨_, rfl, fun h => by cases h⟩
                            · refine ar_pickF rfl rfl rfl rfl rfl ?_
                              refine ar_nil ?_
                              refine then_n ?_
                              refine wp_condF rfl ?_
                              refine wp_skip ?_
                              refine inblk_n ?_
                              refine then_n ?_
                              refine wp_reg (by kernel_rfl) ?_
                              refine ar_move rfl rfl rfl rfl ?_
                              refine ar_addi rfl rfl rfl rfl (by omega) (by omega) rfl rfl ?_
                              refine ar_assign rfl rfl rfl rfl ?_
                              refine ar_nil ?_
                              exact loop_n (j2 + 1) ⟨by omega, fun q hq => (Nat.lt_succ_iff_lt_or_eq.1 hq).elim (hj2b q) (fun e => e ▸ ⟨by omega, by omega, by omega⟩)⟩ (by omega) (le_to ⟨rfl, rfl, rfl, trivial⟩ ⟨rfl, trivial⟩ rfl rfl rfl rfl)
                      · refine ar_nil ?_
                        refine then_n ?_
                        refine wp_condF rfl ?_
                        refine wp_exit ?_
                        refine then_x (loop_x (inblk_e ?_))
                        refine then_n ?_
                        refine wp_seq ?_
                        refine wp_seq ?_
                        refine wp_reg (by kernel_rfl) ?_
                        refine ar_assign rfl rfl rfl rfl ?_
                        refine ar_nil ?_
                        refine then_n ?_
                        refine wp_block ?_
                        refine wp_loop (α := Nat) (fun j3 => mk [(1, .ptr 1 0), (3, .v (.int .i64 (varsS a))), (11, .v (.int .i64 (j3 : Nat)))] [(1, .box ((encA a).map .v))] 0) (fun j3 => j3 ≤ a.names.length ∧ ∀ q, q < j3 → True) (fun j3 => a.names.length - j3) 0 ⟨Nat.zero_le _, fun q hq => absurd hq (Nat.not_lt_zero q)⟩ (le_to ⟨rfl, rfl, rfl, trivial⟩ ⟨rfl, trivial⟩ rfl rfl rfl rfl) ?_
                        rintro j3 ⟨hj3a, hj3b⟩
                        refine wp_seq ?_
                        refine wp_seq ?_
                        refine wp_reg (by kernel_rfl) ?_
                        refine ar_move rfl rfl rfl rfl ?_
                        refine ar_fa tab_ok rfl rfl rfl tb27 rfl rfl rfl rfl rfl ?_
                        refine ar_ld tab_ok rfl rfl rfl tb25 rfl rfl rfl rfl rfl ?_
                        refine ar_len tab_ok rfl rfl tb25 rfl len_map rfl rfl ?_
                        refine ar_lss_s rfl rfl rfl rfl rfl (fun h155 => ?_) (fun h155 => ?_)
                        · refine ar_nil ?_
                          refine then_n ?_
                          refine wp_condT rfl ?_
                          refine wp_skip ?_
                          refine then_n ?_
                          refine wp_seq ?_
                          refine wp_block ?_
                          refine wp_seq ?_
                          refine wp_reg (by kernel_rfl) ?_
                          refine ar_fa tab_ok rfl rfl rfl tb27 rfl rfl rfl rfl rfl ?_
                          refine ar_ld tab_ok rfl rfl rfl tb25 rfl rfl rfl rfl rfl ?_
                          refine ar_move rfl rfl rfl rfl ?_
                          refine ar_ia tab_ok rfl rfl rfl tb25 rfl tb171 (by omega) (map_get (n := j3) (by omega)) rfl rfl rfl ?_
                          refine ar_ld_refa tab_ok rfl rfl tb171 rfl rfl rfl rfl rfl ?_
                          refine ar_alloc (id := 12) tab_ok rfl rfl tb171 rfl rfl rfl rfl ?_
                          refine ar_st [] tab_ok rfl tb171 rfl rfl rfl trivial rfl rfl rfl rfl rfl rfl rfl rfl ?_
                          refine ar_nil ?_
                          refine then_n ?_
                          refine wp_seq ?_
                          refine wp_reg (by kernel_rfl) ?_
                          refine ar_fa tab_ok rfl rfl rfl tb171 rfl rfl rfl rfl rfl ?_
                          refine ar_ld tab_ok rfl rfl rfl tb9 rfl rfl rfl rfl rfl ?_
                          refine ar_callE [] (pce_131 (a.names.getD j3 default).s (hf.s j3 (by omega))) rfl rfl rfl rfl rfl rfl trivial (.inl rfl) rfl rfl rfl ?_
                          rintro _ ⟨b165, rfl⟩
                          refine ar_split (fun h165 => ?_) (fun h165 => ?_)
                          · refine ar_assign rfl rfl rfl rfl ?_
                            refine ar_nil ?_
                            refine then_n ?_
                            refine wp_seq ?_
                            refine wp_seq ?_
                            refine wp_draw (L := [([], []), ([], []), ([], []), ([12], []), ([12], []), ([], []), ([], []), ([], []), ([12], []), ([12], []), ([1], []), ([12], []), ([12], []), ([], []), ([], []), ([], []), ([], [])]) (by kernel_rfl) mixed (by kernel_rfl) ?_
                            refine ar_move rfl rfl rfl rfl ?_
                            refine ar_not rfl rfl rfl rfl rfl ?_
                            refine ar_move rfl rfl rfl rfl ?_
                            refine ar_fa tab_ok rfl rfl rfl tb171 rfl rfl rfl rfl rfl ?_
                            refine ar_ld tab_ok rfl rfl rfl tb3 rfl rfl rfl rfl rfl ?_
                            refine ar_lss_s rfl rfl rfl rfl rfl (fun h171 => ?_) (fun h171 => ?_)
                            · refine ar_pickF rfl rfl rfl rfl rfl ?_
                              refine ar_move rfl rfl rfl rfl ?_
                              refine ar_skip rfl rfl ?_
                              refine ar_skip rfl rfl ?_
                              refine ar_skip rfl rfl ?_
                              refine ar_skip rfl rfl ?_
                              refine ar_skip rfl rfl ?_
                              refine ar_skip rfl rfl ?_
                              refine ar_skip rfl rfl ?_
                              refine ar_skip rfl rfl ?_
                              refine ar_pickT rfl rfl rfl rfl rfl ?_
                              refine ar_nil ?_
                              refine then_n ?_
                              refine wp_condT rfl ?_
                              refine wp_seq ?_
                              refine wp_reg (by kernel_rfl) ?_
                              refine ar_assign rfl rfl rfl rfl ?_
                              refine ar_nil ?_
                              refine then_n ?_
                              refine wp_ret ?_
                              refine then_r (inblk_r (then_r (loop_r (inblk_r (then_r (ret_postE rfl rfl ?_))))))
                              exact ⟨_, rfl, fun h => by cases h⟩
                            · refine ar_pickF rfl rfl rfl rfl rfl ?_
                              refine ar_move rfl rfl rfl rfl ?_
                              refine ar_fa tab_ok rfl rfl rfl tb171 rfl rfl rfl rfl rfl ?_
                              refine ar_ld tab_ok rfl rfl rfl tb3 rfl rfl rfl rfl rfl ?_
                              refine ar_lda tab_ok rfl rfl rfl tb27 rfl rfl rfl rfl rfl rfl ?_
                              refine ar_fa tab_ok rfl rfl rfl tb171 rfl rfl rfl rfl rfl ?_
                              refine ar_ld tab_ok rfl rfl rfl tb5 rfl rfl rfl rfl rfl ?_
                              refine ar_call [] (pc_133 _) rfl rfl rfl rfl rfl rfl trivial (.inl rfl) rfl rfl rfl ?_
                              refine ar_call [] (pc_132 _ _) rfl rfl rfl rfl rfl rfl trivial (.inl rfl) rfl rfl rfl ?_
                              refine ar_geq_s rfl rfl rfl rfl rfl (fun h181 => ?_) (fun h181 => ?_)
                              · refine ar_pickF rfl rfl rfl rfl rfl ?_
                                refine ar_nil ?_
                                refine then_n ?_
                                refine wp_condT rfl ?_
                                refine wp_seq ?_
                                refine wp_reg (by kernel_rfl) ?_
                                refine ar_assign rfl rfl rfl rfl ?_
                                refine ar_nil ?_
                                refine then_n ?_
                                refine wp_ret ?_
                                refine then_r (inblk_r (then_r (loop_r (inblk_r (then_r (ret_postE rfl rfl ?_))))))
                                exact ⟨_, rfl, fun h => by cases h⟩
                              · refine ar_pickF rfl rfl rfl rfl rfl ?_
                                refine ar_nil ?_
                                refine then_n ?_
                                refine wp_condF rfl ?_
                                refine wp_skip ?_
                                refine then_n ?_
                                refine wp_seq ?_
                                refine wp_reg (by kernel_rfl) ?_
                                refine ar_move rfl rfl rfl rfl ?_
                                refine ar_gtr_s rfl rfl rfl rfl rfl (fun h184 => ?_) (fun h184 => ?_)
                                · refine ar_nil ?_
                                  refine then_n ?_
                                  refine wp_condT rfl ?_
                                  refine wp_seq ?_
                                  refine wp_draw (L := [([1], []), ([1], []), ([], []), ([], []), ([], []), ([], []), ([12], []), ([], []), ([], [])]) (by kernel_rfl) mixed (by kernel_rfl) ?_
                                  refine ar_fa tab_ok rfl rfl rfl tb27 rfl rfl rfl rfl rfl ?_
                                  refine ar_ld tab_ok rfl rfl rfl tb25 rfl rfl rfl rfl rfl ?_
                                  refine ar_move rfl rfl rfl rfl ?_
                                  refine ar_subi rfl rfl rfl rfl (by omega) (by omega) rfl rfl ?_
                                  refine ar_ia tab_ok rfl rfl rfl tb25 rfl tb171 (by omega) (map_get (by omega)) rfl rfl rfl ?_
                                  refine ar_ld_refa tab_ok rfl rfl tb171 rfl rfl rfl rfl rfl ?_
                                  refine ar_lda tab_ok rfl rfl rfl tb171 rfl rfl rfl rfl rfl rfl ?_
                                  refine ar_call [] (pc_134 _ _) rfl rfl rfl rfl rfl rfl trivial (.inl rfl) rfl rfl rfl ?_
                                  refine ar_split (fun h192 => ?_) (fun h192 => ?_)
                                  · refine ar_assign rfl rfl rfl rfl ?_
                                    refine ar_nil ?_
                                    refine then_n ?_
                                    refine wp_seq ?_
                                    refine wp_reg (by kernel_rfl) ?_
                                    refine ar_move rfl rfl rfl rfl ?_
                                    refine ar_not rfl rfl rfl rfl rfl ?_
                                    refine ar_nil ?_
                                    refine then_n ?_
                                    refine wp_condF rfl ?_
                                    refine wp_skip ?_
                                    refine inblk_n ?_
                                    refine then_n ?_
                                    refine wp_reg (by kernel_rfl) ?_
                                    refine ar_move rfl rfl rfl rfl ?_
                                    refine ar_addi rfl rfl rfl rfl (by omega) (by omega) rfl rfl ?_
                                    refine ar_assign rfl rfl rfl rfl ?_
                                    refine ar_nil ?_
                                    exact loop_n (j3 + 1) ⟨by omega, fun _ _ => trivial⟩ (by omega) (le_to ⟨rfl, rfl, rfl, trivial⟩ ⟨rfl, trivial⟩ rfl rfl rfl rfl)
                                  · refine ar_assign rfl rfl rfl rfl ?_
                                    refine ar_nil ?_
                                    refine then_n ?_
                                    refine wp_seq ?_
                                    refine wp_reg (by kernel_rfl) ?_
                                    refine ar_move rfl rfl rfl rfl ?_
                                    refine ar_not rfl rfl rfl rfl rfl ?_
                                    refine ar_nil ?_
                                    refine then_n ?_
                                    refine wp_condT rfl ?_
                                    refine wp_seq ?_
                                    refine wp_reg (by kernel_rfl) ?_
                                    refine ar_assign rfl rfl rfl rfl ?_
                                    refine ar_nil ?_
                                    refine then_n ?_
                                    refine wp_ret ?_
                                    refine inblk_r (then_r (loop_r (inblk_r (then_r (ret_postE rfl rfl ?_)))))
                                    exact ⟨_, rfl, fun h => by cases h⟩
                                · refine ar_nil ?_
                                  refine then_n ?_
                                  refine wp_condF rfl ?_
                                  refine wp_skip ?_
                                  refine inblk_n ?_
                                  refine then_n ?_
                                  refine wp_reg (by kernel_rfl) ?_
                                  refine ar_move rfl rfl rfl rfl ?_
                                  refine ar_addi rfl rfl rfl rfl (by omega) (by omega) rfl rfl ?_
                                  refine ar_assign rfl rfl rfl rfl ?_
                                  refine ar_nil ?_
                                  exact loop_n (j3 + 1) ⟨by omega, fun _ _ => trivial⟩ (by omega) (le_to ⟨rfl, rfl, rfl, trivial⟩ ⟨rfl, trivial⟩ rfl rfl rfl rfl)
                          · refine ar_assign rfl rfl rfl rfl ?_
                            refine ar_nil ?_
                            refine then_n ?_
                            refine wp_seq ?_
                            refine wp_seq ?_
                            refine wp_draw (L := [([], []), ([], []), ([], []), ([12], []), ([12], []), ([], []), ([], []), ([], []), ([12], []), ([12], []), ([1], []), ([12], []), ([12], []), ([], []), ([], []), ([], []), ([], [])]) (by kernel_rfl) mixed (by kernel_rfl) ?_
                            refine ar_move rfl rfl rfl rfl ?_
                            refine ar_not rfl rfl rfl rfl rfl ?_
                            refine ar_move rfl rfl rfl rfl ?_
                            refine ar_skip rfl rfl ?_
                            refine ar_skip rfl rfl ?_
                            refine ar_skip rfl rfl ?_
                            refine ar_pickT rfl rfl rfl rfl rfl ?_
                            refine ar_move rfl rfl rfl rfl ?_
                            refine ar_skip rfl rfl ?_
                            refine ar_skip rfl rfl ?_
                            refine ar_skip rfl rfl ?_
                            refine ar_skip rfl rfl ?_
                            refine ar_skip rfl rfl ?_
                            refine ar_skip rfl rfl ?_
                            refine ar_skip rfl rfl ?_
                            refine ar_skip rfl rfl ?_
                            refine ar_pickT rfl rfl rfl rfl rfl ?_
                            refine ar_nil ?_
                            refine then_n ?_
                            refine wp_condT rfl ?_
                            refine wp_seq ?_
                            refine wp_reg (by kernel_rfl) ?_
                            refine ar_assign rfl rfl rfl rfl ?_
                            refine ar_nil ?_
                            refine then_n ?_
                            refine wp_ret ?_
                            refine then_r (inblk_r (then_r (loop_r (inblk_r (then_r (ret_postE rfl rfl ?_))))))
                            exact ⟨_, rfl, fun h => by cases h⟩
                        · refine ar_nil ?_
                          refine then_n ?_
                          refine wp_condF rfl ?_
                          refine wp_exit ?_
                          refine then_x (loop_x (inblk_e ?_))
                          refine then_n ?_
                          refine wp_seq ?_
                          refine wp_reg (by kernel_rfl) ?_
                          refine ar_assign rfl rfl rfl rfl ?_
                          refine ar_nil ?_
                          refine then_n ?_
                          refine wp_ret ?_
                          refine ret_postE rfl rfl ?_
                          refine ⟨_, rfl, fun _ => ⟨by omega, hb51 h51, hb55 h55, hb59 h59, fun q hq => hj1b q (by omega), fun q hq => hj2b q (by omega)⟩⟩
                  · refine ar_assign rfl rfl rfl rfl ?_
                    refine ar_nil ?_
                    refine then_n ?_
                    refine wp_seq ?_
                    refine wp_seq ?_
                    refine wp_reg (by kernel_rfl) ?_
                    refine ar_move rfl rfl rfl rfl ?_
                    refine ar_not rfl rfl rfl rfl rfl ?_
                    refine ar_move rfl rfl rfl rfl ?_
                    refine ar_move rfl rfl rfl rfl ?_
                    refine ar_not rfl rfl rfl rfl rfl ?_
                    refine ar_pickF rfl rfl rfl rfl rfl ?_
                    refine ar_move rfl rfl rfl rfl ?_
                    refine ar_move rfl rfl rfl rfl ?_
                    refine ar_not rfl rfl rfl rfl rfl ?_
                    refine ar_pickF rfl rfl rfl rfl rfl ?_
                    refine ar_nil ?_
                    refine then_n ?_
                    refine wp_condT rfl ?_
                    refine wp_seq ?_
                    refine wp_reg (by kernel_rfl) ?_
                    refine ar_assign rfl rfl rfl rfl ?_
                    refine ar_nil ?_
                    refine then_n ?_
                    refine wp_ret ?_
                    refine then_r (ret_postE rfl rfl ?_)
                    exact ⟨_, rfl, fun h => by cases h⟩
                · refine ar_assign rfl rfl rfl rfl ?_
                  refine ar_nil ?_
                  refine then_n ?_
                  refine wp_seq ?_
                  refine wp_reg (by kernel_rfl) ?_
                  refine ar_fa tab_ok rfl rfl rfl tb27 rfl rfl rfl rfl rfl ?_
                  refine ar_ld tab_ok rfl rfl rfl tb24 rfl rfl rfl rfl rfl ?_
                  refine ar_move rfl rfl rfl rfl ?_
                  refine ar_callE [] (pce_130 a.con (varsS a) hf.c (by omega) (by omega)) rfl rfl rfl rfl rfl rfl trivial (.inl rfl) rfl rfl rfl ?_
                  rintro _ ⟨b59, rfl, hb59⟩
                  refine ar_split (fun h59 => ?_) (fun h59 => ?_)
                  · refine ar_assign rfl rfl rfl rfl ?_
                    refine ar_nil ?_
                    refine then_n ?_
                    refine wp_seq ?_
                    refine wp_seq ?_
                    refine wp_reg (by kernel_rfl) ?_
                    refine ar_move rfl rfl rfl rfl ?_
                    refine ar_not rfl rfl rfl rfl rfl ?_
                    refine ar_move rfl rfl rfl rfl ?_
                    refine ar_move rfl rfl rfl rfl ?_
                    refine ar_not rfl rfl rfl rfl rfl ?_
                    refine ar_pickF rfl rfl rfl rfl rfl ?_
                    refine ar_move rfl rfl rfl rfl ?_
                    refine ar_skip rfl rfl ?_
                    refine ar_skip rfl rfl ?_
                    refine ar_pickT rfl rfl rfl rfl rfl ?_
                    refine ar_nil ?_
                    refine then_n ?_
                    refine wp_condT rfl ?_
                    refine wp_seq ?_
                    refine wp_reg (by kernel_rfl) ?_
                    refine ar_assign rfl rfl rfl rfl ?_
                    refine ar_nil ?_
                    refine then_n ?_
                    refine wp_ret ?_
                    refine then_r (ret_postE rfl rfl ?_)
                    exact ⟨_, rfl, fun h => by cases h⟩
                  · refine ar_assign rfl rfl rfl rfl ?_
                    refine ar_nil ?_
                    refine then_n ?_
                    refine wp_seq ?_
                    refine wp_seq ?_
                    refine wp_reg (by kernel_rfl) ?_
                    refine ar_move rfl rfl rfl rfl ?_
                    refine ar_not rfl rfl rfl rfl rfl ?_
                    refine ar_move rfl rfl rfl rfl ?_
                    refine ar_move rfl rfl rfl rfl ?_
                    refine ar_not rfl rfl rfl rfl rfl ?_
                    refine ar_pickF rfl rfl rfl rfl rfl ?_
                    refine ar_move rfl rfl rfl rfl ?_
                    refine ar_skip rfl rfl ?_
                    refine ar_skip rfl rfl ?_
                    refine ar_pickT rfl rfl rfl rfl rfl ?_
                    refine ar_nil ?_
                    refine then_n ?_
                    refine wp_condT rfl ?_
                    refine wp_seq ?_
                    refine wp_reg (by kernel_rfl) ?_
                    refine ar_assign rfl rfl rfl rfl ?_
                    refine ar_nil ?_
                    refine then_n ?_
                    refine wp_ret ?_
                    refine then_r (ret_postE rfl rfl ?_)
                    exact ⟨_, rfl, fun h => by cases h⟩
              · refine ar_assign rfl rfl rfl rfl ?_
                refine ar_nil ?_
                refine then_n ?_
                refine wp_seq ?_
                refine wp_reg (by kernel_rfl) ?_
                refine ar_fa tab_ok rfl rfl rfl tb27 rfl rfl rfl rfl rfl ?_
                refine ar_ld tab_ok rfl rfl rfl tb24 rfl rfl rfl rfl rfl ?_
                refine ar_move rfl rfl rfl rfl ?_
                refine ar_callE [] (pce_130 a.bad (varsS a) hf.b (by omega) (by omega)) rfl rfl rfl rfl rfl rfl trivial (.inl rfl) rfl rfl rfl ?_
                rintro _ ⟨b55, rfl, hb55⟩
                refine ar_split (fun h55 => ?_) (fun h55 => ?_)
                · refine ar_assign rfl rfl rfl rfl ?_
                  refine ar_nil ?_
                  refine then_n ?_
                  refine wp_seq ?_
                  refine wp_reg (by kernel_rfl) ?_
                  refine ar_fa tab_ok rfl rfl rfl tb27 rfl rfl rfl rfl rfl ?_
                  refine ar_ld tab_ok rfl rfl rfl tb24 rfl rfl rfl rfl rfl ?_
                  refine ar_move rfl rfl rfl rfl ?_
                  refine ar_callE [] (pce_130 a.con (varsS a) hf.c (by omega) (by omega)) rfl rfl rfl rfl rfl rfl trivial (.inl rfl) rfl rfl rfl ?_
                  rintro _ ⟨b59, rfl, hb59⟩
                  refine ar_split (fun h59 => ?_) (fun h59 => ?_)
                  · refine ar_assign rfl rfl rfl rfl ?_
                    refine ar_nil ?_
                    refine then_n ?_
                    refine wp_seq ?_
                    refine wp_seq ?_
                    refine wp_reg (by kernel_rfl) ?_
                    refine ar_move rfl rfl rfl rfl ?_
                    refine ar_not rfl rfl rfl rfl rfl ?_
                    refine ar_move rfl rfl rfl rfl ?_
                    refine ar_skip rfl rfl ?_
                    refine ar_skip rfl rfl ?_
                    refine ar_pickT rfl rfl rfl rfl rfl ?_
                    refine ar_move rfl rfl rfl rfl ?_
                    refine ar_skip rfl rfl ?_
                    refine ar_skip rfl rfl ?_
                    refine ar_pickT rfl rfl rfl rfl rfl ?_
                    refine ar_nil ?_
                    refine then_n ?_
                    refine wp_condT rfl ?_
                    refine wp_seq ?_
                    refine wp_reg (by kernel_rfl) ?_
                    refine ar_assign rfl rfl rfl rfl ?_
                    refine ar_nil ?_
                    refine then_n ?_
                    refine wp_ret ?_
                    refine then_r (ret_postE rfl rfl ?_)
                    exact ⟨_, rfl, fun h => by cases h⟩
                  · refine ar_assign rfl rfl rfl rfl ?_
                    refine ar_nil ?_
                    refine then_n ?_
                    refine wp_seq ?_
                    refine wp_seq ?_
                    refine wp_reg (by kernel_rfl) ?_
                    refine ar_move rfl rfl rfl rfl ?_
                    refine ar_not rfl rfl rfl rfl rfl ?_
                    refine ar_move rfl rfl rfl rfl ?_
                    refine ar_skip rfl rfl ?_
                    refine ar_skip rfl rfl ?_
                    refine ar_pickT rfl rfl rfl rfl rfl ?_
                    refine ar_move rfl rfl rfl rfl ?_
                    refine ar_skip rfl rfl ?_
                    refine ar_skip rfl rfl ?_
                    refine ar_pickT rfl rfl rfl rfl rfl ?_
                    refine ar_nil ?_
                    refine then_n ?_
                    refine wp_condT rfl ?_
                    refine wp_seq ?_
                    refine wp_reg (by kernel_rfl) ?_
                    refine ar_assign rfl rfl rfl rfl ?_
                    refine ar_nil ?_
                    refine then_n ?_
                    refine wp_ret ?_
                    refine then_r (ret_postE rfl rfl ?_)
                    exact ⟨_, rfl, fun h => by cases h⟩
                · refine ar_assign rfl rfl rfl rfl ?_
                  refine ar_nil ?_
                  refine then_n ?_
                  refine wp_seq ?_
                  refine wp_reg (by kernel_rfl) ?_
                  refine ar_fa tab_ok rfl rfl rfl tb27 rfl rfl rfl rfl rfl ?_
                  refine ar_ld tab_ok rfl rfl rfl tb24 rfl rfl rfl rfl rfl ?_
                  refine ar_move rfl rfl rfl rfl ?_
                  refine ar_callE [] (pce_130 a.con (varsS a) hf.c (by omega) (by omega)) rfl rfl rfl rfl rfl rfl trivial (.inl rfl) rfl rfl rfl ?_
                  rintro _ ⟨b59, rfl, hb59⟩
                  refine ar_split (fun h59 => ?_) (fun h59 => ?_)
                  · refine ar_assign rfl rfl rfl rfl ?_
                    refine ar_nil ?_
                    refine then_n ?_
                    refine wp_seq ?_
                    refine wp_seq ?_
                    refine wp_reg (by kernel_rfl) ?_
                    refine ar_move rfl rfl rfl rfl ?_
                    refine ar_not rfl rfl rfl rfl rfl ?_
                    refine ar_move rfl rfl rfl rfl ?_
                    refine ar_skip rfl rfl ?_
                    refine ar_skip rfl rfl ?_
                    refine ar_pickT rfl rfl rfl rfl rfl ?_
                    refine ar_move rfl rfl rfl rfl ?_
                    refine ar_skip rfl rfl ?_
                    refine ar_skip rfl rfl ?_
                    refine ar_pickT rfl rfl rfl rfl rfl ?_
                    refine ar_nil ?_
                    refine then_n ?_
                    refine wp_condT rfl ?_
                    refine wp_seq ?_
                    refine wp_reg (by kernel_rfl) ?_
                    refine ar_assign rfl rfl rfl rfl ?_
                    refine ar_nil ?_
                    refine then_n ?_
                    refine wp_ret ?_
                    refine then_r (ret_postE rfl rfl ?_)
                    exact ⟨_, rfl, fun h => by cases h⟩
                  · refine ar_assign rfl rfl rfl rfl ?_
                    refine ar_nil ?_
                    refine then_n ?_
                    refine wp_seq ?_
                    refine wp_seq ?_
                    refine wp_reg (by kernel_rfl) ?_
                    refine ar_move rfl rfl rfl rfl ?_
                    refine ar_not rfl rfl rfl rfl rfl ?_
                    refine ar_move rfl rfl rfl rfl ?_
                    refine ar_skip rfl rfl ?_
                    refine ar_skip rfl rfl ?_
                    refine ar_pickT rfl rfl rfl rfl rfl ?_
                    refine ar_move rfl rfl rfl rfl ?_
                    refine ar_skip rfl rfl ?_
                    refine ar_skip rfl rfl ?_
                    refine ar_pickT rfl rfl rfl rfl rfl ?_
                    refine ar_nil ?_
                    refine then_n ?_
                    refine wp_condT rfl ?_
                    refine wp_seq ?_
                    refine wp_reg (by kernel_rfl) ?_
                    refine ar_assign rfl rfl rfl rfl ?_
                    refine ar_nil ?_
                    refine then_n ?_
                    refine wp_ret ?_
                    refine then_r (ret_postE rfl rfl ?_)
                    exact ⟨_, rfl, fun h => by cases h⟩

theorem pce_30 (a : Aig) (hf : Fit a) : PCallE Try.prog 30 [aigV a] (fun r => ∃ b : Bool, r = .bool b ∧ (b = true → Good a)) := by
  refine pce_of tab_ok (f := 30) (fn := Try.f30) (N := 13) (rs := [.tmp 2]) (by kernel_rfl) rfl (by kernel_rfl) rfl rfl [(0, .v (aigV a))] ⟨rfl, trivial⟩ rfl rfl ?_
  intro B
  refine wp_seq ?_
  refine wp_reg (by kernel_rfl) ?_
  refine ar_box 1 [] rfl rfl rfl ⟨rfl, trivial⟩ rfl rfl rfl ?_
  refine ar_assign rfl rfl rfl rfl ?_
  refine ar_nil ?_
  refine then_n ?_
  refine wp_seq ?_
  refine wp_reg (by kernel_rfl) ?_
  refine ar_lda tab_ok rfl rfl rfl tb27 rfl rfl rfl rfl rfl rfl ?_
  refine ar_callE [] (pce_91 a 40 hf) rfl rfl rfl rfl rfl rfl trivial (.inl rfl) rfl rfl rfl ?_
  rintro _ ⟨b6, rfl, hb6⟩
  refine ar_split (fun h6 => ?_) (fun h6 => ?_)
  · refine ar_assign rfl rfl rfl rfl ?_
    refine ar_nil ?_
    refine then_n ?_
    refine wp_seq ?_
    refine wp_reg (by kernel_rfl) ?_
    refine ar_lda tab_ok rfl rfl rfl tb27 rfl rfl rfl rfl rfl rfl ?_
    refine ar_callE [] (pce_92 a hf) rfl rfl rfl rfl rfl rfl trivial (.inl rfl) rfl rfl rfl ?_
    rintro _ ⟨b8, rfl, hb8⟩
    refine ar_assign rfl rfl rfl rfl ?_
    refine ar_nil ?_
    refine then_n ?_
    refine wp_seq ?_
    refine wp_reg (by kernel_rfl) ?_
    refine ar_move rfl rfl rfl rfl ?_
    refine ar_move rfl rfl rfl rfl ?_
    refine ar_move rfl rfl rfl rfl ?_
    refine ar_pickT rfl rfl rfl rfl rfl ?_
    refine ar_assign rfl rfl rfl rfl ?_
    refine ar_nil ?_
    refine then_n ?_
    refine wp_ret ?_
    refine ret_postE rfl rfl ?_
    refine ⟨_, rfl, fun h => ⟨hb6 h6, hb8 h⟩⟩
  · refine ar_assign rfl rfl rfl rfl ?_
    refine ar_nil ?_
    refine then_n ?_
    refine wp_seq ?_
    refine wp_reg (by kernel_rfl) ?_
    refine ar_lda tab_ok rfl rfl rfl tb27 rfl rfl rfl rfl rfl rfl ?_
    refine ar_callE [] (pce_92 a hf) rfl rfl rfl rfl rfl rfl trivial (.inl rfl) rfl rfl rfl ?_
    rintro _ ⟨b8, rfl, hb8⟩
    refine ar_assign rfl rfl rfl rfl ?_
    refine ar_nil ?_
    refine then_n ?_
    refine wp_seq ?_
    refine wp_reg (by kernel_rfl) ?_
    refine ar_move rfl rfl rfl rfl ?_
    refine ar_move rfl rfl rfl rfl ?_
    refine ar_skip rfl rfl ?_
    refine ar_pickF rfl rfl rfl rfl rfl ?_
    refine ar_assign rfl rfl rfl rfl ?_
    refine ar_nil ?_
    refine then_n ?_
    refine wp_ret ?_
    refine ret_postE rfl rfl ?_
    exact ⟨_, rfl, fun h => by cases h⟩

end Go.Vd
