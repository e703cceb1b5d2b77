/- Three values: what is one, the other one, both, what is below, texts: the program's functions and the document's. -/
import Derived.Test.YtjbfplfopagpjaaB1
namespace Go.Vd
open Go.Proofs

def notT (x : Int) : Int := if x = 0 then 1 else if x = 1 then 0 else 2
def andT (x y : Int) : Int := if x = 0 ∨ y = 0 then 0 else if x = 1 ∧ y = 1 then 1 else 2
def isTri (l : List Int) : Bool := !l.any fun x => decide (x > 2)
def lowT (x y : Int) : Bool := decide (x = y) || decide (y = 2)
abbrev belowT (x y : List Int) : Bool := pairs lowT x y
def chT (x : Int) : Int := if x = 0 then 48 else if x = 1 then 49 else 120
def textT (l : List Int) : ByteArray := bytesOf (l.map chT)
/-- Three values, all of them. -/
def Tri (x : Int) : Prop := 0 ≤ x ∧ x ≤ 2
theorem Tri.cases {x : Int} (h : Tri x) : x = 0 ∨ x = 1 ∨ x = 2 := by unfold Tri at h; omega
theorem not_get {x : Int} (h : Tri x) : ([V.int .u8 1, .int .u8 0, .int .u8 2] : List V)[x.toNat]? = some (.int .u8 (notT x)) := by
  rcases h.cases with rfl | rfl | rfl <;> rfl
theorem and_get {x y : Int} (h : Tri x) (h' : Tri y) : ([.v (.int .u8 0), .v (.int .u8 0), .v (.int .u8 0), .v (.int .u8 0), .v (.int .u8 1), .v (.int .u8 2), .v (.int .u8 0), .v (.int .u8 2), .v (.int .u8 2)] : List D)[0 + x.toNat * 3 + y.toNat * 1]? = some (.v (.int .u8 (andT x y))) := by
  rcases h.cases with rfl | rfl | rfl <;> rcases h'.cases with rfl | rfl | rfl <;> rfl
theorem notT_tri (x : Int) : Tri (notT x) := by unfold notT Tri; split <;> (try split) <;> omega
theorem andT_tri (x y : Int) : Tri (andT x y) := by unfold andT Tri; split <;> (try split) <;> omega

theorem pce_136 (xs : List Int) (f : FuncId) (fi ca : List V) (p : Int → Bool) (hl : xs.length ≤ 9223372036854775807) (hc : ∀ x, x ∈ xs → PCall Try.prog f (fi ++ [.int .u8 x] ++ ca) (.bool (p x))) : PCallE Try.prog 136 [slU xs, .fn (.func f) fi ca] (fun r => ∃ n : Int, r = .int .i64 n ∧ decide (n ≥ 0) = xs.any p) := by
  refine pce_of tab_ok (f := 136) (fn := Try.f136) (N := 19) (rs := [.tmp 4]) (by kernel_rfl) rfl (by kernel_rfl) rfl rfl [(0, .v (slU xs)), (1, .v (.fn (.func f) fi ca))] ⟨rfl, rfl, trivial⟩ rfl rfl ?_
  intro B
  refine wp_seq ?_
  refine wp_reg (by kernel_rfl) ?_
  refine ar_assign rfl rfl rfl rfl ?_
  refine ar_nil ?_
  refine then_n ?_
  refine wp_seq ?_
  refine wp_seq ?_
  refine wp_reg (by kernel_rfl) ?_
  refine ar_move rfl rfl rfl rfl ?_
  refine ar_len tab_ok rfl rfl tb70 rfl len_map rfl rfl ?_
  refine ar_move rfl rfl rfl rfl ?_
  refine ar_nil ?_
  refine then_n ?_
  refine wp_block ?_
  refine wp_loop (α := Nat) (fun j => mk [(0, .v (slU xs)), (1, .v (.fn (.func f) fi ca)), (7, .v (.int .i64 (xs.length : Nat))), (8, .v (.int .i64 (j : Nat)))] [] 0) (fun j => j ≤ xs.length ∧ ∀ q, q < j → p (xs.getD q default) = false) (fun j => xs.length - j) 0 ⟨Nat.zero_le _, fun q h => absurd h (Nat.not_lt_zero q)⟩ (le_to ⟨rfl, rfl, rfl, rfl, trivial⟩ trivial rfl rfl rfl rfl) ?_
  rintro j ⟨hj1, hj2⟩
  refine wp_seq ?_
  refine wp_reg (by kernel_rfl) ?_
  refine ar_lss_s rfl rfl rfl rfl rfl (fun h9 => ?_) (fun h9 => ?_)
  · refine ar_nil ?_
    refine then_n ?_
    refine wp_seq ?_
    refine wp_condT rfl ?_
    refine wp_skip ?_
    refine then_n ?_
    refine wp_seq ?_
    refine wp_block ?_
    refine wp_seq ?_
    refine wp_reg (by kernel_rfl) ?_
    refine ar_move rfl rfl rfl rfl ?_
    refine ar_assign rfl rfl rfl rfl ?_
    refine ar_nil ?_
    refine then_n ?_
    refine wp_seq ?_
    refine wp_reg (by kernel_rfl) ?_
    refine ar_move rfl rfl rfl rfl ?_
    refine ar_move rfl rfl rfl rfl ?_
    refine ar_move rfl rfl rfl rfl ?_
    refine ar_ia tab_ok rfl rfl rfl tb70 rfl tb72 (by omega) (map_get (n := j) (by omega)) rfl rfl rfl ?_
    refine ar_ld_ref tab_ok rfl rfl tb72 rfl rfl rfl rfl ?_
    refine ar_call [] (hc _ (getD_mem (by omega))) rfl rfl rfl rfl rfl rfl trivial (.inl rfl) rfl rfl rfl ?_
    refine ar_split (fun h16 => ?_) (fun h16 => ?_)
    · refine ar_nil ?_
      refine then_n ?_
      refine wp_condT rfl ?_
      refine wp_seq ?_
      refine wp_reg (by kernel_rfl) ?_
      refine ar_move rfl rfl rfl rfl ?_
      refine ar_assign rfl rfl rfl rfl ?_
      refine ar_nil ?_
      refine then_n ?_
      refine wp_ret ?_
      refine inblk_r (then_r (loop_r (inblk_r (then_r (ret_postE rfl rfl ?_)))))
      exact ⟨_, rfl, by rw [any_of (by omega) h16]; simp⟩
    · refine ar_nil ?_
      refine then_n ?_
      refine wp_condF rfl ?_
      refine wp_skip ?_
      refine inblk_n ?_
      refine then_n ?_
      refine wp_reg (by kernel_rfl) ?_
      refine ar_addi rfl rfl rfl rfl (by omega) (by omega) rfl rfl ?_
      refine ar_move rfl rfl rfl rfl ?_
      refine ar_nil ?_
      exact loop_n (j + 1) ⟨by omega, fun q hq => (Nat.lt_succ_iff_lt_or_eq.1 hq).elim (hj2 q) (fun e => e ▸ h16)⟩ (by omega) (le_to ⟨rfl, rfl, rfl, rfl, trivial⟩ trivial rfl rfl rfl rfl)
  · refine ar_nil ?_
    refine then_n ?_
    refine wp_seq ?_
    refine wp_condF rfl ?_
    refine wp_exit ?_
    refine then_x (loop_x (inblk_e ?_))
    refine then_n ?_
    refine wp_seq ?_
    refine wp_reg (by kernel_rfl) ?_
    refine ar_assign rfl rfl rfl rfl ?_
    refine ar_nil ?_
    refine then_n ?_
    refine wp_ret ?_
    refine ret_postE rfl rfl ?_
    exact ⟨_, rfl, by rw [any_no (fun q hq => hj2 q (by omega))]; rfl⟩

theorem pc_101 (xs : List Int) (f : FuncId) (fi ca : List V) (p : Int → Bool) (hl : xs.length ≤ 9223372036854775807) (hc : ∀ x, x ∈ xs → PCall Try.prog f (fi ++ [.int .u8 x] ++ ca) (.bool (p x))) : PCall Try.prog 101 [slU xs, .fn (.func f) fi ca] (.bool (xs.any p)) := by
  refine pc_of tab_ok (f := 101) (fn := Try.f101) (N := 9) (rs := [.tmp 4]) (by kernel_rfl) rfl (by kernel_rfl) rfl rfl [(0, .v (slU xs)), (1, .v (.fn (.func f) fi ca))] ⟨rfl, rfl, trivial⟩ rfl rfl ?_
  intro B
  refine wp_seq ?_
  refine wp_reg (by kernel_rfl) ?_
  refine ar_assign rfl rfl rfl rfl ?_
  refine ar_nil ?_
  refine then_n ?_
  refine wp_seq ?_
  refine wp_reg (by kernel_rfl) ?_
  refine ar_move rfl rfl rfl rfl ?_
  refine ar_move rfl rfl rfl rfl ?_
  refine ar_callE [] (pce_136 xs f fi ca p hl hc) rfl rfl rfl rfl rfl rfl trivial (.inl rfl) rfl rfl rfl ?_
  rintro _ ⟨n, rfl, hn⟩
  refine ar_geq (z := xs.any p) rfl rfl rfl hn rfl rfl ?_
  refine ar_assign rfl rfl rfl rfl ?_
  refine ar_nil ?_
  refine then_n ?_
  refine wp_ret ?_
  refine ret_post rfl rfl ?_
  rfl

theorem pc_102 (x : Int) : PCall Try.prog 102 [.int .u8 x] (.bool (decide (x > 2))) := by
  refine pc_of tab_ok (f := 102) (fn := Try.f102) (N := 5) (rs := [.tmp 2]) (by kernel_rfl) rfl (by kernel_rfl) rfl rfl [(0, .v (.int .u8 x))] ⟨rfl, trivial⟩ rfl rfl ?_
  intro B
  refine wp_seq ?_
  refine wp_reg (by kernel_rfl) ?_
  refine ar_assign rfl rfl rfl rfl ?_
  refine ar_nil ?_
  refine then_n ?_
  refine wp_seq ?_
  refine wp_reg (by kernel_rfl) ?_
  refine ar_move rfl rfl rfl rfl ?_
  refine ar_gtr rfl rfl rfl rfl rfl rfl ?_
  refine ar_assign rfl rfl rfl rfl ?_
  refine ar_nil ?_
  refine then_n ?_
  refine wp_ret ?_
  refine ret_post rfl rfl ?_
  rfl

theorem pc_45 (xs : List Int) (hl : xs.length ≤ 9223372036854775807) : PCall Try.prog 45 [slU xs] (.bool (isTri xs)) := by
  refine pc_of tab_ok (f := 45) (fn := Try.f45) (N := 6) (rs := [.tmp 2]) (by kernel_rfl) rfl (by kernel_rfl) rfl rfl [(0, .v (slU xs))] ⟨rfl, trivial⟩ rfl rfl ?_
  intro B
  refine wp_seq ?_
  refine wp_reg (by kernel_rfl) ?_
  refine ar_assign rfl rfl rfl rfl ?_
  refine ar_nil ?_
  refine then_n ?_
  refine wp_seq ?_
  refine wp_reg (by kernel_rfl) ?_
  refine ar_move rfl rfl rfl rfl ?_
  refine ar_call [] (pc_101 xs 102 [] [] (fun x => decide (x > 2)) hl (fun x _ => pc_102 x)) rfl rfl rfl rfl rfl rfl trivial (.inl rfl) rfl rfl rfl ?_
  refine ar_not rfl rfl rfl rfl rfl ?_
  refine ar_assign rfl rfl rfl rfl ?_
  refine ar_nil ?_
  refine then_n ?_
  refine wp_ret ?_
  refine ret_post rfl rfl ?_
  rfl

theorem pc_46 (xs : List Int) (hl : xs.length ≤ 9223372036854775807) : PCall Try.prog 46 [slU xs] (.bool (isTri xs)) := by
  refine pc_of tab_ok (f := 46) (fn := Try.f46) (N := 15) (rs := [.tmp 2]) (by kernel_rfl) rfl (by kernel_rfl) rfl rfl [(0, .v (slU xs))] ⟨rfl, trivial⟩ rfl rfl ?_
  intro B
  refine wp_seq ?_
  refine wp_reg (by kernel_rfl) ?_
  refine ar_assign rfl rfl rfl rfl ?_
  refine ar_nil ?_
  refine then_n ?_
  refine wp_seq ?_
  refine wp_seq ?_
  refine wp_reg (by kernel_rfl) ?_
  refine ar_assign rfl rfl rfl rfl ?_
  refine ar_nil ?_
  refine then_n ?_
  refine wp_block ?_
  refine wp_loop (α := Nat) (fun j => mk [(0, .v (slU xs)), (3, .v (.int .i64 (j : Nat)))] [] 0) (fun j => j ≤ xs.length ∧ ∀ q, q < j → decide (xs.getD q default > 2) = false) (fun j => xs.length - j) 0 ⟨Nat.zero_le _, fun q h => absurd h (Nat.not_lt_zero q)⟩ (le_to ⟨rfl, rfl, trivial⟩ trivial rfl rfl rfl rfl) ?_
  rintro j ⟨hj1, hj2⟩
  refine wp_seq ?_
  refine wp_seq ?_
  refine wp_reg (by kernel_rfl) ?_
  refine ar_move rfl rfl rfl rfl ?_
  refine ar_move rfl rfl rfl rfl ?_
  refine ar_len tab_ok rfl rfl tb70 rfl len_map rfl rfl ?_
  refine ar_lss_s rfl rfl rfl rfl rfl (fun h7 => ?_) (fun h7 => ?_)
  · refine ar_nil ?_
    refine then_n ?_
    refine wp_condT rfl ?_
    refine wp_skip ?_
    refine then_n ?_
    refine wp_seq ?_
    refine wp_block ?_
    refine wp_seq ?_
    refine wp_reg (by kernel_rfl) ?_
    refine ar_move rfl rfl rfl rfl ?_
    refine ar_move rfl rfl rfl rfl ?_
    refine ar_ia tab_ok rfl rfl rfl tb70 rfl tb72 (by omega) (map_get (n := j) (by omega)) rfl rfl rfl ?_
    refine ar_ld_ref tab_ok rfl rfl tb72 rfl rfl rfl rfl ?_
    refine ar_gtr_s rfl rfl rfl rfl rfl (fun h14 => ?_) (fun h14 => ?_)
    · refine ar_nil ?_
      refine then_n ?_
      refine wp_condT rfl ?_
      refine wp_seq ?_
      refine wp_reg (by kernel_rfl) ?_
      refine ar_assign rfl rfl rfl rfl ?_
      refine ar_nil ?_
      refine then_n ?_
      refine wp_ret ?_
      refine inblk_r (then_r (loop_r (inblk_r (then_r (ret_post rfl rfl ?_)))))
      simp only [isTri]; rw [any_of (p := fun x => decide (x > 2)) (j := j) (by omega) (decide_eq_true h14)]; rfl
    · refine ar_nil ?_
      refine then_n ?_
      refine wp_condF rfl ?_
      refine wp_skip ?_
      refine inblk_n ?_
      refine then_n ?_
      refine wp_reg (by kernel_rfl) ?_
      refine ar_move rfl rfl rfl rfl ?_
      refine ar_addi rfl rfl rfl rfl (by omega) (by omega) rfl rfl ?_
      refine ar_assign rfl rfl rfl rfl ?_
      refine ar_nil ?_
      exact loop_n (j + 1) ⟨by omega, fun q hq => (Nat.lt_succ_iff_lt_or_eq.1 hq).elim (hj2 q) (fun e => e ▸ decide_eq_false h14)⟩ (by omega) (le_to ⟨rfl, rfl, trivial⟩ trivial rfl rfl rfl rfl)
  · refine ar_nil ?_
    refine then_n ?_
    refine wp_condF rfl ?_
    refine wp_exit ?_
    refine then_x (loop_x (inblk_e ?_))
    refine then_n ?_
    refine wp_seq ?_
    refine wp_reg (by kernel_rfl) ?_
    refine ar_assign rfl rfl rfl rfl ?_
    refine ar_nil ?_
    refine then_n ?_
    refine wp_ret ?_
    refine ret_post rfl rfl ?_
    simp only [isTri]; rw [any_no (fun q hq => hj2 q (by omega))]; rfl

theorem pc_47 (x : Int) (h : Tri x) : PCall Try.prog 47 [.int .u8 x] (.int .u8 (notT x)) := by
  refine pc_of tab_ok (f := 47) (fn := Try.f47) (N := 6) (rs := [.tmp 2]) (by kernel_rfl) rfl (by kernel_rfl) rfl rfl [(0, .v (.int .u8 x))] ⟨rfl, trivial⟩ rfl rfl ?_
  intro B
  refine wp_seq ?_
  refine wp_reg (by kernel_rfl) ?_
  refine ar_assign rfl rfl rfl rfl ?_
  refine ar_nil ?_
  refine then_n ?_
  refine wp_seq ?_
  refine wp_reg (by kernel_rfl) ?_
  refine ar_builda [] tab_ok rfl tb142 rfl tb72 rfl trivial rfl rfl rfl rfl rfl rfl ?_
  refine ar_move rfl rfl rfl rfl ?_
  refine ar_ix_arr tab_ok rfl rfl rfl tb142 rfl tb72 rfl rfl h.1 (by have := h.2; omega) (not_get h) rfl rfl ?_
  refine ar_assign rfl rfl rfl rfl ?_
  refine ar_nil ?_
  refine then_n ?_
  refine wp_ret ?_
  refine ret_post rfl rfl ?_
  rfl

theorem pc_48 (x : Int) : PCall Try.prog 48 [.int .u8 x] (.int .u8 (notT x)) := by
  refine pc_of tab_ok (f := 48) (fn := Try.f48) (N := 8) (rs := [.tmp 2]) (by kernel_rfl) rfl (by kernel_rfl) rfl rfl [(0, .v (.int .u8 x))] ⟨rfl, trivial⟩ rfl rfl ?_
  intro B
  refine wp_seq ?_
  refine wp_reg (by kernel_rfl) ?_
  refine ar_assign rfl rfl rfl rfl ?_
  refine ar_nil ?_
  refine then_n ?_
  refine wp_seq ?_
  refine wp_seq ?_
  refine wp_reg (by kernel_rfl) ?_
  refine ar_move rfl rfl rfl rfl ?_
  refine ar_nil ?_
  refine then_n ?_
  refine wp_block ?_
  refine wp_seq ?_
  refine wp_reg (by kernel_rfl) ?_
  refine ar_eql_s rfl rfl rfl rfl rfl (fun h5 => ?_) (fun h5 => ?_)
  · refine ar_assign rfl rfl rfl rfl ?_
    refine ar_nil ?_
    refine then_n ?_
    refine wp_condT rfl ?_
    refine wp_seq ?_
    refine wp_reg (by kernel_rfl) ?_
    refine ar_assign rfl rfl rfl rfl ?_
    refine ar_nil ?_
    refine then_n ?_
    refine wp_ret ?_
    refine inblk_r (then_r (ret_post rfl rfl ?_))
    simp [notT, *]
  · refine ar_assign rfl rfl rfl rfl ?_
    refine ar_nil ?_
    refine then_n ?_
    refine wp_condF rfl ?_
    refine wp_seq ?_
    refine wp_reg (by kernel_rfl) ?_
    refine ar_eql_s rfl rfl rfl rfl rfl (fun h7 => ?_) (fun h7 => ?_)
    · refine ar_assign rfl rfl rfl rfl ?_
      refine ar_nil ?_
      refine then_n ?_
      refine wp_condT rfl ?_
      refine wp_seq ?_
      refine wp_reg (by kernel_rfl) ?_
      refine ar_assign rfl rfl rfl rfl ?_
      refine ar_nil ?_
      refine then_n ?_
      refine wp_ret ?_
      refine inblk_r (then_r (ret_post rfl rfl ?_))
      simp [notT, *]
    · refine ar_assign rfl rfl rfl rfl ?_
      refine ar_nil ?_
      refine then_n ?_
      refine wp_condF rfl ?_
      refine wp_skip ?_
      refine inblk_n ?_
      refine then_n ?_
      refine wp_seq ?_
      refine wp_reg (by kernel_rfl) ?_
      refine ar_assign rfl rfl rfl rfl ?_
      refine ar_nil ?_
      refine then_n ?_
      refine wp_ret ?_
      refine ret_post rfl rfl ?_
      simp [notT, *]

theorem pc_49 (x y : Int) (h : Tri x) (h' : Tri y) : PCall Try.prog 49 [.int .u8 x, .int .u8 y] (.int .u8 (andT x y)) := by
  refine pc_of tab_ok (f := 49) (fn := Try.f49) (N := 15) (rs := [.tmp 4]) (by kernel_rfl) rfl (by kernel_rfl) rfl rfl [(0, .v (.int .u8 x)), (1, .v (.int .u8 y))] ⟨rfl, rfl, trivial⟩ rfl rfl ?_
  intro B
  refine wp_seq ?_
  refine wp_reg (by kernel_rfl) ?_
  refine ar_assign rfl rfl rfl rfl ?_
  refine ar_nil ?_
  refine then_n ?_
  refine wp_seq ?_
  refine wp_reg (by kernel_rfl) ?_
  refine ar_builda [] tab_ok rfl tb142 rfl tb72 rfl trivial rfl rfl rfl rfl rfl rfl ?_
  refine ar_builda [] tab_ok rfl tb142 rfl tb72 rfl trivial rfl rfl rfl rfl rfl rfl ?_
  refine ar_builda [] tab_ok rfl tb142 rfl tb72 rfl trivial rfl rfl rfl rfl rfl rfl ?_
  refine ar_builda [] tab_ok rfl tb143 rfl tb142 rfl trivial rfl rfl rfl rfl rfl rfl ?_
  refine ar_alloc (id := 5) tab_ok rfl rfl tb143 rfl rfl rfl rfl ?_
  refine ar_st [] tab_ok rfl tb143 rfl rfl rfl trivial rfl rfl rfl rfl rfl rfl rfl rfl ?_
  refine ar_nil ?_
  refine then_n ?_
  refine wp_seq ?_
  refine wp_reg (by kernel_rfl) ?_
  refine ar_move rfl rfl rfl rfl ?_
  refine ar_move rfl rfl rfl rfl ?_
  refine ar_ia_arr (j := 0 + x.toNat * 3) tab_ok rfl rfl rfl rfl tb143 rfl tb142 h.1 (by have := h.2; omega) rfl rfl rfl rfl ?_
  refine ar_ia_arr (j := 0 + x.toNat * 3 + y.toNat * 1) tab_ok rfl rfl rfl rfl tb142 rfl tb72 h'.1 (by have := h'.2; omega) rfl rfl rfl rfl ?_
  refine ar_ld tab_ok rfl rfl rfl tb72 rfl (and_get h h') rfl rfl rfl ?_
  refine ar_assign rfl rfl rfl rfl ?_
  refine ar_nil ?_
  refine then_n ?_
  refine wp_ret ?_
  refine ret_post rfl rfl ?_
  rfl

theorem pc_50 (x y : Int) : PCall Try.prog 50 [.int .u8 x, .int .u8 y] (.int .u8 (andT x y)) := by
  refine pc_of tab_ok (f := 50) (fn := Try.f50) (N := 17) (rs := [.tmp 4]) (by kernel_rfl) rfl (by kernel_rfl) rfl rfl [(0, .v (.int .u8 x)), (1, .v (.int .u8 y))] ⟨rfl, rfl, trivial⟩ rfl rfl ?_
  intro B
  refine wp_seq ?_
  refine wp_reg (by kernel_rfl) ?_
  refine ar_assign rfl rfl rfl rfl ?_
  refine ar_nil ?_
  refine then_n ?_
  refine wp_seq ?_
  refine wp_seq ?_
  refine wp_reg (by kernel_rfl) ?_
  refine ar_move rfl rfl rfl rfl ?_
  refine ar_eql_s rfl rfl rfl rfl rfl (fun h6 => ?_) (fun h6 => ?_)
  · refine ar_move rfl rfl rfl rfl ?_
    refine ar_skip rfl rfl ?_
    refine ar_skip rfl rfl ?_
    refine ar_pickT rfl rfl rfl rfl rfl ?_
    refine ar_nil ?_
    refine then_n ?_
    refine wp_condT rfl ?_
    refine wp_seq ?_
    refine wp_reg (by kernel_rfl) ?_
    refine ar_assign rfl rfl rfl rfl ?_
    refine ar_nil ?_
    refine then_n ?_
    refine wp_ret ?_
    refine then_r (ret_post rfl rfl ?_)
    simp [andT, *]
  · refine ar_move rfl rfl rfl rfl ?_
    refine ar_move rfl rfl rfl rfl ?_
    refine ar_eql_s rfl rfl rfl rfl rfl (fun h9 => ?_) (fun h9 => ?_)
    · refine ar_pickF rfl rfl rfl rfl rfl ?_
      refine ar_nil ?_
      refine then_n ?_
      refine wp_condT rfl ?_
      refine wp_seq ?_
      refine wp_reg (by kernel_rfl) ?_
      refine ar_assign rfl rfl rfl rfl ?_
      refine ar_nil ?_
      refine then_n ?_
      refine wp_ret ?_
      refine then_r (ret_post rfl rfl ?_)
      simp [andT, *]
    · refine ar_pickF rfl rfl rfl rfl rfl ?_
      refine ar_nil ?_
      refine then_n ?_
      refine wp_condF rfl ?_
      refine wp_skip ?_
      refine then_n ?_
      refine wp_seq ?_
      refine wp_seq ?_
      refine wp_reg (by kernel_rfl) ?_
      refine ar_move rfl rfl rfl rfl ?_
      refine ar_eql_s rfl rfl rfl rfl rfl (fun h12 => ?_) (fun h12 => ?_)
      · refine ar_move rfl rfl rfl rfl ?_
        refine ar_move rfl rfl rfl rfl ?_
        refine ar_eql_s rfl rfl rfl rfl rfl (fun h15 => ?_) (fun h15 => ?_)
        · refine ar_pickT rfl rfl rfl rfl rfl ?_
          refine ar_nil ?_
          refine then_n ?_
          refine wp_condT rfl ?_
          refine wp_seq ?_
          refine wp_reg (by kernel_rfl) ?_
          refine ar_assign rfl rfl rfl rfl ?_
          refine ar_nil ?_
          refine then_n ?_
          refine wp_ret ?_
          refine then_r (ret_post rfl rfl ?_)
          simp [andT, *]
        · refine ar_pickT rfl rfl rfl rfl rfl ?_
          refine ar_nil ?_
          refine then_n ?_
          refine wp_condF rfl ?_
          refine wp_skip ?_
          refine then_n ?_
          refine wp_seq ?_
          refine wp_reg (by kernel_rfl) ?_
          refine ar_assign rfl rfl rfl rfl ?_
          refine ar_nil ?_
          refine then_n ?_
          refine wp_ret ?_
          refine ret_post rfl rfl ?_
          simp [andT, *]
      · refine ar_move rfl rfl rfl rfl ?_
        refine ar_skip rfl rfl ?_
        refine ar_skip rfl rfl ?_
        refine ar_pickF rfl rfl rfl rfl rfl ?_
        refine ar_nil ?_
        refine then_n ?_
        refine wp_condF rfl ?_
        refine wp_skip ?_
        refine then_n ?_
        refine wp_seq ?_
        refine wp_reg (by kernel_rfl) ?_
        refine ar_assign rfl rfl rfl rfl ?_
        refine ar_nil ?_
        refine then_n ?_
        refine wp_ret ?_
        refine ret_post rfl rfl ?_
        simp [andT, *]

theorem pc_103 (xs : List Int) (ys : List Int) (f : FuncId) (fi ca : List V) (p : Int → Int → Bool) (hl : xs.length ≤ 9223372036854775807) (hl2 : ys.length ≤ 9223372036854775807) (hc : ∀ x y, x ∈ xs → y ∈ ys → PCall Try.prog f (fi ++ [.int .u8 x, .int .u8 y] ++ ca) (.bool (p x y))) : PCall Try.prog 103 [slU xs, slU ys, .fn (.func f) fi ca] (.bool (pairs p xs ys)) := by
  refine pc_of tab_ok (f := 103) (fn := Try.f103) (N := 32) (rs := [.tmp 6]) (by kernel_rfl) rfl (by kernel_rfl) rfl rfl [(0, .v (slU xs)), (1, .v (slU ys)), (2, .v (.fn (.func f) fi ca))] ⟨rfl, rfl, rfl, trivial⟩ rfl rfl ?_
  intro B
  refine wp_seq ?_
  refine wp_reg (by kernel_rfl) ?_
  refine ar_assign rfl rfl rfl rfl ?_
  refine ar_nil ?_
  refine then_n ?_
  refine wp_seq ?_
  refine wp_seq ?_
  refine wp_reg (by kernel_rfl) ?_
  refine ar_move rfl rfl rfl rfl ?_
  refine ar_len tab_ok rfl rfl tb70 rfl len_map rfl rfl ?_
  refine ar_move rfl rfl rfl rfl ?_
  refine ar_len tab_ok rfl rfl tb70 rfl len_map rfl rfl ?_
  refine ar_neq_s rfl rfl rfl rfl rfl (fun h14 => ?_) (fun h14 => ?_)
  · refine ar_nil ?_
    refine then_n ?_
    refine wp_condT rfl ?_
    refine wp_seq ?_
    refine wp_reg (by kernel_rfl) ?_
    refine ar_assign rfl rfl rfl rfl ?_
    refine ar_nil ?_
    refine then_n ?_
    refine wp_ret ?_
    refine then_r (ret_post rfl rfl ?_)
    rw [pairs_len (by omega)]
  · refine ar_nil ?_
    refine then_n ?_
    refine wp_condF rfl ?_
    refine wp_skip ?_
    refine then_n ?_
    refine wp_seq ?_
    refine wp_seq ?_
    refine wp_reg (by kernel_rfl) ?_
    refine ar_move rfl rfl rfl rfl ?_
    refine ar_len tab_ok rfl rfl tb70 rfl len_map rfl rfl ?_
    refine ar_move rfl rfl rfl rfl ?_
    refine ar_nil ?_
    refine then_n ?_
    refine wp_block ?_
    refine wp_loop (α := Nat) (fun j => mk [(1, .v (slU ys)), (2, .v (.fn (.func f) fi ca)), (15, .v (slU xs)), (16, .v (.int .i64 (xs.length : Nat))), (17, .v (.int .i64 (j : Nat)))] [] 0) (fun j => j ≤ xs.length ∧ ∀ q, q < j → p (xs.getD q default) (ys.getD q default) = true) (fun j => xs.length - j) 0 ⟨Nat.zero_le _, fun q h => absurd h (Nat.not_lt_zero q)⟩ (le_to ⟨rfl, rfl, rfl, rfl, rfl, trivial⟩ trivial rfl rfl rfl rfl) ?_
    rintro j ⟨hj1, hj2⟩
    refine wp_seq ?_
    refine wp_reg (by kernel_rfl) ?_
    refine ar_lss_s rfl rfl rfl rfl rfl (fun h18 => ?_) (fun h18 => ?_)
    · refine ar_nil ?_
      refine then_n ?_
      refine wp_seq ?_
      refine wp_condT rfl ?_
      refine wp_skip ?_
      refine then_n ?_
      refine wp_seq ?_
      refine wp_block ?_
      refine wp_seq ?_
      refine wp_reg (by kernel_rfl) ?_
      refine ar_move rfl rfl rfl rfl ?_
      refine ar_ia tab_ok rfl rfl rfl tb70 rfl tb72 (by omega) (map_get (n := j) (by omega)) rfl rfl rfl ?_
      refine ar_ld_ref tab_ok rfl rfl tb72 rfl rfl rfl rfl ?_
      refine ar_assign rfl rfl rfl rfl ?_
      refine ar_assign rfl rfl rfl rfl ?_
      refine ar_nil ?_
      refine then_n ?_
      refine wp_seq ?_
      refine wp_reg (by kernel_rfl) ?_
      refine ar_move rfl rfl rfl rfl ?_
      refine ar_move rfl rfl rfl rfl ?_
      refine ar_ia tab_ok rfl rfl rfl tb70 rfl tb72 (by omega) (map_get (n := j) (by omega)) rfl rfl rfl ?_
      refine ar_ld_ref tab_ok rfl rfl tb72 rfl rfl rfl rfl ?_
      refine ar_assign rfl rfl rfl rfl ?_
      refine ar_nil ?_
      refine then_n ?_
      refine wp_seq ?_
      refine wp_reg (by kernel_rfl) ?_
      refine ar_move rfl rfl rfl rfl ?_
      refine ar_move rfl rfl rfl rfl ?_
      refine ar_move rfl rfl rfl rfl ?_
      refine ar_call [] (hc _ _ (getD_mem (by omega)) (getD_mem (by omega))) rfl rfl rfl rfl rfl rfl trivial (.inl rfl) rfl rfl rfl ?_
      refine ar_split (fun h29 => ?_) (fun h29 => ?_)
      · refine ar_not rfl rfl rfl rfl rfl ?_
        refine ar_nil ?_
        refine then_n ?_
        refine wp_condF rfl ?_
        refine wp_skip ?_
        refine inblk_n ?_
        refine then_n ?_
        refine wp_reg (by kernel_rfl) ?_
        refine ar_addi rfl rfl rfl rfl (by omega) (by omega) rfl rfl ?_
        refine ar_move rfl rfl rfl rfl ?_
        refine ar_nil ?_
        exact loop_n (j + 1) ⟨by omega, fun q hq => (Nat.lt_succ_iff_lt_or_eq.1 hq).elim (hj2 q) (fun e => e ▸ h29)⟩ (by omega) (le_to ⟨rfl, rfl, rfl, rfl, rfl, trivial⟩ trivial rfl rfl rfl rfl)
      · refine ar_not rfl rfl rfl rfl rfl ?_
        refine ar_nil ?_
        refine then_n ?_
        refine wp_condT rfl ?_
        refine wp_seq ?_
        refine wp_reg (by kernel_rfl) ?_
        refine ar_assign rfl rfl rfl rfl ?_
        refine ar_nil ?_
        refine then_n ?_
        refine wp_ret ?_
        refine inblk_r (then_r (loop_r (inblk_r (then_r (ret_post rfl rfl ?_)))))
        rw [pairs_at (j := j) (by omega) (by assumption)]
    · refine ar_nil ?_
      refine then_n ?_
      refine wp_seq ?_
      refine wp_condF rfl ?_
      refine wp_exit ?_
      refine then_x (loop_x (inblk_e ?_))
      refine then_n ?_
      refine wp_seq ?_
      refine wp_reg (by kernel_rfl) ?_
      refine ar_assign rfl rfl rfl rfl ?_
      refine ar_nil ?_
      refine then_n ?_
      refine wp_ret ?_
      refine ret_post rfl rfl ?_
      rw [pairs_of (by omega) (fun q hq => hj2 q (by omega))]

theorem pc_104 (x y : Int) : PCall Try.prog 104 [.int .u8 x, .int .u8 y] (.bool (lowT x y)) := by
  refine pc_of tab_ok (f := 104) (fn := Try.f104) (N := 12) (rs := [.tmp 4]) (by kernel_rfl) rfl (by kernel_rfl) rfl rfl [(0, .v (.int .u8 x)), (1, .v (.int .u8 y))] ⟨rfl, rfl, trivial⟩ rfl rfl ?_
  intro B
  refine wp_seq ?_
  refine wp_reg (by kernel_rfl) ?_
  refine ar_assign rfl rfl rfl rfl ?_
  refine ar_nil ?_
  refine then_n ?_
  refine wp_seq ?_
  refine wp_reg (by kernel_rfl) ?_
  refine ar_move rfl rfl rfl rfl ?_
  refine ar_move rfl rfl rfl rfl ?_
  refine ar_eql_s rfl rfl rfl rfl rfl (fun h7 => ?_) (fun h7 => ?_)
  · refine ar_move rfl rfl rfl rfl ?_
    refine ar_skip rfl rfl ?_
    refine ar_skip rfl rfl ?_
    refine ar_pickT rfl rfl rfl rfl rfl ?_
    refine ar_assign rfl rfl rfl rfl ?_
    refine ar_nil ?_
    refine then_n ?_
    refine wp_ret ?_
    refine ret_post rfl rfl ?_
    simp [lowT, *]
  · refine ar_move rfl rfl rfl rfl ?_
    refine ar_move rfl rfl rfl rfl ?_
    refine ar_eql rfl rfl rfl rfl rfl rfl ?_
    refine ar_pickF rfl rfl rfl rfl rfl ?_
    refine ar_assign rfl rfl rfl rfl ?_
    refine ar_nil ?_
    refine then_n ?_
    refine wp_ret ?_
    refine ret_post rfl rfl ?_
    simp [lowT, *]

theorem pc_51 (xs ys : List Int) (hl : xs.length ≤ 9223372036854775807) (hl2 : ys.length ≤ 9223372036854775807) : PCall Try.prog 51 [slU xs, slU ys] (.bool (belowT xs ys)) := by
  refine pc_of tab_ok (f := 51) (fn := Try.f51) (N := 8) (rs := [.tmp 4]) (by kernel_rfl) rfl (by kernel_rfl) rfl rfl [(0, .v (slU xs)), (1, .v (slU ys))] ⟨rfl, rfl, trivial⟩ rfl rfl ?_
  intro B
  refine wp_seq ?_
  refine wp_reg (by kernel_rfl) ?_
  refine ar_assign rfl rfl rfl rfl ?_
  refine ar_nil ?_
  refine then_n ?_
  refine wp_seq ?_
  refine wp_reg (by kernel_rfl) ?_
  refine ar_move rfl rfl rfl rfl ?_
  refine ar_move rfl rfl rfl rfl ?_
  refine ar_call [] (pc_103 xs ys 104 [] [] lowT hl hl2 (fun x y _ _ => pc_104 x y)) rfl rfl rfl rfl rfl rfl trivial (.inl rfl) rfl rfl rfl ?_
  refine ar_assign rfl rfl rfl rfl ?_
  refine ar_nil ?_
  refine then_n ?_
  refine wp_ret ?_
  refine ret_post rfl rfl ?_
  rfl

theorem pc_52 (xs ys : List Int) (hl : xs.length ≤ 9223372036854775807) (hl2 : ys.length ≤ 9223372036854775807) : PCall Try.prog 52 [slU xs, slU ys] (.bool (belowT xs ys)) := by
  refine pc_of tab_ok (f := 52) (fn := Try.f52) (N := 33) (rs := [.tmp 4]) (by kernel_rfl) rfl (by kernel_rfl) rfl rfl [(0, .v (slU xs)), (1, .v (slU ys))] ⟨rfl, rfl, trivial⟩ rfl rfl ?_
  intro B
  refine wp_seq ?_
  refine wp_reg (by kernel_rfl) ?_
  refine ar_assign rfl rfl rfl rfl ?_
  refine ar_nil ?_
  refine then_n ?_
  refine wp_seq ?_
  refine wp_seq ?_
  refine wp_reg (by kernel_rfl) ?_
  refine ar_move rfl rfl rfl rfl ?_
  refine ar_len tab_ok rfl rfl tb70 rfl len_map rfl rfl ?_
  refine ar_move rfl rfl rfl rfl ?_
  refine ar_len tab_ok rfl rfl tb70 rfl len_map rfl rfl ?_
  refine ar_neq_s rfl rfl rfl rfl rfl (fun h10 => ?_) (fun h10 => ?_)
  · refine ar_nil ?_
    refine then_n ?_
    refine wp_condT rfl ?_
    refine wp_seq ?_
    refine wp_reg (by kernel_rfl) ?_
    refine ar_assign rfl rfl rfl rfl ?_
    refine ar_nil ?_
    refine then_n ?_
    refine wp_ret ?_
    refine then_r (ret_post rfl rfl ?_)
    show _ = V.bool (pairs lowT xs ys)
    rw [pairs_len (by omega)]
  · refine ar_nil ?_
    refine then_n ?_
    refine wp_condF rfl ?_
    refine wp_skip ?_
    refine then_n ?_
    refine wp_seq ?_
    refine wp_seq ?_
    refine wp_reg (by kernel_rfl) ?_
    refine ar_assign rfl rfl rfl rfl ?_
    refine ar_nil ?_
    refine then_n ?_
    refine wp_block ?_
    refine wp_loop (α := Nat) (fun j => mk [(0, .v (slU xs)), (1, .v (slU ys)), (5, .v (.int .i64 (j : Nat)))] [] 0) (fun j => j ≤ xs.length ∧ ∀ q, q < j → lowT (xs.getD q default) (ys.getD q default) = true) (fun j => xs.length - j) 0 ⟨Nat.zero_le _, fun q h => absurd h (Nat.not_lt_zero q)⟩ (le_to ⟨rfl, rfl, rfl, trivial⟩ trivial rfl rfl rfl rfl) ?_
    rintro j ⟨hj1, hj2⟩
    refine wp_seq ?_
    refine wp_seq ?_
    refine wp_reg (by kernel_rfl) ?_
    refine ar_move rfl rfl rfl rfl ?_
    refine ar_move rfl rfl rfl rfl ?_
    refine ar_len tab_ok rfl rfl tb70 rfl len_map rfl rfl ?_
    refine ar_lss_s rfl rfl rfl rfl rfl (fun h14 => ?_) (fun h14 => ?_)
    · refine ar_nil ?_
      refine then_n ?_
      refine wp_condT rfl ?_
      refine wp_skip ?_
      refine then_n ?_
      refine wp_seq ?_
      refine wp_block ?_
      refine wp_seq ?_
      refine wp_draw (L := [([], []), ([], []), ([], []), ([], []), ([], []), ([], []), ([], []), ([], []), ([], []), ([], []), ([], []), ([], []), ([], []), ([], []), ([], []), ([], [])]) (by kernel_rfl) mixed (by kernel_rfl) ?_
      refine ar_move rfl rfl rfl rfl ?_
      refine ar_move rfl rfl rfl rfl ?_
      refine ar_ia tab_ok rfl rfl rfl tb70 rfl tb72 (by omega) (map_get (n := j) (by omega)) rfl rfl rfl ?_
      refine ar_ld_ref tab_ok rfl rfl tb72 rfl rfl rfl rfl ?_
      refine ar_move rfl rfl rfl rfl ?_
      refine ar_move rfl rfl rfl rfl ?_
      refine ar_ia tab_ok rfl rfl rfl tb70 rfl tb72 (by omega) (map_get (n := j) (by omega)) rfl rfl rfl ?_
      refine ar_ld_ref tab_ok rfl rfl tb72 rfl rfl rfl rfl ?_
      refine ar_neq_s rfl rfl rfl rfl rfl (fun h25 => ?_) (fun h25 => ?_)
      · refine ar_move rfl rfl rfl rfl ?_
        refine ar_move rfl rfl rfl rfl ?_
        refine ar_move rfl rfl rfl rfl ?_
        refine ar_ia tab_ok rfl rfl rfl tb70 rfl tb72 (by omega) (map_get (n := j) (by omega)) rfl rfl rfl ?_
        refine ar_ld_ref tab_ok rfl rfl tb72 rfl rfl rfl rfl ?_
        refine ar_neq_s rfl rfl rfl rfl rfl (fun h31 => ?_) (fun h31 => ?_)
        · refine ar_pickT rfl rfl rfl rfl rfl ?_
          refine ar_nil ?_
          refine then_n ?_
          refine wp_condT rfl ?_
          refine wp_seq ?_
          refine wp_reg (by kernel_rfl) ?_
          refine ar_assign rfl rfl rfl rfl ?_
          refine ar_nil ?_
          refine then_n ?_
          refine wp_ret ?_
          refine inblk_r (then_r (loop_r (inblk_r (then_r (ret_post rfl rfl ?_)))))
          show _ = V.bool (pairs lowT xs ys)
          rw [pairs_at (j := j) (by omega) (by simp [lowT]; exact ⟨h25, h31⟩)]
        · refine ar_pickT rfl rfl rfl rfl rfl ?_
          refine ar_nil ?_
          refine then_n ?_
          refine wp_condF rfl ?_
          refine wp_skip ?_
          refine inblk_n ?_
          refine then_n ?_
          refine wp_reg (by kernel_rfl) ?_
          refine ar_move rfl rfl rfl rfl ?_
          refine ar_addi rfl rfl rfl rfl (by omega) (by omega) rfl rfl ?_
          refine ar_assign rfl rfl rfl rfl ?_
          refine ar_nil ?_
          exact loop_n (j + 1) ⟨by omega, fun q hq => (Nat.lt_succ_iff_lt_or_eq.1 hq).elim (hj2 q) (fun e => e ▸ (by simp only [lowT, Bool.or_eq_true, decide_eq_true_eq]; omega))⟩ (by omega) (le_to ⟨rfl, rfl, rfl, trivial⟩ trivial rfl rfl rfl rfl)
      · refine ar_move rfl rfl rfl rfl ?_
        refine ar_skip rfl rfl ?_
        refine ar_skip rfl rfl ?_
        refine ar_skip rfl rfl ?_
        refine ar_skip rfl rfl ?_
        refine ar_skip rfl rfl ?_
        refine ar_pickF rfl rfl rfl rfl rfl ?_
        refine ar_nil ?_
        refine then_n ?_
        refine wp_condF rfl ?_
        refine wp_skip ?_
        refine inblk_n ?_
        refine then_n ?_
        refine wp_reg (by kernel_rfl) ?_
        refine ar_move rfl rfl rfl rfl ?_
        refine ar_addi rfl rfl rfl rfl (by omega) (by omega) rfl rfl ?_
        refine ar_assign rfl rfl rfl rfl ?_
        refine ar_nil ?_
        exact loop_n (j + 1) ⟨by omega, fun q hq => (Nat.lt_succ_iff_lt_or_eq.1 hq).elim (hj2 q) (fun e => e ▸ (by simp only [lowT, Bool.or_eq_true, decide_eq_true_eq]; omega))⟩ (by omega) (le_to ⟨rfl, rfl, rfl, trivial⟩ trivial rfl rfl rfl rfl)
    · refine ar_nil ?_
      refine then_n ?_
      refine wp_condF rfl ?_
      refine wp_exit ?_
      refine then_x (loop_x (inblk_e ?_))
      refine then_n ?_
      refine wp_seq ?_
      refine wp_reg (by kernel_rfl) ?_
      refine ar_assign rfl rfl rfl rfl ?_
      refine ar_nil ?_
      refine then_n ?_
      refine wp_ret ?_
      refine ret_post rfl rfl ?_
      show _ = V.bool (pairs lowT xs ys)
      rw [pairs_of (by omega) (fun q hq => hj2 q (by omega))]


theorem pairs_eq : ∀ {xs ys : List Int}, pairs (fun a b : Int => decide (a = b)) xs ys = decide (xs = ys)
  | [], [] => rfl
  | [], y :: ys => rfl
  | x :: xs, [] => rfl
  | x :: xs, y :: ys => by simp only [pairs, pairs_eq, List.cons.injEq, Bool.decide_and]

theorem pc_60 (xs ys : List Int) (hl : xs.length ≤ 9223372036854775807) (hl2 : ys.length ≤ 9223372036854775807) : PCall Try.prog 60 [slU xs, slU ys] (.bool (decide (xs = ys))) := by
  refine pc_of tab_ok (f := 60) (fn := Try.f60) (N := 26) (rs := [.tmp 4]) (by kernel_rfl) rfl (by kernel_rfl) rfl rfl [(0, .v (slU xs)), (1, .v (slU ys))] ⟨rfl, rfl, trivial⟩ rfl rfl ?_
  intro B
  refine wp_seq ?_
  refine wp_reg (by kernel_rfl) ?_
  refine ar_assign rfl rfl rfl rfl ?_
  refine ar_nil ?_
  refine then_n ?_
  refine wp_seq ?_
  refine wp_seq ?_
  refine wp_reg (by kernel_rfl) ?_
  refine ar_move rfl rfl rfl rfl ?_
  refine ar_len tab_ok rfl rfl tb70 rfl len_map rfl rfl ?_
  refine ar_move rfl rfl rfl rfl ?_
  refine ar_len tab_ok rfl rfl tb70 rfl len_map rfl rfl ?_
  refine ar_neq_s rfl rfl rfl rfl rfl (fun h10 => ?_) (fun h10 => ?_)
  · refine ar_nil ?_
    refine then_n ?_
    refine wp_condT rfl ?_
    refine wp_seq ?_
    refine wp_reg (by kernel_rfl) ?_
    refine ar_assign rfl rfl rfl rfl ?_
    refine ar_nil ?_
    refine then_n ?_
    refine wp_ret ?_
    refine then_r (ret_post rfl rfl ?_)
    rw [← pairs_eq, pairs_len (by omega)]
  · refine ar_nil ?_
    refine then_n ?_
    refine wp_condF rfl ?_
    refine wp_skip ?_
    refine then_n ?_
    refine wp_seq ?_
    refine wp_seq ?_
    refine wp_reg (by kernel_rfl) ?_
    refine ar_assign rfl rfl rfl rfl ?_
    refine ar_nil ?_
    refine then_n ?_
    refine wp_block ?_
    refine wp_loop (α := Nat) (fun j => mk [(0, .v (slU xs)), (1, .v (slU ys)), (5, .v (.int .i64 (j : Nat)))] [] 0) (fun j => j ≤ xs.length ∧ ∀ q, q < j → (fun a b : Int => decide (a = b)) (xs.getD q default) (ys.getD q default) = true) (fun j => xs.length - j) 0 ⟨Nat.zero_le _, fun q h => absurd h (Nat.not_lt_zero q)⟩ (le_to ⟨rfl, rfl, rfl, trivial⟩ trivial rfl rfl rfl rfl) ?_
    rintro j ⟨hj1, hj2⟩
    refine wp_seq ?_
    refine wp_seq ?_
    refine wp_reg (by kernel_rfl) ?_
    refine ar_move rfl rfl rfl rfl ?_
    refine ar_move rfl rfl rfl rfl ?_
    refine ar_len tab_ok rfl rfl tb70 rfl len_map rfl rfl ?_
    refine ar_lss_s rfl rfl rfl rfl rfl (fun h14 => ?_) (fun h14 => ?_)
    · refine ar_nil ?_
      refine then_n ?_
      refine wp_condT rfl ?_
      refine wp_skip ?_
      refine then_n ?_
      refine wp_seq ?_
      refine wp_block ?_
      refine wp_seq ?_
      refine wp_draw (L := [([], []), ([], []), ([], []), ([], []), ([], []), ([], []), ([], []), ([], []), ([], [])]) (by kernel_rfl) mixed (by kernel_rfl) ?_
      refine ar_move rfl rfl rfl rfl ?_
      refine ar_move rfl rfl rfl rfl ?_
      refine ar_ia tab_ok rfl rfl rfl tb70 rfl tb72 (by omega) (map_get (n := j) (by omega)) rfl rfl rfl ?_
      refine ar_ld_ref tab_ok rfl rfl tb72 rfl rfl rfl rfl ?_
      refine ar_move rfl rfl rfl rfl ?_
      refine ar_move rfl rfl rfl rfl ?_
      refine ar_ia tab_ok rfl rfl rfl tb70 rfl tb72 (by omega) (map_get (n := j) (by omega)) rfl rfl rfl ?_
      refine ar_ld_ref tab_ok rfl rfl tb72 rfl rfl rfl rfl ?_
      refine ar_neq_s rfl rfl rfl rfl rfl (fun h25 => ?_) (fun h25 => ?_)
      · refine ar_nil ?_
        refine then_n ?_
        refine wp_condT rfl ?_
        refine wp_seq ?_
        refine wp_reg (by kernel_rfl) ?_
        refine ar_assign rfl rfl rfl rfl ?_
        refine ar_nil ?_
        refine then_n ?_
        refine wp_ret ?_
        refine inblk_r (then_r (loop_r (inblk_r (then_r (ret_post rfl rfl ?_)))))
        rw [← pairs_eq, pairs_at (j := j) (by omega) (decide_eq_false h25)]
      · refine ar_nil ?_
        refine then_n ?_
        refine wp_condF rfl ?_
        refine wp_skip ?_
        refine inblk_n ?_
        refine then_n ?_
        refine wp_reg (by kernel_rfl) ?_
        refine ar_move rfl rfl rfl rfl ?_
        refine ar_addi rfl rfl rfl rfl (by omega) (by omega) rfl rfl ?_
        refine ar_assign rfl rfl rfl rfl ?_
        refine ar_nil ?_
        exact loop_n (j + 1) ⟨by omega, fun q hq => (Nat.lt_succ_iff_lt_or_eq.1 hq).elim (hj2 q) (fun e => e ▸ decide_eq_true (Decidable.not_not.1 h25))⟩ (by omega) (le_to ⟨rfl, rfl, rfl, trivial⟩ trivial rfl rfl rfl rfl)
    · refine ar_nil ?_
      refine then_n ?_
      refine wp_condF rfl ?_
      refine wp_exit ?_
      refine then_x (loop_x (inblk_e ?_))
      refine then_n ?_
      refine wp_seq ?_
      refine wp_reg (by kernel_rfl) ?_
      refine ar_assign rfl rfl rfl rfl ?_
      refine ar_nil ?_
      refine then_n ?_
      refine wp_ret ?_
      refine ret_post rfl rfl ?_
      rw [← pairs_eq, pairs_of (by omega) (fun q hq => hj2 q (by omega))]


theorem ch_get {x : Int} (h : Tri x) : (⟨#[48, 49, 120]⟩ : ByteArray)[x.toNat]? = some (UInt8.ofNat (chT x).toNat) := by
  rcases h.cases with rfl | rfl | rfl <;> rfl
theorem chT_u8 (x : Int) : ((UInt8.ofNat (chT x).toNat).toNat : Int) = chT x := by
  unfold chT; split <;> (try split) <;> rfl
theorem text_set {xs : List Int} {j : Nat} (h : j < xs.length) : ((xs.take j).map chT ++ List.replicate (xs.length - j) 0).set j (chT (xs.getD j default)) = (xs.take (j + 1)).map chT ++ List.replicate (xs.length - (j + 1)) 0 := by
  rw [List.set_append_right _ _ (by simp; omega), take_snoc h, show xs.length - j = xs.length - (j + 1) + 1 by omega, List.replicate_succ]
  have : j - ((xs.take j).map chT).length = 0 := by simp; omega
  rw [this]; simp

theorem pc_53 (xs : List Int) (hl : xs.length ≤ 140737488355328) (ht : ∀ x, x ∈ xs → Tri x) : PCall Try.prog 53 [slU xs] (.str (textT xs)) := by
  refine pc_of tab_ok (f := 53) (fn := Try.f53) (N := 24) (rs := [.tmp 2]) (by kernel_rfl) rfl (by kernel_rfl) rfl rfl [(0, .v (slU xs))] ⟨rfl, trivial⟩ rfl rfl ?_
  intro B
  refine wp_seq ?_
  refine wp_reg (by kernel_rfl) ?_
  refine ar_assign rfl rfl rfl rfl ?_
  refine ar_nil ?_
  refine then_n ?_
  refine wp_seq ?_
  refine wp_reg (by kernel_rfl) ?_
  refine ar_move rfl rfl rfl rfl ?_
  refine ar_len tab_ok rfl rfl tb70 rfl len_map rfl rfl ?_
  refine ar_make 8 (el0 := [.int .u8 0]) tab_ok rfl tb146 rfl tb5 rfl rfl rfl rfl rfl ⟨by omega, by omega, by omega, by simp; omega⟩ rfl rfl rfl rfl rfl ?_
  refine ar_assign rfl rfl rfl rfl ?_
  refine ar_nil ?_
  refine then_n ?_
  refine wp_seq ?_
  refine wp_seq ?_
  refine wp_reg (by kernel_rfl) ?_
  refine ar_move rfl rfl rfl rfl ?_
  refine ar_len tab_ok rfl rfl tb70 rfl len_map rfl rfl ?_
  refine ar_move rfl rfl rfl rfl ?_
  refine ar_nil ?_
  refine then_n ?_
  refine wp_block ?_
  refine wp_loop (α := Nat) (fun j => mk [(3, .own 8), (9, .v (slU xs)), (10, .v (.int .i64 (xs.length : Nat))), (11, .v (.int .i64 (j : Nat)))] [(8, .row 5 1 (((xs.take j).map chT ++ List.replicate (xs.length - j) 0).map encU))] 0) (fun j => j ≤ xs.length) (fun j => xs.length - j) 0 (Nat.zero_le _) (le_to ⟨rfl, rfl, rfl, rfl, trivial⟩ ⟨(row_eq rfl (by simp)), trivial⟩ rfl rfl rfl rfl) ?_
  rintro j hinv
  refine wp_seq ?_
  refine wp_reg (by kernel_rfl) ?_
  refine ar_lss_s rfl rfl rfl rfl rfl (fun h12 => ?_) (fun h12 => ?_)
  · refine ar_nil ?_
    refine then_n ?_
    refine wp_seq ?_
    refine wp_condT rfl ?_
    refine wp_skip ?_
    refine then_n ?_
    refine wp_seq ?_
    refine wp_block ?_
    refine wp_seq ?_
    refine wp_reg (by kernel_rfl) ?_
    refine ar_move rfl rfl rfl rfl ?_
    refine ar_ia tab_ok rfl rfl rfl tb70 rfl tb72 (by omega) (map_get (n := j) (by omega)) rfl rfl rfl ?_
    refine ar_ld_ref tab_ok rfl rfl tb72 rfl rfl rfl rfl ?_
    refine ar_assign rfl rfl rfl rfl ?_
    refine ar_assign rfl rfl rfl rfl ?_
    refine ar_nil ?_
    refine then_n ?_
    refine wp_reg (by kernel_rfl) ?_
    refine ar_move rfl rfl rfl rfl ?_
    refine ar_move rfl rfl rfl rfl ?_
    refine ar_move rfl rfl rfl rfl ?_
    refine ar_ix_str tab_ok rfl rfl rfl tb9 rfl (ht _ (getD_mem (by omega))).1 (ch_get (ht _ (getD_mem (by omega)))) rfl rfl ?_
    refine ar_to (d' := .v (.int .u8 (chT (xs.getD j default)))) (congrArg (fun z => D.v (V.int .u8 z)) (chT_u8 _)) ?_
    refine ar_ia_own tab_ok rfl rfl rfl rfl tb146 rfl tb5 rfl (by omega) (by simp; omega) rfl rfl rfl rfl ?_
    refine ar_st_e tab_ok rfl tb5 rfl rfl rfl rfl rfl (by simp; omega) set_map rfl rfl rfl ?_
    refine ar_nil ?_
    refine inblk_n ?_
    refine then_n ?_
    refine wp_reg (by kernel_rfl) ?_
    refine ar_addi rfl rfl rfl rfl (by omega) (by omega) rfl rfl ?_
    refine ar_move rfl rfl rfl rfl ?_
    refine ar_nil ?_
    exact loop_n (j + 1) (by omega) (by omega) (le_to ⟨rfl, rfl, rfl, rfl, trivial⟩ ⟨(row_eq rfl (by exact congrArg (List.map encU) (text_set (xs := xs) (j := j) (by omega)))), trivial⟩ rfl rfl rfl rfl)
  · refine ar_nil ?_
    refine then_n ?_
    refine wp_seq ?_
    refine wp_condF rfl ?_
    refine wp_exit ?_
    refine then_x (loop_x (inblk_e ?_))
    refine then_n ?_
    refine wp_seq ?_
    refine wp_reg (by kernel_rfl) ?_
    refine ar_move rfl rfl rfl rfl ?_
    refine ar_b2s (xs.map chT) tab_ok rfl tb146 tb9 rfl tb5 rfl rfl rfl rfl (by simp [List.take_of_length_le (show xs.length ≤ j by omega), show xs.length - j = 0 by omega]) rfl rfl rfl ?_
    refine ar_assign rfl rfl rfl rfl ?_
    refine ar_nil ?_
    refine then_n ?_
    refine wp_ret ?_
    refine ret_post rfl rfl ?_
    rfl


theorem push_one (a : ByteArray) (c : UInt8) : a.push c = a ++ (⟨#[c]⟩ : ByteArray) := by
  apply ByteArray.ext
  simp [ByteArray.data_append]
theorem text_snoc (xs : List Int) (x : Int) : textT (xs ++ [x]) = textT xs ++ (⟨#[UInt8.ofNat (chT x).toNat]⟩ : ByteArray) := by
  simp only [textT, List.map_append, List.map_cons, List.map_nil, bytesOf_snoc, push_one]
theorem textT_size (xs : List Int) : (textT xs).size = xs.length := by simp [textT, bytesOf_size]

theorem pc_54 (xs : List Int) (hl : xs.length ≤ 1000000) : PCall Try.prog 54 [slU xs] (.str (textT xs)) := by
  refine pc_of tab_ok (f := 54) (fn := Try.f54) (N := 26) (rs := [.tmp 2]) (by kernel_rfl) rfl (by kernel_rfl) rfl rfl [(0, .v (slU xs))] ⟨rfl, trivial⟩ rfl rfl ?_
  intro B
  refine wp_seq ?_
  refine wp_reg (by kernel_rfl) ?_
  refine ar_assign rfl rfl rfl rfl ?_
  refine ar_nil ?_
  refine then_n ?_
  refine wp_seq ?_
  refine wp_reg (by kernel_rfl) ?_
  refine ar_assign rfl rfl rfl rfl ?_
  refine ar_nil ?_
  refine then_n ?_
  refine wp_seq ?_
  refine wp_seq ?_
  refine wp_reg (by kernel_rfl) ?_
  refine ar_assign rfl rfl rfl rfl ?_
  refine ar_nil ?_
  refine then_n ?_
  refine wp_block ?_
  refine wp_loop (α := Nat) (fun j => mk [(0, .v (slU xs)), (3, .v (.str (textT (xs.take j)))), (4, .v (.int .i64 (j : Nat)))] [] 0) (fun j => j ≤ xs.length) (fun j => xs.length - j) 0 (Nat.zero_le _) (le_to ⟨rfl, rfl, rfl, trivial⟩ trivial rfl rfl rfl rfl) ?_
  rintro j hinv
  refine wp_seq ?_
  refine wp_seq ?_
  refine wp_reg (by kernel_rfl) ?_
  refine ar_move rfl rfl rfl rfl ?_
  refine ar_move rfl rfl rfl rfl ?_
  refine ar_len tab_ok rfl rfl tb70 rfl len_map rfl rfl ?_
  refine ar_lss_s rfl rfl rfl rfl rfl (fun h8 => ?_) (fun h8 => ?_)
  · refine ar_nil ?_
    refine then_n ?_
    refine wp_condT rfl ?_
    refine wp_skip ?_
    refine then_n ?_
    refine wp_seq ?_
    refine wp_block ?_
    refine wp_seq ?_
    refine wp_reg (by kernel_rfl) ?_
    refine ar_move rfl rfl rfl rfl ?_
    refine ar_move rfl rfl rfl rfl ?_
    refine ar_ia tab_ok rfl rfl rfl tb70 rfl tb72 (by omega) (map_get (n := j) (by omega)) rfl rfl rfl ?_
    refine ar_ld_ref tab_ok rfl rfl tb72 rfl rfl rfl rfl ?_
    refine ar_nil ?_
    refine then_n ?_
    refine wp_block ?_
    refine wp_seq ?_
    refine wp_reg (by kernel_rfl) ?_
    refine ar_eql_s rfl rfl rfl rfl rfl (fun h18 => ?_) (fun h18 => ?_)
    · refine ar_assign rfl rfl rfl rfl ?_
      refine ar_nil ?_
      refine then_n ?_
      refine wp_condT rfl ?_
      refine wp_reg (by kernel_rfl) ?_
      refine ar_move rfl rfl rfl rfl ?_
      refine ar_sadd rfl rfl rfl (by have := textT_size (xs.take j); simp at this ⊢; show _ + 1 ≤ _; omega) rfl rfl ?_
      refine ar_assign rfl rfl rfl rfl ?_
      refine ar_nil ?_
      refine inblk_n ?_
      refine inblk_n ?_
      refine then_n ?_
      refine wp_reg (by kernel_rfl) ?_
      refine ar_move rfl rfl rfl rfl ?_
      refine ar_addi rfl rfl rfl rfl (by omega) (by omega) rfl rfl ?_
      refine ar_assign rfl rfl rfl rfl ?_
      refine ar_nil ?_
      exact loop_n (j + 1) (by omega) (by omega) (le_to ⟨rfl, (t_eq rfl (by rw [take_snoc (by omega), text_snoc]; simp only [chT, *]; rfl)), rfl, trivial⟩ trivial rfl rfl rfl rfl)
    · refine ar_assign rfl rfl rfl rfl ?_
      refine ar_nil ?_
      refine then_n ?_
      refine wp_condF rfl ?_
      refine wp_seq ?_
      refine wp_reg (by kernel_rfl) ?_
      refine ar_eql_s rfl rfl rfl rfl rfl (fun h22 => ?_) (fun h22 => ?_)
      · refine ar_assign rfl rfl rfl rfl ?_
        refine ar_nil ?_
        refine then_n ?_
        refine wp_condT rfl ?_
        refine wp_reg (by kernel_rfl) ?_
        refine ar_move rfl rfl rfl rfl ?_
        refine ar_sadd rfl rfl rfl (by have := textT_size (xs.take j); simp at this ⊢; show _ + 1 ≤ _; omega) rfl rfl ?_
        refine ar_assign rfl rfl rfl rfl ?_
        refine ar_nil ?_
        refine inblk_n ?_
        refine inblk_n ?_
        refine then_n ?_
        refine wp_reg (by kernel_rfl) ?_
        refine ar_move rfl rfl rfl rfl ?_
        refine ar_addi rfl rfl rfl rfl (by omega) (by omega) rfl rfl ?_
        refine ar_assign rfl rfl rfl rfl ?_
        refine ar_nil ?_
        exact loop_n (j + 1) (by omega) (by omega) (le_to ⟨rfl, (t_eq rfl (by rw [take_snoc (by omega), text_snoc]; simp only [chT, *]; rfl)), rfl, trivial⟩ trivial rfl rfl rfl rfl)
      · refine ar_assign rfl rfl rfl rfl ?_
        refine ar_nil ?_
        refine then_n ?_
        refine wp_condF rfl ?_
        refine wp_reg (by kernel_rfl) ?_
        refine ar_move rfl rfl rfl rfl ?_
        refine ar_sadd rfl rfl rfl (by have := textT_size (xs.take j); simp at this ⊢; show _ + 1 ≤ _; omega) rfl rfl ?_
        refine ar_assign rfl rfl rfl rfl ?_
        refine ar_nil ?_
        refine inblk_n ?_
        refine inblk_n ?_
        refine then_n ?_
        refine wp_reg (by kernel_rfl) ?_
        refine ar_move rfl rfl rfl rfl ?_
        refine ar_addi rfl rfl rfl rfl (by omega) (by omega) rfl rfl ?_
        refine ar_assign rfl rfl rfl rfl ?_
        refine ar_nil ?_
        exact loop_n (j + 1) (by omega) (by omega) (le_to ⟨rfl, (t_eq rfl (by rw [take_snoc (by omega), text_snoc]; simp only [chT, *]; rfl)), rfl, trivial⟩ trivial rfl rfl rfl rfl)
  · refine ar_nil ?_
    refine then_n ?_
    refine wp_condF rfl ?_
    refine wp_exit ?_
    refine then_x (loop_x (inblk_e ?_))
    refine then_n ?_
    refine wp_seq ?_
    refine wp_reg (by kernel_rfl) ?_
    refine ar_move rfl rfl rfl rfl ?_
    refine ar_assign rfl rfl rfl rfl ?_
    refine ar_nil ?_
    refine then_n ?_
    refine wp_ret ?_
    refine ret_post rfl rfl ?_
    rw [List.take_of_length_le (by omega)]

end Go.Vd
