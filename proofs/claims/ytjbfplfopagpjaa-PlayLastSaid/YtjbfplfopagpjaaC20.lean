/- Traces: whether one is right, how many holes it has: the program's functions and the document's. -/
import Derived.Test.YtjbfplfopagpjaaB5
import Derived.Test.YtjbfplfopagpjaaD4
namespace Go.Vd
open Go.Proofs

def startsT (l : Latch) (v : Int) : Bool := decide (l.reset > 1) || decide (v = l.reset)
def oddT (a : Aig) (r : List Int) : Bool := decide ((r.length : Int) ≠ a.i) || !isTri r
def rightT (a : Aig) (t : Trace) : Bool :=
  (decide (0 ≤ t.bad) && (decide (t.bad < a.bad.length) && (decide (1 ≤ t.ins.length) && (decide (t.ins.length ≤ 200) && isTri t.ini)))) && (pairs startsT a.l t.ini && !t.ins.any (oddT a))
structure RightT (a : Aig) (t : Trace) : Prop where
  b0 : 0 ≤ t.bad
  b1 : t.bad < a.bad.length
  n0 : 1 ≤ t.ins.length
  n1 : t.ins.length ≤ 200
  it : isTri t.ini = true
  ip : pairs startsT a.l t.ini = true
  rl : ∀ r, r ∈ t.ins → (r.length : Int) = a.i
  rt : ∀ r, r ∈ t.ins → isTri r = true
theorem rightT_iff {a : Aig} {t : Trace} : rightT a t = true ↔ RightT a t := by
  simp only [rightT, Bool.and_eq_true, decide_eq_true_eq, Bool.not_eq_true', List.any_eq_false]
  constructor
  · rintro ⟨⟨h1, h2, h3, h4, h5⟩, h6, h7⟩
    have h8 : ∀ r, r ∈ t.ins → (r.length : Int) = a.i ∧ isTri r = true := fun r hr => by
      have := h7 r hr
      simp only [oddT, Bool.or_eq_true, decide_eq_true_eq, Bool.not_eq_true', not_or] at this
      exact ⟨Decidable.not_not.1 this.1, by simpa using this.2⟩
    exact ⟨h1, h2, h3, h4, h5, h6, fun r hr => (h8 r hr).1, fun r hr => (h8 r hr).2⟩
  · rintro ⟨h1, h2, h3, h4, h5, h6, h7, h8⟩
    exact ⟨⟨h1, h2, h3, h4, h5⟩, h6, fun r hr => by simp [oddT, h7 r hr, h8 r hr]⟩
theorem rightT_no {a : Aig} {t : Trace} (h : RightT a t → False) : rightT a t = false := by
  cases hb : rightT a t with
  | false => rfl
  | true => exact (h (rightT_iff.1 hb)).elim
theorem rightT_main {a : Aig} {t : Trace} (h1 : 0 ≤ t.bad) (h2 : t.bad < a.bad.length) (h3 : 1 ≤ t.ins.length) (h4 : t.ins.length ≤ 200) (h5 : isTri t.ini = true) : rightT a t = (pairs startsT a.l t.ini && !t.ins.any (oddT a)) := by
  simp [rightT, h1, h2, h3, h4, h5]
theorem RightT.il {a : Aig} {t : Trace} (h : RightT a t) : t.ini.length = a.l.length := (pairs_same h.ip).symm
theorem pairs_same' {α β : Type} [Inhabited α] [Inhabited β] {p : α → β → Bool} {xs : List α} {ys : List β} (h : pairs p xs ys = true) : xs.length = ys.length := ((pairs_iff p xs ys).1 h).1
def manyT (l : List Int) : Nat := l.countP fun x => decide (x = 2)
theorem manyT_le (l : List Int) : manyT l ≤ l.length := List.countP_le_length
theorem manyT_snoc (l : List Int) (x : Int) : manyT (l ++ [x]) = manyT l + (if x = 2 then 1 else 0) := by
  simp only [manyT, List.countP_append]
  by_cases h : x = 2 <;> simp [h]
def manyR (rs : List (List Int)) : Nat := (rs.map manyT).sum
theorem manyR_snoc (rs : List (List Int)) (r : List Int) : manyR (rs ++ [r]) = manyR rs + manyT r := by simp [manyR]
theorem manyR_le : ∀ (rs : List (List Int)) (n : Nat), (∀ r, r ∈ rs → r.length ≤ n) → manyR rs ≤ rs.length * n
  | [], n, _ => by simp [manyR]
  | r :: rs, n, h => by
    have h1 := manyR_le rs n (fun x hx => h x (List.mem_cons_of_mem _ hx))
    have h2 := manyT_le r
    have h3 := h r List.mem_cons_self
    simp only [manyR, List.map_cons, List.sum_cons, List.length_cons] at *
    rw [Nat.add_mul]; omega
def holesT (t : Trace) : Nat := manyR (t.ini :: t.ins)
/-- Sizes that counting bears. -/
structure SzT (t : Trace) : Prop where
  il : t.ini.length ≤ 1000000
  nl : t.ins.length ≤ 1000000
  rl : ∀ r, r ∈ t.ins → r.length ≤ 1000000
theorem SzT.rows {t : Trace} (h : SzT t) : ∀ r, r ∈ t.ini :: t.ins → r.length ≤ 1000000 := fun r hr => by
  rcases List.mem_cons.1 hr with rfl | hr
  · exact h.il
  · exact h.rl r hr
theorem manyR_take {rs : List (List Int)} (hl : rs.length ≤ 1000001) (h : ∀ r, r ∈ rs → r.length ≤ 1000000) (j : Nat) : manyR (rs.take j) ≤ 1000001000000 := by
  have h1 := manyR_le (rs.take j) 1000000 (fun r hr => h r (List.mem_of_mem_take hr))
  have h2 : (rs.take j).length ≤ 1000001 := by simp; omega
  have := Nat.mul_le_mul_right 1000000 h2
  omega
structure SmallT (t : Trace) (n : Int) : Prop where
  il : t.ini.length ≤ 60
  nl : (t.ins.length : Int) ≤ n
  rl : ∀ r, r ∈ t.ins → r.length ≤ 60
theorem SmallT.sz {t : Trace} {n : Int} (h : SmallT t n) (hn : n ≤ 1000) : SzT t := ⟨by have := h.il; omega, by have := h.nl; omega, fun r hr => by have := h.rl r hr; omega⟩
theorem RightT.sz {a : Aig} {t : Trace} (hb : Bd a) (h : RightT a t) : SzT t := ⟨by have := h.il; have := hb.l1; omega, by have := h.n1; omega, fun r hr => by have := h.rl r hr; have := hb.i1; omega⟩

theorem pce_146 (xs : List (List Int)) (f : FuncId) (fi ca : List V) (p : (List Int) → Bool) (hl : xs.length ≤ 9223372036854775807) (hc : ∀ x, x ∈ xs → PCall Try.prog f (fi ++ [slU x] ++ ca) (.bool (p x))) : PCallE Try.prog 146 [slUU xs, .fn (.func f) fi ca] (fun r => ∃ n : Int, r = .int .i64 n ∧ decide (n ≥ 0) = xs.any p) := by
  refine pce_of tab_ok (f := 146) (fn := Try.f146) (N := 19) (rs := [.tmp 4]) (by kernel_rfl) rfl (by kernel_rfl) rfl rfl [(0, .v (slUU xs)), (1, .v (.fn (.func f) fi ca))] ⟨rfl, rfl, trivial⟩ rfl rfl ?_
  intro B
  refine wp_seq ?_
  refine wp_reg (by kernel_rfl) ?_
  refine ar_assign rfl rfl rfl rfl ?_
  refine ar_nil ?_
  refine then_n ?_
  refine wp_seq ?_
  refine wp_seq ?_
  refine wp_reg (by kernel_rfl) ?_
  refine ar_move rfl rfl rfl rfl ?_
  refine ar_len tab_ok rfl rfl tb99 rfl len_map rfl rfl ?_
  refine ar_move rfl rfl rfl rfl ?_
  refine ar_nil ?_
  refine then_n ?_
  refine wp_block ?_
  refine wp_loop (α := Nat) (fun j => mk [(0, .v (slUU xs)), (1, .v (.fn (.func f) fi ca)), (7, .v (.int .i64 (xs.length : Nat))), (8, .v (.int .i64 (j : Nat)))] [] 0) (fun j => j ≤ xs.length ∧ ∀ q, q < j → p (xs.getD q default) = false) (fun j => xs.length - j) 0 ⟨Nat.zero_le _, fun q h => absurd h (Nat.not_lt_zero q)⟩ (le_to ⟨rfl, rfl, rfl, rfl, trivial⟩ trivial rfl rfl rfl rfl) ?_
  rintro j ⟨hj1, hj2⟩
  refine wp_seq ?_
  refine wp_reg (by kernel_rfl) ?_
  refine ar_lss_s rfl rfl rfl rfl rfl (fun h9 => ?_) (fun h9 => ?_)
  · refine ar_nil ?_
    refine then_n ?_
    refine wp_seq ?_
    refine wp_condT rfl ?_
    refine wp_skip ?_
    refine then_n ?_
    refine wp_seq ?_
    refine wp_block ?_
    refine wp_seq ?_
    refine wp_reg (by kernel_rfl) ?_
    refine ar_move rfl rfl rfl rfl ?_
    refine ar_assign rfl rfl rfl rfl ?_
    refine ar_nil ?_
    refine then_n ?_
    refine wp_seq ?_
    refine wp_reg (by kernel_rfl) ?_
    refine ar_move rfl rfl rfl rfl ?_
    refine ar_move rfl rfl rfl rfl ?_
    refine ar_move rfl rfl rfl rfl ?_
    refine ar_ia tab_ok rfl rfl rfl tb99 rfl tb70 (by omega) (map_get (n := j) (by omega)) rfl rfl rfl ?_
    refine ar_ld_ref tab_ok rfl rfl tb70 rfl rfl rfl rfl ?_
    refine ar_call [] (hc _ (getD_mem (by omega))) rfl rfl rfl rfl rfl rfl trivial (.inl rfl) rfl rfl rfl ?_
    refine ar_split (fun h16 => ?_) (fun h16 => ?_)
    · refine ar_nil ?_
      refine then_n ?_
      refine wp_condT rfl ?_
      refine wp_seq ?_
      refine wp_reg (by kernel_rfl) ?_
      refine ar_move rfl rfl rfl rfl ?_
      refine ar_assign rfl rfl rfl rfl ?_
      refine ar_nil ?_
      refine then_n ?_
      refine wp_ret ?_
      refine inblk_r (then_r (loop_r (inblk_r (then_r (ret_postE rfl rfl ?_)))))
      exact ⟨_, rfl, by rw [any_of (by omega) h16]; simp⟩
    · refine ar_nil ?_
      refine then_n ?_
      refine wp_condF rfl ?_
      refine wp_skip ?_
      refine inblk_n ?_
      refine then_n ?_
      refine wp_reg (by kernel_rfl) ?_
      refine ar_addi rfl rfl rfl rfl (by omega) (by omega) rfl rfl ?_
      refine ar_move rfl rfl rfl rfl ?_
      refine ar_nil ?_
      exact loop_n (j + 1) ⟨by omega, fun q hq => (Nat.lt_succ_iff_lt_or_eq.1 hq).elim (hj2 q) (fun e => e ▸ h16)⟩ (by omega) (le_to ⟨rfl, rfl, rfl, rfl, trivial⟩ trivial rfl rfl rfl rfl)
  · refine ar_nil ?_
    refine then_n ?_
    refine wp_seq ?_
    refine wp_condF rfl ?_
    refine wp_exit ?_
    refine then_x (loop_x (inblk_e ?_))
    refine then_n ?_
    refine wp_seq ?_
    refine wp_reg (by kernel_rfl) ?_
    refine ar_assign rfl rfl rfl rfl ?_
    refine ar_nil ?_
    refine then_n ?_
    refine wp_ret ?_
    refine ret_postE rfl rfl ?_
    exact ⟨_, rfl, by rw [any_no (fun q hq => hj2 q (by omega))]; rfl⟩

theorem pc_141 (xs : List (List Int)) (f : FuncId) (fi ca : List V) (p : (List Int) → Bool) (hl : xs.length ≤ 9223372036854775807) (hc : ∀ x, x ∈ xs → PCall Try.prog f (fi ++ [slU x] ++ ca) (.bool (p x))) : PCall Try.prog 141 [slUU xs, .fn (.func f) fi ca] (.bool (xs.any p)) := by
  refine pc_of tab_ok (f := 141) (fn := Try.f141) (N := 9) (rs := [.tmp 4]) (by kernel_rfl) rfl (by kernel_rfl) rfl rfl [(0, .v (slUU xs)), (1, .v (.fn (.func f) fi ca))] ⟨rfl, rfl, trivial⟩ rfl rfl ?_
  intro B
  refine wp_seq ?_
  refine wp_reg (by kernel_rfl) ?_
  refine ar_assign rfl rfl rfl rfl ?_
  refine ar_nil ?_
  refine then_n ?_
  refine wp_seq ?_
  refine wp_reg (by kernel_rfl) ?_
  refine ar_move rfl rfl rfl rfl ?_
  refine ar_move rfl rfl rfl rfl ?_
  refine ar_callE [] (pce_146 xs f fi ca p hl hc) rfl rfl rfl rfl rfl rfl trivial (.inl rfl) rfl rfl rfl ?_
  rintro _ ⟨n, rfl, hn⟩
  refine ar_geq (z := xs.any p) rfl rfl rfl hn rfl rfl ?_
  refine ar_assign rfl rfl rfl rfl ?_
  refine ar_nil ?_
  refine then_n ?_
  refine wp_ret ?_
  refine ret_post rfl rfl ?_
  rfl

theorem pc_139 (xs : List Latch) (ys : List Int) (f : FuncId) (fi ca : List V) (p : Latch → Int → Bool) (hl : xs.length ≤ 9223372036854775807) (hl2 : ys.length ≤ 9223372036854775807) (hc : ∀ x y, x ∈ xs → y ∈ ys → PCall Try.prog f (fi ++ [.agg (encL x), .int .u8 y] ++ ca) (.bool (p x y))) : PCall Try.prog 139 [slL xs, slU ys, .fn (.func f) fi ca] (.bool (pairs p xs ys)) := by
  refine pc_of tab_ok (f := 139) (fn := Try.f139) (N := 32) (rs := [.tmp 6]) (by kernel_rfl) rfl (by kernel_rfl) rfl rfl [(0, .v (slL xs)), (1, .v (slU ys)), (2, .v (.fn (.func f) fi ca))] ⟨rfl, rfl, rfl, trivial⟩ rfl rfl ?_
  intro B
  refine wp_seq ?_
  refine wp_reg (by kernel_rfl) ?_
  refine ar_assign rfl rfl rfl rfl ?_
  refine ar_nil ?_
  refine then_n ?_
  refine wp_seq ?_
  refine wp_seq ?_
  refine wp_reg (by kernel_rfl) ?_
  refine ar_move rfl rfl rfl rfl ?_
  refine ar_len tab_ok rfl rfl tb22 rfl len_map rfl rfl ?_
  refine ar_move rfl rfl rfl rfl ?_
  refine ar_len tab_ok rfl rfl tb70 rfl len_map rfl rfl ?_
  refine ar_neq_s rfl rfl rfl rfl rfl (fun h14 => ?_) (fun h14 => ?_)
  · refine ar_nil ?_
    refine then_n ?_
    refine wp_condT rfl ?_
    refine wp_seq ?_
    refine wp_reg (by kernel_rfl) ?_
    refine ar_assign rfl rfl rfl rfl ?_
    refine ar_nil ?_
    refine then_n ?_
    refine wp_ret ?_
    refine then_r (ret_post rfl rfl ?_)
    rw [pairs_len (by omega)]
  · refine ar_nil ?_
    refine then_n ?_
    refine wp_condF rfl ?_
    refine wp_skip ?_
    refine then_n ?_
    refine wp_seq ?_
    refine wp_seq ?_
    refine wp_reg (by kernel_rfl) ?_
    refine ar_move rfl rfl rfl rfl ?_
    refine ar_len tab_ok rfl rfl tb22 rfl len_map rfl rfl ?_
    refine ar_move rfl rfl rfl rfl ?_
    refine ar_nil ?_
    refine then_n ?_
    refine wp_block ?_
    refine wp_loop (α := Nat) (fun j => mk [(1, .v (slU ys)), (2, .v (.fn (.func f) fi ca)), (15, .v (slL xs)), (16, .v (.int .i64 (xs.length : Nat))), (17, .v (.int .i64 (j : Nat)))] [] 0) (fun j => j ≤ xs.length ∧ ∀ q, q < j → p (xs.getD q default) (ys.getD q default) = true) (fun j => xs.length - j) 0 ⟨Nat.zero_le _, fun q h => absurd h (Nat.not_lt_zero q)⟩ (le_to ⟨rfl, rfl, rfl, rfl, rfl, trivial⟩ trivial rfl rfl rfl rfl) ?_
    rintro j ⟨hj1, hj2⟩
    refine wp_seq ?_
    refine wp_reg (by kernel_rfl) ?_
    refine ar_lss_s rfl rfl rfl rfl rfl (fun h18 => ?_) (fun h18 => ?_)
    · refine ar_nil ?_
      refine then_n ?_
      refine wp_seq ?_
      refine wp_condT rfl ?_
      refine wp_skip ?_
      refine then_n ?_
      refine wp_seq ?_
      refine wp_block ?_
      refine wp_seq ?_
      refine wp_reg (by kernel_rfl) ?_
      refine ar_move rfl rfl rfl rfl ?_
      refine ar_ia tab_ok rfl rfl rfl tb22 rfl tb63 (by omega) (map_get (n := j) (by omega)) rfl rfl rfl ?_
      refine ar_ld_refa tab_ok rfl rfl tb63 rfl rfl rfl rfl rfl ?_
      refine ar_alloc (id := 8) tab_ok rfl rfl tb63 rfl rfl rfl rfl ?_
      refine ar_assign rfl rfl rfl rfl ?_
      refine ar_st [] tab_ok rfl tb63 rfl rfl rfl trivial rfl rfl rfl rfl rfl rfl rfl rfl ?_
      refine ar_nil ?_
      refine then_n ?_
      refine wp_seq ?_
      refine wp_reg (by kernel_rfl) ?_
      refine ar_move rfl rfl rfl rfl ?_
      refine ar_move rfl rfl rfl rfl ?_
      refine ar_ia tab_ok rfl rfl rfl tb70 rfl tb72 (by omega) (map_get (n := j) (by omega)) rfl rfl rfl ?_
      refine ar_ld_ref tab_ok rfl rfl tb72 rfl rfl rfl rfl ?_
      refine ar_assign rfl rfl rfl rfl ?_
      refine ar_nil ?_
      refine then_n ?_
      refine wp_seq ?_
      refine wp_reg (by kernel_rfl) ?_
      refine ar_move rfl rfl rfl rfl ?_
      refine ar_lda tab_ok rfl rfl rfl tb63 rfl rfl rfl rfl rfl rfl ?_
      refine ar_move rfl rfl rfl rfl ?_
      refine ar_call [] (hc _ _ (getD_mem (by omega)) (getD_mem (by omega))) rfl rfl rfl rfl rfl rfl trivial (.inl rfl) rfl rfl rfl ?_
      refine ar_split (fun h29 => ?_) (fun h29 => ?_)
      · refine ar_not rfl rfl rfl rfl rfl ?_
        refine ar_nil ?_
        refine then_n ?_
        refine wp_condF rfl ?_
        refine wp_skip ?_
        refine inblk_n ?_
        refine then_n ?_
        refine wp_reg (by kernel_rfl) ?_
        refine ar_addi rfl rfl rfl rfl (by omega) (by omega) rfl rfl ?_
        refine ar_move rfl rfl rfl rfl ?_
        refine ar_nil ?_
        exact loop_n (j + 1) ⟨by omega, fun q hq => (Nat.lt_succ_iff_lt_or_eq.1 hq).elim (hj2 q) (fun e => e ▸ h29)⟩ (by omega) (le_to ⟨rfl, rfl, rfl, rfl, rfl, trivial⟩ trivial rfl rfl rfl rfl)
      · refine ar_not rfl rfl rfl rfl rfl ?_
        refine ar_nil ?_
        refine then_n ?_
        refine wp_condT rfl ?_
        refine wp_seq ?_
        refine wp_reg (by kernel_rfl) ?_
        refine ar_assign rfl rfl rfl rfl ?_
        refine ar_nil ?_
        refine then_n ?_
        refine wp_ret ?_
        refine inblk_r (then_r (loop_r (inblk_r (then_r (ret_post rfl rfl ?_)))))
        rw [pairs_at (j := j) (by omega) (by assumption)]
    · refine ar_nil ?_
      refine then_n ?_
      refine wp_seq ?_
      refine wp_condF rfl ?_
      refine wp_exit ?_
      refine then_x (loop_x (inblk_e ?_))
      refine then_n ?_
      refine wp_seq ?_
      refine wp_reg (by kernel_rfl) ?_
      refine ar_assign rfl rfl rfl rfl ?_
      refine ar_nil ?_
      refine then_n ?_
      refine wp_ret ?_
      refine ret_post rfl rfl ?_
      rw [pairs_of (by omega) (fun q hq => hj2 q (by omega))]

theorem pc_140 (l : Latch) (v : Int) (hv : Tri v) : PCall Try.prog 140 [.agg (encL l), .int .u8 v] (.bool (startsT l v)) := by
  refine pc_of tab_ok (f := 140) (fn := Try.f140) (N := 15) (rs := [.tmp 4]) (by kernel_rfl) rfl (by kernel_rfl) rfl rfl [(0, .v (.agg (encL l))), (1, .v (.int .u8 v))] ⟨rfl, rfl, trivial⟩ rfl rfl ?_
  intro B
  refine wp_seq ?_
  refine wp_reg (by kernel_rfl) ?_
  refine ar_box 2 [] rfl rfl rfl ⟨rfl, trivial⟩ rfl rfl rfl ?_
  refine ar_assign rfl rfl rfl rfl ?_
  refine ar_nil ?_
  refine then_n ?_
  refine wp_seq ?_
  refine wp_reg (by kernel_rfl) ?_
  refine ar_fa tab_ok rfl rfl rfl tb63 rfl rfl rfl rfl rfl ?_
  refine ar_ld tab_ok rfl rfl rfl tb3 rfl rfl rfl rfl rfl ?_
  refine ar_gtr_s rfl rfl rfl rfl rfl (fun h7 => ?_) (fun h7 => ?_)
  · refine ar_move rfl rfl rfl rfl ?_
    refine ar_skip rfl rfl ?_
    refine ar_skip rfl rfl ?_
    refine ar_skip rfl rfl ?_
    refine ar_skip rfl rfl ?_
    refine ar_skip rfl rfl ?_
    refine ar_pickT rfl rfl rfl rfl rfl ?_
    refine ar_assign rfl rfl rfl rfl ?_
    refine ar_nil ?_
    refine then_n ?_
    refine wp_ret ?_
    refine ret_post rfl rfl ?_
    simp [startsT, *]
  · refine ar_move rfl rfl rfl rfl ?_
    refine ar_move rfl rfl rfl rfl ?_
    refine ar_conv tab_ok rfl rfl tb72 tb3 rfl rfl (IntWalk.i64_in _ ⟨by have := hv.1; omega, by have := hv.2; omega⟩) rfl rfl ?_
    refine ar_fa tab_ok rfl rfl rfl tb63 rfl rfl rfl rfl rfl ?_
    refine ar_ld tab_ok rfl rfl rfl tb3 rfl rfl rfl rfl rfl ?_
    refine ar_eql rfl rfl rfl rfl rfl rfl ?_
    refine ar_pickF rfl rfl rfl rfl rfl ?_
    refine ar_assign rfl rfl rfl rfl ?_
    refine ar_nil ?_
    refine then_n ?_
    refine wp_ret ?_
    refine ret_post rfl rfl ?_
    simp [startsT, *]

theorem pc_138 (a : Aig) (r : List Int) (hl : r.length ≤ 9223372036854775807) : PCall Try.prog 138 [slU r, .ref (encA a)] (.bool (oddT a r)) := by
  refine pc_of tab_ok (f := 138) (fn := Try.f138) (N := 14) (rs := [.tmp 3]) (by kernel_rfl) rfl (by kernel_rfl) rfl rfl [(0, .v (slU r)), (1, .v (.ref (encA a)))] ⟨rfl, rfl, trivial⟩ rfl rfl ?_
  intro B
  refine wp_seq ?_
  refine wp_reg (by kernel_rfl) ?_
  refine ar_assign rfl rfl rfl rfl ?_
  refine ar_nil ?_
  refine then_n ?_
  refine wp_seq ?_
  refine wp_reg (by kernel_rfl) ?_
  refine ar_move rfl rfl rfl rfl ?_
  refine ar_len tab_ok rfl rfl tb70 rfl len_map rfl rfl ?_
  refine ar_fa_ref (cs' := encA a) tab_ok rfl rfl tb27 rfl rfl rfl rfl ?_
  refine ar_ld_ref tab_ok rfl rfl tb3 rfl rfl rfl rfl ?_
  refine ar_neq_s rfl rfl rfl rfl rfl (fun h8 => ?_) (fun h8 => ?_)
  · refine ar_move rfl rfl rfl rfl ?_
    refine ar_skip rfl rfl ?_
    refine ar_skip rfl rfl ?_
    refine ar_skip rfl rfl ?_
    refine ar_pickT rfl rfl rfl rfl rfl ?_
    refine ar_assign rfl rfl rfl rfl ?_
    refine ar_nil ?_
    refine then_n ?_
    refine wp_ret ?_
    refine ret_post rfl rfl ?_
    simp [oddT, *]
  · refine ar_move rfl rfl rfl rfl ?_
    refine ar_move rfl rfl rfl rfl ?_
    refine ar_call [] (pc_45 r (by omega)) rfl rfl rfl rfl rfl rfl trivial (.inl rfl) rfl rfl rfl ?_
    refine ar_not rfl rfl rfl rfl rfl ?_
    refine ar_pickF rfl rfl rfl rfl rfl ?_
    refine ar_assign rfl rfl rfl rfl ?_
    refine ar_nil ?_
    refine then_n ?_
    refine wp_ret ?_
    refine ret_post rfl rfl ?_
    simp [oddT, *]

theorem pc_113 (a : Aig) (t : Trace) (hf : Fit a) (hn : Nn t.ini) (hl1 : t.ini.length ≤ 9223372036854775807) (hl2 : t.ins.length ≤ 9223372036854775807) (hl3 : ∀ r, r ∈ t.ins → r.length ≤ 9223372036854775807) : PCall Try.prog 113 [aigV a, trV t] (.bool (rightT a t)) := by
  refine pc_of tab_ok (f := 113) (fn := Try.f113) (N := 48) (rs := [.tmp 4]) (by kernel_rfl) rfl (by kernel_rfl) rfl rfl [(0, .v (aigV a)), (1, .v (trV t))] ⟨rfl, rfl, trivial⟩ rfl rfl ?_
  intro B
  have hfl := hf.l; have hfb := hf.b
  refine wp_seq ?_
  refine wp_reg (by kernel_rfl) ?_
  refine ar_box 2 [] rfl rfl rfl ⟨rfl, trivial⟩ rfl rfl rfl ?_
  refine ar_box 3 [] rfl rfl rfl ⟨rfl, trivial⟩ rfl rfl rfl ?_
  refine ar_assign rfl rfl rfl rfl ?_
  refine ar_nil ?_
  refine then_n ?_
  refine wp_seq ?_
  refine wp_seq ?_
  refine wp_reg (by kernel_rfl) ?_
  refine ar_fa tab_ok rfl rfl rfl tb101 rfl rfl rfl rfl rfl ?_
  refine ar_ld tab_ok rfl rfl rfl tb3 rfl rfl rfl rfl rfl ?_
  refine ar_lss_s rfl rfl rfl rfl rfl (fun h8 => ?_) (fun h8 => ?_)
  · refine ar_move rfl rfl rfl rfl ?_
    refine ar_skip rfl rfl ?_
    refine ar_skip rfl rfl ?_
    refine ar_skip rfl rfl ?_
    refine ar_skip rfl rfl ?_
    refine ar_skip rfl rfl ?_
    refine ar_skip rfl rfl ?_
    refine ar_pickT rfl rfl rfl rfl rfl ?_
    refine ar_move rfl rfl rfl rfl ?_
    refine ar_skip rfl rfl ?_
    refine ar_skip rfl rfl ?_
    refine ar_skip rfl rfl ?_
    refine ar_skip rfl rfl ?_
    refine ar_pickT rfl rfl rfl rfl rfl ?_
    refine ar_move rfl rfl rfl rfl ?_
    refine ar_skip rfl rfl ?_
    refine ar_skip rfl rfl ?_
    refine ar_skip rfl rfl ?_
    refine ar_skip rfl rfl ?_
    refine ar_pickT rfl rfl rfl rfl rfl ?_
    refine ar_move rfl rfl rfl rfl ?_
    refine ar_skip rfl rfl ?_
    refine ar_skip rfl rfl ?_
    refine ar_skip rfl rfl ?_
    refine ar_skip rfl rfl ?_
    refine ar_pickT rfl rfl rfl rfl rfl ?_
    refine ar_nil ?_
    refine then_n ?_
    refine wp_condT rfl ?_
    refine wp_seq ?_
    refine wp_reg (by kernel_rfl) ?_
    refine ar_assign rfl rfl rfl rfl ?_
    refine ar_nil ?_
    refine then_n ?_
    refine wp_ret ?_
    refine then_r (ret_post rfl rfl ?_)
    first | (rw [rightT_main (by omega) (by omega) (by omega) (by omega) h32, h40]; done) | (rw [rightT_main (by omega) (by omega) (by omega) (by omega) h32, h40]; rfl) | (rw [rightT_no (fun h => Bool.false_ne_true (h32.symm.trans h.it))]; done) | (rw [rightT_no (fun h => by have q1 := h.b0; have q2 := h.b1; have q3 := h.n0; have q4 := h.n1; have q5 := h.it; omega)]; done)
  · refine ar_move rfl rfl rfl rfl ?_
    refine ar_fa tab_ok rfl rfl rfl tb101 rfl rfl rfl rfl rfl ?_
    refine ar_ld tab_ok rfl rfl rfl tb3 rfl rfl rfl rfl rfl ?_
    refine ar_fa tab_ok rfl rfl rfl tb27 rfl rfl rfl rfl rfl ?_
    refine ar_ld tab_ok rfl rfl rfl tb24 rfl rfl rfl rfl rfl ?_
    refine ar_len tab_ok rfl rfl tb24 rfl len_map rfl rfl ?_
    refine ar_geq_s rfl rfl rfl rfl rfl (fun h15 => ?_) (fun h15 => ?_)
    · refine ar_pickF rfl rfl rfl rfl rfl ?_
      refine ar_move rfl rfl rfl rfl ?_
      refine ar_skip rfl rfl ?_
      refine ar_skip rfl rfl ?_
      refine ar_skip rfl rfl ?_
      refine ar_skip rfl rfl ?_
      refine ar_pickT rfl rfl rfl rfl rfl ?_
      refine ar_move rfl rfl rfl rfl ?_
      refine ar_skip rfl rfl ?_
      refine ar_skip rfl rfl ?_
      refine ar_skip rfl rfl ?_
      refine ar_skip rfl rfl ?_
      refine ar_pickT rfl rfl rfl rfl rfl ?_
      refine ar_move rfl rfl rfl rfl ?_
      refine ar_skip rfl rfl ?_
      refine ar_skip rfl rfl ?_
      refine ar_skip rfl rfl ?_
      refine ar_skip rfl rfl ?_
      refine ar_pickT rfl rfl rfl rfl rfl ?_
      refine ar_nil ?_
      refine then_n ?_
      refine wp_condT rfl ?_
      refine wp_seq ?_
      refine wp_reg (by kernel_rfl) ?_
      refine ar_assign rfl rfl rfl rfl ?_
      refine ar_nil ?_
      refine then_n ?_
      refine wp_ret ?_
      refine then_r (ret_post rfl rfl ?_)
      first | (rw [rightT_main (by omega) (by omega) (by omega) (by omega) h32, h40]; done) | (rw [rightT_main (by omega) (by omega) (by omega) (by omega) h32, h40]; rfl) | (rw [rightT_no (fun h => Bool.false_ne_true (h32.symm.trans h.it))]; done) | (rw [rightT_no (fun h => by have q1 := h.b0; have q2 := h.b1; have q3 := h.n0; have q4 := h.n1; have q5 := h.it; omega)]; done)
    · refine ar_pickF rfl rfl rfl rfl rfl ?_
      refine ar_move rfl rfl rfl rfl ?_
      refine ar_fa tab_ok rfl rfl rfl tb101 rfl rfl rfl rfl rfl ?_
      refine ar_ld tab_ok rfl rfl rfl tb99 rfl rfl rfl rfl rfl ?_
      refine ar_len tab_ok rfl rfl tb99 rfl len_map rfl rfl ?_
      refine ar_lss_s rfl rfl rfl rfl rfl (fun h21 => ?_) (fun h21 => ?_)
      · refine ar_pickF rfl rfl rfl rfl rfl ?_
        refine ar_move rfl rfl rfl rfl ?_
        refine ar_skip rfl rfl ?_
        refine ar_skip rfl rfl ?_
        refine ar_skip rfl rfl ?_
        refine ar_skip rfl rfl ?_
        refine ar_pickT rfl rfl rfl rfl rfl ?_
        refine ar_move rfl rfl rfl rfl ?_
        refine ar_skip rfl rfl ?_
        refine ar_skip rfl rfl ?_
        refine ar_skip rfl rfl ?_
        refine ar_skip rfl rfl ?_
        refine ar_pickT rfl rfl rfl rfl rfl ?_
        refine ar_nil ?_
        refine then_n ?_
        refine wp_condT rfl ?_
        refine wp_seq ?_
        refine wp_reg (by kernel_rfl) ?_
        refine ar_assign rfl rfl rfl rfl ?_
        refine ar_nil ?_
        refine then_n ?_
        refine wp_ret ?_
        refine then_r (ret_post rfl rfl ?_)
        first | (rw [rightT_main (by omega) (by omega) (by omega) (by omega) h32, h40]; done) | (rw [rightT_main (by omega) (by omega) (by omega) (by omega) h32, h40]; rfl) | (rw [rightT_no (fun h => Bool.false_ne_true (h32.symm.trans h.it))]; done) | (rw [rightT_no (fun h => by have q1 := h.b0; have q2 := h.b1; have q3 := h.n0; have q4 := h.n1; have q5 := h.it; omega)]; done)
      · refine ar_pickF rfl rfl rfl rfl rfl ?_
        refine ar_move rfl rfl rfl rfl ?_
        refine ar_fa tab_ok rfl rfl rfl tb101 rfl rfl rfl rfl rfl ?_
        refine ar_ld tab_ok rfl rfl rfl tb99 rfl rfl rfl rfl rfl ?_
        refine ar_len tab_ok rfl rfl tb99 rfl len_map rfl rfl ?_
        refine ar_gtr_s rfl rfl rfl rfl rfl (fun h27 => ?_) (fun h27 => ?_)
        · refine ar_pickF rfl rfl rfl rfl rfl ?_
          refine ar_move rfl rfl rfl rfl ?_
          refine ar_skip rfl rfl ?_
          refine ar_skip rfl rfl ?_
          refine ar_skip rfl rfl ?_
          refine ar_skip rfl rfl ?_
          refine ar_pickT rfl rfl rfl rfl rfl ?_
          refine ar_nil ?_
          refine then_n ?_
          refine wp_condT rfl ?_
          refine wp_seq ?_
          refine wp_reg (by kernel_rfl) ?_
          refine ar_assign rfl rfl rfl rfl ?_
          refine ar_nil ?_
          refine then_n ?_
          refine wp_ret ?_
          refine then_r (ret_post rfl rfl ?_)
          first | (rw [rightT_main (by omega) (by omega) (by omega) (by omega) h32, h40]; done) | (rw [rightT_main (by omega) (by omega) (by omega) (by omega) h32, h40]; rfl) | (rw [rightT_no (fun h => Bool.false_ne_true (h32.symm.trans h.it))]; done) | (rw [rightT_no (fun h => by have q1 := h.b0; have q2 := h.b1; have q3 := h.n0; have q4 := h.n1; have q5 := h.it; omega)]; done)
        · refine ar_pickF rfl rfl rfl rfl rfl ?_
          refine ar_move rfl rfl rfl rfl ?_
          refine ar_fa tab_ok rfl rfl rfl tb101 rfl rfl rfl rfl rfl ?_
          refine ar_ld tab_ok rfl rfl rfl tb70 rfl rfl rfl rfl rfl ?_
          refine ar_call [] (pc_45 t.ini hl1) rfl rfl rfl rfl rfl rfl trivial (.inl rfl) rfl rfl rfl ?_
          refine ar_split (fun h32 => ?_) (fun h32 => ?_)
          · refine ar_not rfl rfl rfl rfl rfl ?_
            refine ar_pickF rfl rfl rfl rfl rfl ?_
            refine ar_nil ?_
            refine then_n ?_
            refine wp_condF rfl ?_
            refine wp_skip ?_
            refine then_n ?_
            refine wp_seq ?_
            have hti := triL_of h32 hn
            refine wp_reg (by kernel_rfl) ?_
            refine ar_mkf rfl rfl rfl rfl rfl rfl ?_
            refine ar_assign rfl rfl rfl rfl ?_
            refine ar_nil ?_
            refine then_n ?_
            refine wp_seq ?_
            refine wp_reg (by kernel_rfl) ?_
            refine ar_fa tab_ok rfl rfl rfl tb27 rfl rfl rfl rfl rfl ?_
            refine ar_ld tab_ok rfl rfl rfl tb22 rfl rfl rfl rfl rfl ?_
            refine ar_fa tab_ok rfl rfl rfl tb101 rfl rfl rfl rfl rfl ?_
            refine ar_ld tab_ok rfl rfl rfl tb70 rfl rfl rfl rfl rfl ?_
            refine ar_call [] (pc_139 a.l t.ini 140 [] [] startsT (by omega) hl1 (fun x y _ hy => pc_140 x y (hti y hy))) rfl rfl rfl rfl rfl rfl trivial (.inl rfl) rfl rfl rfl ?_
            refine ar_split (fun h40 => ?_) (fun h40 => ?_)
            · refine ar_move rfl rfl rfl rfl ?_
              refine ar_fa tab_ok rfl rfl rfl tb101 rfl rfl rfl rfl rfl ?_
              refine ar_ld tab_ok rfl rfl rfl tb99 rfl rfl rfl rfl rfl ?_
              refine ar_move rfl rfl rfl rfl ?_
              refine ar_call [(2, _)] (pc_141 t.ins 138 [] [.ref (encA a)] (oddT a) hl2 (fun x hx => pc_138 a x (hl3 x hx))) rfl rfl rfl rfl rfl rfl ⟨rfl, trivial⟩ (.inr rfl) rfl rfl rfl ?_
              refine ar_not rfl rfl rfl rfl rfl ?_
              refine ar_pickT rfl rfl rfl rfl rfl ?_
              refine ar_assign rfl rfl rfl rfl ?_
              refine ar_nil ?_
              refine then_n ?_
              refine wp_ret ?_
              refine ret_post rfl rfl ?_
              first | (rw [rightT_main (by omega) (by omega) (by omega) (by omega) h32, h40]; done) | (rw [rightT_main (by omega) (by omega) (by omega) (by omega) h32, h40]; rfl) | (rw [rightT_no (fun h => Bool.false_ne_true (h32.symm.trans h.it))]; done) | (rw [rightT_no (fun h => by have q1 := h.b0; have q2 := h.b1; have q3 := h.n0; have q4 := h.n1; have q5 := h.it; omega)]; done)
            · refine ar_move rfl rfl rfl rfl ?_
              refine ar_skip rfl rfl ?_
              refine ar_skip rfl rfl ?_
              refine ar_skip rfl rfl ?_
              refine ar_skip rfl rfl ?_
              refine ar_skip rfl rfl ?_
              refine ar_pickF rfl rfl rfl rfl rfl ?_
              refine ar_assign rfl rfl rfl rfl ?_
              refine ar_nil ?_
              refine then_n ?_
              refine wp_ret ?_
              refine ret_post rfl rfl ?_
              first | (rw [rightT_main (by omega) (by omega) (by omega) (by omega) h32, h40]; done) | (rw [rightT_main (by omega) (by omega) (by omega) (by omega) h32, h40]; rfl) | (rw [rightT_no (fun h => Bool.false_ne_true (h32.symm.trans h.it))]; done) | (rw [rightT_no (fun h => by have q1 := h.b0; have q2 := h.b1; have q3 := h.n0; have q4 := h.n1; have q5 := h.it; omega)]; done)
          · refine ar_not rfl rfl rfl rfl rfl ?_
            refine ar_pickF rfl rfl rfl rfl rfl ?_
            refine ar_nil ?_
            refine then_n ?_
            refine wp_condT rfl ?_
            refine wp_seq ?_
            refine wp_reg (by kernel_rfl) ?_
            refine ar_assign rfl rfl rfl rfl ?_
            refine ar_nil ?_
            refine then_n ?_
            refine wp_ret ?_
            refine then_r (ret_post rfl rfl ?_)
            first | (rw [rightT_main (by omega) (by omega) (by omega) (by omega) h32, h40]; done) | (rw [rightT_main (by omega) (by omega) (by omega) (by omega) h32, h40]; rfl) | (rw [rightT_no (fun h => Bool.false_ne_true (h32.symm.trans h.it))]; done) | (rw [rightT_no (fun h => by have q1 := h.b0; have q2 := h.b1; have q3 := h.n0; have q4 := h.n1; have q5 := h.it; omega)]; done)


theorem nil_of_map {α β : Type} {f : α → β} {xs : List α} (h : xs.map f = []) : xs = [] := by simpa using h

theorem pr_121 (x : List Int) (hx : x.length ≤ 140737488355328) : PRow Try.prog 121 [slU x] 72 1 (x.map encU) := by
  refine pr_of tab_ok (f := 121) (fn := Try.f121) (N := 8) (t := 2) (by kernel_rfl) rfl (by kernel_rfl) rfl rfl [(0, .v (slU x))] ⟨rfl, trivial⟩ rfl rfl ?_
  intro B
  refine wp_seq ?_
  refine wp_reg (by kernel_rfl) ?_
  refine ar_assign rfl rfl rfl rfl ?_
  refine ar_nil ?_
  refine then_n ?_
  refine wp_seq ?_
  refine wp_seq ?_
  refine wp_reg (by kernel_rfl) ?_
  refine ar_move rfl rfl rfl rfl ?_
  refine ar_nileq tab_ok rfl tb70 rfl rfl rfl rfl rfl (fun h4 => ?_) ?_
  · refine ar_nil ?_
    refine then_n ?_
    refine wp_condT rfl ?_
    refine wp_seq ?_
    refine wp_reg (by kernel_rfl) ?_
    refine ar_assign rfl rfl rfl rfl ?_
    refine ar_nil ?_
    refine then_n ?_
    refine wp_ret ?_
    refine then_r (⟨.inr ⟨rfl, ?_, by decide⟩, rfl⟩)
    exact h4
  · refine ar_nil ?_
    refine then_n ?_
    refine wp_condF rfl ?_
    refine wp_skip ?_
    refine then_n ?_
    refine wp_seq ?_
    refine wp_reg (by kernel_rfl) ?_
    refine ar_bs_own (es := ([] : List Int).map encU) 5 [] tab_ok rfl tb70 rfl tb72 rfl rfl ⟨rfl, trivial⟩ rfl rfl rfl rfl rfl rfl rfl rfl rfl ?_
    refine ar_move rfl rfl rfl rfl ?_
    refine ar_app 7 [] tab_ok rfl tb70 rfl tb70 rfl tb72 rfl rfl rfl rfl ⟨rfl, rfl, trivial⟩ rfl (el_72 _) app_map (by constructor <;> simp <;> omega) rfl rfl rfl ?_
    refine ar_assign rfl rfl rfl rfl ?_
    refine ar_nil ?_
    refine then_n ?_
    refine wp_ret ?_
    refine ⟨.inl ⟨7, rfl, ?_⟩, rfl⟩
    rfl

theorem pc_121 (x : List Int) (hx : x.length ≤ 140737488355328) : PCall Try.prog 121 [slU x] (slU x) := (pr_121 x hx).toCall

theorem pc_115 (l : List Int) (hl : l.length ≤ 1000000) : PCall Try.prog 115 [slU l] (.int .i64 (manyT l : Nat)) := by
  refine pc_of tab_ok (f := 115) (fn := Try.f115) (N := 19) (rs := [.tmp 2]) (by kernel_rfl) rfl (by kernel_rfl) rfl rfl [(0, .v (slU l))] ⟨rfl, trivial⟩ rfl rfl ?_
  intro B
  refine wp_seq ?_
  refine wp_reg (by kernel_rfl) ?_
  refine ar_assign rfl rfl rfl rfl ?_
  refine ar_nil ?_
  refine then_n ?_
  refine wp_seq ?_
  refine wp_reg (by kernel_rfl) ?_
  refine ar_assign rfl rfl rfl rfl ?_
  refine ar_nil ?_
  refine then_n ?_
  refine wp_seq ?_
  refine wp_seq ?_
  refine wp_reg (by kernel_rfl) ?_
  refine ar_assign rfl rfl rfl rfl ?_
  refine ar_nil ?_
  refine then_n ?_
  refine wp_block ?_
  refine wp_loop (α := Nat) (fun j => mk [(0, .v (slU l)), (3, .v (.int .i64 (manyT (l.take j) : Nat))), (4, .v (.int .i64 (j : Nat)))] [] 0) (fun j => j ≤ l.length) (fun j => l.length - j) 0 (Nat.zero_le _) (le_to ⟨rfl, rfl, rfl, trivial⟩ trivial rfl rfl rfl rfl) ?_
  rintro j hinv
  have hm := manyT_le (l.take j)
  have hm2 : (l.take j).length ≤ l.length := by simp; omega
  refine wp_seq ?_
  refine wp_seq ?_
  refine wp_reg (by kernel_rfl) ?_
  refine ar_move rfl rfl rfl rfl ?_
  refine ar_move rfl rfl rfl rfl ?_
  refine ar_len tab_ok rfl rfl tb70 rfl len_map rfl rfl ?_
  refine ar_lss_s rfl rfl rfl rfl rfl (fun h8 => ?_) (fun h8 => ?_)
  · refine ar_nil ?_
    refine then_n ?_
    refine wp_condT rfl ?_
    refine wp_skip ?_
    refine then_n ?_
    refine wp_seq ?_
    refine wp_block ?_
    refine wp_seq ?_
    refine wp_reg (by kernel_rfl) ?_
    refine ar_move rfl rfl rfl rfl ?_
    refine ar_move rfl rfl rfl rfl ?_
    refine ar_ia tab_ok rfl rfl rfl tb70 rfl tb72 (by omega) (map_get (n := j) (by omega)) rfl rfl rfl ?_
    refine ar_ld_ref tab_ok rfl rfl tb72 rfl rfl rfl rfl ?_
    refine ar_eql_s rfl rfl rfl rfl rfl (fun h15 => ?_) (fun h15 => ?_)
    · refine ar_nil ?_
      refine then_n ?_
      refine wp_condT rfl ?_
      refine wp_reg (by kernel_rfl) ?_
      refine ar_move rfl rfl rfl rfl ?_
      refine ar_addi rfl rfl rfl rfl (by omega) (by omega) rfl rfl ?_
      refine ar_assign rfl rfl rfl rfl ?_
      refine ar_nil ?_
      refine inblk_n ?_
      refine then_n ?_
      refine wp_reg (by kernel_rfl) ?_
      refine ar_move rfl rfl rfl rfl ?_
      refine ar_addi rfl rfl rfl rfl (by omega) (by omega) rfl rfl ?_
      refine ar_assign rfl rfl rfl rfl ?_
      refine ar_nil ?_
      exact loop_n (j + 1) (by omega) (by omega) (le_to ⟨rfl, (int_eq rfl (by rw [take_snoc (by omega), manyT_snoc]; first | (rw [if_pos h15]; omega) | (rw [if_neg h15]; omega))), rfl, trivial⟩ trivial rfl rfl rfl rfl)
    · refine ar_nil ?_
      refine then_n ?_
      refine wp_condF rfl ?_
      refine wp_skip ?_
      refine inblk_n ?_
      refine then_n ?_
      refine wp_reg (by kernel_rfl) ?_
      refine ar_move rfl rfl rfl rfl ?_
      refine ar_addi rfl rfl rfl rfl (by omega) (by omega) rfl rfl ?_
      refine ar_assign rfl rfl rfl rfl ?_
      refine ar_nil ?_
      exact loop_n (j + 1) (by omega) (by omega) (le_to ⟨rfl, (int_eq rfl (by rw [take_snoc (by omega), manyT_snoc]; first | (rw [if_pos h15]; omega) | (rw [if_neg h15]; omega))), rfl, trivial⟩ trivial rfl rfl rfl rfl)
  · refine ar_nil ?_
    refine then_n ?_
    refine wp_condF rfl ?_
    refine wp_exit ?_
    refine then_x (loop_x (inblk_e ?_))
    refine then_n ?_
    refine wp_seq ?_
    refine wp_reg (by kernel_rfl) ?_
    refine ar_move rfl rfl rfl rfl ?_
    refine ar_assign rfl rfl rfl rfl ?_
    refine ar_nil ?_
    refine then_n ?_
    refine wp_ret ?_
    refine ret_post rfl rfl ?_
    have hi : j = l.length := by omega
    subst hi
    rw [List.take_length]

theorem pc_76 (t : Trace) (hz : SzT t) : PCall Try.prog 76 [trV t] (.int .i64 (holesT t : Nat)) := by
  refine pc_of tab_ok (f := 76) (fn := Try.f76) (N := 24) (rs := [.tmp 2]) (by kernel_rfl) rfl (by kernel_rfl) rfl rfl [(0, .v (trV t))] ⟨rfl, trivial⟩ rfl rfl ?_
  intro B
  refine wp_seq ?_
  refine wp_reg (by kernel_rfl) ?_
  refine ar_box 1 [] rfl rfl rfl ⟨rfl, trivial⟩ rfl rfl rfl ?_
  refine ar_assign rfl rfl rfl rfl ?_
  refine ar_nil ?_
  refine then_n ?_
  refine wp_seq ?_
  refine wp_reg (by kernel_rfl) ?_
  refine ar_fa tab_ok rfl rfl rfl tb101 rfl rfl rfl rfl rfl ?_
  refine ar_ld tab_ok rfl rfl rfl tb70 rfl rfl rfl rfl rfl ?_
  refine ar_call [] (pc_115 t.ini hz.il) rfl rfl rfl rfl rfl rfl trivial (.inl rfl) rfl rfl rfl ?_
  refine ar_assign rfl rfl rfl rfl ?_
  refine ar_nil ?_
  refine then_n ?_
  refine wp_seq ?_
  refine wp_seq ?_
  refine wp_reg (by kernel_rfl) ?_
  refine ar_assign rfl rfl rfl rfl ?_
  refine ar_nil ?_
  refine then_n ?_
  refine wp_block ?_
  refine wp_loop (α := Nat) (fun j => mk [(1, .ptr 1 0), (3, .v (.int .i64 (manyR ((t.ini :: t.ins).take (j + 1)) : Nat))), (4, .v (.int .i64 (j : Nat)))] [(1, .box ((encT t).map .v))] 0) (fun j => j ≤ t.ins.length) (fun j => t.ins.length - j) 0 (Nat.zero_le _) (le_to ⟨rfl, (int_eq rfl (by simp [manyR])), rfl, trivial⟩ ⟨rfl, trivial⟩ rfl rfl rfl rfl) ?_
  rintro j hinv
  have hm := manyR_take (rs := t.ini :: t.ins) (by simp; have := hz.nl; omega) hz.rows (j + 1)
  have hz2 := hz.nl
  have hm3 := manyT_le (t.ins.getD j default)
  refine wp_seq ?_
  refine wp_seq ?_
  refine wp_reg (by kernel_rfl) ?_
  refine ar_move rfl rfl rfl rfl ?_
  refine ar_fa tab_ok rfl rfl rfl tb101 rfl rfl rfl rfl rfl ?_
  refine ar_ld tab_ok rfl rfl rfl tb99 rfl rfl rfl rfl rfl ?_
  refine ar_len tab_ok rfl rfl tb99 rfl len_map rfl rfl ?_
  refine ar_lss_s rfl rfl rfl rfl rfl (fun h12 => ?_) (fun h12 => ?_)
  · refine ar_nil ?_
    refine then_n ?_
    refine wp_condT rfl ?_
    refine wp_skip ?_
    refine then_n ?_
    refine wp_seq ?_
    refine wp_block ?_
    refine wp_reg (by kernel_rfl) ?_
    refine ar_move rfl rfl rfl rfl ?_
    refine ar_fa tab_ok rfl rfl rfl tb101 rfl rfl rfl rfl rfl ?_
    refine ar_ld tab_ok rfl rfl rfl tb99 rfl rfl rfl rfl rfl ?_
    refine ar_move rfl rfl rfl rfl ?_
    refine ar_ia tab_ok rfl rfl rfl tb99 rfl tb70 (by omega) (map_get (n := j) (by omega)) rfl rfl rfl ?_
    refine ar_ld_ref tab_ok rfl rfl tb70 rfl rfl rfl rfl ?_
    refine ar_call [] (pc_115 (t.ins.getD j default) (hz.rl _ (getD_mem (by omega)))) rfl rfl rfl rfl rfl rfl trivial (.inl rfl) rfl rfl rfl ?_
    have hm4 := hz.rl (t.ins.getD j default) (getD_mem (by omega))
    refine ar_addi rfl rfl rfl rfl (by omega) (by omega) rfl rfl ?_
    refine ar_assign rfl rfl rfl rfl ?_
    refine ar_nil ?_
    refine inblk_n ?_
    refine then_n ?_
    refine wp_reg (by kernel_rfl) ?_
    refine ar_move rfl rfl rfl rfl ?_
    refine ar_addi rfl rfl rfl rfl (by omega) (by omega) rfl rfl ?_
    refine ar_assign rfl rfl rfl rfl ?_
    refine ar_nil ?_
    exact loop_n (j + 1) (by omega) (by omega) (le_to ⟨rfl, (int_eq rfl (by rw [List.take_succ_cons, List.take_succ_cons, take_snoc (xs := t.ins) (by omega), ← List.cons_append, manyR_snoc]; omega)), rfl, trivial⟩ ⟨rfl, trivial⟩ rfl rfl rfl rfl)
  · refine ar_nil ?_
    refine then_n ?_
    refine wp_condF rfl ?_
    refine wp_exit ?_
    refine then_x (loop_x (inblk_e ?_))
    refine then_n ?_
    refine wp_seq ?_
    refine wp_reg (by kernel_rfl) ?_
    refine ar_move rfl rfl rfl rfl ?_
    refine ar_assign rfl rfl rfl rfl ?_
    refine ar_nil ?_
    refine then_n ?_
    refine wp_ret ?_
    refine ret_post rfl rfl ?_
    have hi : j = t.ins.length := by omega
    subst hi
    rw [show (t.ini :: t.ins).take (t.ins.length + 1) = t.ini :: t.ins from List.take_length (l := t.ini :: t.ins)]; rfl

theorem pc_90 (t : Trace) (hz : SzT t) : PCall Try.prog 90 [trV t] (.bool (decide (holesT t = 0))) := by
  refine pc_of tab_ok (f := 90) (fn := Try.f90) (N := 6) (rs := [.tmp 2]) (by kernel_rfl) rfl (by kernel_rfl) rfl rfl [(0, .v (trV t))] ⟨rfl, trivial⟩ rfl rfl ?_
  intro B
  refine wp_seq ?_
  refine wp_reg (by kernel_rfl) ?_
  refine ar_box 1 [] rfl rfl rfl ⟨rfl, trivial⟩ rfl rfl rfl ?_
  refine ar_assign rfl rfl rfl rfl ?_
  refine ar_nil ?_
  refine then_n ?_
  refine wp_seq ?_
  refine wp_reg (by kernel_rfl) ?_
  refine ar_lda tab_ok rfl rfl rfl tb101 rfl rfl rfl rfl rfl rfl ?_
  refine ar_call [] (pc_76 t hz) rfl rfl rfl rfl rfl rfl trivial (.inl rfl) rfl rfl rfl ?_
  refine ar_eql rfl rfl rfl rfl rfl rfl ?_
  refine ar_assign rfl rfl rfl rfl ?_
  refine ar_nil ?_
  refine then_n ?_
  refine wp_ret ?_
  refine ret_post rfl rfl ?_
  exact congrArg V.bool (by simp)

theorem pc_126 (t : Trace) (hz : SzT t) : PCall Try.prog 126 [trV t] (.int .i64 (holesT t : Nat)) := by
  refine pc_of tab_ok (f := 126) (fn := Try.f126) (N := 32) (rs := [.tmp 2]) (by kernel_rfl) rfl (by kernel_rfl) rfl rfl [(0, .v (trV t))] ⟨rfl, trivial⟩ rfl rfl ?_
  intro B
  refine wp_seq ?_
  refine wp_reg (by kernel_rfl) ?_
  refine ar_box 1 [] rfl rfl rfl ⟨rfl, trivial⟩ rfl rfl rfl ?_
  refine ar_assign rfl rfl rfl rfl ?_
  refine ar_nil ?_
  refine then_n ?_
  refine wp_seq ?_
  refine wp_reg (by kernel_rfl) ?_
  refine ar_assign rfl rfl rfl rfl ?_
  refine ar_nil ?_
  refine then_n ?_
  refine wp_seq ?_
  refine wp_seq ?_
  refine wp_reg (by kernel_rfl) ?_
  refine ar_fa tab_ok rfl rfl rfl tb101 rfl rfl rfl rfl rfl ?_
  refine ar_ld tab_ok rfl rfl rfl tb70 rfl rfl rfl rfl rfl ?_
  refine ar_bs_own (es := [t.ini].map encUs) 10 [] tab_ok rfl tb99 rfl tb70 rfl rfl ⟨rfl, trivial⟩ rfl rfl rfl rfl rfl rfl rfl rfl rfl ?_
  refine ar_fa tab_ok rfl rfl rfl tb101 rfl rfl rfl rfl rfl ?_
  refine ar_ld tab_ok rfl rfl rfl tb99 rfl rfl rfl rfl rfl ?_
  refine ar_app 13 [] tab_ok rfl tb99 rfl tb99 rfl tb70 rfl rfl rfl rfl ⟨rfl, rfl, trivial⟩ rfl (el_70 _) app_map (by have := hz.nl; constructor <;> simp <;> omega) rfl rfl rfl ?_
  refine ar_len_own tab_ok rfl rfl rfl tb99 rfl len_map rfl rfl rfl ?_
  refine ar_move rfl rfl rfl rfl ?_
  refine ar_nil ?_
  refine then_n ?_
  refine wp_block ?_
  refine wp_loop (α := Nat) (fun j => mk [(3, .v (.int .i64 (manyR ((t.ini :: t.ins).take j) : Nat))), (13, .own 13), (14, .v (.int .i64 ((t.ini :: t.ins).length : Nat))), (15, .v (.int .i64 (j : Nat)))] [(13, .row 70 1 ((t.ini :: t.ins).map encUs))] 0) (fun j => j ≤ (t.ini :: t.ins).length) (fun j => (t.ini :: t.ins).length - j) 0 (Nat.zero_le _) (le_to ⟨(int_eq rfl (by simp [manyR])), rfl, rfl, rfl, trivial⟩ ⟨rfl, trivial⟩ rfl rfl rfl rfl) ?_
  rintro j hinv
  have hm := manyR_take (rs := (t.ini :: t.ins)) (by simp; have := hz.nl; omega) hz.rows j
  have hz2 := hz.nl
  have hR : (t.ini :: t.ins).length = t.ins.length + 1 := rfl
  refine wp_seq ?_
  refine wp_reg (by kernel_rfl) ?_
  refine ar_lss_s rfl rfl rfl rfl rfl (fun h16 => ?_) (fun h16 => ?_)
  · refine ar_nil ?_
    refine then_n ?_
    refine wp_seq ?_
    refine wp_condT rfl ?_
    refine wp_skip ?_
    refine then_n ?_
    refine wp_seq ?_
    refine wp_block ?_
    refine wp_seq ?_
    refine wp_reg (by kernel_rfl) ?_
    refine ar_ia_own tab_ok rfl rfl rfl rfl tb99 rfl tb70 rfl (by omega) (by simp at *; omega) rfl rfl rfl rfl ?_
    refine ar_ld_eptr tab_ok rfl rfl rfl tb70 rfl (map_get (n := j) (by omega)) rfl rfl rfl ?_
    refine ar_assign rfl rfl rfl rfl ?_
    refine ar_nil ?_
    refine then_n ?_
    refine wp_seq ?_
    refine wp_reg (by kernel_rfl) ?_
    refine ar_move rfl rfl rfl rfl ?_
    refine ar_len tab_ok rfl rfl tb70 rfl len_map rfl rfl ?_
    refine ar_move rfl rfl rfl rfl ?_
    refine ar_nil ?_
    refine then_n ?_
    refine wp_block ?_
    refine wp_loop (α := Nat) (fun i => mk [(3, .v (.int .i64 (manyR ((t.ini :: t.ins).take j) + manyT (((t.ini :: t.ins).getD j default).take i) : Nat))), (13, .own 13), (14, .v (.int .i64 ((t.ini :: t.ins).length : Nat))), (15, .v (.int .i64 (j : Nat))), (19, .v (slU ((t.ini :: t.ins).getD j default))), (20, .v (.int .i64 (((t.ini :: t.ins).getD j default).length : Nat))), (21, .v (.int .i64 (i : Nat)))] [(13, .row 70 1 ((t.ini :: t.ins).map encUs))] 0) (fun i => i ≤ ((t.ini :: t.ins).getD j default).length) (fun i => ((t.ini :: t.ins).getD j default).length - i) 0 (Nat.zero_le _) (le_to ⟨(int_eq rfl (by simp [manyT])), rfl, rfl, rfl, rfl, rfl, rfl, trivial⟩ ⟨rfl, trivial⟩ rfl rfl rfl rfl) ?_
    rintro i hinv2
    have hm5 := manyT_le (((t.ini :: t.ins).getD j default).take i)
    have hm6 : (((t.ini :: t.ins).getD j default).take i).length ≤ ((t.ini :: t.ins).getD j default).length := by rw [List.length_take]; omega
    have hm7 := hz.rows ((t.ini :: t.ins).getD j default) (getD_mem (by omega))
    refine wp_seq ?_
    refine wp_reg (by kernel_rfl) ?_
    refine ar_lss_s rfl rfl rfl rfl rfl (fun h22 => ?_) (fun h22 => ?_)
    · refine ar_nil ?_
      refine then_n ?_
      refine wp_seq ?_
      refine wp_condT rfl ?_
      refine wp_skip ?_
      refine then_n ?_
      refine wp_seq ?_
      refine wp_block ?_
      refine wp_seq ?_
      refine wp_reg (by kernel_rfl) ?_
      refine ar_ia tab_ok rfl rfl rfl tb70 rfl tb72 (by omega) (map_get (n := i) (by omega)) rfl rfl rfl ?_
      refine ar_ld_ref tab_ok rfl rfl tb72 rfl rfl rfl rfl ?_
      refine ar_assign rfl rfl rfl rfl ?_
      refine ar_nil ?_
      refine then_n ?_
      refine wp_seq ?_
      refine wp_reg (by kernel_rfl) ?_
      refine ar_move rfl rfl rfl rfl ?_
      refine ar_eql_s rfl rfl rfl rfl rfl (fun h26 => ?_) (fun h26 => ?_)
      · refine ar_nil ?_
        refine then_n ?_
        refine wp_condT rfl ?_
        refine wp_reg (by kernel_rfl) ?_
        refine ar_move rfl rfl rfl rfl ?_
        refine ar_addi rfl rfl rfl rfl (by omega) (by omega) rfl rfl ?_
        refine ar_assign rfl rfl rfl rfl ?_
        refine ar_nil ?_
        refine inblk_n ?_
        refine then_n ?_
        refine wp_reg (by kernel_rfl) ?_
        refine ar_addi rfl rfl rfl rfl (by omega) (by omega) rfl rfl ?_
        refine ar_move rfl rfl rfl rfl ?_
        refine ar_nil ?_
        exact loop_n (i + 1) (by omega) (by omega) (le_to ⟨(int_eq rfl (by rw [take_snoc (n := i) (by omega), manyT_snoc]; first | (rw [if_pos h26]; omega) | (rw [if_neg h26]; omega))), rfl, rfl, rfl, rfl, rfl, rfl, trivial⟩ ⟨rfl, trivial⟩ rfl rfl rfl rfl)
      · refine ar_nil ?_
        refine then_n ?_
        refine wp_condF rfl ?_
        refine wp_skip ?_
        refine inblk_n ?_
        refine then_n ?_
        refine wp_reg (by kernel_rfl) ?_
        refine ar_addi rfl rfl rfl rfl (by omega) (by omega) rfl rfl ?_
        refine ar_move rfl rfl rfl rfl ?_
        refine ar_nil ?_
        exact loop_n (i + 1) (by omega) (by omega) (le_to ⟨(int_eq rfl (by rw [take_snoc (n := i) (by omega), manyT_snoc]; first | (rw [if_pos h26]; omega) | (rw [if_neg h26]; omega))), rfl, rfl, rfl, rfl, rfl, rfl, trivial⟩ ⟨rfl, trivial⟩ rfl rfl rfl rfl)
    · refine ar_nil ?_
      refine then_n ?_
      refine wp_seq ?_
      refine wp_condF rfl ?_
      refine wp_exit ?_
      refine then_x (loop_x (inblk_e ?_))
      refine inblk_n ?_
      refine then_n ?_
      refine wp_reg (by kernel_rfl) ?_
      refine ar_addi rfl rfl rfl rfl (by omega) (by omega) rfl rfl ?_
      refine ar_move rfl rfl rfl rfl ?_
      refine ar_nil ?_
      exact loop_n (j + 1) (by omega) (by omega) (le_to ⟨(int_eq rfl (by rw [take_snoc (n := j) (by omega), manyR_snoc, List.take_of_length_le (l := (t.ini :: t.ins).getD j default) (i := i) (by omega)])), rfl, rfl, rfl, trivial⟩ ⟨rfl, trivial⟩ rfl rfl rfl rfl)
  · refine ar_nil ?_
    refine then_n ?_
    refine wp_seq ?_
    refine wp_condF rfl ?_
    refine wp_exit ?_
    refine then_x (loop_x (inblk_e ?_))
    refine then_n ?_
    refine wp_seq ?_
    refine wp_reg (by kernel_rfl) ?_
    refine ar_move rfl rfl rfl rfl ?_
    refine ar_assign rfl rfl rfl rfl ?_
    refine ar_nil ?_
    refine then_n ?_
    refine wp_ret ?_
    refine ret_post rfl rfl ?_
    have hi : j = (t.ini :: t.ins).length := by omega
    subst hi
    rw [List.take_length]; rfl

theorem pc_123 (t : Trace) (hz : SzT t) : PCall Try.prog 123 [trV t] (.bool (decide (holesT t = 0))) := by
  refine pc_of tab_ok (f := 123) (fn := Try.f123) (N := 6) (rs := [.tmp 2]) (by kernel_rfl) rfl (by kernel_rfl) rfl rfl [(0, .v (trV t))] ⟨rfl, trivial⟩ rfl rfl ?_
  intro B
  refine wp_seq ?_
  refine wp_reg (by kernel_rfl) ?_
  refine ar_box 1 [] rfl rfl rfl ⟨rfl, trivial⟩ rfl rfl rfl ?_
  refine ar_assign rfl rfl rfl rfl ?_
  refine ar_nil ?_
  refine then_n ?_
  refine wp_seq ?_
  refine wp_reg (by kernel_rfl) ?_
  refine ar_lda tab_ok rfl rfl rfl tb101 rfl rfl rfl rfl rfl rfl ?_
  refine ar_call [] (pc_126 t hz) rfl rfl rfl rfl rfl rfl trivial (.inl rfl) rfl rfl rfl ?_
  refine ar_eql rfl rfl rfl rfl rfl rfl ?_
  refine ar_assign rfl rfl rfl rfl ?_
  refine ar_nil ?_
  refine then_n ?_
  refine wp_ret ?_
  refine ret_post rfl rfl ?_
  exact congrArg V.bool (by simp)

theorem pce_81 (t : Trace) (n : Int) (h1 : t.ini.length ≤ 9223372036854775807) (h2 : t.ins.length ≤ 9223372036854775807) (hn : n ≤ 1000) : PCallE Try.prog 81 [trV t, .int .i64 n] (fun r => ∃ b : Bool, r = .bool b ∧ (b = true → SmallT t n)) := by
  refine pce_of tab_ok (f := 81) (fn := Try.f81) (N := 31) (rs := [.tmp 4]) (by kernel_rfl) rfl (by kernel_rfl) rfl rfl [(0, .v (trV t)), (1, .v (.int .i64 n))] ⟨rfl, rfl, trivial⟩ rfl rfl ?_
  intro B
  refine wp_seq ?_
  refine wp_reg (by kernel_rfl) ?_
  refine ar_box 2 [] rfl rfl rfl ⟨rfl, trivial⟩ rfl rfl rfl ?_
  refine ar_assign rfl rfl rfl rfl ?_
  refine ar_nil ?_
  refine then_n ?_
  refine wp_seq ?_
  refine wp_seq ?_
  refine wp_reg (by kernel_rfl) ?_
  refine ar_fa tab_ok rfl rfl rfl tb101 rfl rfl rfl rfl rfl ?_
  refine ar_ld tab_ok rfl rfl rfl tb70 rfl rfl rfl rfl rfl ?_
  refine ar_len tab_ok rfl rfl tb70 rfl len_map rfl rfl ?_
  refine ar_gtr_s rfl rfl rfl rfl rfl (fun h9 => ?_) (fun h9 => ?_)
  · refine ar_move rfl rfl rfl rfl ?_
    refine ar_skip rfl rfl ?_
    refine ar_skip rfl rfl ?_
    refine ar_skip rfl rfl ?_
    refine ar_skip rfl rfl ?_
    refine ar_skip rfl rfl ?_
    refine ar_pickT rfl rfl rfl rfl rfl ?_
    refine ar_nil ?_
    refine then_n ?_
    refine wp_condT rfl ?_
    refine wp_seq ?_
    refine wp_reg (by kernel_rfl) ?_
    refine ar_assign rfl rfl rfl rfl ?_
    refine ar_nil ?_
    refine then_n ?_
    refine wp_ret ?_
    refine then_r (ret_postE rfl rfl ?_)
    first | exact ⟨_, rfl, fun h => (Bool.false_ne_true h).elim⟩ | exact ⟨_, rfl, fun _ => ⟨by omega, by omega, fun r hr => by obtain ⟨q, hq, rfl⟩ := List.getElem_of_mem hr; have := hj2 q (by omega); rwa [List.getD_eq_getElem?_getD, List.getElem?_eq_getElem hq] at this⟩⟩
  · refine ar_move rfl rfl rfl rfl ?_
    refine ar_fa tab_ok rfl rfl rfl tb101 rfl rfl rfl rfl rfl ?_
    refine ar_ld tab_ok rfl rfl rfl tb99 rfl rfl rfl rfl rfl ?_
    refine ar_len tab_ok rfl rfl tb99 rfl len_map rfl rfl ?_
    refine ar_move rfl rfl rfl rfl ?_
    refine ar_gtr_s rfl rfl rfl rfl rfl (fun h15 => ?_) (fun h15 => ?_)
    · refine ar_pickF rfl rfl rfl rfl rfl ?_
      refine ar_nil ?_
      refine then_n ?_
      refine wp_condT rfl ?_
      refine wp_seq ?_
      refine wp_reg (by kernel_rfl) ?_
      refine ar_assign rfl rfl rfl rfl ?_
      refine ar_nil ?_
      refine then_n ?_
      refine wp_ret ?_
      refine then_r (ret_postE rfl rfl ?_)
      first | exact ⟨_, rfl, fun h => (Bool.false_ne_true h).elim⟩ | exact ⟨_, rfl, fun _ => ⟨by omega, by omega, fun r hr => by obtain ⟨q, hq, rfl⟩ := List.getElem_of_mem hr; have := hj2 q (by omega); rwa [List.getD_eq_getElem?_getD, List.getElem?_eq_getElem hq] at this⟩⟩
    · refine ar_pickF rfl rfl rfl rfl rfl ?_
      refine ar_nil ?_
      refine then_n ?_
      refine wp_condF rfl ?_
      refine wp_skip ?_
      refine then_n ?_
      refine wp_seq ?_
      refine wp_seq ?_
      refine wp_reg (by kernel_rfl) ?_
      refine ar_assign rfl rfl rfl rfl ?_
      refine ar_nil ?_
      refine then_n ?_
      refine wp_block ?_
      refine wp_loop (α := Nat) (fun j => mk [(2, .ptr 2 0), (5, .v (.int .i64 (j : Nat)))] [(2, .box ((encT t).map .v))] 0) (fun j => j ≤ t.ins.length ∧ ∀ q, q < j → (t.ins.getD q default).length ≤ 60) (fun j => t.ins.length - j) 0 ⟨Nat.zero_le _, fun q h => absurd h (Nat.not_lt_zero q)⟩ (le_to ⟨rfl, rfl, trivial⟩ ⟨rfl, trivial⟩ rfl rfl rfl rfl) ?_
      rintro j ⟨hj1, hj2⟩
      refine wp_seq ?_
      refine wp_seq ?_
      refine wp_reg (by kernel_rfl) ?_
      refine ar_move rfl rfl rfl rfl ?_
      refine ar_fa tab_ok rfl rfl rfl tb101 rfl rfl rfl rfl rfl ?_
      refine ar_ld tab_ok rfl rfl rfl tb99 rfl rfl rfl rfl rfl ?_
      refine ar_len tab_ok rfl rfl tb99 rfl len_map rfl rfl ?_
      refine ar_lss_s rfl rfl rfl rfl rfl (fun h21 => ?_) (fun h21 => ?_)
      · refine ar_nil ?_
        refine then_n ?_
        refine wp_condT rfl ?_
        refine wp_skip ?_
        refine then_n ?_
        refine wp_seq ?_
        refine wp_block ?_
        refine wp_seq ?_
        refine wp_reg (by kernel_rfl) ?_
        refine ar_fa tab_ok rfl rfl rfl tb101 rfl rfl rfl rfl rfl ?_
        refine ar_ld tab_ok rfl rfl rfl tb99 rfl rfl rfl rfl rfl ?_
        refine ar_move rfl rfl rfl rfl ?_
        refine ar_ia tab_ok rfl rfl rfl tb99 rfl tb70 (by omega) (map_get (n := j) (by omega)) rfl rfl rfl ?_
        refine ar_ld_ref tab_ok rfl rfl tb70 rfl rfl rfl rfl ?_
        refine ar_len tab_ok rfl rfl tb70 rfl len_map rfl rfl ?_
        refine ar_gtr_s rfl rfl rfl rfl rfl (fun h30 => ?_) (fun h30 => ?_)
        · refine ar_nil ?_
          refine then_n ?_
          refine wp_condT rfl ?_
          refine wp_seq ?_
          refine wp_reg (by kernel_rfl) ?_
          refine ar_assign rfl rfl rfl rfl ?_
          refine ar_nil ?_
          refine then_n ?_
          refine wp_ret ?_
          refine inblk_r (then_r (loop_r (inblk_r (then_r (ret_postE rfl rfl ?_)))))
          first | exact ⟨_, rfl, fun h => (Bool.false_ne_true h).elim⟩ | exact ⟨_, rfl, fun _ => ⟨by omega, by omega, fun r hr => by obtain ⟨q, hq, rfl⟩ := List.getElem_of_mem hr; have := hj2 q (by omega); rwa [List.getD_eq_getElem?_getD, List.getElem?_eq_getElem hq] at this⟩⟩
        · refine ar_nil ?_
          refine then_n ?_
          refine wp_condF rfl ?_
          refine wp_skip ?_
          refine inblk_n ?_
          refine then_n ?_
          refine wp_reg (by kernel_rfl) ?_
          refine ar_move rfl rfl rfl rfl ?_
          refine ar_addi rfl rfl rfl rfl (by omega) (by omega) rfl rfl ?_
          refine ar_assign rfl rfl rfl rfl ?_
          refine ar_nil ?_
          exact loop_n (j + 1) ⟨by omega, fun q hq => (Nat.lt_succ_iff_lt_or_eq.1 hq).elim (hj2 q) (fun e => e ▸ (by omega))⟩ (by omega) (le_to ⟨rfl, rfl, trivial⟩ ⟨rfl, trivial⟩ rfl rfl rfl rfl)
      · refine ar_nil ?_
        refine then_n ?_
        refine wp_condF rfl ?_
        refine wp_exit ?_
        refine then_x (loop_x (inblk_e ?_))
        refine then_n ?_
        refine wp_seq ?_
        refine wp_reg (by kernel_rfl) ?_
        refine ar_assign rfl rfl rfl rfl ?_
        refine ar_nil ?_
        refine then_n ?_
        refine wp_ret ?_
        refine ret_postE rfl rfl ?_
        first | exact ⟨_, rfl, fun h => (Bool.false_ne_true h).elim⟩ | exact ⟨_, rfl, fun _ => ⟨by omega, by omega, fun r hr => by obtain ⟨q, hq, rfl⟩ := List.getElem_of_mem hr; have := hj2 q (by omega); rwa [List.getD_eq_getElem?_getD, List.getElem?_eq_getElem hq] at this⟩⟩

theorem pc_79 (a : Aig) (t : Trace) (hf : Fit a) (hn : Nn t.ini) (hl1 : t.ini.length ≤ 9223372036854775807) (hl2 : t.ins.length ≤ 9223372036854775807) (hl3 : ∀ r, r ∈ t.ins → r.length ≤ 9223372036854775807) : PCall Try.prog 79 [aigV a, trV t] (.bool (rightT a t)) := by
  refine pc_of tab_ok (f := 79) (fn := Try.f79) (N := 103) (rs := [.tmp 4]) (by kernel_rfl) rfl (by kernel_rfl) rfl rfl [(0, .v (aigV a)), (1, .v (trV t))] ⟨rfl, rfl, trivial⟩ rfl rfl ?_
  intro B
  have hfl := hf.l; have hfb := hf.b
  refine wp_seq ?_
  refine wp_reg (by kernel_rfl) ?_
  refine ar_box 2 [] rfl rfl rfl ⟨rfl, trivial⟩ rfl rfl rfl ?_
  refine ar_box 3 [] rfl rfl rfl ⟨rfl, trivial⟩ rfl rfl rfl ?_
  refine ar_assign rfl rfl rfl rfl ?_
  refine ar_nil ?_
  refine then_n ?_
  refine wp_seq ?_
  refine wp_reg (by kernel_rfl) ?_
  refine ar_fa tab_ok rfl rfl rfl tb101 rfl rfl rfl rfl rfl ?_
  refine ar_ld tab_ok rfl rfl rfl tb70 rfl rfl rfl rfl rfl ?_
  refine ar_call [] (pc_46 t.ini hl1) rfl rfl rfl rfl rfl rfl trivial (.inl rfl) rfl rfl rfl ?_
  refine ar_split (fun h11 => ?_) (fun h11 => ?_)
  · refine ar_assign rfl rfl rfl rfl ?_
    refine ar_nil ?_
    refine then_n ?_
    refine wp_seq ?_
    refine wp_seq ?_
    refine wp_reg (by kernel_rfl) ?_
    refine ar_move rfl rfl rfl rfl ?_
    refine ar_not rfl rfl rfl rfl rfl ?_
    refine ar_move rfl rfl rfl rfl ?_
    refine ar_fa tab_ok rfl rfl rfl tb101 rfl rfl rfl rfl rfl ?_
    refine ar_ld tab_ok rfl rfl rfl tb3 rfl rfl rfl rfl rfl ?_
    refine ar_lss_s rfl rfl rfl rfl rfl (fun h17 => ?_) (fun h17 => ?_)
    · refine ar_pickF rfl rfl rfl rfl rfl ?_
      refine ar_move rfl rfl rfl rfl ?_
      refine ar_skip rfl rfl ?_
      refine ar_skip rfl rfl ?_
      refine ar_skip rfl rfl ?_
      refine ar_skip rfl rfl ?_
      refine ar_skip rfl rfl ?_
      refine ar_skip rfl rfl ?_
      refine ar_pickT rfl rfl rfl rfl rfl ?_
      refine ar_move rfl rfl rfl rfl ?_
      refine ar_skip rfl rfl ?_
      refine ar_skip rfl rfl ?_
      refine ar_skip rfl rfl ?_
      refine ar_skip rfl rfl ?_
      refine ar_pickT rfl rfl rfl rfl rfl ?_
      refine ar_move rfl rfl rfl rfl ?_
      refine ar_skip rfl rfl ?_
      refine ar_skip rfl rfl ?_
      refine ar_skip rfl rfl ?_
      refine ar_skip rfl rfl ?_
      refine ar_pickT rfl rfl rfl rfl rfl ?_
      refine ar_move rfl rfl rfl rfl ?_
      refine ar_skip rfl rfl ?_
      refine ar_skip rfl rfl ?_
      refine ar_skip rfl rfl ?_
      refine ar_skip rfl rfl ?_
      refine ar_skip rfl rfl ?_
      refine ar_skip rfl rfl ?_
      refine ar_skip rfl rfl ?_
      refine ar_pickT rfl rfl rfl rfl rfl ?_
      refine ar_nil ?_
      refine then_n ?_
      refine wp_condT rfl ?_
      refine wp_seq ?_
      refine wp_reg (by kernel_rfl) ?_
      refine ar_assign rfl rfl rfl rfl ?_
      refine ar_nil ?_
      refine then_n ?_
      refine wp_ret ?_
      refine then_r (ret_post rfl rfl ?_)
      first | (rw [rightT_main (by omega) (by omega) (by omega) (by omega) h11, pairs_at (j := j) (by omega) (by simp only [startsT, Bool.or_eq_false_iff, decide_eq_false_iff_not]; omega)]; rfl) | (rw [rightT_main (by omega) (by omega) (by omega) (by omega) h11, hip, any_of (j := i) (by omega) (by simp only [oddT, Bool.or_eq_true, decide_eq_true_eq, Bool.not_eq_true']; first | exact .inl h101 | exact .inr h89)]; rfl) | (rw [rightT_main (by omega) (by omega) (by omega) (by omega) h11, hip, any_no (fun q hq => hi2 q (by omega))]; rfl) | (rw [rightT_no (fun h => Bool.false_ne_true (h11.symm.trans h.it))]; done) | (rw [rightT_no (fun h => by have q1 := h.b0; have q2 := h.b1; have q3 := h.n0; have q4 := h.n1; have q5 := h.il; omega)]; done)
    · refine ar_pickF rfl rfl rfl rfl rfl ?_
      refine ar_move rfl rfl rfl rfl ?_
      refine ar_fa tab_ok rfl rfl rfl tb101 rfl rfl rfl rfl rfl ?_
      refine ar_ld tab_ok rfl rfl rfl tb3 rfl rfl rfl rfl rfl ?_
      refine ar_fa tab_ok rfl rfl rfl tb27 rfl rfl rfl rfl rfl ?_
      refine ar_ld tab_ok rfl rfl rfl tb24 rfl rfl rfl rfl rfl ?_
      refine ar_len tab_ok rfl rfl tb24 rfl len_map rfl rfl ?_
      refine ar_geq_s rfl rfl rfl rfl rfl (fun h25 => ?_) (fun h25 => ?_)
      · refine ar_pickF rfl rfl rfl rfl rfl ?_
        refine ar_move rfl rfl rfl rfl ?_
        refine ar_skip rfl rfl ?_
        refine ar_skip rfl rfl ?_
        refine ar_skip rfl rfl ?_
        refine ar_skip rfl rfl ?_
        refine ar_pickT rfl rfl rfl rfl rfl ?_
        refine ar_move rfl rfl rfl rfl ?_
        refine ar_skip rfl rfl ?_
        refine ar_skip rfl rfl ?_
        refine ar_skip rfl rfl ?_
        refine ar_skip rfl rfl ?_
        refine ar_pickT rfl rfl rfl rfl rfl ?_
        refine ar_move rfl rfl rfl rfl ?_
        refine ar_skip rfl rfl ?_
        refine ar_skip rfl rfl ?_
        refine ar_skip rfl rfl ?_
        refine ar_skip rfl rfl ?_
        refine ar_skip rfl rfl ?_
        refine ar_skip rfl rfl ?_
        refine ar_skip rfl rfl ?_
        refine ar_pickT rfl rfl rfl rfl rfl ?_
        refine ar_nil ?_
        refine then_n ?_
        refine wp_condT rfl ?_
        refine wp_seq ?_
        refine wp_reg (by kernel_rfl) ?_
        refine ar_assign rfl rfl rfl rfl ?_
        refine ar_nil ?_
        refine then_n ?_
        refine wp_ret ?_
        refine then_r (ret_post rfl rfl ?_)
        first | (rw [rightT_main (by omega) (by omega) (by omega) (by omega) h11, pairs_at (j := j) (by omega) (by simp only [startsT, Bool.or_eq_false_iff, decide_eq_false_iff_not]; omega)]; rfl) | (rw [rightT_main (by omega) (by omega) (by omega) (by omega) h11, hip, any_of (j := i) (by omega) (by simp only [oddT, Bool.or_eq_true, decide_eq_true_eq, Bool.not_eq_true']; first | exact .inl h101 | exact .inr h89)]; rfl) | (rw [rightT_main (by omega) (by omega) (by omega) (by omega) h11, hip, any_no (fun q hq => hi2 q (by omega))]; rfl) | (rw [rightT_no (fun h => Bool.false_ne_true (h11.symm.trans h.it))]; done) | (rw [rightT_no (fun h => by have q1 := h.b0; have q2 := h.b1; have q3 := h.n0; have q4 := h.n1; have q5 := h.il; omega)]; done)
      · refine ar_pickF rfl rfl rfl rfl rfl ?_
        refine ar_move rfl rfl rfl rfl ?_
        refine ar_fa tab_ok rfl rfl rfl tb101 rfl rfl rfl rfl rfl ?_
        refine ar_ld tab_ok rfl rfl rfl tb99 rfl rfl rfl rfl rfl ?_
        refine ar_len tab_ok rfl rfl tb99 rfl len_map rfl rfl ?_
        refine ar_lss_s rfl rfl rfl rfl rfl (fun h31 => ?_) (fun h31 => ?_)
        · refine ar_pickF rfl rfl rfl rfl rfl ?_
          refine ar_move rfl rfl rfl rfl ?_
          refine ar_skip rfl rfl ?_
          refine ar_skip rfl rfl ?_
          refine ar_skip rfl rfl ?_
          refine ar_skip rfl rfl ?_
          refine ar_pickT rfl rfl rfl rfl rfl ?_
          refine ar_move rfl rfl rfl rfl ?_
          refine ar_skip rfl rfl ?_
          refine ar_skip rfl rfl ?_
          refine ar_skip rfl rfl ?_
          refine ar_skip rfl rfl ?_
          refine ar_skip rfl rfl ?_
          refine ar_skip rfl rfl ?_
          refine ar_skip rfl rfl ?_
          refine ar_pickT rfl rfl rfl rfl rfl ?_
          refine ar_nil ?_
          refine then_n ?_
          refine wp_condT rfl ?_
          refine wp_seq ?_
          refine wp_reg (by kernel_rfl) ?_
          refine ar_assign rfl rfl rfl rfl ?_
          refine ar_nil ?_
          refine then_n ?_
          refine wp_ret ?_
          refine then_r (ret_post rfl rfl ?_)
          first | (rw [rightT_main (by omega) (by omega) (by omega) (by omega) h11, pairs_at (j := j) (by omega) (by simp only [startsT, Bool.or_eq_false_iff, decide_eq_false_iff_not]; omega)]; rfl) | (rw [rightT_main (by omega) (by omega) (by omega) (by omega) h11, hip, any_of (j := i) (by omega) (by simp only [oddT, Bool.or_eq_true, decide_eq_true_eq, Bool.not_eq_true']; first | exact .inl h101 | exact .inr h89)]; rfl) | (rw [rightT_main (by omega) (by omega) (by omega) (by omega) h11, hip, any_no (fun q hq => hi2 q (by omega))]; rfl) | (rw [rightT_no (fun h => Bool.false_ne_true (h11.symm.trans h.it))]; done) | (rw [rightT_no (fun h => by have q1 := h.b0; have q2 := h.b1; have q3 := h.n0; have q4 := h.n1; have q5 := h.il; omega)]; done)
        · refine ar_pickF rfl rfl rfl rfl rfl ?_
          refine ar_move rfl rfl rfl rfl ?_
          refine ar_fa tab_ok rfl rfl rfl tb101 rfl rfl rfl rfl rfl ?_
          refine ar_ld tab_ok rfl rfl rfl tb99 rfl rfl rfl rfl rfl ?_
          refine ar_len tab_ok rfl rfl tb99 rfl len_map rfl rfl ?_
          refine ar_gtr_s rfl rfl rfl rfl rfl (fun h37 => ?_) (fun h37 => ?_)
          · refine ar_pickF rfl rfl rfl rfl rfl ?_
            refine ar_move rfl rfl rfl rfl ?_
            refine ar_skip rfl rfl ?_
            refine ar_skip rfl rfl ?_
            refine ar_skip rfl rfl ?_
            refine ar_skip rfl rfl ?_
            refine ar_skip rfl rfl ?_
            refine ar_skip rfl rfl ?_
            refine ar_skip rfl rfl ?_
            refine ar_pickT rfl rfl rfl rfl rfl ?_
            refine ar_nil ?_
            refine then_n ?_
            refine wp_condT rfl ?_
            refine wp_seq ?_
            refine wp_reg (by kernel_rfl) ?_
            refine ar_assign rfl rfl rfl rfl ?_
            refine ar_nil ?_
            refine then_n ?_
            refine wp_ret ?_
            refine then_r (ret_post rfl rfl ?_)
            first | (rw [rightT_main (by omega) (by omega) (by omega) (by omega) h11, pairs_at (j := j) (by omega) (by simp only [startsT, Bool.or_eq_false_iff, decide_eq_false_iff_not]; omega)]; rfl) | (rw [rightT_main (by omega) (by omega) (by omega) (by omega) h11, hip, any_of (j := i) (by omega) (by simp only [oddT, Bool.or_eq_true, decide_eq_true_eq, Bool.not_eq_true']; first | exact .inl h101 | exact .inr h89)]; rfl) | (rw [rightT_main (by omega) (by omega) (by omega) (by omega) h11, hip, any_no (fun q hq => hi2 q (by omega))]; rfl) | (rw [rightT_no (fun h => Bool.false_ne_true (h11.symm.trans h.it))]; done) | (rw [rightT_no (fun h => by have q1 := h.b0; have q2 := h.b1; have q3 := h.n0; have q4 := h.n1; have q5 := h.il; omega)]; done)
          · refine ar_pickF rfl rfl rfl rfl rfl ?_
            refine ar_move rfl rfl rfl rfl ?_
            refine ar_fa tab_ok rfl rfl rfl tb101 rfl rfl rfl rfl rfl ?_
            refine ar_ld tab_ok rfl rfl rfl tb70 rfl rfl rfl rfl rfl ?_
            refine ar_len tab_ok rfl rfl tb70 rfl len_map rfl rfl ?_
            refine ar_fa tab_ok rfl rfl rfl tb27 rfl rfl rfl rfl rfl ?_
            refine ar_ld tab_ok rfl rfl rfl tb22 rfl rfl rfl rfl rfl ?_
            refine ar_len tab_ok rfl rfl tb22 rfl len_map rfl rfl ?_
            refine ar_neq_s rfl rfl rfl rfl rfl (fun h46 => ?_) (fun h46 => ?_)
            · refine ar_pickF rfl rfl rfl rfl rfl ?_
              refine ar_nil ?_
              refine then_n ?_
              refine wp_condT rfl ?_
              refine wp_seq ?_
              refine wp_reg (by kernel_rfl) ?_
              refine ar_assign rfl rfl rfl rfl ?_
              refine ar_nil ?_
              refine then_n ?_
              refine wp_ret ?_
              refine then_r (ret_post rfl rfl ?_)
              first | (rw [rightT_main (by omega) (by omega) (by omega) (by omega) h11, pairs_at (j := j) (by omega) (by simp only [startsT, Bool.or_eq_false_iff, decide_eq_false_iff_not]; omega)]; rfl) | (rw [rightT_main (by omega) (by omega) (by omega) (by omega) h11, hip, any_of (j := i) (by omega) (by simp only [oddT, Bool.or_eq_true, decide_eq_true_eq, Bool.not_eq_true']; first | exact .inl h101 | exact .inr h89)]; rfl) | (rw [rightT_main (by omega) (by omega) (by omega) (by omega) h11, hip, any_no (fun q hq => hi2 q (by omega))]; rfl) | (rw [rightT_no (fun h => Bool.false_ne_true (h11.symm.trans h.it))]; done) | (rw [rightT_no (fun h => by have q1 := h.b0; have q2 := h.b1; have q3 := h.n0; have q4 := h.n1; have q5 := h.il; omega)]; done)
            · refine ar_pickF rfl rfl rfl rfl rfl ?_
              refine ar_nil ?_
              refine then_n ?_
              refine wp_condF rfl ?_
              refine wp_skip ?_
              refine then_n ?_
              refine wp_seq ?_
              refine wp_seq ?_
              have hti := triL_of h11 hn
              refine wp_reg (by kernel_rfl) ?_
              refine ar_assign rfl rfl rfl rfl ?_
              refine ar_nil ?_
              refine then_n ?_
              refine wp_block ?_
              refine wp_loop (α := Nat) (fun j => mk [(2, .ptr 2 0), (3, .ptr 3 0), (6, .v (.int .i64 (j : Nat)))] [(2, .box ((encA a).map .v)), (3, .box ((encT t).map .v))] 0) (fun j => j ≤ a.l.length ∧ ∀ q, q < j → startsT (a.l.getD q default) (t.ini.getD q default) = true) (fun j => a.l.length - j) 0 ⟨Nat.zero_le _, fun q h => absurd h (Nat.not_lt_zero q)⟩ (le_to ⟨rfl, rfl, rfl, trivial⟩ ⟨rfl, rfl, trivial⟩ rfl rfl rfl rfl) ?_
              rintro j ⟨hj1, hj2⟩
              refine wp_seq ?_
              refine wp_seq ?_
              refine wp_reg (by kernel_rfl) ?_
              refine ar_move rfl rfl rfl rfl ?_
              refine ar_fa tab_ok rfl rfl rfl tb27 rfl rfl rfl rfl rfl ?_
              refine ar_ld tab_ok rfl rfl rfl tb22 rfl rfl rfl rfl rfl ?_
              refine ar_len tab_ok rfl rfl tb22 rfl len_map rfl rfl ?_
              refine ar_lss_s rfl rfl rfl rfl rfl (fun h52 => ?_) (fun h52 => ?_)
              · refine ar_nil ?_
                refine then_n ?_
                refine wp_condT rfl ?_
                refine wp_skip ?_
                refine then_n ?_
                refine wp_seq ?_
                refine wp_block ?_
                refine wp_seq ?_
                refine wp_draw (L := [([2], []), ([2], []), ([], []), ([], []), ([], []), ([], []), ([], []), ([], []), ([3], []), ([3], []), ([], []), ([], []), ([], []), ([], []), ([2], []), ([2], []), ([], []), ([], []), ([], []), ([], []), ([], []), ([], [])]) (by kernel_rfl) mixed (by kernel_rfl) ?_
                refine ar_fa tab_ok rfl rfl rfl tb27 rfl rfl rfl rfl rfl ?_
                refine ar_ld tab_ok rfl rfl rfl tb22 rfl rfl rfl rfl rfl ?_
                refine ar_move rfl rfl rfl rfl ?_
                refine ar_ia tab_ok rfl rfl rfl tb22 rfl tb63 (by omega) (map_get (n := j) (by omega)) rfl rfl rfl ?_
                refine ar_fa_ref tab_ok rfl rfl tb63 rfl rfl rfl rfl ?_
                refine ar_ld_ref tab_ok rfl rfl tb3 rfl rfl rfl rfl ?_
                refine ar_lss_s rfl rfl rfl rfl rfl (fun h61 => ?_) (fun h61 => ?_)
                · refine ar_move rfl rfl rfl rfl ?_
                  refine ar_fa tab_ok rfl rfl rfl tb101 rfl rfl rfl rfl rfl ?_
                  refine ar_ld tab_ok rfl rfl rfl tb70 rfl rfl rfl rfl rfl ?_
                  refine ar_move rfl rfl rfl rfl ?_
                  refine ar_ia tab_ok rfl rfl rfl tb70 rfl tb72 (by omega) (map_get (n := j) (by omega)) rfl rfl rfl ?_
                  refine ar_ld_ref tab_ok rfl rfl tb72 rfl rfl rfl rfl ?_
                  refine ar_conv tab_ok rfl rfl tb72 tb3 rfl rfl (IntWalk.i64_in _ ⟨by have := hti _ (getD_mem (xs := t.ini) (n := j) (by omega)); unfold Tri at this; omega, by have := hti _ (getD_mem (xs := t.ini) (n := j) (by omega)); unfold Tri at this; omega⟩) rfl rfl ?_
                  refine ar_fa tab_ok rfl rfl rfl tb27 rfl rfl rfl rfl rfl ?_
                  refine ar_ld tab_ok rfl rfl rfl tb22 rfl rfl rfl rfl rfl ?_
                  refine ar_move rfl rfl rfl rfl ?_
                  refine ar_ia tab_ok rfl rfl rfl tb22 rfl tb63 (by omega) (map_get (n := j) (by omega)) rfl rfl rfl ?_
                  refine ar_fa_ref tab_ok rfl rfl tb63 rfl rfl rfl rfl ?_
                  refine ar_ld_ref tab_ok rfl rfl tb3 rfl rfl rfl rfl ?_
                  refine ar_neq_s rfl rfl rfl rfl rfl (fun h75 => ?_) (fun h75 => ?_)
                  · refine ar_pickT rfl rfl rfl rfl rfl ?_
                    refine ar_nil ?_
                    refine then_n ?_
                    refine wp_condT rfl ?_
                    refine wp_seq ?_
                    refine wp_reg (by kernel_rfl) ?_
                    refine ar_assign rfl rfl rfl rfl ?_
                    refine ar_nil ?_
                    refine then_n ?_
                    refine wp_ret ?_
                    refine inblk_r (then_r (loop_r (inblk_r (then_r (ret_post rfl rfl ?_)))))
                    first | (rw [rightT_main (by omega) (by omega) (by omega) (by omega) h11, pairs_at (j := j) (by omega) (by simp only [startsT, Bool.or_eq_false_iff, decide_eq_false_iff_not]; omega)]; rfl) | (rw [rightT_main (by omega) (by omega) (by omega) (by omega) h11, hip, any_of (j := i) (by omega) (by simp only [oddT, Bool.or_eq_true, decide_eq_true_eq, Bool.not_eq_true']; first | exact .inl h101 | exact .inr h89)]; rfl) | (rw [rightT_main (by omega) (by omega) (by omega) (by omega) h11, hip, any_no (fun q hq => hi2 q (by omega))]; rfl) | (rw [rightT_no (fun h => Bool.false_ne_true (h11.symm.trans h.it))]; done) | (rw [rightT_no (fun h => by have q1 := h.b0; have q2 := h.b1; have q3 := h.n0; have q4 := h.n1; have q5 := h.il; omega)]; done)
                  · refine ar_pickT rfl rfl rfl rfl rfl ?_
                    refine ar_nil ?_
                    refine then_n ?_
                    refine wp_condF rfl ?_
                    refine wp_skip ?_
                    refine inblk_n ?_
                    refine then_n ?_
                    refine wp_reg (by kernel_rfl) ?_
                    refine ar_move rfl rfl rfl rfl ?_
                    refine ar_addi rfl rfl rfl rfl (by omega) (by omega) rfl rfl ?_
                    refine ar_assign rfl rfl rfl rfl ?_
                    refine ar_nil ?_
                    exact loop_n (j + 1) ⟨by omega, fun q hq => (Nat.lt_succ_iff_lt_or_eq.1 hq).elim (hj2 q) (fun e => e ▸ (by simp only [startsT, Bool.or_eq_true, decide_eq_true_eq]; omega))⟩ (by omega) (le_to ⟨rfl, rfl, rfl, trivial⟩ ⟨rfl, rfl, trivial⟩ rfl rfl rfl rfl)
                · refine ar_move rfl rfl rfl rfl ?_
                  refine ar_skip rfl rfl ?_
                  refine ar_skip rfl rfl ?_
                  refine ar_skip rfl rfl ?_
                  refine ar_skip rfl rfl ?_
                  refine ar_skip rfl rfl ?_
                  refine ar_skip rfl rfl ?_
                  refine ar_skip rfl rfl ?_
                  refine ar_skip rfl rfl ?_
                  refine ar_skip rfl rfl ?_
                  refine ar_skip rfl rfl ?_
                  refine ar_skip rfl rfl ?_
                  refine ar_skip rfl rfl ?_
                  refine ar_skip rfl rfl ?_
                  refine ar_pickF rfl rfl rfl rfl rfl ?_
                  refine ar_nil ?_
                  refine then_n ?_
                  refine wp_condF rfl ?_
                  refine wp_skip ?_
                  refine inblk_n ?_
                  refine then_n ?_
                  refine wp_reg (by kernel_rfl) ?_
                  refine ar_move rfl rfl rfl rfl ?_
                  refine ar_addi rfl rfl rfl rfl (by omega) (by omega) rfl rfl ?_
                  refine ar_assign rfl rfl rfl rfl ?_
                  refine ar_nil ?_
                  exact loop_n (j + 1) ⟨by omega, fun q hq => (Nat.lt_succ_iff_lt_or_eq.1 hq).elim (hj2 q) (fun e => e ▸ (by simp only [startsT, Bool.or_eq_true, decide_eq_true_eq]; omega))⟩ (by omega) (le_to ⟨rfl, rfl, rfl, trivial⟩ ⟨rfl, rfl, trivial⟩ rfl rfl rfl rfl)
              · refine ar_nil ?_
                refine then_n ?_
                refine wp_condF rfl ?_
                refine wp_exit ?_
                refine then_x (loop_x (inblk_e ?_))
                refine then_n ?_
                refine wp_seq ?_
                refine wp_seq ?_
                have hip : pairs startsT a.l t.ini = true := pairs_of (by omega) (fun q hq => hj2 q (by omega))
                refine wp_reg (by kernel_rfl) ?_
                refine ar_assign rfl rfl rfl rfl ?_
                refine ar_nil ?_
                refine then_n ?_
                refine wp_block ?_
                refine wp_loop (α := Nat) (fun i => mk [(2, .ptr 2 0), (3, .ptr 3 0), (7, .v (.int .i64 (i : Nat)))] [(2, .box ((encA a).map .v)), (3, .box ((encT t).map .v))] 0) (fun i => i ≤ t.ins.length ∧ ∀ q, q < i → oddT a (t.ins.getD q default) = false) (fun i => t.ins.length - i) 0 ⟨Nat.zero_le _, fun q h => absurd h (Nat.not_lt_zero q)⟩ (le_to ⟨rfl, rfl, rfl, trivial⟩ ⟨rfl, rfl, trivial⟩ rfl rfl rfl rfl) ?_
                rintro i ⟨hi1, hi2⟩
                refine wp_seq ?_
                refine wp_seq ?_
                refine wp_reg (by kernel_rfl) ?_
                refine ar_move rfl rfl rfl rfl ?_
                refine ar_fa tab_ok rfl rfl rfl tb101 rfl rfl rfl rfl rfl ?_
                refine ar_ld tab_ok rfl rfl rfl tb99 rfl rfl rfl rfl rfl ?_
                refine ar_len tab_ok rfl rfl tb99 rfl len_map rfl rfl ?_
                refine ar_lss_s rfl rfl rfl rfl rfl (fun h81 => ?_) (fun h81 => ?_)
                · refine ar_nil ?_
                  refine then_n ?_
                  refine wp_condT rfl ?_
                  refine wp_skip ?_
                  refine then_n ?_
                  refine wp_seq ?_
                  refine wp_block ?_
                  refine wp_seq ?_
                  refine wp_reg (by kernel_rfl) ?_
                  refine ar_fa tab_ok rfl rfl rfl tb101 rfl rfl rfl rfl rfl ?_
                  refine ar_ld tab_ok rfl rfl rfl tb99 rfl rfl rfl rfl rfl ?_
                  refine ar_move rfl rfl rfl rfl ?_
                  refine ar_ia tab_ok rfl rfl rfl tb99 rfl tb70 (by omega) (map_get (n := i) (by omega)) rfl rfl rfl ?_
                  refine ar_ld_ref tab_ok rfl rfl tb70 rfl rfl rfl rfl ?_
                  refine ar_call [] (pc_46 (t.ins.getD i default) (hl3 _ (getD_mem (by omega)))) rfl rfl rfl rfl rfl rfl trivial (.inl rfl) rfl rfl rfl ?_
                  refine ar_split (fun h89 => ?_) (fun h89 => ?_)
                  · refine ar_assign rfl rfl rfl rfl ?_
                    refine ar_nil ?_
                    refine then_n ?_
                    refine wp_seq ?_
                    refine wp_draw (L := [([], []), ([], []), ([], []), ([3], []), ([3], []), ([], []), ([], []), ([], []), ([], []), ([2], []), ([2], []), ([], []), ([], [])]) (by kernel_rfl) mixed (by kernel_rfl) ?_
                    refine ar_move rfl rfl rfl rfl ?_
                    refine ar_not rfl rfl rfl rfl rfl ?_
                    refine ar_move rfl rfl rfl rfl ?_
                    refine ar_fa tab_ok rfl rfl rfl tb101 rfl rfl rfl rfl rfl ?_
                    refine ar_ld tab_ok rfl rfl rfl tb99 rfl rfl rfl rfl rfl ?_
                    refine ar_move rfl rfl rfl rfl ?_
                    refine ar_ia tab_ok rfl rfl rfl tb99 rfl tb70 (by omega) (map_get (n := i) (by omega)) rfl rfl rfl ?_
                    refine ar_ld_ref tab_ok rfl rfl tb70 rfl rfl rfl rfl ?_
                    refine ar_len tab_ok rfl rfl tb70 rfl len_map rfl rfl ?_
                    refine ar_fa tab_ok rfl rfl rfl tb27 rfl rfl rfl rfl rfl ?_
                    refine ar_ld tab_ok rfl rfl rfl tb3 rfl rfl rfl rfl rfl ?_
                    refine ar_neq_s rfl rfl rfl rfl rfl (fun h101 => ?_) (fun h101 => ?_)
                    · refine ar_pickF rfl rfl rfl rfl rfl ?_
                      refine ar_nil ?_
                      refine then_n ?_
                      refine wp_condT rfl ?_
                      refine wp_seq ?_
                      refine wp_reg (by kernel_rfl) ?_
                      refine ar_assign rfl rfl rfl rfl ?_
                      refine ar_nil ?_
                      refine then_n ?_
                      refine wp_ret ?_
                      refine inblk_r (then_r (loop_r (inblk_r (then_r (ret_post rfl rfl ?_)))))
                      first | (rw [rightT_main (by omega) (by omega) (by omega) (by omega) h11, pairs_at (j := j) (by omega) (by simp only [startsT, Bool.or_eq_false_iff, decide_eq_false_iff_not]; omega)]; rfl) | (rw [rightT_main (by omega) (by omega) (by omega) (by omega) h11, hip, any_of (j := i) (by omega) (by simp only [oddT, Bool.or_eq_true, decide_eq_true_eq, Bool.not_eq_true']; first | exact .inl h101 | exact .inr h89)]; rfl) | (rw [rightT_main (by omega) (by omega) (by omega) (by omega) h11, hip, any_no (fun q hq => hi2 q (by omega))]; rfl) | (rw [rightT_no (fun h => Bool.false_ne_true (h11.symm.trans h.it))]; done) | (rw [rightT_no (fun h => by have q1 := h.b0; have q2 := h.b1; have q3 := h.n0; have q4 := h.n1; have q5 := h.il; omega)]; done)
                    · refine ar_pickF rfl rfl rfl rfl rfl ?_
                      refine ar_nil ?_
                      refine then_n ?_
                      refine wp_condF rfl ?_
                      refine wp_skip ?_
                      refine inblk_n ?_
                      refine then_n ?_
                      refine wp_reg (by kernel_rfl) ?_
                      refine ar_move rfl rfl rfl rfl ?_
                      refine ar_addi rfl rfl rfl rfl (by omega) (by omega) rfl rfl ?_
                      refine ar_assign rfl rfl rfl rfl ?_
                      refine ar_nil ?_
                      exact loop_n (i + 1) ⟨by omega, fun q hq => (Nat.lt_succ_iff_lt_or_eq.1 hq).elim (hi2 q) (fun e => e ▸ (by simp only [oddT, Bool.or_eq_false_iff, decide_eq_false_iff_not, Bool.not_eq_false']; exact ⟨h101, h89⟩))⟩ (by omega) (le_to ⟨rfl, rfl, rfl, trivial⟩ ⟨rfl, rfl, trivial⟩ rfl rfl rfl rfl)
                  · refine ar_assign rfl rfl rfl rfl ?_
                    refine ar_nil ?_
                    refine then_n ?_
                    refine wp_seq ?_
                    refine wp_draw (L := [([], []), ([], []), ([], []), ([3], []), ([3], []), ([], []), ([], []), ([], []), ([], []), ([2], []), ([2], []), ([], []), ([], [])]) (by kernel_rfl) mixed (by kernel_rfl) ?_
                    refine ar_move rfl rfl rfl rfl ?_
                    refine ar_not rfl rfl rfl rfl rfl ?_
                    refine ar_move rfl rfl rfl rfl ?_
                    refine ar_skip rfl rfl ?_
                    refine ar_skip rfl rfl ?_
                    refine ar_skip rfl rfl ?_
                    refine ar_skip rfl rfl ?_
                    refine ar_skip rfl rfl ?_
                    refine ar_skip rfl rfl ?_
                    refine ar_skip rfl rfl ?_
                    refine ar_skip rfl rfl ?_
                    refine ar_skip rfl rfl ?_
                    refine ar_pickT rfl rfl rfl rfl rfl ?_
                    refine ar_nil ?_
                    refine then_n ?_
                    refine wp_condT rfl ?_
                    refine wp_seq ?_
                    refine wp_reg (by kernel_rfl) ?_
                    refine ar_assign rfl rfl rfl rfl ?_
                    refine ar_nil ?_
                    refine then_n ?_
                    refine wp_ret ?_
                    refine inblk_r (then_r (loop_r (inblk_r (then_r (ret_post rfl rfl ?_)))))
                    first | (rw [rightT_main (by omega) (by omega) (by omega) (by omega) h11, pairs_at (j := j) (by omega) (by simp only [startsT, Bool.or_eq_false_iff, decide_eq_false_iff_not]; omega)]; rfl) | (rw [rightT_main (by omega) (by omega) (by omega) (by omega) h11, hip, any_of (j := i) (by omega) (by simp only [oddT, Bool.or_eq_true, decide_eq_true_eq, Bool.not_eq_true']; first | exact .inl h101 | exact .inr h89)]; rfl) | (rw [rightT_main (by omega) (by omega) (by omega) (by omega) h11, hip, any_no (fun q hq => hi2 q (by omega))]; rfl) | (rw [rightT_no (fun h => Bool.false_ne_true (h11.symm.trans h.it))]; done) | (rw [rightT_no (fun h => by have q1 := h.b0; have q2 := h.b1; have q3 := h.n0; have q4 := h.n1; have q5 := h.il; omega)]; done)
                · refine ar_nil ?_
                  refine then_n ?_
                  refine wp_condF rfl ?_
                  refine wp_exit ?_
                  refine then_x (loop_x (inblk_e ?_))
                  refine then_n ?_
                  refine wp_seq ?_
                  refine wp_reg (by kernel_rfl) ?_
                  refine ar_assign rfl rfl rfl rfl ?_
                  refine ar_nil ?_
                  refine then_n ?_
                  refine wp_ret ?_
                  refine ret_post rfl rfl ?_
                  first | (rw [rightT_main (by omega) (by omega) (by omega) (by omega) h11, pairs_at (j := j) (by omega) (by simp only [startsT, Bool.or_eq_false_iff, decide_eq_false_iff_not]; omega)]; rfl) | (rw [rightT_main (by omega) (by omega) (by omega) (by omega) h11, hip, any_of (j := i) (by omega) (by simp only [oddT, Bool.or_eq_true, decide_eq_true_eq, Bool.not_eq_true']; first | exact .inl h101 | exact .inr h89)]; rfl) | (rw [rightT_main (by omega) (by omega) (by omega) (by omega) h11, hip, any_no (fun q hq => hi2 q (by omega))]; rfl) | (rw [rightT_no (fun h => Bool.false_ne_true (h11.symm.trans h.it))]; done) | (rw [rightT_no (fun h => by have q1 := h.b0; have q2 := h.b1; have q3 := h.n0; have q4 := h.n1; have q5 := h.il; omega)]; done)
  · refine ar_assign rfl rfl rfl rfl ?_
    refine ar_nil ?_
    refine then_n ?_
    refine wp_seq ?_
    refine wp_seq ?_
    refine wp_reg (by kernel_rfl) ?_
    refine ar_move rfl rfl rfl rfl ?_
    refine ar_not rfl rfl rfl rfl rfl ?_
    refine ar_move rfl rfl rfl rfl ?_
    refine ar_skip rfl rfl ?_
    refine ar_skip rfl rfl ?_
    refine ar_skip rfl rfl ?_
    refine ar_pickT rfl rfl rfl rfl rfl ?_
    refine ar_move rfl rfl rfl rfl ?_
    refine ar_skip rfl rfl ?_
    refine ar_skip rfl rfl ?_
    refine ar_skip rfl rfl ?_
    refine ar_skip rfl rfl ?_
    refine ar_skip rfl rfl ?_
    refine ar_skip rfl rfl ?_
    refine ar_pickT rfl rfl rfl rfl rfl ?_
    refine ar_move rfl rfl rfl rfl ?_
    refine ar_skip rfl rfl ?_
    refine ar_skip rfl rfl ?_
    refine ar_skip rfl rfl ?_
    refine ar_skip rfl rfl ?_
    refine ar_pickT rfl rfl rfl rfl rfl ?_
    refine ar_move rfl rfl rfl rfl ?_
    refine ar_skip rfl rfl ?_
    refine ar_skip rfl rfl ?_
    refine ar_skip rfl rfl ?_
    refine ar_skip rfl rfl ?_
    refine ar_pickT rfl rfl rfl rfl rfl ?_
    refine ar_move rfl rfl rfl rfl ?_
    refine ar_skip rfl rfl ?_
    refine ar_skip rfl rfl ?_
    refine ar_skip rfl rfl ?_
    refine ar_skip rfl rfl ?_
    refine ar_skip rfl rfl ?_
    refine ar_skip rfl rfl ?_
    refine ar_skip rfl rfl ?_
    refine ar_pickT rfl rfl rfl rfl rfl ?_
    refine ar_nil ?_
    refine then_n ?_
    refine wp_condT rfl ?_
    refine wp_seq ?_
    refine wp_reg (by kernel_rfl) ?_
    refine ar_assign rfl rfl rfl rfl ?_
    refine ar_nil ?_
    refine then_n ?_
    refine wp_ret ?_
    refine then_r (ret_post rfl rfl ?_)
    first | (rw [rightT_main (by omega) (by omega) (by omega) (by omega) h11, pairs_at (j := j) (by omega) (by simp only [startsT, Bool.or_eq_false_iff, decide_eq_false_iff_not]; omega)]; rfl) | (rw [rightT_main (by omega) (by omega) (by omega) (by omega) h11, hip, any_of (j := i) (by omega) (by simp only [oddT, Bool.or_eq_true, decide_eq_true_eq, Bool.not_eq_true']; first | exact .inl h101 | exact .inr h89)]; rfl) | (rw [rightT_main (by omega) (by omega) (by omega) (by omega) h11, hip, any_no (fun q hq => hi2 q (by omega))]; rfl) | (rw [rightT_no (fun h => Bool.false_ne_true (h11.symm.trans h.it))]; done) | (rw [rightT_no (fun h => by have q1 := h.b0; have q2 := h.b1; have q3 := h.n0; have q4 := h.n1; have q5 := h.il; omega)]; done)

end Go.Vd
