/- Traces, replayed: the document's three values; two values, the program's and the document's. -/
import Derived.Test.YtjbfplfopagpjaaC22
namespace Go.Vd
open Go.Proofs


theorem statesT_0 {a : Aig} {t : Trace} (h : ¬ (statesT a t).2 ≠ 0) : rightT a t = true := by
  cases hb : rightT a t with
  | true => rfl
  | false => rw [statesT_bad hb] at h; exact absurd (by decide) h
theorem statesT_7 {a : Aig} {t : Trace} (h : (statesT a t).2 ≠ 0) : ternaryT a t = (statesT a t).2 := by
  cases hb : rightT a t with
  | true => rw [statesT_ok hb] at h; exact absurd rfl h
  | false => rw [statesT_bad hb, ternaryT_bad hb]

theorem pc_68 (a : Aig) (t : Trace) (hf : Fit a) (hg : Good a) (hz : SzT t) (hn : Nn t.ini) (hn2 : ∀ r, r ∈ t.ins → Nn r) : PCall Try.prog 68 [aigV a, trV t] (.int .i64 (ternaryT a t)) := by
  refine pc_of tab_ok (f := 68) (fn := Try.f68) (N := 65) (rs := [.tmp 4]) (by kernel_rfl) rfl (by kernel_rfl) rfl rfl [(0, .v (aigV a)), (1, .v (trV t))] ⟨rfl, rfl, trivial⟩ rfl rfl ?_
  intro B
  have hb := hg.bd
  refine wp_seq ?_
  refine wp_reg (by kernel_rfl) ?_
  refine ar_box 2 [] rfl rfl rfl ⟨rfl, trivial⟩ rfl rfl rfl ?_
  refine ar_box 3 [] rfl rfl rfl ⟨rfl, trivial⟩ rfl rfl rfl ?_
  refine ar_assign rfl rfl rfl rfl ?_
  refine ar_nil ?_
  refine then_n ?_
  refine wp_seq ?_
  refine wp_reg (by kernel_rfl) ?_
  refine ar_lda tab_ok rfl rfl rfl tb27 rfl rfl rfl rfl rfl rfl ?_
  refine ar_lda tab_ok rfl rfl rfl tb101 rfl rfl rfl rfl rfl rfl ?_
  refine ar_call [] (pc_83 a t hf hg hz hn hn2) rfl rfl rfl rfl rfl rfl trivial (.inl rfl) rfl rfl rfl ?_
  refine ar_move rfl rfl rfl rfl ?_
  refine ar_ext rfl rfl rfl rfl rfl ?_
  refine ar_ext rfl rfl rfl rfl rfl ?_
  refine ar_assign rfl rfl rfl rfl ?_
  refine ar_assign rfl rfl rfl rfl ?_
  refine ar_nil ?_
  refine then_n ?_
  refine wp_seq ?_
  refine wp_seq ?_
  refine wp_reg (by kernel_rfl) ?_
  refine ar_move rfl rfl rfl rfl ?_
  refine ar_neq_s rfl rfl rfl rfl rfl (fun h20 => ?_) (fun h20 => ?_)
  · refine ar_nil ?_
    refine then_n ?_
    refine wp_condT rfl ?_
    refine wp_seq ?_
    refine wp_reg (by kernel_rfl) ?_
    refine ar_move rfl rfl rfl rfl ?_
    refine ar_assign rfl rfl rfl rfl ?_
    refine ar_nil ?_
    refine then_n ?_
    refine wp_ret ?_
    refine then_r (ret_post rfl rfl ?_)
    first | (rw [statesT_7 h20]; done) | (rw [ternaryT_8 hr (by rw [hj2, ternGo_stop (by omega) (by rw [hfk]; exact conT_no (by omega) h62)]; decide)]; done) | (rw [ternaryT_8 hr (by rw [hj2, List.drop_eq_nil_of_le (by omega), ternGo]; exact h64)]; done) | (rw [ternaryT_0 hr (by rw [hj2, List.drop_eq_nil_of_le (by omega), ternGo]; exact h64)]; done)
  · refine ar_nil ?_
    refine then_n ?_
    refine wp_condF rfl ?_
    refine wp_skip ?_
    refine then_n ?_
    refine wp_seq ?_
    have hr := statesT_0 h20
    have ho := okt_of (rightT_iff.1 hr) hn hn2
    rw [statesT_ok hr]
    refine wp_reg (by kernel_rfl) ?_
    refine ar_assign rfl rfl rfl rfl ?_
    refine ar_nil ?_
    refine then_n ?_
    refine wp_seq ?_
    refine wp_seq ?_
    refine wp_reg (by kernel_rfl) ?_
    refine ar_assign rfl rfl rfl rfl ?_
    refine ar_nil ?_
    refine then_n ?_
    refine wp_block ?_
    refine wp_loop (α := Nat × Int) (fun ⟨j, y⟩ => mk [(2, .ptr 2 0), (3, .ptr 3 0), (5, .v (slUU (outT a t t.ins.length))), (7, .v (.int .u8 y)), (8, .v (.int .i64 (j : Nat)))] [(2, .box ((encA a).map .v)), (3, .box ((encT t).map .v))] 0) (fun ⟨j, y⟩ => j ≤ t.ins.length ∧ ternGo t.bad.toNat 0 (frT a t.ini t.ins) = ternGo t.bad.toNat y ((frT a t.ini t.ins).drop j)) (fun ⟨j, y⟩ => t.ins.length - j) ⟨0, 0⟩ ⟨Nat.zero_le _, rfl⟩ (le_to ⟨rfl, rfl, (sl_eq rfl (by rw [outT_all])), rfl, rfl, trivial⟩ ⟨rfl, rfl, trivial⟩ rfl rfl rfl rfl) ?_
    rintro ⟨j, y⟩ ⟨hj1, hj2⟩
    have hn1 := ho.r.n1
    have hat := ho.at j
    have hfl := frT_len a t.ins t.ini
    have hol := outT_len (a := a) (t := t) (j := t.ins.length) (Nat.le_refl _)
    have hog := outT_get (a := a) (t := t) (j := t.ins.length) (i := j) (Nat.le_refl _) hj1
    have hk8 := ho.r.b0; have hk9 := ho.r.b1; have hk10 := hb.c1
    have hlen := fun h : j < t.ins.length => step_lens (ho.shape h)
    have hfk0 := fun h : j < t.ins.length => frT_get a t.ins t.ini j h
    refine wp_seq ?_
    refine wp_seq ?_
    refine wp_reg (by kernel_rfl) ?_
    refine ar_move rfl rfl rfl rfl ?_
    refine ar_fa tab_ok rfl rfl rfl tb101 rfl rfl rfl rfl rfl ?_
    refine ar_ld tab_ok rfl rfl rfl tb99 rfl rfl rfl rfl rfl ?_
    refine ar_len tab_ok rfl rfl tb99 rfl len_map rfl rfl ?_
    refine ar_lss_s rfl rfl rfl rfl rfl (fun h26 => ?_) (fun h26 => ?_)
    · refine ar_nil ?_
      refine then_n ?_
      refine wp_condT rfl ?_
      refine wp_skip ?_
      refine then_n ?_
      refine wp_seq ?_
      refine wp_block ?_
      refine wp_seq ?_
      refine wp_draw (L := [([2], []), ([], []), ([], []), ([], []), ([], []), ([3], []), ([3], []), ([], []), ([], []), ([], []), ([], []), ([], []), ([], []), ([], []), ([], []), ([10], [10]), ([], []), ([10], [10]), ([], [])]) (by kernel_rfl) mixed (by kernel_rfl) ?_
      refine ar_lda tab_ok rfl rfl rfl tb27 rfl rfl rfl rfl rfl rfl ?_
      refine ar_move rfl rfl rfl rfl ?_
      refine ar_move rfl rfl rfl rfl ?_
      refine ar_ia (el := encUs (endT a t.ini (t.ins.take j))) tab_ok rfl rfl rfl tb99 rfl tb70 (by omega) (by have := map_get (enc := encUs) (xs := outT a t t.ins.length) (n := j) (by omega); rw [hog] at this; exact this) rfl rfl rfl ?_
      refine ar_ld_ref tab_ok rfl rfl tb70 rfl rfl rfl rfl ?_
      refine ar_fa tab_ok rfl rfl rfl tb101 rfl rfl rfl rfl rfl ?_
      refine ar_ld tab_ok rfl rfl rfl tb99 rfl rfl rfl rfl rfl ?_
      refine ar_move rfl rfl rfl rfl ?_
      refine ar_ia tab_ok rfl rfl rfl tb99 rfl tb70 (by omega) (map_get (n := j) (by omega)) rfl rfl rfl ?_
      refine ar_ld_ref tab_ok rfl rfl tb70 rfl rfl rfl rfl ?_
      refine ar_call [] (pc_59 a (endT a t.ini (t.ins.take j)) (t.ins.getD j default) hg (by have := hat.1; have := hb.l1; omega) (by have := (ho.row (j := j) (by omega)).1; have := hb.i1; omega)) rfl rfl rfl rfl rfl rfl trivial (.inl rfl) rfl rfl rfl ?_
      refine ar_move rfl rfl rfl rfl ?_
      refine ar_ext rfl rfl rfl rfl rfl ?_
      refine ar_ext rfl rfl rfl rfl rfl ?_
      refine ar_ext rfl rfl rfl rfl rfl ?_
      refine ar_alloc (id := 10) tab_ok rfl rfl tb83 rfl rfl rfl rfl ?_
      refine ar_assign rfl rfl rfl rfl ?_
      refine ar_st [] tab_ok rfl tb83 rfl rfl rfl trivial rfl rfl rfl rfl rfl rfl rfl rfl ?_
      refine ar_assign rfl rfl rfl rfl ?_
      refine ar_nil ?_
      refine then_n ?_
      refine wp_seq ?_
      have hlen1 := hlen (by omega)
      have hfk := hfk0 (by omega)
      refine wp_reg (by kernel_rfl) ?_
      refine ar_ia_arr tab_ok rfl rfl rfl rfl tb83 rfl tb70 (by omega) (by omega) rfl rfl rfl rfl ?_
      refine ar_ld tab_ok rfl rfl rfl tb70 rfl rfl rfl rfl rfl ?_
      refine ar_fa tab_ok rfl rfl rfl tb101 rfl rfl rfl rfl rfl ?_
      refine ar_ld tab_ok rfl rfl rfl tb3 rfl rfl rfl rfl rfl ?_
      refine ar_ia tab_ok rfl rfl rfl tb70 rfl tb72 hk8 (map_get (n := t.bad.toNat) (by omega)) rfl rfl rfl ?_
      refine ar_ld_ref tab_ok rfl rfl tb72 rfl rfl rfl rfl ?_
      refine ar_assign rfl rfl rfl rfl ?_
      refine ar_nil ?_
      refine then_n ?_
      refine wp_seq ?_
      refine wp_reg (by kernel_rfl) ?_
      refine ar_assign rfl rfl rfl rfl ?_
      refine ar_nil ?_
      refine then_n ?_
      refine wp_block ?_
      refine wp_loop (α := Nat) (fun i => mk [(2, .ptr 2 0), (3, .ptr 3 0), (5, .v (slUU (outT a t t.ins.length))), (7, .v (.int .u8 ((stepT a (endT a t.ini (t.ins.take j)) (t.ins.getD j default)).b.getD t.bad.toNat default))), (8, .v (.int .i64 (j : Nat))), (10, .ptr 10 0), (12, .v (.int .i64 (i : Nat)))] [(2, .box ((encA a).map .v)), (3, .box ((encT t).map .v)), (10, .box [.v (slU (stepT a (endT a t.ini (t.ins.take j)) (t.ins.getD j default)).o), .v (slU (stepT a (endT a t.ini (t.ins.take j)) (t.ins.getD j default)).b), .v (slU (stepT a (endT a t.ini (t.ins.take j)) (t.ins.getD j default)).c)])] 0) (fun i => i ≤ (stepT a (endT a t.ini (t.ins.take j)) (t.ins.getD j default)).c.length ∧ ∀ q, q < i → (stepT a (endT a t.ini (t.ins.take j)) (t.ins.getD j default)).c.getD q default = 1) (fun i => (stepT a (endT a t.ini (t.ins.take j)) (t.ins.getD j default)).c.length - i) 0 ⟨Nat.zero_le _, fun q h => absurd h (Nat.not_lt_zero q)⟩ (le_to ⟨rfl, rfl, rfl, rfl, rfl, rfl, rfl, trivial⟩ ⟨rfl, rfl, rfl, trivial⟩ rfl rfl rfl rfl) ?_
      rintro i ⟨hq1, hq2⟩
      refine wp_seq ?_
      refine wp_seq ?_
      refine wp_reg (by kernel_rfl) ?_
      refine ar_move rfl rfl rfl rfl ?_
      refine ar_ia_arr tab_ok rfl rfl rfl rfl tb83 rfl tb70 (by omega) (by omega) rfl rfl rfl rfl ?_
      refine ar_ld tab_ok rfl rfl rfl tb70 rfl rfl rfl rfl rfl ?_
      refine ar_len tab_ok rfl rfl tb70 rfl len_map rfl rfl ?_
      refine ar_lss_s rfl rfl rfl rfl rfl (fun h54 => ?_) (fun h54 => ?_)
      · refine ar_nil ?_
        refine then_n ?_
        refine wp_condT rfl ?_
        refine wp_skip ?_
        refine then_n ?_
        refine wp_seq ?_
        refine wp_block ?_
        refine wp_seq ?_
        refine wp_reg (by kernel_rfl) ?_
        refine ar_ia_arr tab_ok rfl rfl rfl rfl tb83 rfl tb70 (by omega) (by omega) rfl rfl rfl rfl ?_
        refine ar_ld tab_ok rfl rfl rfl tb70 rfl rfl rfl rfl rfl ?_
        refine ar_move rfl rfl rfl rfl ?_
        refine ar_ia tab_ok rfl rfl rfl tb70 rfl tb72 (by omega) (map_get (n := i) (by omega)) rfl rfl rfl ?_
        refine ar_ld_ref tab_ok rfl rfl tb72 rfl rfl rfl rfl ?_
        refine ar_neq_s rfl rfl rfl rfl rfl (fun h62 => ?_) (fun h62 => ?_)
        · refine ar_nil ?_
          refine then_n ?_
          refine wp_condT rfl ?_
          refine wp_seq ?_
          refine wp_reg (by kernel_rfl) ?_
          refine ar_assign rfl rfl rfl rfl ?_
          refine ar_nil ?_
          refine then_n ?_
          refine wp_ret ?_
          refine inblk_r (then_r (loop_r (inblk_r (inblk_r (then_r (loop_r (inblk_r (then_r (ret_post rfl rfl ?_)))))))))
          first | (rw [statesT_7 h20]; done) | (rw [ternaryT_8 hr (by rw [hj2, ternGo_stop (by omega) (by rw [hfk]; exact conT_no (by omega) h62)]; decide)]; done) | (rw [ternaryT_8 hr (by rw [hj2, List.drop_eq_nil_of_le (by omega), ternGo]; exact h64)]; done) | (rw [ternaryT_0 hr (by rw [hj2, List.drop_eq_nil_of_le (by omega), ternGo]; exact h64)]; done)
        · refine ar_nil ?_
          refine then_n ?_
          refine wp_condF rfl ?_
          refine wp_skip ?_
          refine inblk_n ?_
          refine then_n ?_
          refine wp_reg (by kernel_rfl) ?_
          refine ar_move rfl rfl rfl rfl ?_
          refine ar_addi rfl rfl rfl rfl (by omega) (by omega) rfl rfl ?_
          refine ar_assign rfl rfl rfl rfl ?_
          refine ar_nil ?_
          exact loop_n (i + 1) ⟨by omega, fun q hq => (Nat.lt_succ_iff_lt_or_eq.1 hq).elim (hq2 q) (fun e => e ▸ Decidable.not_not.1 h62)⟩ (by omega) (le_to ⟨rfl, rfl, rfl, rfl, rfl, rfl, rfl, trivial⟩ ⟨rfl, rfl, rfl, trivial⟩ rfl rfl rfl rfl)
      · refine ar_nil ?_
        refine then_n ?_
        refine wp_condF rfl ?_
        refine wp_exit ?_
        refine then_x (loop_x (inblk_e ?_))
        refine inblk_n ?_
        refine then_n ?_
        refine wp_reg (by kernel_rfl) ?_
        refine ar_move rfl rfl rfl rfl ?_
        refine ar_addi rfl rfl rfl rfl (by omega) (by omega) rfl rfl ?_
        refine ar_assign rfl rfl rfl rfl ?_
        refine ar_nil ?_
        exact loop_n ⟨j + 1, _⟩ ⟨by omega, by rw [hj2, ternGo_next (by omega) (by rw [hfk]; exact conT_of (fun q hq => hq2 q (by omega))), hfk]⟩ (by show t.ins.length - (j + 1) < t.ins.length - j; omega) (le_to ⟨rfl, rfl, rfl, rfl, rfl, trivial⟩ ⟨rfl, rfl, trivial⟩ rfl rfl rfl rfl)
    · refine ar_nil ?_
      refine then_n ?_
      refine wp_condF rfl ?_
      refine wp_exit ?_
      refine then_x (loop_x (inblk_e ?_))
      refine then_n ?_
      refine wp_seq ?_
      refine wp_seq ?_
      refine wp_reg (by kernel_rfl) ?_
      refine ar_move rfl rfl rfl rfl ?_
      refine ar_eql_s rfl rfl rfl rfl rfl (fun h64 => ?_) (fun h64 => ?_)
      · refine ar_nil ?_
        refine then_n ?_
        refine wp_condT rfl ?_
        refine wp_seq ?_
        refine wp_reg (by kernel_rfl) ?_
        refine ar_assign rfl rfl rfl rfl ?_
        refine ar_nil ?_
        refine then_n ?_
        refine wp_ret ?_
        refine then_r (ret_post rfl rfl ?_)
        first | (rw [statesT_7 h20]; done) | (rw [ternaryT_8 hr (by rw [hj2, ternGo_stop (by omega) (by rw [hfk]; exact conT_no (by omega) h62)]; decide)]; done) | (rw [ternaryT_8 hr (by rw [hj2, List.drop_eq_nil_of_le (by omega), ternGo]; exact h64)]; done) | (rw [ternaryT_0 hr (by rw [hj2, List.drop_eq_nil_of_le (by omega), ternGo]; exact h64)]; done)
      · refine ar_nil ?_
        refine then_n ?_
        refine wp_condF rfl ?_
        refine wp_skip ?_
        refine then_n ?_
        refine wp_seq ?_
        refine wp_reg (by kernel_rfl) ?_
        refine ar_assign rfl rfl rfl rfl ?_
        refine ar_nil ?_
        refine then_n ?_
        refine wp_ret ?_
        refine ret_post rfl rfl ?_
        first | (rw [statesT_7 h20]; done) | (rw [ternaryT_8 hr (by rw [hj2, ternGo_stop (by omega) (by rw [hfk]; exact conT_no (by omega) h62)]; decide)]; done) | (rw [ternaryT_8 hr (by rw [hj2, List.drop_eq_nil_of_le (by omega), ternGo]; exact h64)]; done) | (rw [ternaryT_0 hr (by rw [hj2, List.drop_eq_nil_of_le (by omega), ternGo]; exact h64)]; done)


def wholeGo (a : Aig) (k : Nat) (bad : Bool) (s : List Bool) : List (List Int) → Bool
  | [] => bad
  | r :: rs => if (stepOk a s (flagsT r)).c.any (fun b => false == b) then false else wholeGo a k ((stepOk a s (flagsT r)).b.getD k default) (stepOk a s (flagsT r)).n rs
def wholeT (a : Aig) (t : Trace) : Int := if rightT a t = true ∧ holesT t = 0 then (if wholeGo a t.bad.toNat false (flagsT t.ini) t.ins = true then 0 else 8) else 7
theorem wholeT_bad {a : Aig} {t : Trace} (h : ¬ (rightT a t = true ∧ holesT t = 0)) : wholeT a t = 7 := by simp only [wholeT]; rw [if_neg h]
theorem wholeT_0 {a : Aig} {t : Trace} (h : rightT a t = true) (h0 : holesT t = 0) (h' : wholeGo a t.bad.toNat false (flagsT t.ini) t.ins = true) : wholeT a t = 0 := by simp only [wholeT]; rw [if_pos ⟨h, h0⟩, if_pos h']
theorem wholeT_8 {a : Aig} {t : Trace} (h : rightT a t = true) (h0 : holesT t = 0) (h' : wholeGo a t.bad.toNat false (flagsT t.ini) t.ins = false) : wholeT a t = 8 := by simp only [wholeT]; rw [if_pos ⟨h, h0⟩, if_neg (by rw [h']; exact Bool.false_ne_true)]
theorem wholeGo_next {a : Aig} {k j : Nat} {bad : Bool} {s : List Bool} {ins : List (List Int)} (h : j < ins.length) (hc : (stepOk a s (flagsT (ins.getD j default))).c.any (fun b => false == b) = false) :
    wholeGo a k bad s (ins.drop j) = wholeGo a k ((stepOk a s (flagsT (ins.getD j default))).b.getD k default) (stepOk a s (flagsT (ins.getD j default))).n (ins.drop (j + 1)) := by
  rw [drop_cons h, wholeGo, if_neg (by rw [hc]; exact Bool.false_ne_true)]
theorem wholeGo_stop {a : Aig} {k j : Nat} {bad : Bool} {s : List Bool} {ins : List (List Int)} (h : j < ins.length) (hc : (stepOk a s (flagsT (ins.getD j default))).c.any (fun b => false == b) = true) : wholeGo a k bad s (ins.drop j) = false := by
  rw [drop_cons h, wholeGo, if_pos hc]
theorem flagsT_len (l : List Int) : (flagsT l).length = l.length := List.length_map ..
theorem pc_35_ok (a : Aig) (st inp : List Bool) (hg : Good a) (h : shapeOk a st inp) : PCall Try.prog 35 [aigV a, slB st, slB inp] (stepOk a st inp).v := by
  have := pc_35 a st inp hg
  rwa [stepS_is h] at this

theorem pc_86 (a : Aig) (t : Trace) (hf : Fit a) (hb : Bd a) (hz : SzT t) (hn : Nn t.ini) (hn2 : ∀ r, r ∈ t.ins → Nn r) : PCall Try.prog 86 [aigV a, trV t] (.int .i64 (wholeT a t)) := by
  refine pc_of tab_ok (f := 86) (fn := Try.f86) (N := 53) (rs := [.tmp 4]) (by kernel_rfl) rfl (by kernel_rfl) rfl rfl [(0, .v (aigV a)), (1, .v (trV t))] ⟨rfl, rfl, trivial⟩ rfl rfl ?_
  intro B
  refine wp_seq ?_
  refine wp_reg (by kernel_rfl) ?_
  refine ar_box 2 [] rfl rfl rfl ⟨rfl, trivial⟩ rfl rfl rfl ?_
  refine ar_box 3 [] rfl rfl rfl ⟨rfl, trivial⟩ rfl rfl rfl ?_
  refine ar_assign rfl rfl rfl rfl ?_
  refine ar_nil ?_
  refine then_n ?_
  refine wp_seq ?_
  refine wp_seq ?_
  refine wp_reg (by kernel_rfl) ?_
  refine ar_lda tab_ok rfl rfl rfl tb27 rfl rfl rfl rfl rfl rfl ?_
  refine ar_lda tab_ok rfl rfl rfl tb101 rfl rfl rfl rfl rfl rfl ?_
  refine ar_call [] (pc_113 a t hf hn (by have := hz.il; omega) (by have := hz.nl; omega) (fun r hr => by have := hz.rl r hr; omega)) rfl rfl rfl rfl rfl rfl trivial (.inl rfl) rfl rfl rfl ?_
  refine ar_split (fun h14 => ?_) (fun h14 => ?_)
  · refine ar_not rfl rfl rfl rfl rfl ?_
    refine ar_move rfl rfl rfl rfl ?_
    refine ar_lda tab_ok rfl rfl rfl tb101 rfl rfl rfl rfl rfl rfl ?_
    refine ar_call [] (pc_123 t hz) rfl rfl rfl rfl rfl rfl trivial (.inl rfl) rfl rfl rfl ?_
    refine ar_to (d' := .v (.bool (decide (holesT t = 0)))) rfl ?_
    refine ar_split (fun h18 => ?_) (fun h18 => ?_)
    · refine ar_not rfl rfl rfl rfl rfl ?_
      refine ar_pickF rfl rfl rfl rfl rfl ?_
      refine ar_nil ?_
      refine then_n ?_
      refine wp_condF rfl ?_
      refine wp_skip ?_
      refine then_n ?_
      refine wp_seq ?_
      have hr := rightT_iff.1 h14
      have hh := of_decide_eq_true h18
      refine wp_reg (by kernel_rfl) ?_
      refine ar_fa tab_ok rfl rfl rfl tb101 rfl rfl rfl rfl rfl ?_
      refine ar_ld tab_ok rfl rfl rfl tb70 rfl rfl rfl rfl rfl ?_
      refine ar_call [] (pc_124 t.ini hz.il) rfl rfl rfl rfl rfl rfl trivial (.inl rfl) rfl rfl rfl ?_
      refine ar_assign rfl rfl rfl rfl ?_
      refine ar_nil ?_
      refine then_n ?_
      refine wp_seq ?_
      refine wp_reg (by kernel_rfl) ?_
      refine ar_assign rfl rfl rfl rfl ?_
      refine ar_nil ?_
      refine then_n ?_
      refine wp_seq ?_
      refine wp_seq ?_
      refine wp_reg (by kernel_rfl) ?_
      refine ar_fa tab_ok rfl rfl rfl tb101 rfl rfl rfl rfl rfl ?_
      refine ar_ld tab_ok rfl rfl rfl tb99 rfl rfl rfl rfl rfl ?_
      refine ar_len tab_ok rfl rfl tb99 rfl len_map rfl rfl ?_
      refine ar_move rfl rfl rfl rfl ?_
      refine ar_nil ?_
      refine then_n ?_
      refine wp_block ?_
      refine wp_loop (α := Nat × Bool × List Bool) (fun ⟨j, y, s⟩ => mk [(2, .ptr 2 0), (3, .ptr 3 0), (5, .v (slB s)), (6, .v (.bool y)), (25, .v (slUU t.ins)), (26, .v (.int .i64 (t.ins.length : Nat))), (27, .v (.int .i64 (j : Nat)))] [(2, .box ((encA a).map .v)), (3, .box ((encT t).map .v))] 0) (fun ⟨j, y, s⟩ => j ≤ t.ins.length ∧ s.length = a.l.length ∧ wholeGo a t.bad.toNat false (flagsT t.ini) t.ins = wholeGo a t.bad.toNat y s (t.ins.drop j)) (fun ⟨j, y, s⟩ => t.ins.length - j) ⟨0, false, flagsT t.ini⟩ ⟨Nat.zero_le _, by rw [flagsT_len]; exact hr.il, rfl⟩ (le_to ⟨rfl, rfl, rfl, rfl, rfl, rfl, rfl, trivial⟩ ⟨rfl, rfl, trivial⟩ rfl rfl rfl rfl) ?_
      rintro ⟨j, y, s⟩ ⟨hj1, hj2, hj3⟩
      have hn1 := hr.n1
      have hk8 := hr.b0; have hk9 := hr.b1; have hk10 := hb.c1
      have hso := fun h : j < t.ins.length => (⟨hj2, by rw [flagsT_len]; exact hr.rl _ (getD_mem h)⟩ : shapeOk a s (flagsT (t.ins.getD j default)))
      have hrl := fun h : j < t.ins.length => hz.rl (t.ins.getD j default) (getD_mem h)
      refine wp_seq ?_
      refine wp_reg (by kernel_rfl) ?_
      refine ar_lss_s rfl rfl rfl rfl rfl (fun h28 => ?_) (fun h28 => ?_)
      · refine ar_nil ?_
        refine then_n ?_
        refine wp_seq ?_
        refine wp_condT rfl ?_
        refine wp_skip ?_
        refine then_n ?_
        refine wp_seq ?_
        refine wp_block ?_
        refine wp_seq ?_
        refine wp_reg (by kernel_rfl) ?_
        refine ar_ia tab_ok rfl rfl rfl tb99 rfl tb70 (by omega) (map_get (n := j) (by omega)) rfl rfl rfl ?_
        refine ar_ld_ref tab_ok rfl rfl tb70 rfl rfl rfl rfl ?_
        refine ar_assign rfl rfl rfl rfl ?_
        refine ar_nil ?_
        refine then_n ?_
        refine wp_seq ?_
        refine wp_draw (L := [([2], []), ([], []), ([], []), ([], []), ([], []), ([], []), ([], []), ([], []), ([], []), ([10], [10]), ([], []), ([10], [10]), ([], [])]) (by kernel_rfl) mixed (by kernel_rfl) ?_
        refine ar_lda tab_ok rfl rfl rfl tb27 rfl rfl rfl rfl rfl rfl ?_
        refine ar_move rfl rfl rfl rfl ?_
        refine ar_move rfl rfl rfl rfl ?_
        refine ar_call [] (pc_124 (t.ins.getD j default) (hrl (by omega))) rfl rfl rfl rfl rfl rfl trivial (.inl rfl) rfl rfl rfl ?_
        refine ar_call [] (pc_34_ok a s (flagsT (t.ins.getD j default)) hb (hso (by omega))) rfl rfl rfl rfl rfl rfl trivial (.inl rfl) rfl rfl rfl ?_
        refine ar_move rfl rfl rfl rfl ?_
        refine ar_ext rfl rfl rfl rfl rfl ?_
        refine ar_ext rfl rfl rfl rfl rfl ?_
        refine ar_ext rfl rfl rfl rfl rfl ?_
        refine ar_alloc (id := 10) tab_ok rfl rfl tb40 rfl rfl rfl rfl ?_
        refine ar_assign rfl rfl rfl rfl ?_
        refine ar_st [] tab_ok rfl tb40 rfl rfl rfl trivial rfl rfl rfl rfl rfl rfl rfl rfl ?_
        refine ar_assign rfl rfl rfl rfl ?_
        refine ar_nil ?_
        refine then_n ?_
        refine wp_seq ?_
        refine wp_seq ?_
        refine wp_reg (by kernel_rfl) ?_
        refine ar_ia_arr tab_ok rfl rfl rfl rfl tb40 rfl tb28 (by omega) (by omega) rfl rfl rfl rfl ?_
        refine ar_ld tab_ok rfl rfl rfl tb28 rfl rfl rfl rfl rfl ?_
        refine ar_call [] (pc_125 (stepOk a s (flagsT (t.ins.getD j default))).c false (by simp; omega)) rfl rfl rfl rfl rfl rfl trivial (.inl rfl) rfl rfl rfl ?_
        refine ar_split (fun h42 => ?_) (fun h42 => ?_)
        · refine ar_nil ?_
          refine then_n ?_
          refine wp_condT rfl ?_
          refine wp_seq ?_
          refine wp_reg (by kernel_rfl) ?_
          refine ar_assign rfl rfl rfl rfl ?_
          refine ar_nil ?_
          refine then_n ?_
          refine wp_ret ?_
          refine then_r (inblk_r (then_r (loop_r (inblk_r (then_r (ret_post rfl rfl ?_))))))
          first | (rw [wholeT_8 h14 hh (by rw [hj3, wholeGo_stop (by omega) h42])]; done) | (rw [wholeT_8 h14 hh (by rw [hj3, List.drop_eq_nil_of_le (by omega), wholeGo]; exact h51)]; done) | (rw [wholeT_0 h14 hh (by rw [hj3, List.drop_eq_nil_of_le (by omega), wholeGo]; exact h51)]; done) | (rw [wholeT_bad (fun h => Bool.false_ne_true (h14.symm.trans h.1))]; done) | (rw [wholeT_bad (fun h => of_decide_eq_false h18 h.2)]; done)
        · refine ar_nil ?_
          refine then_n ?_
          refine wp_condF rfl ?_
          refine wp_skip ?_
          refine then_n ?_
          refine wp_seq ?_
          refine wp_reg (by kernel_rfl) ?_
          refine ar_ia_arr tab_ok rfl rfl rfl rfl tb40 rfl tb28 (by omega) (by omega) rfl rfl rfl rfl ?_
          refine ar_ld tab_ok rfl rfl rfl tb28 rfl rfl rfl rfl rfl ?_
          refine ar_fa tab_ok rfl rfl rfl tb101 rfl rfl rfl rfl rfl ?_
          refine ar_ld tab_ok rfl rfl rfl tb3 rfl rfl rfl rfl rfl ?_
          refine ar_ia tab_ok rfl rfl rfl tb28 rfl tb4 hk8 (map_get (n := t.bad.toNat) (by simp; omega)) rfl rfl rfl ?_
          refine ar_ld_ref tab_ok rfl rfl tb4 rfl rfl rfl rfl ?_
          refine ar_split (fun h48 => ?_) (fun h48 => ?_)
          · refine ar_assign rfl rfl rfl rfl ?_
            refine ar_nil ?_
            refine then_n ?_
            refine wp_reg (by kernel_rfl) ?_
            refine ar_move rfl rfl rfl rfl ?_
            refine ar_assign rfl rfl rfl rfl ?_
            refine ar_nil ?_
            refine inblk_n ?_
            refine then_n ?_
            refine wp_reg (by kernel_rfl) ?_
            refine ar_addi rfl rfl rfl rfl (by omega) (by omega) rfl rfl ?_
            refine ar_move rfl rfl rfl rfl ?_
            refine ar_nil ?_
            exact loop_n ⟨j + 1, _, _⟩ ⟨by omega, by simp, by rw [hj3, wholeGo_next (by omega) h42, h48]⟩ (by show t.ins.length - (j + 1) < t.ins.length - j; omega) (le_to ⟨rfl, rfl, rfl, rfl, rfl, rfl, rfl, trivial⟩ ⟨rfl, rfl, trivial⟩ rfl rfl rfl rfl)
          · refine ar_assign rfl rfl rfl rfl ?_
            refine ar_nil ?_
            refine then_n ?_
            refine wp_reg (by kernel_rfl) ?_
            refine ar_move rfl rfl rfl rfl ?_
            refine ar_assign rfl rfl rfl rfl ?_
            refine ar_nil ?_
            refine inblk_n ?_
            refine then_n ?_
            refine wp_reg (by kernel_rfl) ?_
            refine ar_addi rfl rfl rfl rfl (by omega) (by omega) rfl rfl ?_
            refine ar_move rfl rfl rfl rfl ?_
            refine ar_nil ?_
            exact loop_n ⟨j + 1, _, _⟩ ⟨by omega, by simp, by rw [hj3, wholeGo_next (by omega) h42, h48]⟩ (by show t.ins.length - (j + 1) < t.ins.length - j; omega) (le_to ⟨rfl, rfl, rfl, rfl, rfl, rfl, rfl, trivial⟩ ⟨rfl, rfl, trivial⟩ rfl rfl rfl rfl)
      · refine ar_nil ?_
        refine then_n ?_
        refine wp_seq ?_
        refine wp_condF rfl ?_
        refine wp_exit ?_
        refine then_x (loop_x (inblk_e ?_))
        refine then_n ?_
        refine wp_seq ?_
        refine wp_seq ?_
        refine wp_reg (by kernel_rfl) ?_
        refine ar_move rfl rfl rfl rfl ?_
        refine ar_split (fun h51 => ?_) (fun h51 => ?_)
        · refine ar_not rfl rfl rfl rfl rfl ?_
          refine ar_nil ?_
          refine then_n ?_
          refine wp_condF rfl ?_
          refine wp_skip ?_
          refine then_n ?_
          refine wp_seq ?_
          refine wp_reg (by kernel_rfl) ?_
          refine ar_assign rfl rfl rfl rfl ?_
          refine ar_nil ?_
          refine then_n ?_
          refine wp_ret ?_
          refine ret_post rfl rfl ?_
          first | (rw [wholeT_8 h14 hh (by rw [hj3, wholeGo_stop (by omega) h42])]; done) | (rw [wholeT_8 h14 hh (by rw [hj3, List.drop_eq_nil_of_le (by omega), wholeGo]; exact h51)]; done) | (rw [wholeT_0 h14 hh (by rw [hj3, List.drop_eq_nil_of_le (by omega), wholeGo]; exact h51)]; done) | (rw [wholeT_bad (fun h => Bool.false_ne_true (h14.symm.trans h.1))]; done) | (rw [wholeT_bad (fun h => of_decide_eq_false h18 h.2)]; done)
        · refine ar_not rfl rfl rfl rfl rfl ?_
          refine ar_nil ?_
          refine then_n ?_
          refine wp_condT rfl ?_
          refine wp_seq ?_
          refine wp_reg (by kernel_rfl) ?_
          refine ar_assign rfl rfl rfl rfl ?_
          refine ar_nil ?_
          refine then_n ?_
          refine wp_ret ?_
          refine then_r (ret_post rfl rfl ?_)
          first | (rw [wholeT_8 h14 hh (by rw [hj3, wholeGo_stop (by omega) h42])]; done) | (rw [wholeT_8 h14 hh (by rw [hj3, List.drop_eq_nil_of_le (by omega), wholeGo]; exact h51)]; done) | (rw [wholeT_0 h14 hh (by rw [hj3, List.drop_eq_nil_of_le (by omega), wholeGo]; exact h51)]; done) | (rw [wholeT_bad (fun h => Bool.false_ne_true (h14.symm.trans h.1))]; done) | (rw [wholeT_bad (fun h => of_decide_eq_false h18 h.2)]; done)
    · refine ar_not rfl rfl rfl rfl rfl ?_
      refine ar_pickF rfl rfl rfl rfl rfl ?_
      refine ar_nil ?_
      refine then_n ?_
      refine wp_condT rfl ?_
      refine wp_seq ?_
      refine wp_reg (by kernel_rfl) ?_
      refine ar_assign rfl rfl rfl rfl ?_
      refine ar_nil ?_
      refine then_n ?_
      refine wp_ret ?_
      refine then_r (ret_post rfl rfl ?_)
      first | (rw [wholeT_8 h14 hh (by rw [hj3, wholeGo_stop (by omega) h42])]; done) | (rw [wholeT_8 h14 hh (by rw [hj3, List.drop_eq_nil_of_le (by omega), wholeGo]; exact h51)]; done) | (rw [wholeT_0 h14 hh (by rw [hj3, List.drop_eq_nil_of_le (by omega), wholeGo]; exact h51)]; done) | (rw [wholeT_bad (fun h => Bool.false_ne_true (h14.symm.trans h.1))]; done) | (rw [wholeT_bad (fun h => of_decide_eq_false h18 h.2)]; done)
  · refine ar_not rfl rfl rfl rfl rfl ?_
    refine ar_move rfl rfl rfl rfl ?_
    refine ar_skip rfl rfl ?_
    refine ar_skip rfl rfl ?_
    refine ar_skip rfl rfl ?_
    refine ar_pickT rfl rfl rfl rfl rfl ?_
    refine ar_nil ?_
    refine then_n ?_
    refine wp_condT rfl ?_
    refine wp_seq ?_
    refine wp_reg (by kernel_rfl) ?_
    refine ar_assign rfl rfl rfl rfl ?_
    refine ar_nil ?_
    refine then_n ?_
    refine wp_ret ?_
    refine then_r (ret_post rfl rfl ?_)
    first | (rw [wholeT_8 h14 hh (by rw [hj3, wholeGo_stop (by omega) h42])]; done) | (rw [wholeT_8 h14 hh (by rw [hj3, List.drop_eq_nil_of_le (by omega), wholeGo]; exact h51)]; done) | (rw [wholeT_0 h14 hh (by rw [hj3, List.drop_eq_nil_of_le (by omega), wholeGo]; exact h51)]; done) | (rw [wholeT_bad (fun h => Bool.false_ne_true (h14.symm.trans h.1))]; done) | (rw [wholeT_bad (fun h => of_decide_eq_false h18 h.2)]; done)

theorem pc_77 (a : Aig) (t : Trace) (hf : Fit a) (hg : Good a) (hz : SzT t) (hn : Nn t.ini) (hn2 : ∀ r, r ∈ t.ins → Nn r) : PCall Try.prog 77 [aigV a, trV t] (.int .i64 (wholeT a t)) := by
  refine pc_of tab_ok (f := 77) (fn := Try.f77) (N := 69) (rs := [.tmp 4]) (by kernel_rfl) rfl (by kernel_rfl) rfl rfl [(0, .v (aigV a)), (1, .v (trV t))] ⟨rfl, rfl, trivial⟩ rfl rfl ?_
  intro B
  have hb := hg.bd
  refine wp_seq ?_
  refine wp_reg (by kernel_rfl) ?_
  refine ar_box 2 [] rfl rfl rfl ⟨rfl, trivial⟩ rfl rfl rfl ?_
  refine ar_box 3 [] rfl rfl rfl ⟨rfl, trivial⟩ rfl rfl rfl ?_
  refine ar_assign rfl rfl rfl rfl ?_
  refine ar_nil ?_
  refine then_n ?_
  refine wp_seq ?_
  refine wp_reg (by kernel_rfl) ?_
  refine ar_lda tab_ok rfl rfl rfl tb27 rfl rfl rfl rfl rfl rfl ?_
  refine ar_lda tab_ok rfl rfl rfl tb101 rfl rfl rfl rfl rfl rfl ?_
  refine ar_call [] (pc_79 a t hf hn (by have := hz.il; omega) (by have := hz.nl; omega) (fun r hr => by have := hz.rl r hr; omega)) rfl rfl rfl rfl rfl rfl trivial (.inl rfl) rfl rfl rfl ?_
  refine ar_split (fun h16 => ?_) (fun h16 => ?_)
  · refine ar_assign rfl rfl rfl rfl ?_
    refine ar_nil ?_
    refine then_n ?_
    refine wp_seq ?_
    refine wp_reg (by kernel_rfl) ?_
    refine ar_lda tab_ok rfl rfl rfl tb101 rfl rfl rfl rfl rfl rfl ?_
    refine ar_call [] (pc_90 t hz) rfl rfl rfl rfl rfl rfl trivial (.inl rfl) rfl rfl rfl ?_
    refine ar_split (fun h18 => ?_) (fun h18 => ?_)
    · refine ar_assign rfl rfl rfl rfl ?_
      refine ar_nil ?_
      refine then_n ?_
      refine wp_seq ?_
      refine wp_seq ?_
      refine wp_reg (by kernel_rfl) ?_
      refine ar_move rfl rfl rfl rfl ?_
      refine ar_not rfl rfl rfl rfl rfl ?_
      refine ar_move rfl rfl rfl rfl ?_
      refine ar_move rfl rfl rfl rfl ?_
      refine ar_not rfl rfl rfl rfl rfl ?_
      refine ar_pickF rfl rfl rfl rfl rfl ?_
      refine ar_nil ?_
      refine then_n ?_
      refine wp_condF rfl ?_
      refine wp_skip ?_
      refine then_n ?_
      refine wp_seq ?_
      have hr := rightT_iff.1 h16
      have hh := of_decide_eq_true h18
      refine wp_reg (by kernel_rfl) ?_
      refine ar_fa tab_ok rfl rfl rfl tb101 rfl rfl rfl rfl rfl ?_
      refine ar_ld tab_ok rfl rfl rfl tb70 rfl rfl rfl rfl rfl ?_
      refine ar_call [] (pc_119 t.ini hz.il) rfl rfl rfl rfl rfl rfl trivial (.inl rfl) rfl rfl rfl ?_
      refine ar_assign rfl rfl rfl rfl ?_
      refine ar_nil ?_
      refine then_n ?_
      refine wp_seq ?_
      refine wp_reg (by kernel_rfl) ?_
      refine ar_assign rfl rfl rfl rfl ?_
      refine ar_nil ?_
      refine then_n ?_
      refine wp_seq ?_
      refine wp_seq ?_
      refine wp_reg (by kernel_rfl) ?_
      refine ar_assign rfl rfl rfl rfl ?_
      refine ar_nil ?_
      refine then_n ?_
      refine wp_block ?_
      refine wp_loop (α := Nat × Bool × List Bool) (fun ⟨j, y, s⟩ => mk [(2, .ptr 2 0), (3, .ptr 3 0), (7, .v (slB s)), (8, .v (.bool y)), (9, .v (.int .i64 (j : Nat)))] [(2, .box ((encA a).map .v)), (3, .box ((encT t).map .v))] 0) (fun ⟨j, y, s⟩ => j ≤ t.ins.length ∧ s.length = a.l.length ∧ wholeGo a t.bad.toNat false (flagsT t.ini) t.ins = wholeGo a t.bad.toNat y s (t.ins.drop j)) (fun ⟨j, y, s⟩ => t.ins.length - j) ⟨0, false, flagsT t.ini⟩ ⟨Nat.zero_le _, by rw [flagsT_len]; exact hr.il, rfl⟩ (le_to ⟨rfl, rfl, rfl, rfl, rfl, trivial⟩ ⟨rfl, rfl, trivial⟩ rfl rfl rfl rfl) ?_
      rintro ⟨j, y, s⟩ ⟨hj1, hj2, hj3⟩
      have hn1 := hr.n1
      have hk8 := hr.b0; have hk9 := hr.b1; have hk10 := hb.c1
      have hso := fun h : j < t.ins.length => (⟨hj2, by rw [flagsT_len]; exact hr.rl _ (getD_mem h)⟩ : shapeOk a s (flagsT (t.ins.getD j default)))
      have hrl := fun h : j < t.ins.length => hz.rl (t.ins.getD j default) (getD_mem h)
      refine wp_seq ?_
      refine wp_seq ?_
      refine wp_reg (by kernel_rfl) ?_
      refine ar_move rfl rfl rfl rfl ?_
      refine ar_fa tab_ok rfl rfl rfl tb101 rfl rfl rfl rfl rfl ?_
      refine ar_ld tab_ok rfl rfl rfl tb99 rfl rfl rfl rfl rfl ?_
      refine ar_len tab_ok rfl rfl tb99 rfl len_map rfl rfl ?_
      refine ar_lss_s rfl rfl rfl rfl rfl (fun h32 => ?_) (fun h32 => ?_)
      · refine ar_nil ?_
        refine then_n ?_
        refine wp_condT rfl ?_
        refine wp_skip ?_
        refine then_n ?_
        refine wp_seq ?_
        refine wp_block ?_
        refine wp_seq ?_
        refine wp_draw (L := [([2], []), ([], []), ([3], []), ([3], []), ([], []), ([], []), ([], []), ([], []), ([], []), ([], []), ([], []), ([], []), ([], []), ([11], [11]), ([], []), ([11], [11]), ([], [])]) (by kernel_rfl) mixed (by kernel_rfl) ?_
        refine ar_lda tab_ok rfl rfl rfl tb27 rfl rfl rfl rfl rfl rfl ?_
        refine ar_move rfl rfl rfl rfl ?_
        refine ar_fa tab_ok rfl rfl rfl tb101 rfl rfl rfl rfl rfl ?_
        refine ar_ld tab_ok rfl rfl rfl tb99 rfl rfl rfl rfl rfl ?_
        refine ar_move rfl rfl rfl rfl ?_
        refine ar_ia tab_ok rfl rfl rfl tb99 rfl tb70 (by omega) (map_get (n := j) (by omega)) rfl rfl rfl ?_
        refine ar_ld_ref tab_ok rfl rfl tb70 rfl rfl rfl rfl ?_
        refine ar_call [] (pc_119 (t.ins.getD j default) (hrl (by omega))) rfl rfl rfl rfl rfl rfl trivial (.inl rfl) rfl rfl rfl ?_
        refine ar_call [] (pc_35_ok a s (flagsT (t.ins.getD j default)) hg (hso (by omega))) rfl rfl rfl rfl rfl rfl trivial (.inl rfl) rfl rfl rfl ?_
        refine ar_move rfl rfl rfl rfl ?_
        refine ar_ext rfl rfl rfl rfl rfl ?_
        refine ar_ext rfl rfl rfl rfl rfl ?_
        refine ar_ext rfl rfl rfl rfl rfl ?_
        refine ar_alloc (id := 11) tab_ok rfl rfl tb40 rfl rfl rfl rfl ?_
        refine ar_assign rfl rfl rfl rfl ?_
        refine ar_st [] tab_ok rfl tb40 rfl rfl rfl trivial rfl rfl rfl rfl rfl rfl rfl rfl ?_
        refine ar_assign rfl rfl rfl rfl ?_
        refine ar_nil ?_
        refine then_n ?_
        refine wp_seq ?_
        refine wp_seq ?_
        refine wp_reg (by kernel_rfl) ?_
        refine ar_assign rfl rfl rfl rfl ?_
        refine ar_nil ?_
        refine then_n ?_
        refine wp_block ?_
        refine wp_loop (α := Nat) (fun i => mk [(2, .ptr 2 0), (3, .ptr 3 0), (9, .v (.int .i64 (j : Nat))), (10, .v (slB (stepOk a s (flagsT (t.ins.getD j default))).n)), (11, .ptr 11 0), (13, .v (.int .i64 (i : Nat)))] [(2, .box ((encA a).map .v)), (3, .box ((encT t).map .v)), (11, .box [.v (slB (stepOk a s (flagsT (t.ins.getD j default))).o), .v (slB (stepOk a s (flagsT (t.ins.getD j default))).b), .v (slB (stepOk a s (flagsT (t.ins.getD j default))).c)])] 0) (fun i => i ≤ (stepOk a s (flagsT (t.ins.getD j default))).c.length ∧ ∀ q, q < i → (stepOk a s (flagsT (t.ins.getD j default))).c.getD q default = true) (fun i => (stepOk a s (flagsT (t.ins.getD j default))).c.length - i) 0 ⟨Nat.zero_le _, fun q h => absurd h (Nat.not_lt_zero q)⟩ (le_to ⟨rfl, rfl, rfl, rfl, rfl, rfl, trivial⟩ ⟨rfl, rfl, rfl, trivial⟩ rfl rfl rfl rfl) ?_
        rintro i ⟨hq1, hq2⟩
        have hcl : (stepOk a s (flagsT (t.ins.getD j default))).c.length = a.con.length := by simp
        refine wp_seq ?_
        refine wp_seq ?_
        refine wp_reg (by kernel_rfl) ?_
        refine ar_move rfl rfl rfl rfl ?_
        refine ar_ia_arr tab_ok rfl rfl rfl rfl tb40 rfl tb28 (by omega) (by omega) rfl rfl rfl rfl ?_
        refine ar_ld tab_ok rfl rfl rfl tb28 rfl rfl rfl rfl rfl ?_
        refine ar_len tab_ok rfl rfl tb28 rfl len_map rfl rfl ?_
        refine ar_lss_s rfl rfl rfl rfl rfl (fun h52 => ?_) (fun h52 => ?_)
        · refine ar_nil ?_
          refine then_n ?_
          refine wp_condT rfl ?_
          refine wp_skip ?_
          refine then_n ?_
          refine wp_seq ?_
          refine wp_block ?_
          refine wp_seq ?_
          refine wp_reg (by kernel_rfl) ?_
          refine ar_ia_arr tab_ok rfl rfl rfl rfl tb40 rfl tb28 (by omega) (by omega) rfl rfl rfl rfl ?_
          refine ar_ld tab_ok rfl rfl rfl tb28 rfl rfl rfl rfl rfl ?_
          refine ar_move rfl rfl rfl rfl ?_
          refine ar_ia tab_ok rfl rfl rfl tb28 rfl tb4 (by omega) (map_get (n := i) (by omega)) rfl rfl rfl ?_
          refine ar_ld_ref tab_ok rfl rfl tb4 rfl rfl rfl rfl ?_
          refine ar_split (fun h59 => ?_) (fun h59 => ?_)
          · refine ar_not rfl rfl rfl rfl rfl ?_
            refine ar_nil ?_
            refine then_n ?_
            refine wp_condF rfl ?_
            refine wp_skip ?_
            refine inblk_n ?_
            refine then_n ?_
            refine wp_reg (by kernel_rfl) ?_
            refine ar_move rfl rfl rfl rfl ?_
            refine ar_addi rfl rfl rfl rfl (by omega) (by omega) rfl rfl ?_
            refine ar_assign rfl rfl rfl rfl ?_
            refine ar_nil ?_
            exact loop_n (i + 1) ⟨by omega, fun q hq => (Nat.lt_succ_iff_lt_or_eq.1 hq).elim (hq2 q) (fun e => e ▸ h59)⟩ (by omega) (le_to ⟨rfl, rfl, rfl, rfl, rfl, rfl, trivial⟩ ⟨rfl, rfl, rfl, trivial⟩ rfl rfl rfl rfl)
          · refine ar_not rfl rfl rfl rfl rfl ?_
            refine ar_nil ?_
            refine then_n ?_
            refine wp_condT rfl ?_
            refine wp_seq ?_
            refine wp_reg (by kernel_rfl) ?_
            refine ar_assign rfl rfl rfl rfl ?_
            refine ar_nil ?_
            refine then_n ?_
            refine wp_ret ?_
            refine inblk_r (then_r (loop_r (inblk_r (then_r (inblk_r (then_r (loop_r (inblk_r (then_r (ret_post rfl rfl ?_))))))))))
            first | (rw [wholeT_8 h16 hh (by rw [hj3, wholeGo_stop (by omega) (any_of (j := i) (by omega) (by rw [h59]; rfl))])]; done) | (rw [wholeT_8 h16 hh (by rw [hj3, List.drop_eq_nil_of_le (by omega), wholeGo]; exact h68)]; done) | (rw [wholeT_0 h16 hh (by rw [hj3, List.drop_eq_nil_of_le (by omega), wholeGo]; exact h68)]; done) | (rw [wholeT_bad (fun h => Bool.false_ne_true (h16.symm.trans h.1))]; done) | (rw [wholeT_bad (fun h => of_decide_eq_false h18 h.2)]; done)
        · refine ar_nil ?_
          refine then_n ?_
          refine wp_condF rfl ?_
          refine wp_exit ?_
          refine then_x (loop_x (inblk_e ?_))
          refine then_n ?_
          refine wp_seq ?_
          refine wp_reg (by kernel_rfl) ?_
          refine ar_ia_arr tab_ok rfl rfl rfl rfl tb40 rfl tb28 (by omega) (by omega) rfl rfl rfl rfl ?_
          refine ar_ld tab_ok rfl rfl rfl tb28 rfl rfl rfl rfl rfl ?_
          refine ar_fa tab_ok rfl rfl rfl tb101 rfl rfl rfl rfl rfl ?_
          refine ar_ld tab_ok rfl rfl rfl tb3 rfl rfl rfl rfl rfl ?_
          refine ar_ia tab_ok rfl rfl rfl tb28 rfl tb4 hk8 (map_get (n := t.bad.toNat) (by simp; omega)) rfl rfl rfl ?_
          refine ar_ld_ref tab_ok rfl rfl tb4 rfl rfl rfl rfl ?_
          refine ar_split (fun h66 => ?_) (fun h66 => ?_)
          · refine ar_assign rfl rfl rfl rfl ?_
            refine ar_nil ?_
            refine then_n ?_
            refine wp_reg (by kernel_rfl) ?_
            refine ar_move rfl rfl rfl rfl ?_
            refine ar_assign rfl rfl rfl rfl ?_
            refine ar_nil ?_
            refine inblk_n ?_
            refine then_n ?_
            refine wp_reg (by kernel_rfl) ?_
            refine ar_move rfl rfl rfl rfl ?_
            refine ar_addi rfl rfl rfl rfl (by omega) (by omega) rfl rfl ?_
            refine ar_assign rfl rfl rfl rfl ?_
            refine ar_nil ?_
            exact loop_n ⟨j + 1, _, _⟩ ⟨by omega, by simp, by rw [hj3, wholeGo_next (by omega) (any_no (fun q hq => by rw [hq2 q (by omega)]; rfl)), h66]⟩ (by show t.ins.length - (j + 1) < t.ins.length - j; omega) (le_to ⟨rfl, rfl, rfl, rfl, rfl, trivial⟩ ⟨rfl, rfl, trivial⟩ rfl rfl rfl rfl)
          · refine ar_assign rfl rfl rfl rfl ?_
            refine ar_nil ?_
            refine then_n ?_
            refine wp_reg (by kernel_rfl) ?_
            refine ar_move rfl rfl rfl rfl ?_
            refine ar_assign rfl rfl rfl rfl ?_
            refine ar_nil ?_
            refine inblk_n ?_
            refine then_n ?_
            refine wp_reg (by kernel_rfl) ?_
            refine ar_move rfl rfl rfl rfl ?_
            refine ar_addi rfl rfl rfl rfl (by omega) (by omega) rfl rfl ?_
            refine ar_assign rfl rfl rfl rfl ?_
            refine ar_nil ?_
            exact loop_n ⟨j + 1, _, _⟩ ⟨by omega, by simp, by rw [hj3, wholeGo_next (by omega) (any_no (fun q hq => by rw [hq2 q (by omega)]; rfl)), h66]⟩ (by show t.ins.length - (j + 1) < t.ins.length - j; omega) (le_to ⟨rfl, rfl, rfl, rfl, rfl, trivial⟩ ⟨rfl, rfl, trivial⟩ rfl rfl rfl rfl)
      · refine ar_nil ?_
        refine then_n ?_
        refine wp_condF rfl ?_
        refine wp_exit ?_
        refine then_x (loop_x (inblk_e ?_))
        refine then_n ?_
        refine wp_seq ?_
        refine wp_seq ?_
        refine wp_reg (by kernel_rfl) ?_
        refine ar_move rfl rfl rfl rfl ?_
        refine ar_split (fun h68 => ?_) (fun h68 => ?_)
        · refine ar_nil ?_
          refine then_n ?_
          refine wp_condT rfl ?_
          refine wp_seq ?_
          refine wp_reg (by kernel_rfl) ?_
          refine ar_assign rfl rfl rfl rfl ?_
          refine ar_nil ?_
          refine then_n ?_
          refine wp_ret ?_
          refine then_r (ret_post rfl rfl ?_)
          first | (rw [wholeT_8 h16 hh (by rw [hj3, wholeGo_stop (by omega) (any_of (j := i) (by omega) (by rw [h59]; rfl))])]; done) | (rw [wholeT_8 h16 hh (by rw [hj3, List.drop_eq_nil_of_le (by omega), wholeGo]; exact h68)]; done) | (rw [wholeT_0 h16 hh (by rw [hj3, List.drop_eq_nil_of_le (by omega), wholeGo]; exact h68)]; done) | (rw [wholeT_bad (fun h => Bool.false_ne_true (h16.symm.trans h.1))]; done) | (rw [wholeT_bad (fun h => of_decide_eq_false h18 h.2)]; done)
        · refine ar_nil ?_
          refine then_n ?_
          refine wp_condF rfl ?_
          refine wp_skip ?_
          refine then_n ?_
          refine wp_seq ?_
          refine wp_reg (by kernel_rfl) ?_
          refine ar_assign rfl rfl rfl rfl ?_
          refine ar_nil ?_
          refine then_n ?_
          refine wp_ret ?_
          refine ret_post rfl rfl ?_
          first | (rw [wholeT_8 h16 hh (by rw [hj3, wholeGo_stop (by omega) (any_of (j := i) (by omega) (by rw [h59]; rfl))])]; done) | (rw [wholeT_8 h16 hh (by rw [hj3, List.drop_eq_nil_of_le (by omega), wholeGo]; exact h68)]; done) | (rw [wholeT_0 h16 hh (by rw [hj3, List.drop_eq_nil_of_le (by omega), wholeGo]; exact h68)]; done) | (rw [wholeT_bad (fun h => Bool.false_ne_true (h16.symm.trans h.1))]; done) | (rw [wholeT_bad (fun h => of_decide_eq_false h18 h.2)]; done)
    · refine ar_assign rfl rfl rfl rfl ?_
      refine ar_nil ?_
      refine then_n ?_
      refine wp_seq ?_
      refine wp_seq ?_
      refine wp_reg (by kernel_rfl) ?_
      refine ar_move rfl rfl rfl rfl ?_
      refine ar_not rfl rfl rfl rfl rfl ?_
      refine ar_move rfl rfl rfl rfl ?_
      refine ar_move rfl rfl rfl rfl ?_
      refine ar_not rfl rfl rfl rfl rfl ?_
      refine ar_pickF rfl rfl rfl rfl rfl ?_
      refine ar_nil ?_
      refine then_n ?_
      refine wp_condT rfl ?_
      refine wp_seq ?_
      refine wp_reg (by kernel_rfl) ?_
      refine ar_assign rfl rfl rfl rfl ?_
      refine ar_nil ?_
      refine then_n ?_
      refine wp_ret ?_
      refine then_r (ret_post rfl rfl ?_)
      first | (rw [wholeT_8 h16 hh (by rw [hj3, wholeGo_stop (by omega) (any_of (j := i) (by omega) (by rw [h59]; rfl))])]; done) | (rw [wholeT_8 h16 hh (by rw [hj3, List.drop_eq_nil_of_le (by omega), wholeGo]; exact h68)]; done) | (rw [wholeT_0 h16 hh (by rw [hj3, List.drop_eq_nil_of_le (by omega), wholeGo]; exact h68)]; done) | (rw [wholeT_bad (fun h => Bool.false_ne_true (h16.symm.trans h.1))]; done) | (rw [wholeT_bad (fun h => of_decide_eq_false h18 h.2)]; done)
  · refine ar_assign rfl rfl rfl rfl ?_
    refine ar_nil ?_
    refine then_n ?_
    refine wp_seq ?_
    refine wp_reg (by kernel_rfl) ?_
    refine ar_lda tab_ok rfl rfl rfl tb101 rfl rfl rfl rfl rfl rfl ?_
    refine ar_call [] (pc_90 t hz) rfl rfl rfl rfl rfl rfl trivial (.inl rfl) rfl rfl rfl ?_
    refine ar_split (fun h18 => ?_) (fun h18 => ?_)
    · refine ar_assign rfl rfl rfl rfl ?_
      refine ar_nil ?_
      refine then_n ?_
      refine wp_seq ?_
      refine wp_seq ?_
      refine wp_reg (by kernel_rfl) ?_
      refine ar_move rfl rfl rfl rfl ?_
      refine ar_not rfl rfl rfl rfl rfl ?_
      refine ar_move rfl rfl rfl rfl ?_
      refine ar_skip rfl rfl ?_
      refine ar_skip rfl rfl ?_
      refine ar_pickT rfl rfl rfl rfl rfl ?_
      refine ar_nil ?_
      refine then_n ?_
      refine wp_condT rfl ?_
      refine wp_seq ?_
      refine wp_reg (by kernel_rfl) ?_
      refine ar_assign rfl rfl rfl rfl ?_
      refine ar_nil ?_
      refine then_n ?_
      refine wp_ret ?_
      refine then_r (ret_post rfl rfl ?_)
      first | (rw [wholeT_8 h16 hh (by rw [hj3, wholeGo_stop (by omega) (any_of (j := i) (by omega) (by rw [h59]; rfl))])]; done) | (rw [wholeT_8 h16 hh (by rw [hj3, List.drop_eq_nil_of_le (by omega), wholeGo]; exact h68)]; done) | (rw [wholeT_0 h16 hh (by rw [hj3, List.drop_eq_nil_of_le (by omega), wholeGo]; exact h68)]; done) | (rw [wholeT_bad (fun h => Bool.false_ne_true (h16.symm.trans h.1))]; done) | (rw [wholeT_bad (fun h => of_decide_eq_false h18 h.2)]; done)
    · refine ar_assign rfl rfl rfl rfl ?_
      refine ar_nil ?_
      refine then_n ?_
      refine wp_seq ?_
      refine wp_seq ?_
      refine wp_reg (by kernel_rfl) ?_
      refine ar_move rfl rfl rfl rfl ?_
      refine ar_not rfl rfl rfl rfl rfl ?_
      refine ar_move rfl rfl rfl rfl ?_
      refine ar_skip rfl rfl ?_
      refine ar_skip rfl rfl ?_
      refine ar_pickT rfl rfl rfl rfl rfl ?_
      refine ar_nil ?_
      refine then_n ?_
      refine wp_condT rfl ?_
      refine wp_seq ?_
      refine wp_reg (by kernel_rfl) ?_
      refine ar_assign rfl rfl rfl rfl ?_
      refine ar_nil ?_
      refine then_n ?_
      refine wp_ret ?_
      refine then_r (ret_post rfl rfl ?_)
      first | (rw [wholeT_8 h16 hh (by rw [hj3, wholeGo_stop (by omega) (any_of (j := i) (by omega) (by rw [h59]; rfl))])]; done) | (rw [wholeT_8 h16 hh (by rw [hj3, List.drop_eq_nil_of_le (by omega), wholeGo]; exact h68)]; done) | (rw [wholeT_0 h16 hh (by rw [hj3, List.drop_eq_nil_of_le (by omega), wholeGo]; exact h68)]; done) | (rw [wholeT_bad (fun h => Bool.false_ne_true (h16.symm.trans h.1))]; done) | (rw [wholeT_bad (fun h => of_decide_eq_false h18 h.2)]; done)

theorem pc_120 (x : Int) : PCall Try.prog 120 [.int .u8 x] (trV ⟨0, [], [[x]]⟩) := by
  refine pc_of tab_ok (f := 120) (fn := Try.f120) (N := 7) (rs := [.cell 2 101]) (by kernel_rfl) rfl (by kernel_rfl) rfl rfl [(0, .v (.int .u8 x))] ⟨rfl, trivial⟩ rfl rfl ?_
  intro B
  refine wp_seq ?_
  refine wp_reg (by kernel_rfl) ?_
  refine ar_alloc (id := 2) tab_ok rfl rfl tb101 rfl rfl rfl rfl ?_
  refine ar_nil ?_
  refine then_n ?_
  refine wp_seq ?_
  refine wp_reg (by kernel_rfl) ?_
  refine ar_move rfl rfl rfl rfl ?_
  refine ar_bs [] tab_ok rfl tb70 rfl tb72 rfl trivial rfl rfl rfl rfl rfl rfl rfl rfl ?_
  refine ar_bs [] tab_ok rfl tb99 rfl tb70 rfl trivial rfl rfl rfl rfl rfl rfl rfl rfl ?_
  refine ar_build [] tab_ok rfl tb101 rfl rfl trivial rfl rfl rfl rfl rfl rfl ?_
  refine ar_st [] tab_ok rfl tb101 rfl rfl rfl trivial rfl rfl rfl rfl rfl rfl rfl rfl ?_
  refine ar_nil ?_
  refine then_n ?_
  refine wp_ret ?_
  refine ret_post rfl rfl ?_
  rfl

theorem pc_89 (t : Trace) (n : Int) : PCall Try.prog 89 [trV t, .int .i64 n] (trV ⟨n, t.ini, t.ins⟩) := by
  refine pc_of tab_ok (f := 89) (fn := Try.f89) (N := 11) (rs := [.cell 4 101]) (by kernel_rfl) rfl (by kernel_rfl) rfl rfl [(0, .v (trV t)), (1, .v (.int .i64 n))] ⟨rfl, rfl, trivial⟩ rfl rfl ?_
  intro B
  refine wp_seq ?_
  refine wp_reg (by kernel_rfl) ?_
  refine ar_box 2 [] rfl rfl rfl ⟨rfl, trivial⟩ rfl rfl rfl ?_
  refine ar_alloc (id := 4) tab_ok rfl rfl tb101 rfl rfl rfl rfl ?_
  refine ar_nil ?_
  refine then_n ?_
  refine wp_seq ?_
  refine wp_reg (by kernel_rfl) ?_
  refine ar_move rfl rfl rfl rfl ?_
  refine ar_fa tab_ok rfl rfl rfl tb101 rfl rfl rfl rfl rfl ?_
  refine ar_ld tab_ok rfl rfl rfl tb70 rfl rfl rfl rfl rfl ?_
  refine ar_fa tab_ok rfl rfl rfl tb101 rfl rfl rfl rfl rfl ?_
  refine ar_ld tab_ok rfl rfl rfl tb99 rfl rfl rfl rfl rfl ?_
  refine ar_build [] tab_ok rfl tb101 rfl rfl trivial rfl rfl rfl rfl rfl rfl ?_
  refine ar_st [] tab_ok rfl tb101 rfl rfl rfl trivial rfl rfl rfl rfl rfl rfl rfl rfl ?_
  refine ar_nil ?_
  refine then_n ?_
  refine wp_ret ?_
  refine ret_post rfl rfl ?_
  rfl

end Go.Vd
