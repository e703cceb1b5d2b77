/- A step of two values: the program's and the document's; a state at first; a run, the document's. -/
import Derived.Test.YtjbfplfopagpjaaC4
namespace Go.Vd
open Go.Proofs

structure StepR where
  n : List Bool
  o : List Bool
  b : List Bool
  c : List Bool
  e : Int

def StepR.v (r : StepR) : V := .tup [slB r.n, .agg [slB r.o, slB r.b, slB r.c], .int .i64 r.e]

def stepS (a : Aig) (st inp : List Bool) : StepR :=
  if (valuesS a st inp).2 = 0 then ⟨a.l.map fun l => litv (valuesS a st inp).1 l.next, a.outs.map (litv (valuesS a st inp).1), a.bad.map (litv (valuesS a st inp).1), a.con.map (litv (valuesS a st inp).1), 0⟩
  else ⟨[], [], [], [], (valuesS a st inp).2⟩
theorem stepS_ok {a : Aig} {st inp : List Bool} (h : (valuesS a st inp).2 = 0) : stepS a st inp = ⟨a.l.map fun l => litv (valuesS a st inp).1 l.next, a.outs.map (litv (valuesS a st inp).1), a.bad.map (litv (valuesS a st inp).1), a.con.map (litv (valuesS a st inp).1), 0⟩ := by
  simp only [stepS]; rw [if_pos h]
theorem stepS_bad {a : Aig} {st inp : List Bool} (h : (valuesS a st inp).2 ≠ 0) : stepS a st inp = ⟨[], [], [], [], (valuesS a st inp).2⟩ := by
  simp only [stepS]; rw [if_neg h]

theorem pc_98 (v : List Bool) (ls : List Int) (hl : ls.length ≤ 20000) (hb : ∀ l, l ∈ ls → l ≤ 9223372036854775807) : PCall Try.prog 98 [slB v, slI ls] (slB (ls.map (litv v))) := by
  refine pc_of tab_ok (f := 98) (fn := Try.f98) (N := 23) (rs := [.tmp 4]) (by kernel_rfl) rfl (by kernel_rfl) rfl rfl [(0, .v (slB v)), (1, .v (slI ls))] ⟨rfl, rfl, trivial⟩ rfl rfl ?_
  intro B
  refine wp_seq ?_
  refine wp_reg (by kernel_rfl) ?_
  refine ar_assign rfl rfl rfl rfl ?_
  refine ar_nil ?_
  refine then_n ?_
  refine wp_seq ?_
  refine wp_reg (by kernel_rfl) ?_
  refine ar_assign rfl rfl rfl rfl ?_
  refine ar_nil ?_
  refine then_n ?_
  refine wp_seq ?_
  refine wp_seq ?_
  refine wp_reg (by kernel_rfl) ?_
  refine ar_assign rfl rfl rfl rfl ?_
  refine ar_nil ?_
  refine then_n ?_
  refine wp_block ?_
  refine wp_le (le_nil (t := 5) (id := 900) (e := 4) (sz := 1) rfl rfl (by decide)) ?_
  refine wp_loop (α := Nat) (fun j => mk [(0, .v (slB v)), (1, .v (slI ls)), (5, .own 901), (6, .v (.int .i64 (j : Nat)))] [(901, .row 4 1 (((ls.take j).map (litv v)).map encB))] 0) (fun j => j ≤ ls.length) (fun j => ls.length - j) 0 (Nat.zero_le _) (le_ren [(901, 900)] ⟨rfl, rfl, rfl, rfl, trivial⟩ ⟨rfl, trivial⟩ rfl rfl rfl rfl rfl) ?_
  rintro j hinv
  refine wp_seq ?_
  refine wp_seq ?_
  refine wp_reg (by kernel_rfl) ?_
  refine ar_move rfl rfl rfl rfl ?_
  refine ar_move rfl rfl rfl rfl ?_
  refine ar_len tab_ok rfl rfl tb24 rfl len_map rfl rfl ?_
  refine ar_lss_s rfl rfl rfl rfl rfl (fun h10 => ?_) (fun h10 => ?_)
  · refine ar_nil ?_
    refine then_n ?_
    refine wp_condT rfl ?_
    refine wp_skip ?_
    refine then_n ?_
    refine wp_seq ?_
    refine wp_block ?_
    refine wp_reg (by kernel_rfl) ?_
    refine ar_move rfl rfl rfl rfl ?_
    refine ar_move rfl rfl rfl rfl ?_
    refine ar_move rfl rfl rfl rfl ?_
    refine ar_move rfl rfl rfl rfl ?_
    refine ar_ia tab_ok rfl rfl rfl tb24 rfl tb3 (by omega) (map_get (n := j) (by omega)) rfl rfl rfl ?_
    refine ar_ld_ref tab_ok rfl rfl tb3 rfl rfl rfl rfl ?_
    refine ar_call [] (pc_43 _ _ (hb _ (getD_mem (by omega)))) rfl rfl rfl rfl rfl rfl trivial (.inl rfl) rfl rfl rfl ?_
    refine ar_bs [] tab_ok rfl tb28 rfl tb4 rfl trivial rfl rfl rfl rfl rfl rfl rfl rfl ?_
    refine ar_app 21 [] tab_ok rfl tb28 rfl tb28 rfl tb4 rfl rfl rfl rfl ⟨rfl, rfl, trivial⟩ rfl (elOk.cons rfl rfl elOk.nil) app_one (by constructor <;> simp <;> omega) rfl rfl rfl ?_
    refine ar_assign rfl rfl rfl rfl ?_
    refine ar_nil ?_
    refine inblk_n ?_
    refine then_n ?_
    refine wp_reg (by kernel_rfl) ?_
    refine ar_move rfl rfl rfl rfl ?_
    refine ar_addi rfl rfl rfl rfl (by omega) (by omega) rfl rfl ?_
    refine ar_assign rfl rfl rfl rfl ?_
    refine ar_nil ?_
    exact loop_n (j + 1) (by omega) (by omega) (le_ren [(901, 21)] ⟨rfl, rfl, rfl, rfl, trivial⟩ ⟨(row_eq rfl (by rw [take_snoc (by omega)]; simp)), trivial⟩ rfl rfl rfl rfl rfl)
  · refine ar_nil ?_
    refine then_n ?_
    refine wp_condF rfl ?_
    refine wp_exit ?_
    refine then_x (loop_x (inblk_e ?_))
    refine then_n ?_
    refine wp_seq ?_
    refine wp_reg (by kernel_rfl) ?_
    refine ar_move rfl rfl rfl rfl ?_
    refine ar_assign rfl rfl rfl rfl ?_
    refine ar_nil ?_
    refine then_n ?_
    refine wp_ret ?_
    refine ret_post rfl rfl ?_
    have hi : j = ls.length := by omega
    subst hi
    rw [List.take_length]

theorem pc_34 (a : Aig) (st inp : List Bool) (hb : Bd a) : PCall Try.prog 34 [aigV a, slB st, slB inp] ((stepS a st inp).v) := by
  refine pc_of tab_ok (f := 34) (fn := Try.f34) (N := 44) (rs := [.tmp 6, .cell 7 40, .tmp 8]) (by kernel_rfl) rfl (by kernel_rfl) rfl rfl [(0, .v (aigV a)), (1, .v (slB st)), (2, .v (slB inp))] ⟨rfl, rfl, rfl, trivial⟩ rfl rfl ?_
  intro B
  have h0 := hb.i0; have h1 := hb.i1; have h2 := hb.l1; have h3 := hb.g1
  refine wp_seq ?_
  refine wp_reg (by kernel_rfl) ?_
  refine ar_box 3 [] rfl rfl rfl ⟨rfl, trivial⟩ rfl rfl rfl ?_
  refine ar_assign rfl rfl rfl rfl ?_
  refine ar_alloc (id := 7) tab_ok rfl rfl tb40 rfl rfl rfl rfl ?_
  refine ar_assign rfl rfl rfl rfl ?_
  refine ar_nil ?_
  refine then_n ?_
  refine wp_seq ?_
  refine wp_reg (by kernel_rfl) ?_
  refine ar_lda tab_ok rfl rfl rfl tb27 rfl rfl rfl rfl rfl rfl ?_
  refine ar_move rfl rfl rfl rfl ?_
  refine ar_move rfl rfl rfl rfl ?_
  refine ar_call [] (pc_32 a st inp hb) rfl rfl rfl rfl rfl rfl trivial (.inl rfl) rfl rfl rfl ?_
  refine ar_move rfl rfl rfl rfl ?_
  refine ar_ext rfl rfl rfl rfl rfl ?_
  refine ar_ext rfl rfl rfl rfl rfl ?_
  refine ar_assign rfl rfl rfl rfl ?_
  refine ar_assign rfl rfl rfl rfl ?_
  refine ar_nil ?_
  refine then_n ?_
  refine wp_seq ?_
  refine wp_seq ?_
  refine wp_reg (by kernel_rfl) ?_
  refine ar_move rfl rfl rfl rfl ?_
  refine ar_neq_s rfl rfl rfl rfl rfl (fun h21 => ?_) (fun h21 => ?_)
  · refine ar_nil ?_
    refine then_n ?_
    refine wp_condT rfl ?_
    refine wp_seq ?_
    refine wp_reg (by kernel_rfl) ?_
    refine ar_builda [] tab_ok rfl tb40 rfl tb28 rfl trivial rfl rfl rfl rfl rfl rfl ?_
    refine ar_move rfl rfl rfl rfl ?_
    refine ar_assign rfl rfl rfl rfl ?_
    refine ar_st [] tab_ok rfl tb40 rfl rfl rfl trivial rfl rfl rfl rfl rfl rfl rfl rfl ?_
    refine ar_assign rfl rfl rfl rfl ?_
    refine ar_nil ?_
    refine then_n ?_
    refine wp_ret ?_
    refine then_r (ret_post rfl rfl ?_)
    rw [stepS_bad h21]; rfl
  · refine ar_nil ?_
    refine then_n ?_
    refine wp_condF rfl ?_
    refine wp_skip ?_
    refine then_n ?_
    refine wp_seq ?_
    refine wp_reg (by kernel_rfl) ?_
    refine ar_move rfl rfl rfl rfl ?_
    refine ar_mkf rfl rfl rfl rfl rfl rfl ?_
    refine ar_alloc (id := 11) tab_ok rfl rfl tb131 rfl rfl rfl rfl ?_
    refine ar_st [] tab_ok rfl tb131 rfl rfl rfl trivial rfl rfl rfl rfl rfl rfl rfl rfl ?_
    refine ar_nil ?_
    refine then_n ?_
    refine wp_seq ?_
    refine wp_le (le_give_box (id := 11) rfl rfl) ?_
    refine wp_to [(3, .ptr 3 0), (7, .ptr 7 0), (11, .v (.ref [.fn (.func 94) [slB (valuesS a st inp).1] []]))] [(3, .box ((encA a).map .v)), (7, .box [.nils, .nils, .nils])] ⟨rfl, rfl, rfl, trivial⟩ ⟨rfl, rfl, trivial⟩ rfl rfl rfl rfl ?_
    refine wp_reg (by kernel_rfl) ?_
    refine ar_fa tab_ok rfl rfl rfl tb27 rfl rfl rfl rfl rfl ?_
    refine ar_ld tab_ok rfl rfl rfl tb22 rfl rfl rfl rfl rfl ?_
    refine ar_mkf rfl rfl rfl rfl rfl rfl ?_
    refine ar_call [] (pc_95 a.l 96 [] [.ref [.fn (.func 94) [slB (valuesS a st inp).1] []]] (fun l => litv (valuesS a st inp).1 l.next) h2 (fun l _ => pc_96 l 94 [slB (valuesS a st inp).1] [] _ (pc_94 _ _))) rfl rfl rfl rfl rfl rfl trivial (.inl rfl) rfl rfl rfl ?_
    refine ar_assign rfl rfl rfl rfl ?_
    refine ar_nil ?_
    refine then_n ?_
    refine wp_seq ?_
    refine wp_draw (L := [([], []), ([3], []), ([3], []), ([], []), ([], []), ([3], []), ([3], []), ([], []), ([], []), ([3], []), ([3], []), ([], []), ([], []), ([], []), ([], []), ([7], [7]), ([], [])]) (by kernel_rfl) mixed (by kernel_rfl) ?_
    refine ar_move rfl rfl rfl rfl ?_
    refine ar_fa tab_ok rfl rfl rfl tb27 rfl rfl rfl rfl rfl ?_
    refine ar_ld tab_ok rfl rfl rfl tb24 rfl rfl rfl rfl rfl ?_
    refine ar_ld_ref tab_ok rfl rfl tb131 rfl rfl rfl rfl ?_
    refine ar_call [] (pc_97 a.outs 94 [slB (valuesS a st inp).1] [] (litv (valuesS a st inp).1) hb.o1 (fun l _ => pc_94 _ _)) rfl rfl rfl rfl rfl rfl trivial (.inl rfl) rfl rfl rfl ?_
    refine ar_fa tab_ok rfl rfl rfl tb27 rfl rfl rfl rfl rfl ?_
    refine ar_ld tab_ok rfl rfl rfl tb24 rfl rfl rfl rfl rfl ?_
    refine ar_ld_ref tab_ok rfl rfl tb131 rfl rfl rfl rfl ?_
    refine ar_call [] (pc_97 a.bad 94 [slB (valuesS a st inp).1] [] (litv (valuesS a st inp).1) hb.b1 (fun l _ => pc_94 _ _)) rfl rfl rfl rfl rfl rfl trivial (.inl rfl) rfl rfl rfl ?_
    refine ar_fa tab_ok rfl rfl rfl tb27 rfl rfl rfl rfl rfl ?_
    refine ar_ld tab_ok rfl rfl rfl tb24 rfl rfl rfl rfl rfl ?_
    refine ar_ld_ref tab_ok rfl rfl tb131 rfl rfl rfl rfl ?_
    refine ar_call [] (pc_97 a.con 94 [slB (valuesS a st inp).1] [] (litv (valuesS a st inp).1) hb.c1 (fun l _ => pc_94 _ _)) rfl rfl rfl rfl rfl rfl trivial (.inl rfl) rfl rfl rfl ?_
    refine ar_builda [] tab_ok rfl tb40 rfl tb28 rfl trivial rfl rfl rfl rfl rfl rfl ?_
    refine ar_assign rfl rfl rfl rfl ?_
    refine ar_st [] tab_ok rfl tb40 rfl rfl rfl trivial rfl rfl rfl rfl rfl rfl rfl rfl ?_
    refine ar_assign rfl rfl rfl rfl ?_
    refine ar_nil ?_
    refine then_n ?_
    refine wp_ret ?_
    refine ret_post rfl rfl ?_
    rw [stepS_ok (Decidable.not_not.1 h21)]; rfl


theorem litsR.mem {l : List Int} {v x : Int} (h : litsR l v) (hx : x ∈ l) : 0 ≤ x ∧ x ≤ 2 * v + 1 := by
  obtain ⟨n, hn, rfl⟩ := List.getElem_of_mem hx
  have := h.1 n hn
  rwa [List.getD_eq_getElem?_getD, List.getElem?_eq_getElem hn] at this
theorem Good.lit {a : Aig} (h : Good a) {x : Int} (hx : x ∈ a.outs ∨ x ∈ a.bad ∨ x ∈ a.con) : 0 ≤ x ∧ x ≤ 2 * varsS a + 1 := by
  rcases hx with hx | hx | hx
  · exact h.right.outs.mem hx
  · exact h.right.bad.mem hx
  · exact h.right.con.mem hx

theorem pc_35 (a : Aig) (st inp : List Bool) (hg : Good a) : PCall Try.prog 35 [aigV a, slB st, slB inp] ((stepS a st inp).v) := by
  refine pc_of tab_ok (f := 35) (fn := Try.f35) (N := 56) (rs := [.tmp 6, .cell 7 40, .tmp 8]) (by kernel_rfl) rfl (by kernel_rfl) rfl rfl [(0, .v (aigV a)), (1, .v (slB st)), (2, .v (slB inp))] ⟨rfl, rfl, rfl, trivial⟩ rfl rfl ?_
  intro B
  have hb := hg.bd; have h0 := hb.i0; have h1 := hb.i1; have h2 := hb.l1; have h3 := hb.g1
  have hv := hg.vars
  have hn : ∀ j, j < a.l.length → (a.l.getD j default).next ≤ 9223372036854775807 := fun j hj => by have := (hg.right.l j hj).2.1; omega
  have ho : ∀ x, (x ∈ a.outs ∨ x ∈ a.bad ∨ x ∈ a.con) → x ≤ 9223372036854775807 := fun x hx => by have := (hg.lit hx).2; omega
  refine wp_seq ?_
  refine wp_reg (by kernel_rfl) ?_
  refine ar_box 3 [] rfl rfl rfl ⟨rfl, trivial⟩ rfl rfl rfl ?_
  refine ar_assign rfl rfl rfl rfl ?_
  refine ar_alloc (id := 7) tab_ok rfl rfl tb40 rfl rfl rfl rfl ?_
  refine ar_assign rfl rfl rfl rfl ?_
  refine ar_nil ?_
  refine then_n ?_
  refine wp_seq ?_
  refine wp_reg (by kernel_rfl) ?_
  refine ar_lda tab_ok rfl rfl rfl tb27 rfl rfl rfl rfl rfl rfl ?_
  refine ar_move rfl rfl rfl rfl ?_
  refine ar_move rfl rfl rfl rfl ?_
  refine ar_call [] (pc_33 a st inp hg) rfl rfl rfl rfl rfl rfl trivial (.inl rfl) rfl rfl rfl ?_
  refine ar_move rfl rfl rfl rfl ?_
  refine ar_ext rfl rfl rfl rfl rfl ?_
  refine ar_ext rfl rfl rfl rfl rfl ?_
  refine ar_assign rfl rfl rfl rfl ?_
  refine ar_assign rfl rfl rfl rfl ?_
  refine ar_nil ?_
  refine then_n ?_
  refine wp_seq ?_
  refine wp_seq ?_
  refine wp_reg (by kernel_rfl) ?_
  refine ar_move rfl rfl rfl rfl ?_
  refine ar_neq_s rfl rfl rfl rfl rfl (fun h21 => ?_) (fun h21 => ?_)
  · refine ar_nil ?_
    refine then_n ?_
    refine wp_condT rfl ?_
    refine wp_seq ?_
    refine wp_reg (by kernel_rfl) ?_
    refine ar_builda [] tab_ok rfl tb40 rfl tb28 rfl trivial rfl rfl rfl rfl rfl rfl ?_
    refine ar_move rfl rfl rfl rfl ?_
    refine ar_assign rfl rfl rfl rfl ?_
    refine ar_st [] tab_ok rfl tb40 rfl rfl rfl trivial rfl rfl rfl rfl rfl rfl rfl rfl ?_
    refine ar_assign rfl rfl rfl rfl ?_
    refine ar_nil ?_
    refine then_n ?_
    refine wp_ret ?_
    refine then_r (ret_post rfl rfl ?_)
    rw [stepS_bad h21]; rfl
  · refine ar_nil ?_
    refine then_n ?_
    refine wp_condF rfl ?_
    refine wp_skip ?_
    refine then_n ?_
    refine wp_seq ?_
    refine wp_reg (by kernel_rfl) ?_
    refine ar_assign rfl rfl rfl rfl ?_
    refine ar_nil ?_
    refine then_n ?_
    refine wp_seq ?_
    refine wp_seq ?_
    refine wp_reg (by kernel_rfl) ?_
    refine ar_assign rfl rfl rfl rfl ?_
    refine ar_nil ?_
    refine then_n ?_
    refine wp_block ?_
    refine wp_le (le_nil (t := 11) (id := 900) (e := 4) (sz := 1) rfl rfl (by decide)) ?_
    refine wp_loop (α := Nat) (fun j => mk [(3, .ptr 3 0), (7, .ptr 7 0), (9, .v (slB (valuesS a st inp).1)), (11, .own 901), (12, .v (.int .i64 (j : Nat)))] [(3, .box ((encA a).map .v)), (7, .box [.nils, .nils, .nils]), (901, .row 4 1 (((a.l.take j).map fun l => litv (valuesS a st inp).1 l.next).map encB))] 0) (fun j => j ≤ a.l.length) (fun j => a.l.length - j) 0 (Nat.zero_le _) (le_ren [(901, 900)] ⟨rfl, rfl, rfl, rfl, rfl, trivial⟩ ⟨rfl, rfl, rfl, trivial⟩ rfl rfl rfl rfl rfl) ?_
    rintro j hinv
    refine wp_seq ?_
    refine wp_seq ?_
    refine wp_reg (by kernel_rfl) ?_
    refine ar_move rfl rfl rfl rfl ?_
    refine ar_fa tab_ok rfl rfl rfl tb27 rfl rfl rfl rfl rfl ?_
    refine ar_ld tab_ok rfl rfl rfl tb22 rfl rfl rfl rfl rfl ?_
    refine ar_len tab_ok rfl rfl tb22 rfl len_map rfl rfl ?_
    refine ar_lss_s rfl rfl rfl rfl rfl (fun h28 => ?_) (fun h28 => ?_)
    · refine ar_nil ?_
      refine then_n ?_
      refine wp_condT rfl ?_
      refine wp_skip ?_
      refine then_n ?_
      refine wp_seq ?_
      refine wp_block ?_
      refine wp_reg (by kernel_rfl) ?_
      refine ar_move rfl rfl rfl rfl ?_
      refine ar_move rfl rfl rfl rfl ?_
      refine ar_fa tab_ok rfl rfl rfl tb27 rfl rfl rfl rfl rfl ?_
      refine ar_ld tab_ok rfl rfl rfl tb22 rfl rfl rfl rfl rfl ?_
      refine ar_move rfl rfl rfl rfl ?_
      refine ar_ia tab_ok rfl rfl rfl tb22 rfl tb63 (by omega) (map_get (n := j) (by omega)) rfl rfl rfl ?_
      refine ar_fa_ref tab_ok rfl rfl tb63 rfl rfl rfl rfl ?_
      refine ar_ld_ref tab_ok rfl rfl tb3 rfl rfl rfl rfl ?_
      refine ar_call [] (pc_43 _ _ (hn j (by omega))) rfl rfl rfl rfl rfl rfl trivial (.inl rfl) rfl rfl rfl ?_
      refine ar_bs [] tab_ok rfl tb28 rfl tb4 rfl trivial rfl rfl rfl rfl rfl rfl rfl rfl ?_
      refine ar_app 41 [] tab_ok rfl tb28 rfl tb28 rfl tb4 rfl rfl rfl rfl ⟨rfl, rfl, trivial⟩ rfl (elOk.cons rfl rfl elOk.nil) app_one (by constructor <;> simp <;> omega) rfl rfl rfl ?_
      refine ar_assign rfl rfl rfl rfl ?_
      refine ar_nil ?_
      refine inblk_n ?_
      refine then_n ?_
      refine wp_reg (by kernel_rfl) ?_
      refine ar_move rfl rfl rfl rfl ?_
      refine ar_addi rfl rfl rfl rfl (by omega) (by omega) rfl rfl ?_
      refine ar_assign rfl rfl rfl rfl ?_
      refine ar_nil ?_
      exact loop_n (j + 1) (by omega) (by omega) (le_ren [(901, 41)] ⟨rfl, rfl, rfl, rfl, rfl, trivial⟩ ⟨rfl, rfl, (row_eq rfl (by rw [take_snoc (by omega)]; simp)), trivial⟩ rfl rfl rfl rfl rfl)
    · refine ar_nil ?_
      refine then_n ?_
      refine wp_condF rfl ?_
      refine wp_exit ?_
      refine then_x (loop_x (inblk_e ?_))
      refine then_n ?_
      refine wp_seq ?_
      refine wp_draw (L := [([], []), ([], []), ([3], []), ([3], []), ([], []), ([], []), ([3], []), ([3], []), ([], []), ([], []), ([3], []), ([3], []), ([], []), ([], []), ([], []), ([7], [7]), ([], [])]) (by kernel_rfl) mixed (by kernel_rfl) ?_
      refine ar_move rfl rfl rfl rfl ?_
      refine ar_move rfl rfl rfl rfl ?_
      refine ar_fa tab_ok rfl rfl rfl tb27 rfl rfl rfl rfl rfl ?_
      refine ar_ld tab_ok rfl rfl rfl tb24 rfl rfl rfl rfl rfl ?_
      refine ar_call [] (pc_98 _ a.outs hb.o1 (fun l hl => ho l (.inl hl))) rfl rfl rfl rfl rfl rfl trivial (.inl rfl) rfl rfl rfl ?_
      refine ar_move rfl rfl rfl rfl ?_
      refine ar_fa tab_ok rfl rfl rfl tb27 rfl rfl rfl rfl rfl ?_
      refine ar_ld tab_ok rfl rfl rfl tb24 rfl rfl rfl rfl rfl ?_
      refine ar_call [] (pc_98 _ a.bad hb.b1 (fun l hl => ho l (.inr (.inl hl)))) rfl rfl rfl rfl rfl rfl trivial (.inl rfl) rfl rfl rfl ?_
      refine ar_move rfl rfl rfl rfl ?_
      refine ar_fa tab_ok rfl rfl rfl tb27 rfl rfl rfl rfl rfl ?_
      refine ar_ld tab_ok rfl rfl rfl tb24 rfl rfl rfl rfl rfl ?_
      refine ar_call [] (pc_98 _ a.con hb.c1 (fun l hl => ho l (.inr (.inr hl)))) rfl rfl rfl rfl rfl rfl trivial (.inl rfl) rfl rfl rfl ?_
      refine ar_builda [] tab_ok rfl tb40 rfl tb28 rfl trivial rfl rfl rfl rfl rfl rfl ?_
      refine ar_assign rfl rfl rfl rfl ?_
      refine ar_st [] tab_ok rfl tb40 rfl rfl rfl trivial rfl rfl rfl rfl rfl rfl rfl rfl ?_
      refine ar_assign rfl rfl rfl rfl ?_
      refine ar_nil ?_
      refine then_n ?_
      refine wp_ret ?_
      refine ret_post rfl rfl ?_
      have hi : j = a.l.length := by omega
      subst hi
      rw [stepS_ok (Decidable.not_not.1 h21), List.take_length]; rfl

theorem pr_99 (x : List Bool) (hx : x.length ≤ 140737488355328) : PRow Try.prog 99 [slB x] 4 1 (x.map encB) := by
  refine pr_of tab_ok (f := 99) (fn := Try.f99) (N := 8) (t := 2) (by kernel_rfl) rfl (by kernel_rfl) rfl rfl [(0, .v (slB x))] ⟨rfl, trivial⟩ rfl rfl ?_
  intro B
  refine wp_seq ?_
  refine wp_reg (by kernel_rfl) ?_
  refine ar_assign rfl rfl rfl rfl ?_
  refine ar_nil ?_
  refine then_n ?_
  refine wp_seq ?_
  refine wp_seq ?_
  refine wp_reg (by kernel_rfl) ?_
  refine ar_move rfl rfl rfl rfl ?_
  refine ar_nileq tab_ok rfl tb28 rfl rfl rfl rfl rfl (fun h4 => ?_) ?_
  · refine ar_nil ?_
    refine then_n ?_
    refine wp_condT rfl ?_
    refine wp_seq ?_
    refine wp_reg (by kernel_rfl) ?_
    refine ar_assign rfl rfl rfl rfl ?_
    refine ar_nil ?_
    refine then_n ?_
    refine wp_ret ?_
    refine then_r (⟨.inr ⟨rfl, ?_, by decide⟩, rfl⟩)
    exact h4
  · refine ar_nil ?_
    refine then_n ?_
    refine wp_condF rfl ?_
    refine wp_skip ?_
    refine then_n ?_
    refine wp_seq ?_
    refine wp_reg (by kernel_rfl) ?_
    refine ar_bs_own (es := ([] : List Bool).map encB) 5 [] tab_ok rfl tb28 rfl tb4 rfl rfl ⟨rfl, trivial⟩ rfl rfl rfl rfl rfl rfl rfl rfl rfl ?_
    refine ar_move rfl rfl rfl rfl ?_
    refine ar_app 7 [] tab_ok rfl tb28 rfl tb28 rfl tb4 rfl rfl rfl rfl ⟨rfl, rfl, trivial⟩ rfl (el_4 _) app_map (by constructor <;> simp <;> omega) rfl rfl rfl ?_
    refine ar_assign rfl rfl rfl rfl ?_
    refine ar_nil ?_
    refine then_n ?_
    refine wp_ret ?_
    refine ⟨.inl ⟨7, rfl, ?_⟩, rfl⟩
    rfl


def startF (ls : List Latch) (fr : List Bool) : List Bool := List.zipWith (fun l f => if l.reset < 2 then decide (l.reset = 1) else f) ls fr
def startS (a : Aig) (fr : List Bool) : List Bool × Int := if fr.length = a.l.length then (startF a.l fr, 0) else ([], 7)
theorem startS_ok {a : Aig} {fr : List Bool} (h : fr.length = a.l.length) : startS a fr = (startF a.l fr, 0) := by simp only [startS]; rw [if_pos h]
theorem startS_bad {a : Aig} {fr : List Bool} (h : ¬ fr.length = a.l.length) : startS a fr = ([], 7) := by simp only [startS]; rw [if_neg h]
theorem startF_len {ls : List Latch} {fr : List Bool} (h : fr.length = ls.length) : (startF ls fr).length = ls.length := by simp [startF, h]
theorem startF_snoc {ls : List Latch} {fr : List Bool} {j : Nat} (h : j < ls.length) (h' : j < fr.length) :
    startF (ls.take (j + 1)) (fr.take (j + 1)) = startF (ls.take j) (fr.take j) ++ [if (ls.getD j default).reset < 2 then decide ((ls.getD j default).reset = 1) else fr.getD j default] := by
  rw [take_snoc h, take_snoc h']
  simp only [startF]
  rw [List.zipWith_append (by simp; omega)]
  simp
theorem drop_cons {α : Type} [Inhabited α] {xs : List α} {j : Nat} (h : j < xs.length) : xs.drop j = xs.getD j default :: xs.drop (j + 1) := by
  rw [List.getD_eq_getElem?_getD, List.getElem?_eq_getElem h]; exact List.drop_eq_getElem_cons h


theorem start_set {ls : List Latch} {fr : List Bool} {j : Nat} (h : j < ls.length) (h' : fr.length = ls.length) (hr : (ls.getD j default).reset < 2) :
    (startF (ls.take j) (fr.take j) ++ fr.drop j).set j (decide ((ls.getD j default).reset = 1)) = startF (ls.take (j + 1)) (fr.take (j + 1)) ++ fr.drop (j + 1) := by
  have hl : (startF (ls.take j) (fr.take j)).length = j := by simp [startF]; omega
  rw [startF_snoc h (by omega), if_pos hr, drop_cons (by omega : j < fr.length), List.set_append_right _ _ (by omega)]
  simp [hl]
theorem start_keep {ls : List Latch} {fr : List Bool} {j : Nat} (h : j < ls.length) (h' : fr.length = ls.length) (hr : ¬ (ls.getD j default).reset < 2) :
    (startF (ls.take j) (fr.take j) ++ fr.drop j) = startF (ls.take (j + 1)) (fr.take (j + 1)) ++ fr.drop (j + 1) := by
  rw [startF_snoc h (by omega), if_neg hr, drop_cons (by omega : j < fr.length)]
  simp

theorem pc_36 (a : Aig) (fr : List Bool) (hb : Bd a) : PCall Try.prog 36 [aigV a, slB fr] (.tup [slB (startS a fr).1, .int .i64 (startS a fr).2]) := by
  refine pc_of tab_ok (f := 36) (fn := Try.f36) (N := 36) (rs := [.tmp 4, .tmp 5]) (by kernel_rfl) rfl (by kernel_rfl) rfl rfl [(0, .v (aigV a)), (1, .v (slB fr))] ⟨rfl, rfl, trivial⟩ rfl rfl ?_
  intro B
  have h0 := hb.i0; have h1 := hb.i1; have h2 := hb.l1; have h3 := hb.g1
  refine wp_seq ?_
  refine wp_reg (by kernel_rfl) ?_
  refine ar_box 2 [] rfl rfl rfl ⟨rfl, trivial⟩ rfl rfl rfl ?_
  refine ar_assign rfl rfl rfl rfl ?_
  refine ar_assign rfl rfl rfl rfl ?_
  refine ar_nil ?_
  refine then_n ?_
  refine wp_seq ?_
  refine wp_seq ?_
  refine wp_reg (by kernel_rfl) ?_
  refine ar_move rfl rfl rfl rfl ?_
  refine ar_len tab_ok rfl rfl tb28 rfl len_map rfl rfl ?_
  refine ar_fa tab_ok rfl rfl rfl tb27 rfl rfl rfl rfl rfl ?_
  refine ar_ld tab_ok rfl rfl rfl tb22 rfl rfl rfl rfl rfl ?_
  refine ar_len tab_ok rfl rfl tb22 rfl len_map rfl rfl ?_
  refine ar_neq_s rfl rfl rfl rfl rfl (fun h14 => ?_) (fun h14 => ?_)
  · refine ar_nil ?_
    refine then_n ?_
    refine wp_condT rfl ?_
    refine wp_seq ?_
    refine wp_reg (by kernel_rfl) ?_
    refine ar_assign rfl rfl rfl rfl ?_
    refine ar_assign rfl rfl rfl rfl ?_
    refine ar_nil ?_
    refine then_n ?_
    refine wp_ret ?_
    refine then_r (ret_post rfl rfl ?_)
    rw [startS_bad (by omega)]; rfl
  · refine ar_nil ?_
    refine then_n ?_
    refine wp_condF rfl ?_
    refine wp_skip ?_
    refine then_n ?_
    refine wp_seq ?_
    refine wp_reg (by kernel_rfl) ?_
    refine ar_move rfl rfl rfl rfl ?_
    refine ar_callrow 16 (pr_99 _ (by omega)) rfl rfl rfl rfl rfl rfl rfl rfl rfl rfl ?_
    refine ar_assign rfl rfl rfl rfl ?_
    refine ar_nil ?_
    refine then_n ?_
    refine wp_seq ?_
    refine wp_seq ?_
    refine wp_reg (by kernel_rfl) ?_
    refine ar_fa tab_ok rfl rfl rfl tb27 rfl rfl rfl rfl rfl ?_
    refine ar_ld tab_ok rfl rfl rfl tb22 rfl rfl rfl rfl rfl ?_
    refine ar_len tab_ok rfl rfl tb22 rfl len_map rfl rfl ?_
    refine ar_move rfl rfl rfl rfl ?_
    refine ar_nil ?_
    refine then_n ?_
    refine wp_block ?_
    refine wp_loop (α := Nat) (fun j => mk [(6, .own 16), (18, .v (slL a.l)), (19, .v (.int .i64 (a.l.length : Nat))), (20, .v (.int .i64 (j : Nat)))] [(16, .row 4 1 ((startF (a.l.take j) (fr.take j) ++ fr.drop j).map encB))] 0) (fun j => j ≤ a.l.length) (fun j => a.l.length - j) 0 (Nat.zero_le _) (le_to ⟨rfl, rfl, rfl, rfl, trivial⟩ ⟨(row_eq rfl (by simp [startF])), trivial⟩ rfl rfl rfl rfl) ?_
    rintro j hinv
    refine wp_seq ?_
    refine wp_reg (by kernel_rfl) ?_
    refine ar_lss_s rfl rfl rfl rfl rfl (fun h21 => ?_) (fun h21 => ?_)
    · refine ar_nil ?_
      refine then_n ?_
      refine wp_seq ?_
      refine wp_condT rfl ?_
      refine wp_skip ?_
      refine then_n ?_
      refine wp_seq ?_
      refine wp_block ?_
      refine wp_seq ?_
      refine wp_reg (by kernel_rfl) ?_
      refine ar_move rfl rfl rfl rfl ?_
      refine ar_ia tab_ok rfl rfl rfl tb22 rfl tb63 (by omega) (map_get (n := j) (by omega)) rfl rfl rfl ?_
      refine ar_ld_refa tab_ok rfl rfl tb63 rfl rfl rfl rfl rfl ?_
      refine ar_alloc (id := 8) tab_ok rfl rfl tb63 rfl rfl rfl rfl ?_
      refine ar_assign rfl rfl rfl rfl ?_
      refine ar_st [] tab_ok rfl tb63 rfl rfl rfl trivial rfl rfl rfl rfl rfl rfl rfl rfl ?_
      refine ar_nil ?_
      refine then_n ?_
      refine wp_seq ?_
      refine wp_reg (by kernel_rfl) ?_
      refine ar_fa tab_ok rfl rfl rfl tb63 rfl rfl rfl rfl rfl ?_
      refine ar_ld tab_ok rfl rfl rfl tb3 rfl rfl rfl rfl rfl ?_
      refine ar_lss_s rfl rfl rfl rfl rfl (fun h27 => ?_) (fun h27 => ?_)
      · refine ar_nil ?_
        refine then_n ?_
        refine wp_condT rfl ?_
        refine wp_reg (by kernel_rfl) ?_
        refine ar_move rfl rfl rfl rfl ?_
        refine ar_move rfl rfl rfl rfl ?_
        refine ar_fa tab_ok rfl rfl rfl tb63 rfl rfl rfl rfl rfl ?_
        refine ar_ld tab_ok rfl rfl rfl tb3 rfl rfl rfl rfl rfl ?_
        refine ar_eql rfl rfl rfl rfl rfl rfl ?_
        refine ar_ia_own tab_ok rfl rfl rfl rfl tb28 rfl tb4 rfl (by omega) (by simp [startF]; omega) rfl rfl rfl rfl ?_
        refine ar_st_e tab_ok rfl tb4 rfl rfl rfl rfl rfl (by simp [startF]; omega) set_map rfl rfl rfl ?_
        refine ar_nil ?_
        refine inblk_n ?_
        refine then_n ?_
        refine wp_reg (by kernel_rfl) ?_
        refine ar_addi rfl rfl rfl rfl (by omega) (by omega) rfl rfl ?_
        refine ar_move rfl rfl rfl rfl ?_
        refine ar_nil ?_
        exact loop_n (j + 1) (by omega) (by omega) (le_to ⟨rfl, rfl, rfl, rfl, trivial⟩ ⟨(row_eq rfl (by first | exact congrArg _ (start_set (by omega) (by omega) (by omega)) | exact congrArg _ (start_keep (by omega) (by omega) (by omega)))), trivial⟩ rfl rfl rfl rfl)
      · refine ar_nil ?_
        refine then_n ?_
        refine wp_condF rfl ?_
        refine wp_skip ?_
        refine inblk_n ?_
        refine then_n ?_
        refine wp_reg (by kernel_rfl) ?_
        refine ar_addi rfl rfl rfl rfl (by omega) (by omega) rfl rfl ?_
        refine ar_move rfl rfl rfl rfl ?_
        refine ar_nil ?_
        exact loop_n (j + 1) (by omega) (by omega) (le_to ⟨rfl, rfl, rfl, rfl, trivial⟩ ⟨(row_eq rfl (by first | exact congrArg _ (start_set (by omega) (by omega) (by omega)) | exact congrArg _ (start_keep (by omega) (by omega) (by omega)))), trivial⟩ rfl rfl rfl rfl)
    · refine ar_nil ?_
      refine then_n ?_
      refine wp_seq ?_
      refine wp_condF rfl ?_
      refine wp_exit ?_
      refine then_x (loop_x (inblk_e ?_))
      refine then_n ?_
      refine wp_seq ?_
      refine wp_reg (by kernel_rfl) ?_
      refine ar_move rfl rfl rfl rfl ?_
      refine ar_assign rfl rfl rfl rfl ?_
      refine ar_assign rfl rfl rfl rfl ?_
      refine ar_nil ?_
      refine then_n ?_
      refine wp_ret ?_
      refine ret_post rfl rfl ?_
      have hi : j = a.l.length := by omega
      subst hi
      rw [startS_ok (by omega), List.take_length, List.drop_eq_nil_of_le (by omega), List.take_of_length_le (by omega), List.append_nil]

end Go.Vd
