/- SimGates: variable 0 is false, inputs and latches are as they were told, each gate is true just if both its inputs are, a literal and its other one are never alike: as the program tells it. -/
import Derived.Test.YtjbfplfopagpjaaC11
namespace Go.Vd
open Go.Proofs

theorem valsOf_pre : ∀ (gs : List Gate) (v : List Bool), ∃ t, valsOf v gs = v ++ t
  | [], v => ⟨[], by simp [valsOf]⟩
  | g :: gs, v => by
    obtain ⟨t, h⟩ := valsOf_pre gs (v ++ [litv v g.a && litv v g.b])
    exact ⟨_, by rw [valsOf, h, List.append_assoc]⟩
theorem litv_pre {v t : List Bool} {l : Int} (h : l < 2 * v.length) : litv (v ++ t) l = litv v l := by
  by_cases h0 : 0 ≤ l
  · have h1 : l / 2 < v.length := by omega
    rw [litv_in h0 h1, litv_in h0 (by simp; omega)]
    congr 1
    rw [List.getD_eq_getElem?_getD, List.getD_eq_getElem?_getD, List.getElem?_append_left (by omega)]
  · rw [litv_out (fun h => h0 h.1), litv_out (fun h => h0 h.1)]
theorem vals_gate {v : List Bool} {gs : List Gate} {j : Nat} (hj : j < gs.length) (ha : (gs.getD j default).a < 2 * (v.length + j)) (hb : (gs.getD j default).b < 2 * (v.length + j)) :
    (valsOf v gs).getD (v.length + j) default = (litv (valsOf v gs) (gs.getD j default).a && litv (valsOf v gs) (gs.getD j default).b) := by
  have h1 : gs = gs.take (j + 1) ++ gs.drop (j + 1) := (List.take_append_drop _ _).symm
  have h2 : valsOf v gs = valsOf (valsOf v (gs.take (j + 1))) (gs.drop (j + 1)) := by rw [← valsOf_append, List.take_append_drop]
  obtain ⟨t, h3⟩ := valsOf_pre (gs.drop (j + 1)) (valsOf v (gs.take (j + 1)))
  rw [h2, h3, vals_snoc _ _ _ hj]
  have hl : (valsOf v (gs.take j)).length = v.length + j := by rw [valsOf_len]; simp; omega
  rw [List.append_assoc, litv_pre (by rw [hl]; push_cast; exact ha), litv_pre (by rw [hl]; push_cast; exact hb)]
  rw [List.getD_eq_getElem?_getD, List.getElem?_append_right (by omega), hl, Nat.sub_self]
  rfl
theorem mid {x y z w : List Bool} {n m : Nat} (hw : w = x ++ (y ++ z)) (hn : n = x.length) (hm : m = x.length + y.length) : (w.take m).drop n = y := by
  subst hw; subst hn; subst hm
  rw [← List.append_assoc, List.take_left' (by simp), List.drop_left]
theorem xor1 (n : Nat) : (n ^^^ 1) / 2 = n / 2 ∧ ((n ^^^ 1) % 2 = 1 ↔ ¬ n % 2 = 1) := by
  refine ⟨by rw [Nat.xor_div_two]; simp, ?_⟩
  have h := Nat.testBit_xor n 1 0
  simp only [Nat.testBit_zero] at h
  by_cases h1 : n % 2 = 1 <;> simp [h1] at h ⊢ <;> omega
theorem bits_xor1 {l : Int} (h0 : 0 ≤ l) (h : l ≤ 9223372036854775807) : bits .xor .i64 l 1 = ((l.toNat ^^^ 1 : Nat) : Int) := by
  have hx : (BitVec.ofInt 64 l).toNat = l.toNat := by
    rw [BitVec.toNat_ofInt]; omega
  show IntKind.i64.wrap ((BitVec.ofInt 64 l ^^^ BitVec.ofInt 64 1).toNat : Int) = _
  rw [BitVec.toNat_xor, hx, show (BitVec.ofInt 64 1).toNat = 1 from rfl]
  obtain ⟨h1, h2⟩ := xor1 l.toNat
  exact IntWalk.i64_in _ ⟨by omega, by omega⟩
theorem litv_other {v : List Bool} {l : Int} (h0 : 0 ≤ l) (hm : l ≤ 9223372036854775807) (h : l < 2 * v.length) : (litv v l != litv v (bits .xor .i64 l 1)) = true := by
  rw [bits_xor1 h0 hm]
  obtain ⟨h1, h2⟩ := xor1 l.toNat
  have e1 : (((l.toNat ^^^ 1 : Nat) : Int) / 2).toNat = (l / 2).toNat := by omega
  have e2 : decide (((l.toNat ^^^ 1 : Nat) : Int) % 2 = 1) = !decide (l % 2 = 1) := by
    by_cases hl : l % 2 = 1
    · have : ¬ ((l.toNat ^^^ 1 : Nat) : Int) % 2 = 1 := by omega
      simp [hl, this]
    · have : ((l.toNat ^^^ 1 : Nat) : Int) % 2 = 1 := by omega
      simp [hl, this]
  rw [litv_in h0 (by omega), litv_in (by omega) (by omega), e1, e2]
  cases v.getD (l / 2).toNat false <;> cases decide (l % 2 = 1) <;> rfl

abbrev in4 (a : Aig) (st inp : List Bool) (l : Int) : List V := [.int .i64 a.i, slL a.l, slG a.g, slI a.outs, slI a.bad, slI a.con, slN a.names, slB st, slB inp, .int .i64 l]

theorem pc_4 (a : Aig) (st inp : List Bool) (l : Int) (hf : Fit a) (hl0 : -9223372036854775808 ≤ l) (hl : l ≤ 9223372036854775807) : PCall Try.prog 4 [.agg (in4 a st inp l)] (.bool true) := by
  refine pc_of tab_ok (f := 4) (fn := Try.f4) (N := 158) (rs := [.tmp 2]) (by kernel_rfl) rfl (by kernel_rfl) rfl rfl [(0, .v (.agg (in4 a st inp l)))] ⟨rfl, trivial⟩ rfl rfl ?_
  intro B
  refine wp_seq ?_
  refine wp_reg (by kernel_rfl) ?_
  refine ar_box 1 [] rfl rfl rfl ⟨rfl, trivial⟩ rfl rfl rfl ?_
  refine ar_assign rfl rfl rfl rfl ?_
  refine ar_nil ?_
  refine then_n ?_
  refine wp_seq ?_
  refine wp_reg (by kernel_rfl) ?_
  refine ar_fa tab_ok rfl rfl rfl tb56 rfl rfl rfl rfl rfl ?_
  refine ar_lda (d := .v (aigV a)) tab_ok rfl rfl rfl tb27 rfl rfl rfl rfl rfl rfl ?_
  refine ar_alloc (id := 3) tab_ok rfl rfl tb27 rfl rfl rfl rfl ?_
  refine ar_st [] tab_ok rfl tb27 rfl rfl rfl trivial rfl rfl rfl rfl rfl rfl rfl rfl ?_
  refine ar_nil ?_
  refine then_n ?_
  refine wp_seq ?_
  refine wp_reg (by kernel_rfl) ?_
  refine ar_fa tab_ok rfl rfl rfl tb56 rfl rfl rfl rfl rfl ?_
  refine ar_ld tab_ok rfl rfl rfl tb28 rfl rfl rfl rfl rfl ?_
  refine ar_assign rfl rfl rfl rfl ?_
  refine ar_nil ?_
  refine then_n ?_
  refine wp_seq ?_
  refine wp_reg (by kernel_rfl) ?_
  refine ar_fa tab_ok rfl rfl rfl tb56 rfl rfl rfl rfl rfl ?_
  refine ar_ld tab_ok rfl rfl rfl tb28 rfl rfl rfl rfl rfl ?_
  refine ar_assign rfl rfl rfl rfl ?_
  refine ar_nil ?_
  refine then_n ?_
  refine wp_seq ?_
  refine wp_reg (by kernel_rfl) ?_
  refine ar_fa tab_ok rfl rfl rfl tb56 rfl rfl rfl rfl rfl ?_
  refine ar_ld tab_ok rfl rfl rfl tb3 rfl rfl rfl rfl rfl ?_
  refine ar_assign rfl rfl rfl rfl ?_
  refine ar_nil ?_
  refine then_n ?_
  refine wp_seq ?_
  refine wp_reg (by kernel_rfl) ?_
  refine ar_call [] (pc_29) rfl rfl rfl rfl rfl rfl trivial (.inl rfl) rfl rfl rfl ?_
  refine ar_assign rfl rfl rfl rfl ?_
  refine ar_nil ?_
  refine then_n ?_
  refine wp_seq ?_
  refine wp_seq ?_
  refine wp_reg (by kernel_rfl) ?_
  refine ar_lda tab_ok rfl rfl rfl tb27 rfl rfl rfl rfl rfl rfl ?_
  refine ar_callE [] (pce_30 a hf) rfl rfl rfl rfl rfl rfl trivial (.inl rfl) rfl rfl rfl ?_
  rintro _ ⟨b23, rfl, hb23⟩
  refine ar_split (fun h23 => ?_) (fun h23 => ?_)
  · refine ar_not rfl rfl rfl rfl rfl ?_
    refine ar_move rfl rfl rfl rfl ?_
    refine ar_move rfl rfl rfl rfl ?_
    refine ar_len tab_ok rfl rfl tb28 rfl len_map rfl rfl ?_
    refine ar_fa tab_ok rfl rfl rfl tb27 rfl rfl rfl rfl rfl ?_
    refine ar_ld tab_ok rfl rfl rfl tb22 rfl rfl rfl rfl rfl ?_
    refine ar_len tab_ok rfl rfl tb22 rfl len_map rfl rfl ?_
    refine ar_neq_s rfl rfl rfl rfl rfl (fun h31 => ?_) (fun h31 => ?_)
    · refine ar_pickF rfl rfl rfl rfl rfl ?_
      refine ar_move rfl rfl rfl rfl ?_
      refine ar_skip rfl rfl ?_
      refine ar_skip rfl rfl ?_
      refine ar_skip rfl rfl ?_
      refine ar_skip rfl rfl ?_
      refine ar_skip rfl rfl ?_
      refine ar_pickT rfl rfl rfl rfl rfl ?_
      refine ar_nil ?_
      refine then_n ?_
      refine wp_condT rfl ?_
      refine wp_seq ?_
      refine wp_reg (by kernel_rfl) ?_
      refine ar_move rfl rfl rfl rfl ?_
      refine ar_assign rfl rfl rfl rfl ?_
      refine ar_nil ?_
      refine then_n ?_
      refine wp_ret ?_
      refine then_r (ret_post rfl rfl ?_)
      first | rfl | (rw [litv_out (by omega)]; rfl)
    · refine ar_pickF rfl rfl rfl rfl rfl ?_
      refine ar_move rfl rfl rfl rfl ?_
      refine ar_move rfl rfl rfl rfl ?_
      refine ar_len tab_ok rfl rfl tb28 rfl len_map rfl rfl ?_
      refine ar_fa tab_ok rfl rfl rfl tb27 rfl rfl rfl rfl rfl ?_
      refine ar_ld tab_ok rfl rfl rfl tb3 rfl rfl rfl rfl rfl ?_
      refine ar_neq_s rfl rfl rfl rfl rfl (fun h38 => ?_) (fun h38 => ?_)
      · refine ar_pickF rfl rfl rfl rfl rfl ?_
        refine ar_nil ?_
        refine then_n ?_
        refine wp_condT rfl ?_
        refine wp_seq ?_
        refine wp_reg (by kernel_rfl) ?_
        refine ar_move rfl rfl rfl rfl ?_
        refine ar_assign rfl rfl rfl rfl ?_
        refine ar_nil ?_
        refine then_n ?_
        refine wp_ret ?_
        refine then_r (ret_post rfl rfl ?_)
        first | rfl | (rw [litv_out (by omega)]; rfl)
      · refine ar_pickF rfl rfl rfl rfl rfl ?_
        refine ar_nil ?_
        refine then_n ?_
        refine wp_condF rfl ?_
        refine wp_skip ?_
        refine then_n ?_
        refine wp_seq ?_
        have hg := hb23 h23
        have hbd := hg.bd
        have hs : shapeOk a st inp := ⟨by omega, by omega⟩
        have hq0 := hbd.i0; have hq1 := hbd.i1; have hq2 := hbd.l1; have hq3 := hbd.g1
        have hs1 := hs.1; have hs2 := hs.2
        have hlen : (valsV a st inp).length = 1 + inp.length + st.length + a.g.length := by show (valsOf (false :: (inp ++ st)) a.g).length = _; rw [valsOf_len]; simp; omega
        obtain ⟨t, ht⟩ := valsOf_pre a.g (false :: (inp ++ st))
        have hgate : ∀ j, j < a.g.length → (valsV a st inp).getD (1 + inp.length + st.length + j) default = (litv (valsV a st inp) (a.g.getD j default).a && litv (valsV a st inp) (a.g.getD j default).b) := fun j hj => by have hgr := hg.right.g j hj; obtain ⟨r1, r2, r3⟩ := hgr; have hL : ((false :: (inp ++ st)).length : Int) = 1 + inp.length + st.length := (by simp <;> omega); have := vals_gate (v := false :: (inp ++ st)) hj (by rw [hL]; omega) (by rw [hL]; omega); rw [← this]; congr 1; simp <;> omega
        refine wp_reg (by kernel_rfl) ?_
        refine ar_lda tab_ok rfl rfl rfl tb27 rfl rfl rfl rfl rfl rfl ?_
        refine ar_move rfl rfl rfl rfl ?_
        refine ar_move rfl rfl rfl rfl ?_
        refine ar_call [] (pc_32_ok a st inp hbd hs) rfl rfl rfl rfl rfl rfl trivial (.inl rfl) rfl rfl rfl ?_
        refine ar_move rfl rfl rfl rfl ?_
        refine ar_ext rfl rfl rfl rfl rfl ?_
        refine ar_ext rfl rfl rfl rfl rfl ?_
        refine ar_assign rfl rfl rfl rfl ?_
        refine ar_assign rfl rfl rfl rfl ?_
        refine ar_nil ?_
        refine then_n ?_
        refine wp_seq ?_
        refine wp_reg (by kernel_rfl) ?_
        refine ar_fa tab_ok rfl rfl rfl tb27 rfl rfl rfl rfl rfl ?_
        refine ar_ld tab_ok rfl rfl rfl tb3 rfl rfl rfl rfl rfl ?_
        refine ar_addi rfl rfl rfl rfl (by omega) (by omega) rfl rfl ?_
        refine ar_fa tab_ok rfl rfl rfl tb27 rfl rfl rfl rfl rfl ?_
        refine ar_ld tab_ok rfl rfl rfl tb22 rfl rfl rfl rfl rfl ?_
        refine ar_len tab_ok rfl rfl tb22 rfl len_map rfl rfl ?_
        refine ar_addi (z := 1 + a.i + a.l.length) rfl rfl rfl rfl (by omega) (by omega) rfl rfl ?_
        refine ar_assign rfl rfl rfl rfl ?_
        refine ar_nil ?_
        refine then_n ?_
        refine wp_seq ?_
        refine wp_seq ?_
        refine wp_reg (by kernel_rfl) ?_
        refine ar_move rfl rfl rfl rfl ?_
        refine ar_neq rfl rfl rfl (decide_eq_false (by exact fun h => h rfl)) rfl rfl ?_
        refine ar_move rfl rfl rfl rfl ?_
        refine ar_move rfl rfl rfl rfl ?_
        refine ar_len tab_ok rfl rfl tb28 rfl len_map rfl rfl ?_
        refine ar_move rfl rfl rfl rfl ?_
        refine ar_fa tab_ok rfl rfl rfl tb27 rfl rfl rfl rfl rfl ?_
        refine ar_ld tab_ok rfl rfl rfl tb23 rfl rfl rfl rfl rfl ?_
        refine ar_len tab_ok rfl rfl tb23 rfl len_map rfl rfl ?_
        refine ar_addi rfl rfl rfl rfl (by omega) (by omega) rfl rfl ?_
        refine ar_neq rfl rfl rfl (decide_eq_false (by rw [hlen]; omega)) rfl rfl ?_
        refine ar_pickF rfl rfl rfl rfl rfl ?_
        refine ar_move rfl rfl rfl rfl ?_
        refine ar_move rfl rfl rfl rfl ?_
        refine ar_ia tab_ok rfl rfl rfl tb28 rfl tb4 (by decide) (map_get (n := 0) (by omega)) rfl rfl rfl ?_
        refine ar_ld_ref tab_ok rfl rfl tb4 rfl rfl rfl rfl ?_
        refine ar_to (d' := .v (.bool false)) (congrArg (fun b => D.v (V.bool b)) (show (valsV a st inp).getD 0 default = false by rw [show valsV a st inp = _ from ht]; rfl)) ?_
        refine ar_pickF rfl rfl rfl rfl rfl ?_
        refine ar_move rfl rfl rfl rfl ?_
        refine ar_move rfl rfl rfl rfl ?_
        refine ar_fa tab_ok rfl rfl rfl tb27 rfl rfl rfl rfl rfl ?_
        refine ar_ld tab_ok rfl rfl rfl tb3 rfl rfl rfl rfl rfl ?_
        refine ar_addi rfl rfl rfl rfl (by omega) (by omega) rfl rfl ?_
        refine ar_slice_lh (es' := (((valsV a st inp).take (1 + inp.length)).drop 1).map encB) 1 (1 + inp.length) tab_ok rfl tb28 rfl tb4 rfl rfl rfl rfl (by omega) (by omega) (by simp; omega) (fun el h => by obtain ⟨_, _, rfl⟩ := List.mem_map.1 h; rfl) (by rw [List.map_drop, List.map_take]) rfl rfl ?_
        refine ar_move rfl rfl rfl rfl ?_
        refine ar_call [] (pc_40 _ _ (by simp; omega)) rfl rfl rfl rfl rfl rfl trivial (.inl rfl) rfl rfl rfl ?_
        refine ar_to (d' := .v (.bool true)) (congrArg (fun b => D.v (V.bool b)) (decide_eq_true (mid (x := [false]) (z := st ++ t) (by rw [show valsV a st inp = _ from ht]; simp) rfl (by simp)))) ?_
        refine ar_not rfl rfl rfl rfl rfl ?_
        refine ar_pickF rfl rfl rfl rfl rfl ?_
        refine ar_move rfl rfl rfl rfl ?_
        refine ar_move rfl rfl rfl rfl ?_
        refine ar_fa tab_ok rfl rfl rfl tb27 rfl rfl rfl rfl rfl ?_
        refine ar_ld tab_ok rfl rfl rfl tb3 rfl rfl rfl rfl rfl ?_
        refine ar_addi rfl rfl rfl rfl (by omega) (by omega) rfl rfl ?_
        refine ar_move rfl rfl rfl rfl ?_
        refine ar_slice_lh (es' := (((valsV a st inp).take (1 + inp.length + st.length)).drop (1 + inp.length)).map encB) (1 + inp.length) (1 + inp.length + st.length) tab_ok rfl tb28 rfl tb4 rfl rfl rfl (by omega) (by omega) (by omega) (by simp; omega) (fun el h => by obtain ⟨_, _, rfl⟩ := List.mem_map.1 h; rfl) (by rw [List.map_drop, List.map_take]) rfl rfl ?_
        refine ar_move rfl rfl rfl rfl ?_
        refine ar_call [] (pc_40 _ _ (by simp; omega)) rfl rfl rfl rfl rfl rfl trivial (.inl rfl) rfl rfl rfl ?_
        refine ar_to (d' := .v (.bool true)) (congrArg (fun b => D.v (V.bool b)) (decide_eq_true (mid (x := false :: inp) (z := t) (by rw [show valsV a st inp = _ from ht]; simp) (by simp; omega) (by simp; omega)))) ?_
        refine ar_not rfl rfl rfl rfl rfl ?_
        refine ar_pickF rfl rfl rfl rfl rfl ?_
        refine ar_nil ?_
        refine then_n ?_
        refine wp_condF rfl ?_
        refine wp_skip ?_
        refine then_n ?_
        refine wp_seq ?_
        refine wp_seq ?_
        refine wp_reg (by kernel_rfl) ?_
        refine ar_assign rfl rfl rfl rfl ?_
        refine ar_nil ?_
        refine then_n ?_
        refine wp_block ?_
        refine wp_loop (α := Nat) (fun j => mk [(3, .ptr 3 0), (6, .v (.int .i64 l)), (7, .v (.bool true)), (8, .v (slB (valsV a st inp))), (10, .v (.int .i64 (1 + a.i + a.l.length))), (11, .v (.int .i64 (j : Nat)))] [(3, .box ((encA a).map .v))] 0) (fun j => j ≤ a.g.length) (fun j => a.g.length - j) 0 (Nat.zero_le _) (le_to ⟨rfl, rfl, rfl, rfl, rfl, rfl, trivial⟩ ⟨rfl, trivial⟩ rfl rfl rfl rfl) ?_
        rintro j hinv
        refine wp_seq ?_
        refine wp_seq ?_
        refine wp_reg (by kernel_rfl) ?_
        refine ar_move rfl rfl rfl rfl ?_
        refine ar_fa tab_ok rfl rfl rfl tb27 rfl rfl rfl rfl rfl ?_
        refine ar_ld tab_ok rfl rfl rfl tb23 rfl rfl rfl rfl rfl ?_
        refine ar_len tab_ok rfl rfl tb23 rfl len_map rfl rfl ?_
        refine ar_lss_s rfl rfl rfl rfl rfl (fun h97 => ?_) (fun h97 => ?_)
        · refine ar_nil ?_
          refine then_n ?_
          refine wp_condT rfl ?_
          refine wp_skip ?_
          refine then_n ?_
          refine wp_seq ?_
          refine wp_block ?_
          refine wp_seq ?_
          refine wp_draw (L := [([], []), ([], []), ([], []), ([], []), ([], []), ([], []), ([], []), ([3], []), ([3], []), ([], []), ([], []), ([], []), ([], []), ([], []), ([], []), ([], []), ([3], []), ([3], []), ([], []), ([], []), ([], []), ([], []), ([], []), ([], []), ([], [])]) (by kernel_rfl) mixed (by kernel_rfl) ?_
          refine ar_move rfl rfl rfl rfl ?_
          refine ar_move rfl rfl rfl rfl ?_
          refine ar_move rfl rfl rfl rfl ?_
          refine ar_addi rfl rfl rfl rfl (by omega) (by omega) rfl rfl ?_
          refine ar_ia tab_ok rfl rfl rfl tb28 rfl tb4 (by omega) (map_get (by rw [hlen]; omega)) rfl rfl rfl ?_
          refine ar_ld_ref tab_ok rfl rfl tb4 rfl rfl rfl rfl ?_
          refine ar_move rfl rfl rfl rfl ?_
          refine ar_fa tab_ok rfl rfl rfl tb27 rfl rfl rfl rfl rfl ?_
          refine ar_ld tab_ok rfl rfl rfl tb23 rfl rfl rfl rfl rfl ?_
          refine ar_move rfl rfl rfl rfl ?_
          refine ar_ia tab_ok rfl rfl rfl tb23 rfl tb58 (by omega) (map_get (n := j) (by omega)) rfl rfl rfl ?_
          refine ar_fa_ref tab_ok rfl rfl tb58 rfl rfl rfl rfl ?_
          refine ar_ld_ref tab_ok rfl rfl tb3 rfl rfl rfl rfl ?_
          refine ar_call [] (pc_42 _ _) rfl rfl rfl rfl rfl rfl trivial (.inl rfl) rfl rfl rfl ?_
          refine ar_split (fun h113 => ?_) (fun h113 => ?_)
          · refine ar_move rfl rfl rfl rfl ?_
            refine ar_move rfl rfl rfl rfl ?_
            refine ar_fa tab_ok rfl rfl rfl tb27 rfl rfl rfl rfl rfl ?_
            refine ar_ld tab_ok rfl rfl rfl tb23 rfl rfl rfl rfl rfl ?_
            refine ar_move rfl rfl rfl rfl ?_
            refine ar_ia tab_ok rfl rfl rfl tb23 rfl tb58 (by omega) (map_get (n := j) (by omega)) rfl rfl rfl ?_
            refine ar_fa_ref tab_ok rfl rfl tb58 rfl rfl rfl rfl ?_
            refine ar_ld_ref tab_ok rfl rfl tb3 rfl rfl rfl rfl ?_
            refine ar_call [] (pc_42 _ _) rfl rfl rfl rfl rfl rfl trivial (.inl rfl) rfl rfl rfl ?_
            refine ar_pickT rfl rfl rfl rfl rfl ?_
            refine ar_bneq (z := false) tab_ok rfl rfl rfl tb4 rfl (by rw [show (1 + a.i + (a.l.length : Int) + (j : Int)).toNat = 1 + inp.length + st.length + j by omega, hgate j (by omega), h113]; simp) rfl rfl ?_
            refine ar_nil ?_
            refine then_n ?_
            refine wp_condF rfl ?_
            refine wp_skip ?_
            refine inblk_n ?_
            refine then_n ?_
            refine wp_reg (by kernel_rfl) ?_
            refine ar_move rfl rfl rfl rfl ?_
            refine ar_addi rfl rfl rfl rfl (by omega) (by omega) rfl rfl ?_
            refine ar_assign rfl rfl rfl rfl ?_
            refine ar_nil ?_
            exact loop_n (j + 1) (by omega) (by omega) (le_to ⟨rfl, rfl, rfl, rfl, rfl, rfl, trivial⟩ ⟨rfl, trivial⟩ rfl rfl rfl rfl)
          · refine ar_move rfl rfl rfl rfl ?_
            refine ar_skip rfl rfl ?_
            refine ar_skip rfl rfl ?_
            refine ar_skip rfl rfl ?_
            refine ar_skip rfl rfl ?_
            refine ar_skip rfl rfl ?_
            refine ar_skip rfl rfl ?_
            refine ar_skip rfl rfl ?_
            refine ar_skip rfl rfl ?_
            refine ar_pickF rfl rfl rfl rfl rfl ?_
            refine ar_bneq (z := false) tab_ok rfl rfl rfl tb4 rfl (by rw [show (1 + a.i + (a.l.length : Int) + (j : Int)).toNat = 1 + inp.length + st.length + j by omega, hgate j (by omega), h113]; simp) rfl rfl ?_
            refine ar_nil ?_
            refine then_n ?_
            refine wp_condF rfl ?_
            refine wp_skip ?_
            refine inblk_n ?_
            refine then_n ?_
            refine wp_reg (by kernel_rfl) ?_
            refine ar_move rfl rfl rfl rfl ?_
            refine ar_addi rfl rfl rfl rfl (by omega) (by omega) rfl rfl ?_
            refine ar_assign rfl rfl rfl rfl ?_
            refine ar_nil ?_
            exact loop_n (j + 1) (by omega) (by omega) (le_to ⟨rfl, rfl, rfl, rfl, rfl, rfl, trivial⟩ ⟨rfl, trivial⟩ rfl rfl rfl rfl)
        · refine ar_nil ?_
          refine then_n ?_
          refine wp_condF rfl ?_
          refine wp_exit ?_
          refine then_x (loop_x (inblk_e ?_))
          refine then_n ?_
          refine wp_seq ?_
          refine wp_reg (by kernel_rfl) ?_
          refine ar_move rfl rfl rfl rfl ?_
          refine ar_geq_s rfl rfl rfl rfl rfl (fun h126 => ?_) (fun h126 => ?_)
          · refine ar_move rfl rfl rfl rfl ?_
            refine ar_move rfl rfl rfl rfl ?_
            refine ar_move rfl rfl rfl rfl ?_
            refine ar_len tab_ok rfl rfl tb28 rfl len_map rfl rfl ?_
            refine ar_muli rfl rfl rfl rfl (by omega) (by omega) rfl rfl ?_
            refine ar_lss_s rfl rfl rfl rfl rfl (fun h132 => ?_) (fun h132 => ?_)
            · refine ar_pickT rfl rfl rfl rfl rfl ?_
              refine ar_assign rfl rfl rfl rfl ?_
              refine ar_nil ?_
              refine then_n ?_
              refine wp_seq ?_
              refine wp_reg (by kernel_rfl) ?_
              refine ar_move rfl rfl rfl rfl ?_
              refine ar_move rfl rfl rfl rfl ?_
              refine ar_move rfl rfl rfl rfl ?_
              refine ar_not rfl rfl rfl rfl rfl ?_
              refine ar_move rfl rfl rfl rfl ?_
              refine ar_move rfl rfl rfl rfl ?_
              refine ar_move rfl rfl rfl rfl ?_
              refine ar_call [] (pc_42 _ _) rfl rfl rfl rfl rfl rfl trivial (.inl rfl) rfl rfl rfl ?_
              refine ar_move rfl rfl rfl rfl ?_
              refine ar_move rfl rfl rfl rfl ?_
              refine ar_xor rfl rfl rfl rfl rfl rfl ?_
              refine ar_call [] (pc_42 _ _) rfl rfl rfl rfl rfl rfl trivial (.inl rfl) rfl rfl rfl ?_
              refine ar_bneq (z := true) tab_ok rfl rfl rfl tb4 rfl (by exact litv_other (by omega) hl (by omega)) rfl rfl ?_
              refine ar_pickF rfl rfl rfl rfl rfl ?_
              refine ar_pickT rfl rfl rfl rfl rfl ?_
              refine ar_move rfl rfl rfl rfl ?_
              refine ar_move rfl rfl rfl rfl ?_
              refine ar_move rfl rfl rfl rfl ?_
              refine ar_skip rfl rfl ?_
              refine ar_skip rfl rfl ?_
              refine ar_skip rfl rfl ?_
              refine ar_skip rfl rfl ?_
              refine ar_pickT rfl rfl rfl rfl rfl ?_
              refine ar_pickT rfl rfl rfl rfl rfl ?_
              refine ar_assign rfl rfl rfl rfl ?_
              refine ar_nil ?_
              refine then_n ?_
              refine wp_ret ?_
              refine ret_post rfl rfl ?_
              first | rfl | (rw [litv_out (by omega)]; rfl)
            · refine ar_pickT rfl rfl rfl rfl rfl ?_
              refine ar_assign rfl rfl rfl rfl ?_
              refine ar_nil ?_
              refine then_n ?_
              refine wp_seq ?_
              refine wp_reg (by kernel_rfl) ?_
              refine ar_move rfl rfl rfl rfl ?_
              refine ar_move rfl rfl rfl rfl ?_
              refine ar_move rfl rfl rfl rfl ?_
              refine ar_not rfl rfl rfl rfl rfl ?_
              refine ar_move rfl rfl rfl rfl ?_
              refine ar_skip rfl rfl ?_
              refine ar_skip rfl rfl ?_
              refine ar_skip rfl rfl ?_
              refine ar_skip rfl rfl ?_
              refine ar_skip rfl rfl ?_
              refine ar_skip rfl rfl ?_
              refine ar_skip rfl rfl ?_
              refine ar_skip rfl rfl ?_
              refine ar_pickT rfl rfl rfl rfl rfl ?_
              refine ar_pickT rfl rfl rfl rfl rfl ?_
              refine ar_move rfl rfl rfl rfl ?_
              refine ar_move rfl rfl rfl rfl ?_
              refine ar_move rfl rfl rfl rfl ?_
              refine ar_move rfl rfl rfl rfl ?_
              refine ar_move rfl rfl rfl rfl ?_
              refine ar_call [] (pc_42 _ _) rfl rfl rfl rfl rfl rfl trivial (.inl rfl) rfl rfl rfl ?_
              refine ar_not rfl rfl rfl rfl rfl ?_
              refine ar_pickF rfl rfl rfl rfl rfl ?_
              refine ar_pickT rfl rfl rfl rfl rfl ?_
              refine ar_assign rfl rfl rfl rfl ?_
              refine ar_nil ?_
              refine then_n ?_
              refine wp_ret ?_
              refine ret_post rfl rfl ?_
              first | rfl | (rw [litv_out (by omega)]; rfl)
          · refine ar_move rfl rfl rfl rfl ?_
            refine ar_skip rfl rfl ?_
            refine ar_skip rfl rfl ?_
            refine ar_skip rfl rfl ?_
            refine ar_skip rfl rfl ?_
            refine ar_skip rfl rfl ?_
            refine ar_pickF rfl rfl rfl rfl rfl ?_
            refine ar_assign rfl rfl rfl rfl ?_
            refine ar_nil ?_
            refine then_n ?_
            refine wp_seq ?_
            refine wp_reg (by kernel_rfl) ?_
            refine ar_move rfl rfl rfl rfl ?_
            refine ar_move rfl rfl rfl rfl ?_
            refine ar_move rfl rfl rfl rfl ?_
            refine ar_not rfl rfl rfl rfl rfl ?_
            refine ar_move rfl rfl rfl rfl ?_
            refine ar_skip rfl rfl ?_
            refine ar_skip rfl rfl ?_
            refine ar_skip rfl rfl ?_
            refine ar_skip rfl rfl ?_
            refine ar_skip rfl rfl ?_
            refine ar_skip rfl rfl ?_
            refine ar_skip rfl rfl ?_
            refine ar_skip rfl rfl ?_
            refine ar_pickT rfl rfl rfl rfl rfl ?_
            refine ar_pickT rfl rfl rfl rfl rfl ?_
            refine ar_move rfl rfl rfl rfl ?_
            refine ar_move rfl rfl rfl rfl ?_
            refine ar_move rfl rfl rfl rfl ?_
            refine ar_move rfl rfl rfl rfl ?_
            refine ar_move rfl rfl rfl rfl ?_
            refine ar_call [] (pc_42 _ _) rfl rfl rfl rfl rfl rfl trivial (.inl rfl) rfl rfl rfl ?_
            refine ar_not rfl rfl rfl rfl rfl ?_
            refine ar_pickF rfl rfl rfl rfl rfl ?_
            refine ar_pickT rfl rfl rfl rfl rfl ?_
            refine ar_assign rfl rfl rfl rfl ?_
            refine ar_nil ?_
            refine then_n ?_
            refine wp_ret ?_
            refine ret_post rfl rfl ?_
            first | rfl | (rw [litv_out (by omega)]; rfl)
  · refine ar_not rfl rfl rfl rfl rfl ?_
    refine ar_move rfl rfl rfl rfl ?_
    refine ar_skip rfl rfl ?_
    refine ar_skip rfl rfl ?_
    refine ar_skip rfl rfl ?_
    refine ar_skip rfl rfl ?_
    refine ar_skip rfl rfl ?_
    refine ar_skip rfl rfl ?_
    refine ar_pickT rfl rfl rfl rfl rfl ?_
    refine ar_move rfl rfl rfl rfl ?_
    refine ar_skip rfl rfl ?_
    refine ar_skip rfl rfl ?_
    refine ar_skip rfl rfl ?_
    refine ar_skip rfl rfl ?_
    refine ar_skip rfl rfl ?_
    refine ar_pickT rfl rfl rfl rfl rfl ?_
    refine ar_nil ?_
    refine then_n ?_
    refine wp_condT rfl ?_
    refine wp_seq ?_
    refine wp_reg (by kernel_rfl) ?_
    refine ar_move rfl rfl rfl rfl ?_
    refine ar_assign rfl rfl rfl rfl ?_
    refine ar_nil ?_
    refine then_n ?_
    refine wp_ret ?_
    refine then_r (ret_post rfl rfl ?_)
    first | rfl | (rw [litv_out (by omega)]; rfl)

end Go.Vd
