/- The leaves of the layer of two values: a literal, all variables' values, a row's literals; as the program and as the document have them. -/
import Derived.Test.YtjbfplfopagpjaaB0
namespace Go.Vd
open Go.Proofs

theorem take_snoc {α : Type} [Inhabited α] {xs : List α} {n : Nat} (h : n < xs.length) : xs.take (n + 1) = xs.take n ++ [xs.getD n default] := by
  rw [List.take_add_one, List.getD_eq_getElem?_getD]; simp [h]

def litv (v : List Bool) (l : Int) : Bool := decide (0 ≤ l) && (decide (l / 2 < v.length) && (v.getD (l / 2).toNat false != decide (l % 2 = 1)))

theorem bits_and1 (l : Int) : bits .and .i64 l 1 = l % 2 := by
  show IntKind.i64.wrap ((BitVec.ofInt 64 l &&& BitVec.ofInt 64 1).toNat : Int) = _
  rw [BitVec.toNat_and, BitVec.toNat_ofInt, show (BitVec.ofInt 64 1).toNat = 1 from rfl, Nat.and_one_is_mod, IntKind.wrap_i64]
  omega

theorem litv_in {v : List Bool} {l : Int} (h : 0 ≤ l) (h' : l / 2 < v.length) : litv v l = (v.getD (l / 2).toNat false != decide (l % 2 = 1)) := by simp [litv, h, h']
theorem litv_out {v : List Bool} {l : Int} (h : ¬ (0 ≤ l ∧ l / 2 < v.length)) : litv v l = false := by
  simp only [litv]
  by_cases h1 : 0 ≤ l
  · have : ¬ l / 2 < v.length := fun h2 => h ⟨h1, h2⟩
    simp [this]
  · simp [h1]

def valsOf (v : List Bool) : List Gate → List Bool
  | [] => v
  | g :: gs => valsOf (v ++ [litv v g.a && litv v g.b]) gs

theorem valsOf_append (v : List Bool) (xs ys : List Gate) : valsOf v (xs ++ ys) = valsOf (valsOf v xs) ys := by
  induction xs generalizing v with
  | nil => rfl
  | cons g gs ih => simp [valsOf, ih]

theorem valsOf_len (v : List Bool) (xs : List Gate) : (valsOf v xs).length = v.length + xs.length := by
  induction xs generalizing v with
  | nil => rfl
  | cons g gs ih => simp [valsOf, ih]; omega

def valuesS (a : Aig) (st inp : List Bool) : List Bool × Int :=
  if st.length = a.l.length ∧ (inp.length : Int) = a.i then (valsOf (false :: (inp ++ st)) a.g, 0) else ([], 7)

/-- A model of sizes that the program reckons with. -/
structure Bd (a : Aig) : Prop where
  i0 : 0 ≤ a.i
  i1 : a.i ≤ 20000
  l1 : a.l.length ≤ 20000
  g1 : a.g.length ≤ 20000
  o1 : a.outs.length ≤ 20000
  b1 : a.bad.length ≤ 20000
  c1 : a.con.length ≤ 20000

def varsS (a : Aig) : Int := a.i + a.l.length + a.g.length

theorem pc_93 (a : Aig) (hb : Bd a) : PCall Try.prog 93 [aigV a] (.int .i64 (varsS a)) := by
  refine pc_of tab_ok (f := 93) (fn := Try.f93) (N := 13) (rs := [.tmp 2]) (by kernel_rfl) rfl (by kernel_rfl) rfl rfl [(0, .v (aigV a))] ⟨rfl, trivial⟩ rfl rfl ?_
  intro B
  have h0 := hb.i0; have h1 := hb.i1; have h2 := hb.l1; have h3 := hb.g1
  refine wp_seq ?_
  refine wp_reg (by kernel_rfl) ?_
  refine ar_box 1 [] rfl rfl rfl ⟨rfl, trivial⟩ rfl rfl rfl ?_
  refine ar_assign rfl rfl rfl rfl ?_
  refine ar_nil ?_
  refine then_n ?_
  refine wp_seq ?_
  refine wp_reg (by kernel_rfl) ?_
  refine ar_fa tab_ok rfl rfl rfl tb27 rfl rfl rfl rfl rfl ?_
  refine ar_ld tab_ok rfl rfl rfl tb3 rfl rfl rfl rfl rfl ?_
  refine ar_fa tab_ok rfl rfl rfl tb27 rfl rfl rfl rfl rfl ?_
  refine ar_ld tab_ok rfl rfl rfl tb22 rfl rfl rfl rfl rfl ?_
  refine ar_len tab_ok rfl rfl tb22 rfl len_map rfl rfl ?_
  refine ar_addi rfl rfl rfl rfl (by omega) (by omega) rfl rfl ?_
  refine ar_fa tab_ok rfl rfl rfl tb27 rfl rfl rfl rfl rfl ?_
  refine ar_ld tab_ok rfl rfl rfl tb23 rfl rfl rfl rfl rfl ?_
  refine ar_len tab_ok rfl rfl tb23 rfl len_map rfl rfl ?_
  refine ar_addi rfl rfl rfl rfl (by omega) (by omega) rfl rfl ?_
  refine ar_assign rfl rfl rfl rfl ?_
  refine ar_nil ?_
  refine then_n ?_
  refine wp_ret ?_
  refine ret_post rfl rfl ?_
  rfl

theorem pc_129 (a : Aig) (h0 : 0 ≤ a.i) (h1 : a.i ≤ 20000) (h2 : a.l.length ≤ 20000) (h3 : a.g.length ≤ 20000) : PCall Try.prog 129 [aigV a] (.int .i64 (varsS a)) := by
  refine pc_of tab_ok (f := 129) (fn := Try.f129) (N := 13) (rs := [.tmp 2]) (by kernel_rfl) rfl (by kernel_rfl) rfl rfl [(0, .v (aigV a))] ⟨rfl, trivial⟩ rfl rfl ?_
  intro B
  refine wp_seq ?_
  refine wp_reg (by kernel_rfl) ?_
  refine ar_box 1 [] rfl rfl rfl ⟨rfl, trivial⟩ rfl rfl rfl ?_
  refine ar_assign rfl rfl rfl rfl ?_
  refine ar_nil ?_
  refine then_n ?_
  refine wp_seq ?_
  refine wp_reg (by kernel_rfl) ?_
  refine ar_fa tab_ok rfl rfl rfl tb27 rfl rfl rfl rfl rfl ?_
  refine ar_ld tab_ok rfl rfl rfl tb3 rfl rfl rfl rfl rfl ?_
  refine ar_fa tab_ok rfl rfl rfl tb27 rfl rfl rfl rfl rfl ?_
  refine ar_ld tab_ok rfl rfl rfl tb22 rfl rfl rfl rfl rfl ?_
  refine ar_len tab_ok rfl rfl tb22 rfl len_map rfl rfl ?_
  refine ar_addi rfl rfl rfl rfl (by omega) (by omega) rfl rfl ?_
  refine ar_fa tab_ok rfl rfl rfl tb27 rfl rfl rfl rfl rfl ?_
  refine ar_ld tab_ok rfl rfl rfl tb23 rfl rfl rfl rfl rfl ?_
  refine ar_len tab_ok rfl rfl tb23 rfl len_map rfl rfl ?_
  refine ar_addi rfl rfl rfl rfl (by omega) (by omega) rfl rfl ?_
  refine ar_assign rfl rfl rfl rfl ?_
  refine ar_nil ?_
  refine then_n ?_
  refine wp_ret ?_
  refine ret_post rfl rfl ?_
  rfl

theorem pc_94 (v : List Bool) (l : Int) : PCall Try.prog 94 [slB v, .int .i64 l] (.bool (litv v l)) := by
  refine pc_of tab_ok (f := 94) (fn := Try.f94) (N := 26) (rs := [.tmp 4]) (by kernel_rfl) rfl (by kernel_rfl) rfl rfl [(0, .v (slB v)), (1, .v (.int .i64 l))] ⟨rfl, rfl, trivial⟩ rfl rfl ?_
  intro B
  refine wp_seq ?_
  refine wp_reg (by kernel_rfl) ?_
  refine ar_assign rfl rfl rfl rfl ?_
  refine ar_nil ?_
  refine then_n ?_
  refine wp_seq ?_
  refine wp_reg (by kernel_rfl) ?_
  refine ar_move rfl rfl rfl rfl ?_
  refine ar_shr rfl rfl rfl (by decide) (by decide) rfl rfl rfl ?_
  refine ar_assign rfl rfl rfl rfl ?_
  refine ar_nil ?_
  refine then_n ?_
  refine wp_seq ?_
  refine wp_reg (by kernel_rfl) ?_
  refine ar_move rfl rfl rfl rfl ?_
  refine ar_geq_s rfl rfl rfl rfl rfl (fun h9 => ?_) (fun h9 => ?_)
  · refine ar_move rfl rfl rfl rfl ?_
    refine ar_move rfl rfl rfl rfl ?_
    refine ar_move rfl rfl rfl rfl ?_
    refine ar_len tab_ok rfl rfl tb129 rfl len_map rfl rfl ?_
    refine ar_lss_s rfl rfl rfl rfl rfl (fun h14 => ?_) (fun h14 => ?_)
    · refine ar_pickT rfl rfl rfl rfl rfl ?_
      refine ar_move rfl rfl rfl rfl ?_
      refine ar_move rfl rfl rfl rfl ?_
      refine ar_move rfl rfl rfl rfl ?_
      refine ar_ia tab_ok rfl rfl rfl tb129 rfl tb4 (by omega) (map_get (by omega)) rfl rfl rfl ?_
      refine ar_ld_ref tab_ok rfl rfl tb4 rfl rfl rfl rfl ?_
      refine ar_move rfl rfl rfl rfl ?_
      refine ar_and rfl rfl rfl rfl rfl rfl ?_
      refine ar_eql rfl rfl rfl rfl rfl rfl ?_
      refine ar_bneq tab_ok rfl rfl rfl tb4 rfl rfl rfl rfl ?_
      refine ar_pickT rfl rfl rfl rfl rfl ?_
      refine ar_assign rfl rfl rfl rfl ?_
      refine ar_nil ?_
      refine then_n ?_
      refine wp_ret ?_
      refine ret_post rfl rfl ?_
      have e1 : l / 2 ^ Int.toNat 1 = l / 2 := rfl
      rw [litv_in (by omega) (by omega), bits_and1]; rfl
    · refine ar_pickT rfl rfl rfl rfl rfl ?_
      refine ar_move rfl rfl rfl rfl ?_
      refine ar_skip rfl rfl ?_
      refine ar_skip rfl rfl ?_
      refine ar_skip rfl rfl ?_
      refine ar_skip rfl rfl ?_
      refine ar_skip rfl rfl ?_
      refine ar_skip rfl rfl ?_
      refine ar_skip rfl rfl ?_
      refine ar_skip rfl rfl ?_
      refine ar_pickF rfl rfl rfl rfl rfl ?_
      refine ar_assign rfl rfl rfl rfl ?_
      refine ar_nil ?_
      refine then_n ?_
      refine wp_ret ?_
      refine ret_post rfl rfl ?_
      have e1 : l / 2 ^ Int.toNat 1 = l / 2 := rfl
      rw [litv_out (by omega)]
  · refine ar_move rfl rfl rfl rfl ?_
    refine ar_skip rfl rfl ?_
    refine ar_skip rfl rfl ?_
    refine ar_skip rfl rfl ?_
    refine ar_skip rfl rfl ?_
    refine ar_pickF rfl rfl rfl rfl rfl ?_
    refine ar_move rfl rfl rfl rfl ?_
    refine ar_skip rfl rfl ?_
    refine ar_skip rfl rfl ?_
    refine ar_skip rfl rfl ?_
    refine ar_skip rfl rfl ?_
    refine ar_skip rfl rfl ?_
    refine ar_skip rfl rfl ?_
    refine ar_skip rfl rfl ?_
    refine ar_skip rfl rfl ?_
    refine ar_pickF rfl rfl rfl rfl rfl ?_
    refine ar_assign rfl rfl rfl rfl ?_
    refine ar_nil ?_
    refine then_n ?_
    refine wp_ret ?_
    refine ret_post rfl rfl ?_
    have e1 : l / 2 ^ Int.toNat 1 = l / 2 := rfl
    rw [litv_out (by omega)]

theorem pc_42 (v : List Bool) (l : Int) : PCall Try.prog 42 [slB v, .int .i64 l] (.bool (litv v l)) := by
  refine pc_of tab_ok (f := 42) (fn := Try.f42) (N := 8) (rs := [.tmp 4]) (by kernel_rfl) rfl (by kernel_rfl) rfl rfl [(0, .v (slB v)), (1, .v (.int .i64 l))] ⟨rfl, rfl, trivial⟩ rfl rfl ?_
  intro B
  refine wp_seq ?_
  refine wp_reg (by kernel_rfl) ?_
  refine ar_assign rfl rfl rfl rfl ?_
  refine ar_nil ?_
  refine then_n ?_
  refine wp_seq ?_
  refine wp_reg (by kernel_rfl) ?_
  refine ar_move rfl rfl rfl rfl ?_
  refine ar_move rfl rfl rfl rfl ?_
  refine ar_call [] (pc_94 _ _) rfl rfl rfl rfl rfl rfl trivial (.inl rfl) rfl rfl rfl ?_
  refine ar_assign rfl rfl rfl rfl ?_
  refine ar_nil ?_
  refine then_n ?_
  refine wp_ret ?_
  refine ret_post rfl rfl ?_
  rfl

theorem pc_43 (v : List Bool) (l : Int) (hl : l ≤ 9223372036854775807) : PCall Try.prog 43 [slB v, .int .i64 l] (.bool (litv v l)) := by
  refine pc_of tab_ok (f := 43) (fn := Try.f43) (N := 28) (rs := [.tmp 4]) (by kernel_rfl) rfl (by kernel_rfl) rfl rfl [(0, .v (slB v)), (1, .v (.int .i64 l))] ⟨rfl, rfl, trivial⟩ rfl rfl ?_
  intro B
  refine wp_seq ?_
  refine wp_reg (by kernel_rfl) ?_
  refine ar_assign rfl rfl rfl rfl ?_
  refine ar_nil ?_
  refine then_n ?_
  refine wp_seq ?_
  refine wp_seq ?_
  refine wp_reg (by kernel_rfl) ?_
  refine ar_move rfl rfl rfl rfl ?_
  refine ar_lss_s rfl rfl rfl rfl rfl (fun h6 => ?_) (fun h6 => ?_)
  · refine ar_move rfl rfl rfl rfl ?_
    refine ar_skip rfl rfl ?_
    refine ar_skip rfl rfl ?_
    refine ar_skip rfl rfl ?_
    refine ar_skip rfl rfl ?_
    refine ar_skip rfl rfl ?_
    refine ar_pickT rfl rfl rfl rfl rfl ?_
    refine ar_nil ?_
    refine then_n ?_
    refine wp_condT rfl ?_
    refine wp_seq ?_
    refine wp_reg (by kernel_rfl) ?_
    refine ar_assign rfl rfl rfl rfl ?_
    refine ar_nil ?_
    refine then_n ?_
    refine wp_ret ?_
    refine then_r (ret_post rfl rfl ?_)
    rw [litv_out (by omega)]
  · refine ar_move rfl rfl rfl rfl ?_
    refine ar_move rfl rfl rfl rfl ?_
    refine ar_quo rfl rfl rfl (by decide) (IntWalk.i64_quo _ _ ⟨by omega, by omega, by omega⟩) rfl rfl ?_
    refine ar_move rfl rfl rfl rfl ?_
    refine ar_len tab_ok rfl rfl tb28 rfl len_map rfl rfl ?_
    refine ar_geq_s rfl rfl rfl rfl rfl (fun h12 => ?_) (fun h12 => ?_)
    · refine ar_pickF rfl rfl rfl rfl rfl ?_
      refine ar_nil ?_
      refine then_n ?_
      refine wp_condT rfl ?_
      refine wp_seq ?_
      refine wp_reg (by kernel_rfl) ?_
      refine ar_assign rfl rfl rfl rfl ?_
      refine ar_nil ?_
      refine then_n ?_
      refine wp_ret ?_
      refine then_r (ret_post rfl rfl ?_)
      rw [litv_out (by omega)]
    · refine ar_pickF rfl rfl rfl rfl rfl ?_
      refine ar_nil ?_
      refine then_n ?_
      refine wp_condF rfl ?_
      refine wp_skip ?_
      refine then_n ?_
      refine wp_seq ?_
      refine wp_seq ?_
      refine wp_reg (by kernel_rfl) ?_
      refine ar_move rfl rfl rfl rfl ?_
      refine ar_rem rfl rfl rfl (by decide) rfl rfl rfl ?_
      refine ar_eql_s rfl rfl rfl rfl rfl (fun h16 => ?_) (fun h16 => ?_)
      · refine ar_nil ?_
        refine then_n ?_
        refine wp_condT rfl ?_
        refine wp_seq ?_
        refine wp_reg (by kernel_rfl) ?_
        refine ar_move rfl rfl rfl rfl ?_
        refine ar_move rfl rfl rfl rfl ?_
        refine ar_quo rfl rfl rfl (by decide) (IntWalk.i64_quo _ _ ⟨by omega, by omega, by omega⟩) rfl rfl ?_
        refine ar_ia tab_ok rfl rfl rfl tb28 rfl tb4 (by omega) (map_get (by omega)) rfl rfl rfl ?_
        refine ar_ld_ref tab_ok rfl rfl tb4 rfl rfl rfl rfl ?_
        refine ar_not rfl rfl rfl rfl rfl ?_
        refine ar_assign rfl rfl rfl rfl ?_
        refine ar_nil ?_
        refine then_n ?_
        refine wp_ret ?_
        refine then_r (ret_post rfl rfl ?_)
        rw [litv_in (by omega) (by omega)]; rw [Int.tmod_eq_emod_of_nonneg (by omega)] at h16; simp [h16]
      · refine ar_nil ?_
        refine then_n ?_
        refine wp_condF rfl ?_
        refine wp_skip ?_
        refine then_n ?_
        refine wp_seq ?_
        refine wp_reg (by kernel_rfl) ?_
        refine ar_move rfl rfl rfl rfl ?_
        refine ar_move rfl rfl rfl rfl ?_
        refine ar_quo rfl rfl rfl (by decide) (IntWalk.i64_quo _ _ ⟨by omega, by omega, by omega⟩) rfl rfl ?_
        refine ar_ia tab_ok rfl rfl rfl tb28 rfl tb4 (by omega) (map_get (by omega)) rfl rfl rfl ?_
        refine ar_ld_ref tab_ok rfl rfl tb4 rfl rfl rfl rfl ?_
        refine ar_assign rfl rfl rfl rfl ?_
        refine ar_nil ?_
        refine then_n ?_
        refine wp_ret ?_
        refine ret_post rfl rfl ?_
        rw [litv_in (by omega) (by omega)]; rw [Int.tmod_eq_emod_of_nonneg (by omega)] at h16; simp [h16]


theorem valuesS_bad {a : Aig} {st inp : List Bool} (h : ¬ (st.length = a.l.length ∧ (inp.length : Int) = a.i)) : valuesS a st inp = ([], 7) := by simp only [valuesS]; rw [if_neg h]
theorem valuesS_ok {a : Aig} {st inp : List Bool} (h : st.length = a.l.length) (h' : (inp.length : Int) = a.i) : valuesS a st inp = (valsOf (false :: (inp ++ st)) a.g, 0) := by simp only [valuesS]; rw [if_pos ⟨h, h'⟩]

theorem vals_snoc (v : List Bool) (gs : List Gate) (n : Nat) (h : n < gs.length) :
    valsOf v (gs.take (n + 1)) = valsOf v (gs.take n) ++ [litv (valsOf v (gs.take n)) (gs.getD n default).a && litv (valsOf v (gs.take n)) (gs.getD n default).b] := by
  rw [take_snoc h, valsOf_append]; rfl

theorem pc_32 (a : Aig) (st inp : List Bool) (hb : Bd a) : PCall Try.prog 32 [aigV a, slB st, slB inp] (.tup [slB (valuesS a st inp).1, .int .i64 (valuesS a st inp).2]) := by
  refine pc_of tab_ok (f := 32) (fn := Try.f32) (N := 57) (rs := [.tmp 6, .tmp 7]) (by kernel_rfl) rfl (by kernel_rfl) rfl rfl [(0, .v (aigV a)), (1, .v (slB st)), (2, .v (slB inp))] ⟨rfl, rfl, rfl, trivial⟩ rfl rfl ?_
  intro B
  have h0 := hb.i0; have h1 := hb.i1; have h2 := hb.l1; have h3 := hb.g1; have hv : varsS a = a.i + a.l.length + a.g.length := rfl
  refine wp_seq ?_
  refine wp_reg (by kernel_rfl) ?_
  refine ar_box 3 [] rfl rfl rfl ⟨rfl, trivial⟩ rfl rfl rfl ?_
  refine ar_assign rfl rfl rfl rfl ?_
  refine ar_assign rfl rfl rfl rfl ?_
  refine ar_nil ?_
  refine then_n ?_
  refine wp_seq ?_
  refine wp_seq ?_
  refine wp_reg (by kernel_rfl) ?_
  refine ar_move rfl rfl rfl rfl ?_
  refine ar_len tab_ok rfl rfl tb28 rfl len_map rfl rfl ?_
  refine ar_fa tab_ok rfl rfl rfl tb27 rfl rfl rfl rfl rfl ?_
  refine ar_ld tab_ok rfl rfl rfl tb22 rfl rfl rfl rfl rfl ?_
  refine ar_len tab_ok rfl rfl tb22 rfl len_map rfl rfl ?_
  refine ar_neq_s rfl rfl rfl rfl rfl (fun h16 => ?_) (fun h16 => ?_)
  · refine ar_move rfl rfl rfl rfl ?_
    refine ar_skip rfl rfl ?_
    refine ar_skip rfl rfl ?_
    refine ar_skip rfl rfl ?_
    refine ar_skip rfl rfl ?_
    refine ar_skip rfl rfl ?_
    refine ar_pickT rfl rfl rfl rfl rfl ?_
    refine ar_nil ?_
    refine then_n ?_
    refine wp_condT rfl ?_
    refine wp_seq ?_
    refine wp_reg (by kernel_rfl) ?_
    refine ar_assign rfl rfl rfl rfl ?_
    refine ar_assign rfl rfl rfl rfl ?_
    refine ar_nil ?_
    refine then_n ?_
    refine wp_ret ?_
    refine then_r (ret_post rfl rfl ?_)
    rw [valuesS_bad (by omega)]; rfl
  · refine ar_move rfl rfl rfl rfl ?_
    refine ar_move rfl rfl rfl rfl ?_
    refine ar_len tab_ok rfl rfl tb28 rfl len_map rfl rfl ?_
    refine ar_fa tab_ok rfl rfl rfl tb27 rfl rfl rfl rfl rfl ?_
    refine ar_ld tab_ok rfl rfl rfl tb3 rfl rfl rfl rfl rfl ?_
    refine ar_neq_s rfl rfl rfl rfl rfl (fun h22 => ?_) (fun h22 => ?_)
    · refine ar_pickF rfl rfl rfl rfl rfl ?_
      refine ar_nil ?_
      refine then_n ?_
      refine wp_condT rfl ?_
      refine wp_seq ?_
      refine wp_reg (by kernel_rfl) ?_
      refine ar_assign rfl rfl rfl rfl ?_
      refine ar_assign rfl rfl rfl rfl ?_
      refine ar_nil ?_
      refine then_n ?_
      refine wp_ret ?_
      refine then_r (ret_post rfl rfl ?_)
      rw [valuesS_bad (by omega)]; rfl
    · refine ar_pickF rfl rfl rfl rfl rfl ?_
      refine ar_nil ?_
      refine then_n ?_
      refine wp_condF rfl ?_
      refine wp_skip ?_
      refine then_n ?_
      refine wp_seq ?_
      refine wp_reg (by kernel_rfl) ?_
      refine ar_lda tab_ok rfl rfl rfl tb27 rfl rfl rfl rfl rfl rfl ?_
      refine ar_call [] (pc_93 _ hb) rfl rfl rfl rfl rfl rfl trivial (.inl rfl) rfl rfl rfl ?_
      refine ar_addi rfl rfl rfl rfl (by omega) (by omega) rfl rfl ?_
      refine ar_make (es := ([] : List Bool).map encB) 27 (el0 := [.bool false]) tab_ok rfl tb129 rfl tb4 rfl rfl rfl rfl rfl ⟨by omega, by omega, by omega, by simp; omega⟩ rfl rfl rfl rfl rfl ?_
      refine ar_assign rfl rfl rfl rfl ?_
      refine ar_nil ?_
      refine then_n ?_
      refine wp_seq ?_
      refine wp_reg (by kernel_rfl) ?_
      refine ar_move rfl rfl rfl rfl ?_
      refine ar_bs [] tab_ok rfl tb129 rfl tb4 rfl trivial rfl rfl rfl rfl rfl rfl rfl rfl ?_
      refine ar_app 30 [] tab_ok rfl tb129 rfl tb129 rfl tb4 rfl rfl rfl rfl ⟨rfl, rfl, trivial⟩ rfl (elOk.cons rfl rfl elOk.nil) app_one (by constructor <;> simp <;> omega) rfl rfl rfl ?_
      refine ar_move rfl rfl rfl rfl ?_
      refine ar_app 32 [] tab_ok rfl tb129 rfl tb28 rfl tb4 rfl rfl rfl rfl ⟨rfl, rfl, trivial⟩ rfl (el_4 _) app_map (by constructor <;> simp <;> omega) rfl rfl rfl ?_
      refine ar_move rfl rfl rfl rfl ?_
      refine ar_app 34 [] tab_ok rfl tb129 rfl tb28 rfl tb4 rfl rfl rfl rfl ⟨rfl, rfl, trivial⟩ rfl (el_4 _) app_map (by constructor <;> simp <;> omega) rfl rfl rfl ?_
      refine ar_assign rfl rfl rfl rfl ?_
      refine ar_nil ?_
      refine then_n ?_
      refine wp_seq ?_
      refine wp_seq ?_
      refine wp_reg (by kernel_rfl) ?_
      refine ar_fa tab_ok rfl rfl rfl tb27 rfl rfl rfl rfl rfl ?_
      refine ar_ld tab_ok rfl rfl rfl tb23 rfl rfl rfl rfl rfl ?_
      refine ar_len tab_ok rfl rfl tb23 rfl len_map rfl rfl ?_
      refine ar_move rfl rfl rfl rfl ?_
      refine ar_nil ?_
      refine then_n ?_
      refine wp_block ?_
      refine wp_loop (α := Nat) (fun i => mk [(36, .v (slG a.g)), (37, .v (.int .i64 (a.g.length : Nat))), (38, .v (.int .i64 (i : Nat))), (8, .own 34)] [(34, .row 4 1 ((valsOf (false :: (inp ++ st)) (a.g.take i)).map encB))] 0) (fun i => i ≤ a.g.length) (fun i => a.g.length - i) 0 (Nat.zero_le _) (le_to ⟨rfl, rfl, rfl, rfl, trivial⟩ ⟨(row_eq rfl (by simp [valsOf])), trivial⟩ rfl rfl rfl rfl) ?_
      rintro i hinv
      refine wp_seq ?_
      refine wp_reg (by kernel_rfl) ?_
      refine ar_lss_s rfl rfl rfl rfl rfl (fun h39 => ?_) (fun h39 => ?_)
      · refine ar_nil ?_
        refine then_n ?_
        refine wp_seq ?_
        refine wp_condT rfl ?_
        refine wp_skip ?_
        refine then_n ?_
        refine wp_seq ?_
        refine wp_block ?_
        refine wp_seq ?_
        refine wp_reg (by kernel_rfl) ?_
        refine ar_ia tab_ok rfl rfl rfl tb23 rfl tb58 (by omega) (map_get (by omega)) rfl rfl rfl ?_
        refine ar_ld_refa tab_ok rfl rfl tb58 rfl rfl rfl rfl rfl ?_
        refine ar_alloc (id := 10) tab_ok rfl rfl tb58 rfl rfl rfl rfl ?_
        refine ar_st [] tab_ok rfl tb58 rfl rfl rfl trivial rfl rfl rfl rfl rfl rfl rfl rfl ?_
        refine ar_nil ?_
        refine then_n ?_
        refine wp_reg (by kernel_rfl) ?_
        refine ar_move rfl rfl rfl rfl ?_
        refine ar_move rfl rfl rfl rfl ?_
        refine ar_fa tab_ok rfl rfl rfl tb58 rfl rfl rfl rfl rfl ?_
        refine ar_ld tab_ok rfl rfl rfl tb3 rfl rfl rfl rfl rfl ?_
        refine ar_call [(34, _)] (pc_94 _ _) rfl rfl rfl rfl rfl rfl ⟨rfl, trivial⟩ (.inr rfl) rfl rfl rfl ?_
        refine ar_split (fun h46 => ?_) (fun h46 => ?_)
        · refine ar_move rfl rfl rfl rfl ?_
          refine ar_move rfl rfl rfl rfl ?_
          refine ar_fa tab_ok rfl rfl rfl tb58 rfl rfl rfl rfl rfl ?_
          refine ar_ld tab_ok rfl rfl rfl tb3 rfl rfl rfl rfl rfl ?_
          refine ar_call [(34, _)] (pc_94 _ _) rfl rfl rfl rfl rfl rfl ⟨rfl, trivial⟩ (.inr rfl) rfl rfl rfl ?_
          refine ar_pickT rfl rfl rfl rfl rfl ?_
          refine ar_bs [] tab_ok rfl tb129 rfl tb4 rfl trivial rfl rfl rfl rfl rfl rfl rfl rfl ?_
          refine ar_app 54 [] tab_ok rfl tb129 rfl tb129 rfl tb4 rfl rfl rfl rfl ⟨rfl, rfl, trivial⟩ rfl (elOk.cons rfl rfl elOk.nil) app_one (by constructor <;> simp [valsOf_len] <;> omega) rfl rfl rfl ?_
          refine ar_assign rfl rfl rfl rfl ?_
          refine ar_nil ?_
          refine inblk_n ?_
          refine then_n ?_
          refine wp_reg (by kernel_rfl) ?_
          refine ar_addi rfl rfl rfl rfl (by omega) (by omega) rfl rfl ?_
          refine ar_move rfl rfl rfl rfl ?_
          refine ar_nil ?_
          exact loop_n (i + 1) (by omega) (by omega) (le_ren [(34, 54)] ⟨rfl, rfl, rfl, rfl, trivial⟩ ⟨(row_eq rfl (by rw [vals_snoc _ _ _ (by omega)]; simp_all)), trivial⟩ rfl rfl rfl rfl rfl)
        · refine ar_move rfl rfl rfl rfl ?_
          refine ar_skip rfl rfl ?_
          refine ar_skip rfl rfl ?_
          refine ar_skip rfl rfl ?_
          refine ar_skip rfl rfl ?_
          refine ar_pickF rfl rfl rfl rfl rfl ?_
          refine ar_bs [] tab_ok rfl tb129 rfl tb4 rfl trivial rfl rfl rfl rfl rfl rfl rfl rfl ?_
          refine ar_app 54 [] tab_ok rfl tb129 rfl tb129 rfl tb4 rfl rfl rfl rfl ⟨rfl, rfl, trivial⟩ rfl (elOk.cons rfl rfl elOk.nil) app_one (by constructor <;> simp [valsOf_len] <;> omega) rfl rfl rfl ?_
          refine ar_assign rfl rfl rfl rfl ?_
          refine ar_nil ?_
          refine inblk_n ?_
          refine then_n ?_
          refine wp_reg (by kernel_rfl) ?_
          refine ar_addi rfl rfl rfl rfl (by omega) (by omega) rfl rfl ?_
          refine ar_move rfl rfl rfl rfl ?_
          refine ar_nil ?_
          exact loop_n (i + 1) (by omega) (by omega) (le_ren [(34, 54)] ⟨rfl, rfl, rfl, rfl, trivial⟩ ⟨(row_eq rfl (by rw [vals_snoc _ _ _ (by omega)]; simp_all)), trivial⟩ rfl rfl rfl rfl rfl)
      · refine ar_nil ?_
        refine then_n ?_
        refine wp_seq ?_
        refine wp_condF rfl ?_
        refine wp_exit ?_
        refine then_x (loop_x (inblk_e ?_))
        refine then_n ?_
        refine wp_seq ?_
        refine wp_reg (by kernel_rfl) ?_
        refine ar_move rfl rfl rfl rfl ?_
        refine ar_assign rfl rfl rfl rfl ?_
        refine ar_assign rfl rfl rfl rfl ?_
        refine ar_nil ?_
        refine then_n ?_
        refine wp_ret ?_
        refine ret_post rfl rfl ?_
        rw [valuesS_ok (by omega) (by omega)]
        have hi : i = a.g.length := by omega
        subst hi
        rw [List.take_length]

end Go.Vd
