/- Three values: a literal, all values, a step: the program's and the document's; two values as three. -/
import Derived.Test.YtjbfplfopagpjaaC15
namespace Go.Vd
open Go.Proofs

def TriL (v : List Int) : Prop := ∀ x, x ∈ v → Tri x
def Nn (v : List Int) : Prop := ∀ x, x ∈ v → 0 ≤ x
theorem isTri_iff {v : List Int} : isTri v = true ↔ ∀ x, x ∈ v → x ≤ 2 := by simp [isTri]
theorem triL_of {v : List Int} (h : isTri v = true) (h0 : Nn v) : TriL v := fun x hx => ⟨h0 x hx, isTri_iff.1 h x hx⟩
theorem TriL.isTri {v : List Int} (h : TriL v) : isTri v = true := isTri_iff.2 fun x hx => (h x hx).2
theorem TriL.append {v w : List Int} (h : TriL v) (h' : TriL w) : TriL (v ++ w) := fun x hx => by
  rcases List.mem_append.1 hx with hx | hx
  · exact h x hx
  · exact h' x hx
theorem TriL.cons {x : Int} {v : List Int} (h : Tri x) (h' : TriL v) : TriL (x :: v) := fun y hy => by
  rcases List.mem_cons.1 hy with rfl | hy
  · exact h
  · exact h' y hy
theorem TriL.nil : TriL [] := fun x hx => by cases hx
theorem tri0 : Tri 0 := ⟨by decide, by decide⟩
theorem tri1 : Tri 1 := ⟨by decide, by decide⟩
theorem tri2 : Tri 2 := ⟨by decide, by decide⟩

def litT (v : List Int) (l : Int) : Int := if 0 ≤ l ∧ l / 2 < v.length then (if l % 2 = 1 then notT (v.getD (l / 2).toNat default) else v.getD (l / 2).toNat default) else 2
theorem litT_out {v : List Int} {l : Int} (h : ¬ (0 ≤ l ∧ l / 2 < v.length)) : litT v l = 2 := by simp only [litT]; rw [if_neg h]
theorem litT_odd {v : List Int} {l : Int} (h : 0 ≤ l) (h' : l / 2 < v.length) (h1 : l % 2 = 1) : litT v l = notT (v.getD (l / 2).toNat default) := by simp only [litT]; rw [if_pos ⟨h, h'⟩, if_pos h1]
theorem litT_even {v : List Int} {l : Int} (h : 0 ≤ l) (h' : l / 2 < v.length) (h1 : ¬ l % 2 = 1) : litT v l = v.getD (l / 2).toNat default := by simp only [litT]; rw [if_pos ⟨h, h'⟩, if_neg h1]
theorem litT_tri {v : List Int} (hv : TriL v) (l : Int) : Tri (litT v l) := by
  unfold litT
  split
  · rename_i h
    split
    · exact notT_tri _
    · exact hv _ (getD_mem (by omega))
  · exact tri2
def valsT (v : List Int) : List Gate → List Int
  | [] => v
  | g :: gs => valsT (v ++ [andT (litT v g.a) (litT v g.b)]) gs
theorem valsT_append (v : List Int) (xs ys : List Gate) : valsT v (xs ++ ys) = valsT (valsT v xs) ys := by
  induction xs generalizing v with
  | nil => rfl
  | cons g gs ih => simp [valsT, ih]
theorem valsT_len (v : List Int) (xs : List Gate) : (valsT v xs).length = v.length + xs.length := by
  induction xs generalizing v with
  | nil => rfl
  | cons g gs ih => simp [valsT, ih]; omega
theorem valsT_tri {v : List Int} (hv : TriL v) : ∀ gs : List Gate, TriL (valsT v gs)
  | [] => hv
  | g :: gs => valsT_tri (hv.append (TriL.cons (andT_tri _ _) TriL.nil)) gs
theorem valsT_snoc (v : List Int) (gs : List Gate) (n : Nat) (h : n < gs.length) :
    valsT v (gs.take (n + 1)) = valsT v (gs.take n) ++ [andT (litT (valsT v (gs.take n)) (gs.getD n default).a) (litT (valsT v (gs.take n)) (gs.getD n default).b)] := by
  rw [take_snoc h, valsT_append]; rfl
def shapeT (a : Aig) (st inp : List Int) : Prop := (st.length = a.l.length ∧ isTri st = true) ∧ ((inp.length : Int) = a.i ∧ isTri inp = true)
instance (a : Aig) (st inp : List Int) : Decidable (shapeT a st inp) := by unfold shapeT; infer_instance
abbrev valsTV (a : Aig) (st inp : List Int) : List Int := valsT (0 :: (inp ++ st)) a.g
def valuesT (a : Aig) (st inp : List Int) : List Int × Int := if shapeT a st inp then (valsTV a st inp, 0) else ([], 7)
theorem valuesT_ok {a : Aig} {st inp : List Int} (h : shapeT a st inp) : valuesT a st inp = (valsTV a st inp, 0) := by simp only [valuesT]; rw [if_pos h]
theorem valuesT_bad {a : Aig} {st inp : List Int} (h : ¬ shapeT a st inp) : valuesT a st inp = ([], 7) := by simp only [valuesT]; rw [if_neg h]
theorem init_tri {a : Aig} {st inp : List Int} (h : shapeT a st inp) (h0 : Nn st) (h1 : Nn inp) : TriL (0 :: (inp ++ st)) := TriL.cons tri0 ((triL_of h.2.2 h1).append (triL_of h.1.2 h0))
theorem valuesT_tri {a : Aig} {st inp : List Int} (h0 : Nn st) (h1 : Nn inp) : TriL (valuesT a st inp).1 := by
  by_cases h : shapeT a st inp
  · rw [valuesT_ok h]; exact valsT_tri (init_tri h h0 h1) _
  · rw [valuesT_bad h]; exact TriL.nil
structure StepT where
  n : List Int
  o : List Int
  b : List Int
  c : List Int
  e : Int
def StepT.v (r : StepT) : V := .tup [slU r.n, .agg [slU r.o, slU r.b, slU r.c], .int .i64 r.e]
abbrev stepTV (a : Aig) (v : List Int) : StepT := ⟨a.l.map fun l => litT v l.next, a.outs.map (litT v), a.bad.map (litT v), a.con.map (litT v), 0⟩
def stepT (a : Aig) (st inp : List Int) : StepT := if shapeT a st inp then stepTV a (valsTV a st inp) else ⟨[], [], [], [], 7⟩
theorem stepT_ok {a : Aig} {st inp : List Int} (h : shapeT a st inp) : stepT a st inp = stepTV a (valsTV a st inp) := by simp only [stepT]; rw [if_pos h]
theorem stepT_bad {a : Aig} {st inp : List Int} (h : ¬ shapeT a st inp) : stepT a st inp = ⟨[], [], [], [], 7⟩ := by simp only [stepT]; rw [if_neg h]
theorem mapT_tri {α : Type} {v : List Int} (hv : TriL v) (f : α → Int) (ls : List α) : TriL (ls.map fun l => litT v (f l)) := fun x hx => by
  obtain ⟨l, _, rfl⟩ := List.mem_map.1 hx
  exact litT_tri hv _
def ofB (b : Bool) : Int := if b then 1 else 0
theorem ofB_tri (b : Bool) : Tri (ofB b) := by cases b; exact tri0; exact tri1
theorem ofL_tri (xs : List Bool) : TriL (xs.map ofB) := fun x hx => by
  obtain ⟨b, _, rfl⟩ := List.mem_map.1 hx
  exact ofB_tri b

theorem pc_61 (v : List Int) (l : Int) (hv : TriL v) : PCall Try.prog 61 [slU v, .int .i64 l] (.int .u8 (litT v l)) := by
  refine pc_of tab_ok (f := 61) (fn := Try.f61) (N := 30) (rs := [.tmp 4]) (by kernel_rfl) rfl (by kernel_rfl) rfl rfl [(0, .v (slU v)), (1, .v (.int .i64 l))] ⟨rfl, rfl, trivial⟩ rfl rfl ?_
  intro B
  refine wp_seq ?_
  refine wp_reg (by kernel_rfl) ?_
  refine ar_assign rfl rfl rfl rfl ?_
  refine ar_nil ?_
  refine then_n ?_
  refine wp_seq ?_
  refine wp_reg (by kernel_rfl) ?_
  refine ar_move rfl rfl rfl rfl ?_
  refine ar_shr rfl rfl rfl (by decide) (by decide) rfl rfl rfl ?_
  refine ar_assign rfl rfl rfl rfl ?_
  refine ar_nil ?_
  refine then_n ?_
  refine wp_seq ?_
  refine wp_block ?_
  refine wp_seq ?_
  refine wp_reg (by kernel_rfl) ?_
  refine ar_move rfl rfl rfl rfl ?_
  refine ar_lss_s rfl rfl rfl rfl rfl (fun h10 => ?_) (fun h10 => ?_)
  · refine ar_move rfl rfl rfl rfl ?_
    refine ar_skip rfl rfl ?_
    refine ar_skip rfl rfl ?_
    refine ar_skip rfl rfl ?_
    refine ar_skip rfl rfl ?_
    refine ar_pickT rfl rfl rfl rfl rfl ?_
    refine ar_assign rfl rfl rfl rfl ?_
    refine ar_nil ?_
    refine then_n ?_
    refine wp_condT rfl ?_
    refine wp_seq ?_
    refine wp_reg (by kernel_rfl) ?_
    refine ar_assign rfl rfl rfl rfl ?_
    refine ar_nil ?_
    refine then_n ?_
    refine wp_ret ?_
    refine inblk_r (then_r (ret_post rfl rfl ?_))
    have e1 : l / 2 ^ Int.toNat 1 = l / 2 := rfl
    rw [litT_out (by omega)]
  · refine ar_move rfl rfl rfl rfl ?_
    refine ar_move rfl rfl rfl rfl ?_
    refine ar_move rfl rfl rfl rfl ?_
    refine ar_len tab_ok rfl rfl tb70 rfl len_map rfl rfl ?_
    refine ar_geq_s rfl rfl rfl rfl rfl (fun h15 => ?_) (fun h15 => ?_)
    · refine ar_pickF rfl rfl rfl rfl rfl ?_
      refine ar_assign rfl rfl rfl rfl ?_
      refine ar_nil ?_
      refine then_n ?_
      refine wp_condT rfl ?_
      refine wp_seq ?_
      refine wp_reg (by kernel_rfl) ?_
      refine ar_assign rfl rfl rfl rfl ?_
      refine ar_nil ?_
      refine then_n ?_
      refine wp_ret ?_
      refine inblk_r (then_r (ret_post rfl rfl ?_))
      have e1 : l / 2 ^ Int.toNat 1 = l / 2 := rfl
      rw [litT_out (by omega)]
    · refine ar_pickF rfl rfl rfl rfl rfl ?_
      refine ar_assign rfl rfl rfl rfl ?_
      refine ar_nil ?_
      refine then_n ?_
      refine wp_condF rfl ?_
      refine wp_seq ?_
      refine wp_reg (by kernel_rfl) ?_
      refine ar_move rfl rfl rfl rfl ?_
      refine ar_and rfl rfl rfl rfl rfl rfl ?_
      refine ar_eql_s rfl rfl rfl rfl rfl (fun h20 => ?_) (fun h20 => ?_)
      · refine ar_assign rfl rfl rfl rfl ?_
        refine ar_nil ?_
        refine then_n ?_
        refine wp_condT rfl ?_
        refine wp_seq ?_
        refine wp_reg (by kernel_rfl) ?_
        refine ar_move rfl rfl rfl rfl ?_
        refine ar_move rfl rfl rfl rfl ?_
        refine ar_ia tab_ok rfl rfl rfl tb70 rfl tb72 (by omega) (map_get (by omega)) rfl rfl rfl ?_
        refine ar_ld_ref tab_ok rfl rfl tb72 rfl rfl rfl rfl ?_
        refine ar_call [] (pc_47 _ (hv _ (getD_mem (by omega)))) rfl rfl rfl rfl rfl rfl trivial (.inl rfl) rfl rfl rfl ?_
        refine ar_assign rfl rfl rfl rfl ?_
        refine ar_nil ?_
        refine then_n ?_
        refine wp_ret ?_
        refine inblk_r (then_r (ret_post rfl rfl ?_))
        have e1 : l / 2 ^ Int.toNat 1 = l / 2 := rfl
        have := bits_and1 l
        rw [litT_odd (by omega) (by omega) (by omega)]; rfl
      · refine ar_assign rfl rfl rfl rfl ?_
        refine ar_nil ?_
        refine then_n ?_
        refine wp_condF rfl ?_
        refine wp_skip ?_
        refine inblk_n ?_
        refine then_n ?_
        refine wp_seq ?_
        refine wp_reg (by kernel_rfl) ?_
        refine ar_move rfl rfl rfl rfl ?_
        refine ar_move rfl rfl rfl rfl ?_
        refine ar_ia tab_ok rfl rfl rfl tb70 rfl tb72 (by omega) (map_get (by omega)) rfl rfl rfl ?_
        refine ar_ld_ref tab_ok rfl rfl tb72 rfl rfl rfl rfl ?_
        refine ar_assign rfl rfl rfl rfl ?_
        refine ar_nil ?_
        refine then_n ?_
        refine wp_ret ?_
        refine ret_post rfl rfl ?_
        have e1 : l / 2 ^ Int.toNat 1 = l / 2 := rfl
        have := bits_and1 l
        rw [litT_even (by omega) (by omega) (by omega)]; rfl

theorem pc_62 (v : List Int) (l : Int) (hl : l ≤ 9223372036854775807) : PCall Try.prog 62 [slU v, .int .i64 l] (.int .u8 (litT v l)) := by
  refine pc_of tab_ok (f := 62) (fn := Try.f62) (N := 28) (rs := [.tmp 4]) (by kernel_rfl) rfl (by kernel_rfl) rfl rfl [(0, .v (slU v)), (1, .v (.int .i64 l))] ⟨rfl, rfl, trivial⟩ rfl rfl ?_
  intro B
  refine wp_seq ?_
  refine wp_reg (by kernel_rfl) ?_
  refine ar_assign rfl rfl rfl rfl ?_
  refine ar_nil ?_
  refine then_n ?_
  refine wp_seq ?_
  refine wp_seq ?_
  refine wp_reg (by kernel_rfl) ?_
  refine ar_move rfl rfl rfl rfl ?_
  refine ar_lss_s rfl rfl rfl rfl rfl (fun h6 => ?_) (fun h6 => ?_)
  · refine ar_move rfl rfl rfl rfl ?_
    refine ar_skip rfl rfl ?_
    refine ar_skip rfl rfl ?_
    refine ar_skip rfl rfl ?_
    refine ar_skip rfl rfl ?_
    refine ar_skip rfl rfl ?_
    refine ar_pickT rfl rfl rfl rfl rfl ?_
    refine ar_nil ?_
    refine then_n ?_
    refine wp_condT rfl ?_
    refine wp_seq ?_
    refine wp_reg (by kernel_rfl) ?_
    refine ar_assign rfl rfl rfl rfl ?_
    refine ar_nil ?_
    refine then_n ?_
    refine wp_ret ?_
    refine then_r (ret_post rfl rfl ?_)
    rw [litT_out (by omega)]
  · refine ar_move rfl rfl rfl rfl ?_
    refine ar_move rfl rfl rfl rfl ?_
    refine ar_quo rfl rfl rfl (by decide) (IntWalk.i64_quo _ _ ⟨by omega, by omega, by omega⟩) rfl rfl ?_
    refine ar_move rfl rfl rfl rfl ?_
    refine ar_len tab_ok rfl rfl tb70 rfl len_map rfl rfl ?_
    refine ar_geq_s rfl rfl rfl rfl rfl (fun h12 => ?_) (fun h12 => ?_)
    · refine ar_pickF rfl rfl rfl rfl rfl ?_
      refine ar_nil ?_
      refine then_n ?_
      refine wp_condT rfl ?_
      refine wp_seq ?_
      refine wp_reg (by kernel_rfl) ?_
      refine ar_assign rfl rfl rfl rfl ?_
      refine ar_nil ?_
      refine then_n ?_
      refine wp_ret ?_
      refine then_r (ret_post rfl rfl ?_)
      rw [litT_out (by omega)]
    · refine ar_pickF rfl rfl rfl rfl rfl ?_
      refine ar_nil ?_
      refine then_n ?_
      refine wp_condF rfl ?_
      refine wp_skip ?_
      refine then_n ?_
      refine wp_seq ?_
      refine wp_seq ?_
      refine wp_reg (by kernel_rfl) ?_
      refine ar_move rfl rfl rfl rfl ?_
      refine ar_rem rfl rfl rfl (by decide) rfl rfl rfl ?_
      refine ar_eql_s rfl rfl rfl rfl rfl (fun h16 => ?_) (fun h16 => ?_)
      · refine ar_nil ?_
        refine then_n ?_
        refine wp_condT rfl ?_
        refine wp_seq ?_
        refine wp_reg (by kernel_rfl) ?_
        refine ar_move rfl rfl rfl rfl ?_
        refine ar_move rfl rfl rfl rfl ?_
        refine ar_quo rfl rfl rfl (by decide) (IntWalk.i64_quo _ _ ⟨by omega, by omega, by omega⟩) rfl rfl ?_
        refine ar_ia tab_ok rfl rfl rfl tb70 rfl tb72 (by omega) (map_get (by omega)) rfl rfl rfl ?_
        refine ar_ld_ref tab_ok rfl rfl tb72 rfl rfl rfl rfl ?_
        refine ar_call [] (pc_48 _) rfl rfl rfl rfl rfl rfl trivial (.inl rfl) rfl rfl rfl ?_
        refine ar_assign rfl rfl rfl rfl ?_
        refine ar_nil ?_
        refine then_n ?_
        refine wp_ret ?_
        refine then_r (ret_post rfl rfl ?_)
        rw [Int.tmod_eq_emod_of_nonneg (by omega)] at h16; rw [litT_odd (by omega) (by omega) (by omega)]
      · refine ar_nil ?_
        refine then_n ?_
        refine wp_condF rfl ?_
        refine wp_skip ?_
        refine then_n ?_
        refine wp_seq ?_
        refine wp_reg (by kernel_rfl) ?_
        refine ar_move rfl rfl rfl rfl ?_
        refine ar_move rfl rfl rfl rfl ?_
        refine ar_quo rfl rfl rfl (by decide) (IntWalk.i64_quo _ _ ⟨by omega, by omega, by omega⟩) rfl rfl ?_
        refine ar_ia tab_ok rfl rfl rfl tb70 rfl tb72 (by omega) (map_get (by omega)) rfl rfl rfl ?_
        refine ar_ld_ref tab_ok rfl rfl tb72 rfl rfl rfl rfl ?_
        refine ar_assign rfl rfl rfl rfl ?_
        refine ar_nil ?_
        refine then_n ?_
        refine wp_ret ?_
        refine ret_post rfl rfl ?_
        rw [Int.tmod_eq_emod_of_nonneg (by omega)] at h16; rw [litT_even (by omega) (by omega) (by omega)]

theorem pc_105 (a : Aig) : PCall Try.prog 105 [aigV a] (.int .i64 (a.l.length : Nat)) := by
  refine pc_of tab_ok (f := 105) (fn := Try.f105) (N := 6) (rs := [.tmp 2]) (by kernel_rfl) rfl (by kernel_rfl) rfl rfl [(0, .v (aigV a))] ⟨rfl, trivial⟩ rfl rfl ?_
  intro B
  refine wp_seq ?_
  refine wp_reg (by kernel_rfl) ?_
  refine ar_box 1 [] rfl rfl rfl ⟨rfl, trivial⟩ rfl rfl rfl ?_
  refine ar_assign rfl rfl rfl rfl ?_
  refine ar_nil ?_
  refine then_n ?_
  refine wp_seq ?_
  refine wp_reg (by kernel_rfl) ?_
  refine ar_fa tab_ok rfl rfl rfl tb27 rfl rfl rfl rfl rfl ?_
  refine ar_ld tab_ok rfl rfl rfl tb22 rfl rfl rfl rfl rfl ?_
  refine ar_len tab_ok rfl rfl tb22 rfl len_map rfl rfl ?_
  refine ar_assign rfl rfl rfl rfl ?_
  refine ar_nil ?_
  refine then_n ?_
  refine wp_ret ?_
  refine ret_post rfl rfl ?_
  rfl

theorem pc_106 (a : Aig) : PCall Try.prog 106 [aigV a] (.int .i64 a.i) := by
  refine pc_of tab_ok (f := 106) (fn := Try.f106) (N := 5) (rs := [.tmp 2]) (by kernel_rfl) rfl (by kernel_rfl) rfl rfl [(0, .v (aigV a))] ⟨rfl, trivial⟩ rfl rfl ?_
  intro B
  refine wp_seq ?_
  refine wp_reg (by kernel_rfl) ?_
  refine ar_box 1 [] rfl rfl rfl ⟨rfl, trivial⟩ rfl rfl rfl ?_
  refine ar_assign rfl rfl rfl rfl ?_
  refine ar_nil ?_
  refine then_n ?_
  refine wp_seq ?_
  refine wp_reg (by kernel_rfl) ?_
  refine ar_fa tab_ok rfl rfl rfl tb27 rfl rfl rfl rfl rfl ?_
  refine ar_ld tab_ok rfl rfl rfl tb3 rfl rfl rfl rfl rfl ?_
  refine ar_assign rfl rfl rfl rfl ?_
  refine ar_nil ?_
  refine then_n ?_
  refine wp_ret ?_
  refine ret_post rfl rfl ?_
  rfl

theorem pc_107 (a : Aig) (f : FuncId) (row : List Int) (n : Int) (hl : row.length ≤ 9223372036854775807) (hc : PCall Try.prog f [aigV a] (.int .i64 n)) : PCall Try.prog 107 [.agg [.fn (.func f) [] [], slU row], aigV a] (.bool (decide ((row.length : Int) = n) && isTri row)) := by
  refine pc_of tab_ok (f := 107) (fn := Try.f107) (N := 18) (rs := [.tmp 4]) (by kernel_rfl) rfl (by kernel_rfl) rfl rfl [(0, .v (.agg [.fn (.func f) [] [], slU row])), (1, .v (aigV a))] ⟨rfl, rfl, trivial⟩ rfl rfl ?_
  intro B
  refine wp_seq ?_
  refine wp_reg (by kernel_rfl) ?_
  refine ar_box 2 [] rfl rfl rfl ⟨rfl, trivial⟩ rfl rfl rfl ?_
  refine ar_box 3 [] rfl rfl rfl ⟨rfl, trivial⟩ rfl rfl rfl ?_
  refine ar_assign rfl rfl rfl rfl ?_
  refine ar_nil ?_
  refine then_n ?_
  refine wp_seq ?_
  refine wp_draw (L := [([2], []), ([2], []), ([], []), ([2], []), ([2], []), ([3], []), ([], []), ([], []), ([], []), ([2], []), ([2], []), ([], []), ([], []), ([], [])]) (by kernel_rfl) mixed (by kernel_rfl) ?_
  refine ar_fa tab_ok rfl rfl rfl tb148 rfl rfl rfl rfl rfl ?_
  refine ar_ld tab_ok rfl rfl rfl tb70 rfl rfl rfl rfl rfl ?_
  refine ar_len tab_ok rfl rfl tb70 rfl len_map rfl rfl ?_
  refine ar_fa tab_ok rfl rfl rfl tb148 rfl rfl rfl rfl rfl ?_
  refine ar_ld tab_ok rfl rfl rfl tb130 rfl rfl rfl rfl rfl ?_
  refine ar_lda tab_ok rfl rfl rfl tb27 rfl rfl rfl rfl rfl rfl ?_
  refine ar_call [] (hc) rfl rfl rfl rfl rfl rfl trivial (.inl rfl) rfl rfl rfl ?_
  refine ar_eql_s rfl rfl rfl rfl rfl (fun h12 => ?_) (fun h12 => ?_)
  · refine ar_move rfl rfl rfl rfl ?_
    refine ar_fa tab_ok rfl rfl rfl tb148 rfl rfl rfl rfl rfl ?_
    refine ar_ld tab_ok rfl rfl rfl tb70 rfl rfl rfl rfl rfl ?_
    refine ar_call [] (pc_45 row hl) rfl rfl rfl rfl rfl rfl trivial (.inl rfl) rfl rfl rfl ?_
    refine ar_pickT rfl rfl rfl rfl rfl ?_
    refine ar_assign rfl rfl rfl rfl ?_
    refine ar_nil ?_
    refine then_n ?_
    refine wp_ret ?_
    refine ret_post rfl rfl ?_
    simp [*]
  · refine ar_move rfl rfl rfl rfl ?_
    refine ar_skip rfl rfl ?_
    refine ar_skip rfl rfl ?_
    refine ar_skip rfl rfl ?_
    refine ar_pickF rfl rfl rfl rfl rfl ?_
    refine ar_assign rfl rfl rfl rfl ?_
    refine ar_nil ?_
    refine then_n ?_
    refine wp_ret ?_
    refine ret_post rfl rfl ?_
    simp [*]

theorem pc_56 (a : Aig) (st inp : List Int) (hb : Bd a) (h0 : Nn st) (h1 : Nn inp) (hl0 : st.length ≤ 9223372036854775807) (hl1 : inp.length ≤ 9223372036854775807) : PCall Try.prog 56 [aigV a, slU st, slU inp] (.tup [slU (valuesT a st inp).1, .int .i64 (valuesT a st inp).2]) := by
  refine pc_of tab_ok (f := 56) (fn := Try.f56) (N := 57) (rs := [.tmp 6, .tmp 7]) (by kernel_rfl) rfl (by kernel_rfl) rfl rfl [(0, .v (aigV a)), (1, .v (slU st)), (2, .v (slU inp))] ⟨rfl, rfl, rfl, trivial⟩ rfl rfl ?_
  intro B
  have hb0 := hb.i0; have hb1 := hb.i1; have hb2 := hb.l1; have hb3 := hb.g1; have hv : varsS a = a.i + a.l.length + a.g.length := rfl
  refine wp_seq ?_
  refine wp_reg (by kernel_rfl) ?_
  refine ar_box 3 [] rfl rfl rfl ⟨rfl, trivial⟩ rfl rfl rfl ?_
  refine ar_assign rfl rfl rfl rfl ?_
  refine ar_assign rfl rfl rfl rfl ?_
  refine ar_nil ?_
  refine then_n ?_
  refine wp_seq ?_
  refine wp_reg (by kernel_rfl) ?_
  refine ar_move rfl rfl rfl rfl ?_
  refine ar_build [] tab_ok rfl tb148 rfl rfl trivial rfl rfl rfl rfl rfl rfl ?_
  refine ar_alloc (id := 8) tab_ok rfl rfl tb148 rfl rfl rfl rfl ?_
  refine ar_st [] tab_ok rfl tb148 rfl rfl rfl trivial rfl rfl rfl rfl rfl rfl rfl rfl ?_
  refine ar_nil ?_
  refine then_n ?_
  refine wp_seq ?_
  refine wp_reg (by kernel_rfl) ?_
  refine ar_move rfl rfl rfl rfl ?_
  refine ar_build [] tab_ok rfl tb148 rfl rfl trivial rfl rfl rfl rfl rfl rfl ?_
  refine ar_alloc (id := 9) tab_ok rfl rfl tb148 rfl rfl rfl rfl ?_
  refine ar_st [] tab_ok rfl tb148 rfl rfl rfl trivial rfl rfl rfl rfl rfl rfl rfl rfl ?_
  refine ar_nil ?_
  refine then_n ?_
  refine wp_seq ?_
  refine wp_seq ?_
  refine wp_reg (by kernel_rfl) ?_
  refine ar_lda tab_ok rfl rfl rfl tb148 rfl rfl rfl rfl rfl rfl ?_
  refine ar_lda tab_ok rfl rfl rfl tb27 rfl rfl rfl rfl rfl rfl ?_
  refine ar_call [] (pc_107 a 105 st _ (by omega) (pc_105 a)) rfl rfl rfl rfl rfl rfl trivial (.inl rfl) rfl rfl rfl ?_
  refine ar_split (fun h19 => ?_) (fun h19 => ?_)
  · refine ar_not rfl rfl rfl rfl rfl ?_
    refine ar_move rfl rfl rfl rfl ?_
    refine ar_lda tab_ok rfl rfl rfl tb148 rfl rfl rfl rfl rfl rfl ?_
    refine ar_lda tab_ok rfl rfl rfl tb27 rfl rfl rfl rfl rfl rfl ?_
    refine ar_call [] (pc_107 a 106 inp _ (by omega) (pc_106 a)) rfl rfl rfl rfl rfl rfl trivial (.inl rfl) rfl rfl rfl ?_
    refine ar_split (fun h24 => ?_) (fun h24 => ?_)
    · refine ar_not rfl rfl rfl rfl rfl ?_
      refine ar_pickF rfl rfl rfl rfl rfl ?_
      refine ar_nil ?_
      refine then_n ?_
      refine wp_condF rfl ?_
      refine wp_skip ?_
      refine then_n ?_
      refine wp_seq ?_
      have hsh : shapeT a st inp := by simp only [Bool.and_eq_true, decide_eq_true_eq] at h19 h24; exact ⟨⟨by omega, h19.2⟩, by omega, h24.2⟩
      have hsh1 := hsh.1.1; have hsh2 := hsh.2.1
      refine wp_reg (by kernel_rfl) ?_
      refine ar_lda tab_ok rfl rfl rfl tb27 rfl rfl rfl rfl rfl rfl ?_
      refine ar_call [] (pc_93 _ hb) rfl rfl rfl rfl rfl rfl trivial (.inl rfl) rfl rfl rfl ?_
      refine ar_addi rfl rfl rfl rfl (by omega) (by omega) rfl rfl ?_
      refine ar_make (es := [0].map encU) 30 (el0 := [.int .u8 0]) tab_ok rfl tb70 rfl tb72 rfl rfl rfl rfl rfl ⟨by omega, by omega, by omega, by simp; omega⟩ rfl rfl rfl rfl rfl ?_
      refine ar_assign rfl rfl rfl rfl ?_
      refine ar_nil ?_
      refine then_n ?_
      refine wp_seq ?_
      refine wp_reg (by kernel_rfl) ?_
      refine ar_move rfl rfl rfl rfl ?_
      refine ar_move rfl rfl rfl rfl ?_
      refine ar_app 33 [] tab_ok rfl tb70 rfl tb70 rfl tb72 rfl rfl rfl rfl ⟨rfl, rfl, trivial⟩ rfl (el_72 _) app_map (by constructor <;> simp <;> omega) rfl rfl rfl ?_
      refine ar_move rfl rfl rfl rfl ?_
      refine ar_app 35 [] tab_ok rfl tb70 rfl tb70 rfl tb72 rfl rfl rfl rfl ⟨rfl, rfl, trivial⟩ rfl (el_72 _) app_map (by constructor <;> simp <;> omega) rfl rfl rfl ?_
      refine ar_assign rfl rfl rfl rfl ?_
      refine ar_nil ?_
      refine then_n ?_
      refine wp_seq ?_
      refine wp_seq ?_
      refine wp_reg (by kernel_rfl) ?_
      refine ar_fa tab_ok rfl rfl rfl tb27 rfl rfl rfl rfl rfl ?_
      refine ar_ld tab_ok rfl rfl rfl tb23 rfl rfl rfl rfl rfl ?_
      refine ar_len tab_ok rfl rfl tb23 rfl len_map rfl rfl ?_
      refine ar_move rfl rfl rfl rfl ?_
      refine ar_nil ?_
      refine then_n ?_
      refine wp_block ?_
      refine wp_loop (α := Nat) (fun j => mk [(37, .v (slG a.g)), (38, .v (.int .i64 (a.g.length : Nat))), (39, .v (.int .i64 (j : Nat))), (10, .own 35)] [(35, .row 72 1 ((valsT (0 :: (inp ++ st)) (a.g.take j)).map encU))] 0) (fun j => j ≤ a.g.length) (fun j => a.g.length - j) 0 (Nat.zero_le _) (le_to ⟨rfl, rfl, rfl, rfl, trivial⟩ ⟨(row_eq rfl (by simp [valsT])), trivial⟩ rfl rfl rfl rfl) ?_
      rintro j hinv
      have hvt : TriL (valsT (0 :: (inp ++ st)) (a.g.take j)) := valsT_tri (init_tri hsh h0 h1) _
      refine wp_seq ?_
      refine wp_reg (by kernel_rfl) ?_
      refine ar_lss_s rfl rfl rfl rfl rfl (fun h40 => ?_) (fun h40 => ?_)
      · refine ar_nil ?_
        refine then_n ?_
        refine wp_seq ?_
        refine wp_condT rfl ?_
        refine wp_skip ?_
        refine then_n ?_
        refine wp_seq ?_
        refine wp_block ?_
        refine wp_seq ?_
        refine wp_reg (by kernel_rfl) ?_
        refine ar_ia tab_ok rfl rfl rfl tb23 rfl tb58 (by omega) (map_get (n := j) (by omega)) rfl rfl rfl ?_
        refine ar_ld_refa tab_ok rfl rfl tb58 rfl rfl rfl rfl rfl ?_
        refine ar_alloc (id := 12) tab_ok rfl rfl tb58 rfl rfl rfl rfl ?_
        refine ar_st [] tab_ok rfl tb58 rfl rfl rfl trivial rfl rfl rfl rfl rfl rfl rfl rfl ?_
        refine ar_nil ?_
        refine then_n ?_
        refine wp_draw (L := [([], []), ([], []), ([12], []), ([12], []), ([35], []), ([], []), ([12], []), ([12], []), ([35], []), ([], []), ([], []), ([35, 54], [35, 54]), ([], [])]) (by kernel_rfl) mixed (by kernel_rfl) ?_
        refine ar_move rfl rfl rfl rfl ?_
        refine ar_move rfl rfl rfl rfl ?_
        refine ar_fa tab_ok rfl rfl rfl tb58 rfl rfl rfl rfl rfl ?_
        refine ar_ld tab_ok rfl rfl rfl tb3 rfl rfl rfl rfl rfl ?_
        refine ar_call [(35, _)] (pc_61 _ _ hvt) rfl rfl rfl rfl rfl rfl ⟨rfl, trivial⟩ (.inr rfl) rfl rfl rfl ?_
        refine ar_move rfl rfl rfl rfl ?_
        refine ar_fa tab_ok rfl rfl rfl tb58 rfl rfl rfl rfl rfl ?_
        refine ar_ld tab_ok rfl rfl rfl tb3 rfl rfl rfl rfl rfl ?_
        refine ar_call [(35, _)] (pc_61 _ _ hvt) rfl rfl rfl rfl rfl rfl ⟨rfl, trivial⟩ (.inr rfl) rfl rfl rfl ?_
        refine ar_call [] (pc_49 _ _ (litT_tri hvt _) (litT_tri hvt _)) rfl rfl rfl rfl rfl rfl trivial (.inl rfl) rfl rfl rfl ?_
        refine ar_bs [] tab_ok rfl tb70 rfl tb72 rfl trivial rfl rfl rfl rfl rfl rfl rfl rfl ?_
        refine ar_app 54 [] tab_ok rfl tb70 rfl tb70 rfl tb72 rfl rfl rfl rfl ⟨rfl, rfl, trivial⟩ rfl (elOk.cons rfl rfl elOk.nil) app_one (by constructor <;> simp [valsT_len] <;> omega) rfl rfl rfl ?_
        refine ar_assign rfl rfl rfl rfl ?_
        refine ar_nil ?_
        refine inblk_n ?_
        refine then_n ?_
        refine wp_reg (by kernel_rfl) ?_
        refine ar_addi rfl rfl rfl rfl (by omega) (by omega) rfl rfl ?_
        refine ar_move rfl rfl rfl rfl ?_
        refine ar_nil ?_
        exact loop_n (j + 1) (by omega) (by omega) (le_ren [(35, 54)] ⟨rfl, rfl, rfl, rfl, trivial⟩ ⟨(row_eq rfl (by rw [valsT_snoc _ _ _ (by omega)] <;> simp)), trivial⟩ rfl rfl rfl rfl rfl)
      · refine ar_nil ?_
        refine then_n ?_
        refine wp_seq ?_
        refine wp_condF rfl ?_
        refine wp_exit ?_
        refine then_x (loop_x (inblk_e ?_))
        refine then_n ?_
        refine wp_seq ?_
        refine wp_reg (by kernel_rfl) ?_
        refine ar_move rfl rfl rfl rfl ?_
        refine ar_assign rfl rfl rfl rfl ?_
        refine ar_assign rfl rfl rfl rfl ?_
        refine ar_nil ?_
        refine then_n ?_
        refine wp_ret ?_
        refine ret_post rfl rfl ?_
        rw [valuesT_ok hsh]
        have hi : j = a.g.length := by omega
        subst hi
        rw [List.take_length]
    · refine ar_not rfl rfl rfl rfl rfl ?_
      refine ar_pickF rfl rfl rfl rfl rfl ?_
      refine ar_nil ?_
      refine then_n ?_
      refine wp_condT rfl ?_
      refine wp_seq ?_
      refine wp_reg (by kernel_rfl) ?_
      refine ar_assign rfl rfl rfl rfl ?_
      refine ar_assign rfl rfl rfl rfl ?_
      refine ar_nil ?_
      refine then_n ?_
      refine wp_ret ?_
      refine then_r (ret_post rfl rfl ?_)
      rw [valuesT_bad (fun h => by have q1 := h.1.1; have q2 := h.1.2; have q3 := h.2.1; have q4 := h.2.2; simp [q1, q2, q3, q4] at h24)]; rfl
  · refine ar_not rfl rfl rfl rfl rfl ?_
    refine ar_move rfl rfl rfl rfl ?_
    refine ar_skip rfl rfl ?_
    refine ar_skip rfl rfl ?_
    refine ar_skip rfl rfl ?_
    refine ar_skip rfl rfl ?_
    refine ar_pickT rfl rfl rfl rfl rfl ?_
    refine ar_nil ?_
    refine then_n ?_
    refine wp_condT rfl ?_
    refine wp_seq ?_
    refine wp_reg (by kernel_rfl) ?_
    refine ar_assign rfl rfl rfl rfl ?_
    refine ar_assign rfl rfl rfl rfl ?_
    refine ar_nil ?_
    refine then_n ?_
    refine wp_ret ?_
    refine then_r (ret_post rfl rfl ?_)
    rw [valuesT_bad (fun h => by have q1 := h.1.1; have q2 := h.1.2; have q3 := h.2.1; have q4 := h.2.2; simp [q1, q2, q3, q4] at h19)]; rfl

theorem pc_57 (a : Aig) (st inp : List Int) (hg : Good a) (hl0 : st.length ≤ 9223372036854775807) (hl1 : inp.length ≤ 9223372036854775807) : PCall Try.prog 57 [aigV a, slU st, slU inp] (.tup [slU (valuesT a st inp).1, .int .i64 (valuesT a st inp).2]) := by
  refine pc_of tab_ok (f := 57) (fn := Try.f57) (N := 70) (rs := [.tmp 6, .tmp 7]) (by kernel_rfl) rfl (by kernel_rfl) rfl rfl [(0, .v (aigV a)), (1, .v (slU st)), (2, .v (slU inp))] ⟨rfl, rfl, rfl, trivial⟩ rfl rfl ?_
  intro B
  have hb := hg.bd; have hb0 := hb.i0; have hb1 := hb.i1; have hb2 := hb.l1; have hb3 := hb.g1
  refine wp_seq ?_
  refine wp_reg (by kernel_rfl) ?_
  refine ar_box 3 [] rfl rfl rfl ⟨rfl, trivial⟩ rfl rfl rfl ?_
  refine ar_assign rfl rfl rfl rfl ?_
  refine ar_assign rfl rfl rfl rfl ?_
  refine ar_nil ?_
  refine then_n ?_
  refine wp_seq ?_
  refine wp_reg (by kernel_rfl) ?_
  refine ar_move rfl rfl rfl rfl ?_
  refine ar_call [] (pc_46 st hl0) rfl rfl rfl rfl rfl rfl trivial (.inl rfl) rfl rfl rfl ?_
  refine ar_split (fun h13 => ?_) (fun h13 => ?_)
  · refine ar_assign rfl rfl rfl rfl ?_
    refine ar_nil ?_
    refine then_n ?_
    refine wp_seq ?_
    refine wp_reg (by kernel_rfl) ?_
    refine ar_move rfl rfl rfl rfl ?_
    refine ar_call [] (pc_46 inp hl1) rfl rfl rfl rfl rfl rfl trivial (.inl rfl) rfl rfl rfl ?_
    refine ar_split (fun h15 => ?_) (fun h15 => ?_)
    · refine ar_assign rfl rfl rfl rfl ?_
      refine ar_nil ?_
      refine then_n ?_
      refine wp_seq ?_
      refine wp_seq ?_
      refine wp_reg (by kernel_rfl) ?_
      refine ar_move rfl rfl rfl rfl ?_
      refine ar_not rfl rfl rfl rfl rfl ?_
      refine ar_move rfl rfl rfl rfl ?_
      refine ar_move rfl rfl rfl rfl ?_
      refine ar_not rfl rfl rfl rfl rfl ?_
      refine ar_pickF rfl rfl rfl rfl rfl ?_
      refine ar_move rfl rfl rfl rfl ?_
      refine ar_move rfl rfl rfl rfl ?_
      refine ar_len tab_ok rfl rfl tb70 rfl len_map rfl rfl ?_
      refine ar_fa tab_ok rfl rfl rfl tb27 rfl rfl rfl rfl rfl ?_
      refine ar_ld tab_ok rfl rfl rfl tb22 rfl rfl rfl rfl rfl ?_
      refine ar_len tab_ok rfl rfl tb22 rfl len_map rfl rfl ?_
      refine ar_neq_s rfl rfl rfl rfl rfl (fun h28 => ?_) (fun h28 => ?_)
      · refine ar_pickF rfl rfl rfl rfl rfl ?_
        refine ar_move rfl rfl rfl rfl ?_
        refine ar_skip rfl rfl ?_
        refine ar_skip rfl rfl ?_
        refine ar_skip rfl rfl ?_
        refine ar_skip rfl rfl ?_
        refine ar_skip rfl rfl ?_
        refine ar_pickT rfl rfl rfl rfl rfl ?_
        refine ar_nil ?_
        refine then_n ?_
        refine wp_condT rfl ?_
        refine wp_seq ?_
        refine wp_reg (by kernel_rfl) ?_
        refine ar_assign rfl rfl rfl rfl ?_
        refine ar_assign rfl rfl rfl rfl ?_
        refine ar_nil ?_
        refine then_n ?_
        refine wp_ret ?_
        refine then_r (ret_post rfl rfl ?_)
        rw [valuesT_bad (fun h => by have q1 := h.1.1; have q2 := h.1.2; have q3 := h.2.1; have q4 := h.2.2; omega)]; rfl
      · refine ar_pickF rfl rfl rfl rfl rfl ?_
        refine ar_move rfl rfl rfl rfl ?_
        refine ar_move rfl rfl rfl rfl ?_
        refine ar_len tab_ok rfl rfl tb70 rfl len_map rfl rfl ?_
        refine ar_fa tab_ok rfl rfl rfl tb27 rfl rfl rfl rfl rfl ?_
        refine ar_ld tab_ok rfl rfl rfl tb3 rfl rfl rfl rfl rfl ?_
        refine ar_neq_s rfl rfl rfl rfl rfl (fun h35 => ?_) (fun h35 => ?_)
        · refine ar_pickF rfl rfl rfl rfl rfl ?_
          refine ar_nil ?_
          refine then_n ?_
          refine wp_condT rfl ?_
          refine wp_seq ?_
          refine wp_reg (by kernel_rfl) ?_
          refine ar_assign rfl rfl rfl rfl ?_
          refine ar_assign rfl rfl rfl rfl ?_
          refine ar_nil ?_
          refine then_n ?_
          refine wp_ret ?_
          refine then_r (ret_post rfl rfl ?_)
          rw [valuesT_bad (fun h => by have q1 := h.1.1; have q2 := h.1.2; have q3 := h.2.1; have q4 := h.2.2; omega)]; rfl
        · refine ar_pickF rfl rfl rfl rfl rfl ?_
          refine ar_nil ?_
          refine then_n ?_
          refine wp_condF rfl ?_
          refine wp_skip ?_
          refine then_n ?_
          refine wp_seq ?_
          refine wp_reg (by kernel_rfl) ?_
          refine ar_bs_own (es := [0].map encU) 37 [] tab_ok rfl tb70 rfl tb72 rfl rfl ⟨rfl, trivial⟩ rfl rfl rfl rfl rfl rfl rfl rfl rfl ?_
          refine ar_move rfl rfl rfl rfl ?_
          refine ar_app 39 [] tab_ok rfl tb70 rfl tb70 rfl tb72 rfl rfl rfl rfl ⟨rfl, rfl, trivial⟩ rfl (el_72 _) app_map (by constructor <;> simp <;> omega) rfl rfl rfl ?_
          refine ar_move rfl rfl rfl rfl ?_
          refine ar_app 41 [] tab_ok rfl tb70 rfl tb70 rfl tb72 rfl rfl rfl rfl ⟨rfl, rfl, trivial⟩ rfl (el_72 _) app_map (by constructor <;> simp <;> omega) rfl rfl rfl ?_
          refine ar_assign rfl rfl rfl rfl ?_
          refine ar_nil ?_
          refine then_n ?_
          refine wp_seq ?_
          refine wp_seq ?_
          refine wp_reg (by kernel_rfl) ?_
          refine ar_assign rfl rfl rfl rfl ?_
          refine ar_nil ?_
          refine then_n ?_
          refine wp_block ?_
          refine wp_loop (α := Nat) (fun j => mk [(3, .ptr 3 0), (10, .own 41), (11, .v (.int .i64 (j : Nat)))] [(3, .box ((encA a).map .v)), (41, .row 72 1 ((valsT (0 :: (inp ++ st)) (a.g.take j)).map encU))] 0) (fun j => j ≤ a.g.length) (fun j => a.g.length - j) 0 (Nat.zero_le _) (le_to ⟨rfl, rfl, rfl, trivial⟩ ⟨rfl, (row_eq rfl (by simp [valsT])), trivial⟩ rfl rfl rfl rfl) ?_
          rintro j hinv
          have hgj : j < a.g.length → (a.g.getD j default).a ≤ 1000 ∧ (a.g.getD j default).b ≤ 1000 := fun hj => by have := hg.right.g j hj; obtain ⟨q1, q2, q3⟩ := this; have := hg.small.i1; have := hg.small.l1; have := hg.small.g1; omega
          refine wp_seq ?_
          refine wp_seq ?_
          refine wp_reg (by kernel_rfl) ?_
          refine ar_move rfl rfl rfl rfl ?_
          refine ar_fa tab_ok rfl rfl rfl tb27 rfl rfl rfl rfl rfl ?_
          refine ar_ld tab_ok rfl rfl rfl tb23 rfl rfl rfl rfl rfl ?_
          refine ar_len tab_ok rfl rfl tb23 rfl len_map rfl rfl ?_
          refine ar_lss_s rfl rfl rfl rfl rfl (fun h46 => ?_) (fun h46 => ?_)
          · refine ar_nil ?_
            refine then_n ?_
            refine wp_condT rfl ?_
            refine wp_skip ?_
            refine then_n ?_
            refine wp_seq ?_
            refine wp_block ?_
            refine wp_draw (L := [([], []), ([], []), ([3], []), ([3], []), ([], []), ([], []), ([], []), ([], []), ([41], []), ([], []), ([3], []), ([3], []), ([], []), ([], []), ([], []), ([], []), ([41], []), ([], []), ([], []), ([41, 68], [41, 68]), ([], [])]) (by kernel_rfl) mixed (by kernel_rfl) ?_
            refine ar_move rfl rfl rfl rfl ?_
            refine ar_move rfl rfl rfl rfl ?_
            refine ar_fa tab_ok rfl rfl rfl tb27 rfl rfl rfl rfl rfl ?_
            refine ar_ld tab_ok rfl rfl rfl tb23 rfl rfl rfl rfl rfl ?_
            refine ar_move rfl rfl rfl rfl ?_
            refine ar_ia tab_ok rfl rfl rfl tb23 rfl tb58 (by omega) (map_get (n := j) (by omega)) rfl rfl rfl ?_
            refine ar_fa_ref tab_ok rfl rfl tb58 rfl rfl rfl rfl ?_
            refine ar_ld_ref tab_ok rfl rfl tb3 rfl rfl rfl rfl ?_
            refine ar_call [(41, _)] (pc_62 _ _ (by have := hgj (by omega); omega)) rfl rfl rfl rfl rfl rfl ⟨rfl, trivial⟩ (.inr rfl) rfl rfl rfl ?_
            refine ar_move rfl rfl rfl rfl ?_
            refine ar_fa tab_ok rfl rfl rfl tb27 rfl rfl rfl rfl rfl ?_
            refine ar_ld tab_ok rfl rfl rfl tb23 rfl rfl rfl rfl rfl ?_
            refine ar_move rfl rfl rfl rfl ?_
            refine ar_ia tab_ok rfl rfl rfl tb23 rfl tb58 (by omega) (map_get (n := j) (by omega)) rfl rfl rfl ?_
            refine ar_fa_ref tab_ok rfl rfl tb58 rfl rfl rfl rfl ?_
            refine ar_ld_ref tab_ok rfl rfl tb3 rfl rfl rfl rfl ?_
            refine ar_call [(41, _)] (pc_62 _ _ (by have := hgj (by omega); omega)) rfl rfl rfl rfl rfl rfl ⟨rfl, trivial⟩ (.inr rfl) rfl rfl rfl ?_
            refine ar_call [] (pc_50 _ _) rfl rfl rfl rfl rfl rfl trivial (.inl rfl) rfl rfl rfl ?_
            refine ar_bs [] tab_ok rfl tb70 rfl tb72 rfl trivial rfl rfl rfl rfl rfl rfl rfl rfl ?_
            refine ar_app 68 [] tab_ok rfl tb70 rfl tb70 rfl tb72 rfl rfl rfl rfl ⟨rfl, rfl, trivial⟩ rfl (elOk.cons rfl rfl elOk.nil) app_one (by constructor <;> simp [valsT_len] <;> omega) rfl rfl rfl ?_
            refine ar_assign rfl rfl rfl rfl ?_
            refine ar_nil ?_
            refine inblk_n ?_
            refine then_n ?_
            refine wp_reg (by kernel_rfl) ?_
            refine ar_move rfl rfl rfl rfl ?_
            refine ar_addi rfl rfl rfl rfl (by omega) (by omega) rfl rfl ?_
            refine ar_assign rfl rfl rfl rfl ?_
            refine ar_nil ?_
            exact loop_n (j + 1) (by omega) (by omega) (le_ren [(41, 68)] ⟨rfl, rfl, rfl, trivial⟩ ⟨rfl, (row_eq rfl (by rw [valsT_snoc _ _ _ (by omega)] <;> simp)), trivial⟩ rfl rfl rfl rfl rfl)
          · refine ar_nil ?_
            refine then_n ?_
            refine wp_condF rfl ?_
            refine wp_exit ?_
            refine then_x (loop_x (inblk_e ?_))
            refine then_n ?_
            refine wp_seq ?_
            refine wp_reg (by kernel_rfl) ?_
            refine ar_move rfl rfl rfl rfl ?_
            refine ar_assign rfl rfl rfl rfl ?_
            refine ar_assign rfl rfl rfl rfl ?_
            refine ar_nil ?_
            refine then_n ?_
            refine wp_ret ?_
            refine ret_post rfl rfl ?_
            rw [valuesT_ok ⟨⟨by omega, h13⟩, by omega, h15⟩]
            have hi : j = a.g.length := by omega
            subst hi
            rw [List.take_length]
    · refine ar_assign rfl rfl rfl rfl ?_
      refine ar_nil ?_
      refine then_n ?_
      refine wp_seq ?_
      refine wp_seq ?_
      refine wp_reg (by kernel_rfl) ?_
      refine ar_move rfl rfl rfl rfl ?_
      refine ar_not rfl rfl rfl rfl rfl ?_
      refine ar_move rfl rfl rfl rfl ?_
      refine ar_move rfl rfl rfl rfl ?_
      refine ar_not rfl rfl rfl rfl rfl ?_
      refine ar_pickF rfl rfl rfl rfl rfl ?_
      refine ar_move rfl rfl rfl rfl ?_
      refine ar_skip rfl rfl ?_
      refine ar_skip rfl rfl ?_
      refine ar_skip rfl rfl ?_
      refine ar_skip rfl rfl ?_
      refine ar_skip rfl rfl ?_
      refine ar_skip rfl rfl ?_
      refine ar_pickT rfl rfl rfl rfl rfl ?_
      refine ar_move rfl rfl rfl rfl ?_
      refine ar_skip rfl rfl ?_
      refine ar_skip rfl rfl ?_
      refine ar_skip rfl rfl ?_
      refine ar_skip rfl rfl ?_
      refine ar_skip rfl rfl ?_
      refine ar_pickT rfl rfl rfl rfl rfl ?_
      refine ar_nil ?_
      refine then_n ?_
      refine wp_condT rfl ?_
      refine wp_seq ?_
      refine wp_reg (by kernel_rfl) ?_
      refine ar_assign rfl rfl rfl rfl ?_
      refine ar_assign rfl rfl rfl rfl ?_
      refine ar_nil ?_
      refine then_n ?_
      refine wp_ret ?_
      refine then_r (ret_post rfl rfl ?_)
      rw [valuesT_bad (fun h => by have q1 := h.1.1; have q2 := h.1.2; have q3 := h.2.1; have q4 := h.2.2; rw [q4] at h15; cases h15)]; rfl
  · refine ar_assign rfl rfl rfl rfl ?_
    refine ar_nil ?_
    refine then_n ?_
    refine wp_seq ?_
    refine wp_reg (by kernel_rfl) ?_
    refine ar_move rfl rfl rfl rfl ?_
    refine ar_call [] (pc_46 inp hl1) rfl rfl rfl rfl rfl rfl trivial (.inl rfl) rfl rfl rfl ?_
    refine ar_split (fun h15 => ?_) (fun h15 => ?_)
    · refine ar_assign rfl rfl rfl rfl ?_
      refine ar_nil ?_
      refine then_n ?_
      refine wp_seq ?_
      refine wp_seq ?_
      refine wp_reg (by kernel_rfl) ?_
      refine ar_move rfl rfl rfl rfl ?_
      refine ar_not rfl rfl rfl rfl rfl ?_
      refine ar_move rfl rfl rfl rfl ?_
      refine ar_skip rfl rfl ?_
      refine ar_skip rfl rfl ?_
      refine ar_pickT rfl rfl rfl rfl rfl ?_
      refine ar_move rfl rfl rfl rfl ?_
      refine ar_skip rfl rfl ?_
      refine ar_skip rfl rfl ?_
      refine ar_skip rfl rfl ?_
      refine ar_skip rfl rfl ?_
      refine ar_skip rfl rfl ?_
      refine ar_skip rfl rfl ?_
      refine ar_pickT rfl rfl rfl rfl rfl ?_
      refine ar_move rfl rfl rfl rfl ?_
      refine ar_skip rfl rfl ?_
      refine ar_skip rfl rfl ?_
      refine ar_skip rfl rfl ?_
      refine ar_skip rfl rfl ?_
      refine ar_skip rfl rfl ?_
      refine ar_pickT rfl rfl rfl rfl rfl ?_
      refine ar_nil ?_
      refine then_n ?_
      refine wp_condT rfl ?_
      refine wp_seq ?_
      refine wp_reg (by kernel_rfl) ?_
      refine ar_assign rfl rfl rfl rfl ?_
      refine ar_assign rfl rfl rfl rfl ?_
      refine ar_nil ?_
      refine then_n ?_
      refine wp_ret ?_
      refine then_r (ret_post rfl rfl ?_)
      rw [valuesT_bad (fun h => by have q1 := h.1.1; have q2 := h.1.2; have q3 := h.2.1; have q4 := h.2.2; rw [q2] at h13; cases h13)]; rfl
    · refine ar_assign rfl rfl rfl rfl ?_
      refine ar_nil ?_
      refine then_n ?_
      refine wp_seq ?_
      refine wp_seq ?_
      refine wp_reg (by kernel_rfl) ?_
      refine ar_move rfl rfl rfl rfl ?_
      refine ar_not rfl rfl rfl rfl rfl ?_
      refine ar_move rfl rfl rfl rfl ?_
      refine ar_skip rfl rfl ?_
      refine ar_skip rfl rfl ?_
      refine ar_pickT rfl rfl rfl rfl rfl ?_
      refine ar_move rfl rfl rfl rfl ?_
      refine ar_skip rfl rfl ?_
      refine ar_skip rfl rfl ?_
      refine ar_skip rfl rfl ?_
      refine ar_skip rfl rfl ?_
      refine ar_skip rfl rfl ?_
      refine ar_skip rfl rfl ?_
      refine ar_pickT rfl rfl rfl rfl rfl ?_
      refine ar_move rfl rfl rfl rfl ?_
      refine ar_skip rfl rfl ?_
      refine ar_skip rfl rfl ?_
      refine ar_skip rfl rfl ?_
      refine ar_skip rfl rfl ?_
      refine ar_skip rfl rfl ?_
      refine ar_pickT rfl rfl rfl rfl rfl ?_
      refine ar_nil ?_
      refine then_n ?_
      refine wp_condT rfl ?_
      refine wp_seq ?_
      refine wp_reg (by kernel_rfl) ?_
      refine ar_assign rfl rfl rfl rfl ?_
      refine ar_assign rfl rfl rfl rfl ?_
      refine ar_nil ?_
      refine then_n ?_
      refine wp_ret ?_
      refine then_r (ret_post rfl rfl ?_)
      rw [valuesT_bad (fun h => by have q1 := h.1.1; have q2 := h.1.2; have q3 := h.2.1; have q4 := h.2.2; rw [q2] at h13; cases h13)]; rfl


theorem fillU_step {α : Type} [Inhabited α] (gf : α → Int) (xs : List α) (j : Nat) (hj : j < xs.length) :
    ((xs.take j).map gf ++ List.replicate (xs.length - j) 0).set j (gf (xs.getD j default)) = (xs.take (j + 1)).map gf ++ List.replicate (xs.length - (j + 1)) 0 := by
  have h1 : List.replicate (xs.length - j) (0 : Int) = 0 :: List.replicate (xs.length - (j + 1)) 0 := by
    rw [← List.replicate_succ]; congr 1; omega
  rw [take_snoc hj, h1, List.set_append_right _ _ (by simp; omega)]
  have : j - ((xs.take j).map gf).length = 0 := by simp; omega
  rw [this]
  simp

theorem pc_108 (v : List Int) (ls : List Int) (hv : TriL v) (hl : ls.length ≤ 20000) : PCall Try.prog 108 [slU v, slI ls] (slU (ls.map (litT v))) := by
  refine pc_of tab_ok (f := 108) (fn := Try.f108) (N := 26) (rs := [.tmp 4]) (by kernel_rfl) rfl (by kernel_rfl) rfl rfl [(0, .v (slU v)), (1, .v (slI ls))] ⟨rfl, rfl, trivial⟩ rfl rfl ?_
  intro B
  refine wp_seq ?_
  refine wp_reg (by kernel_rfl) ?_
  refine ar_assign rfl rfl rfl rfl ?_
  refine ar_nil ?_
  refine then_n ?_
  refine wp_seq ?_
  refine wp_reg (by kernel_rfl) ?_
  refine ar_move rfl rfl rfl rfl ?_
  refine ar_len tab_ok rfl rfl tb24 rfl len_map rfl rfl ?_
  refine ar_make 10 (el0 := [.int .u8 0]) tab_ok rfl tb70 rfl tb72 rfl rfl rfl rfl rfl ⟨by omega, by omega, by omega, by simp; omega⟩ rfl rfl rfl rfl rfl ?_
  refine ar_assign rfl rfl rfl rfl ?_
  refine ar_nil ?_
  refine then_n ?_
  refine wp_seq ?_
  refine wp_seq ?_
  refine wp_reg (by kernel_rfl) ?_
  refine ar_move rfl rfl rfl rfl ?_
  refine ar_len tab_ok rfl rfl tb24 rfl len_map rfl rfl ?_
  refine ar_move rfl rfl rfl rfl ?_
  refine ar_nil ?_
  refine then_n ?_
  refine wp_block ?_
  refine wp_loop (α := Nat) (fun j => mk [(0, .v (slU v)), (5, .own 10), (11, .v (slI ls)), (12, .v (.int .i64 (ls.length : Nat))), (13, .v (.int .i64 (j : Nat)))] [(10, .row 72 1 (((ls.take j).map (litT v) ++ List.replicate (ls.length - j) 0).map encU))] 0) (fun j => j ≤ ls.length) (fun j => ls.length - j) 0 (Nat.zero_le _) (le_to ⟨rfl, rfl, rfl, rfl, rfl, trivial⟩ ⟨(row_eq rfl (by simp)), trivial⟩ rfl rfl rfl rfl) ?_
  rintro j hinv
  refine wp_seq ?_
  refine wp_reg (by kernel_rfl) ?_
  refine ar_lss_s rfl rfl rfl rfl rfl (fun h14 => ?_) (fun h14 => ?_)
  · refine ar_nil ?_
    refine then_n ?_
    refine wp_seq ?_
    refine wp_condT rfl ?_
    refine wp_skip ?_
    refine then_n ?_
    refine wp_seq ?_
    refine wp_block ?_
    refine wp_seq ?_
    refine wp_reg (by kernel_rfl) ?_
    refine ar_move rfl rfl rfl rfl ?_
    refine ar_ia tab_ok rfl rfl rfl tb24 rfl tb3 (by omega) (map_get (n := j) (by omega)) rfl rfl rfl ?_
    refine ar_ld_ref tab_ok rfl rfl tb3 rfl rfl rfl rfl ?_
    refine ar_assign rfl rfl rfl rfl ?_
    refine ar_assign rfl rfl rfl rfl ?_
    refine ar_nil ?_
    refine then_n ?_
    refine wp_reg (by kernel_rfl) ?_
    refine ar_move rfl rfl rfl rfl ?_
    refine ar_move rfl rfl rfl rfl ?_
    refine ar_move rfl rfl rfl rfl ?_
    refine ar_move rfl rfl rfl rfl ?_
    refine ar_call [] (pc_61 _ _ hv) rfl rfl rfl rfl rfl rfl trivial (.inl rfl) rfl rfl rfl ?_
    refine ar_ia_own tab_ok rfl rfl rfl rfl tb70 rfl tb72 rfl (by omega) (by simp; omega) rfl rfl rfl rfl ?_
    refine ar_st_e tab_ok rfl tb72 rfl rfl rfl rfl rfl (by simp; omega) set_map rfl rfl rfl ?_
    refine ar_nil ?_
    refine inblk_n ?_
    refine then_n ?_
    refine wp_reg (by kernel_rfl) ?_
    refine ar_addi rfl rfl rfl rfl (by omega) (by omega) rfl rfl ?_
    refine ar_move rfl rfl rfl rfl ?_
    refine ar_nil ?_
    exact loop_n (j + 1) (by omega) (by omega) (le_to ⟨rfl, rfl, rfl, rfl, rfl, trivial⟩ ⟨(row_eq rfl (by exact congrArg _ (fillU_step (litT v) ls j (by omega)))), trivial⟩ rfl rfl rfl rfl)
  · refine ar_nil ?_
    refine then_n ?_
    refine wp_seq ?_
    refine wp_condF rfl ?_
    refine wp_exit ?_
    refine then_x (loop_x (inblk_e ?_))
    refine then_n ?_
    refine wp_seq ?_
    refine wp_reg (by kernel_rfl) ?_
    refine ar_move rfl rfl rfl rfl ?_
    refine ar_assign rfl rfl rfl rfl ?_
    refine ar_nil ?_
    refine then_n ?_
    refine wp_ret ?_
    refine ret_post rfl rfl ?_
    have hi : j = ls.length := by omega
    subst hi
    simp

theorem pc_109 (v : List Int) (ls : List Int) (hl : ls.length ≤ 20000) (hb : ∀ l, l ∈ ls → l ≤ 9223372036854775807) : PCall Try.prog 109 [slU v, slI ls] (slU (ls.map (litT v))) := by
  refine pc_of tab_ok (f := 109) (fn := Try.f109) (N := 23) (rs := [.tmp 4]) (by kernel_rfl) rfl (by kernel_rfl) rfl rfl [(0, .v (slU v)), (1, .v (slI ls))] ⟨rfl, rfl, trivial⟩ rfl rfl ?_
  intro B
  refine wp_seq ?_
  refine wp_reg (by kernel_rfl) ?_
  refine ar_assign rfl rfl rfl rfl ?_
  refine ar_nil ?_
  refine then_n ?_
  refine wp_seq ?_
  refine wp_reg (by kernel_rfl) ?_
  refine ar_assign rfl rfl rfl rfl ?_
  refine ar_nil ?_
  refine then_n ?_
  refine wp_seq ?_
  refine wp_seq ?_
  refine wp_reg (by kernel_rfl) ?_
  refine ar_assign rfl rfl rfl rfl ?_
  refine ar_nil ?_
  refine then_n ?_
  refine wp_block ?_
  refine wp_le (le_nil (t := 5) (id := 900) (e := 72) (sz := 1) rfl rfl (by decide)) ?_
  refine wp_loop (α := Nat) (fun j => mk [(0, .v (slU v)), (1, .v (slI ls)), (5, .own 901), (6, .v (.int .i64 (j : Nat)))] [(901, .row 72 1 (((ls.take j).map (litT v)).map encU))] 0) (fun j => j ≤ ls.length) (fun j => ls.length - j) 0 (Nat.zero_le _) (le_ren [(901, 900)] ⟨rfl, rfl, rfl, rfl, trivial⟩ ⟨rfl, trivial⟩ rfl rfl rfl rfl rfl) ?_
  rintro j hinv
  refine wp_seq ?_
  refine wp_seq ?_
  refine wp_reg (by kernel_rfl) ?_
  refine ar_move rfl rfl rfl rfl ?_
  refine ar_move rfl rfl rfl rfl ?_
  refine ar_len tab_ok rfl rfl tb24 rfl len_map rfl rfl ?_
  refine ar_lss_s rfl rfl rfl rfl rfl (fun h10 => ?_) (fun h10 => ?_)
  · refine ar_nil ?_
    refine then_n ?_
    refine wp_condT rfl ?_
    refine wp_skip ?_
    refine then_n ?_
    refine wp_seq ?_
    refine wp_block ?_
    refine wp_reg (by kernel_rfl) ?_
    refine ar_move rfl rfl rfl rfl ?_
    refine ar_move rfl rfl rfl rfl ?_
    refine ar_move rfl rfl rfl rfl ?_
    refine ar_move rfl rfl rfl rfl ?_
    refine ar_ia tab_ok rfl rfl rfl tb24 rfl tb3 (by omega) (map_get (n := j) (by omega)) rfl rfl rfl ?_
    refine ar_ld_ref tab_ok rfl rfl tb3 rfl rfl rfl rfl ?_
    refine ar_call [] (pc_62 _ _ (hb _ (getD_mem (by omega)))) rfl rfl rfl rfl rfl rfl trivial (.inl rfl) rfl rfl rfl ?_
    refine ar_bs [] tab_ok rfl tb70 rfl tb72 rfl trivial rfl rfl rfl rfl rfl rfl rfl rfl ?_
    refine ar_app 21 [] tab_ok rfl tb70 rfl tb70 rfl tb72 rfl rfl rfl rfl ⟨rfl, rfl, trivial⟩ rfl (elOk.cons rfl rfl elOk.nil) app_one (by constructor <;> simp <;> omega) rfl rfl rfl ?_
    refine ar_assign rfl rfl rfl rfl ?_
    refine ar_nil ?_
    refine inblk_n ?_
    refine then_n ?_
    refine wp_reg (by kernel_rfl) ?_
    refine ar_move rfl rfl rfl rfl ?_
    refine ar_addi rfl rfl rfl rfl (by omega) (by omega) rfl rfl ?_
    refine ar_assign rfl rfl rfl rfl ?_
    refine ar_nil ?_
    exact loop_n (j + 1) (by omega) (by omega) (le_ren [(901, 21)] ⟨rfl, rfl, rfl, rfl, trivial⟩ ⟨(row_eq rfl (by rw [take_snoc (by omega)]; simp)), trivial⟩ rfl rfl rfl rfl rfl)
  · refine ar_nil ?_
    refine then_n ?_
    refine wp_condF rfl ?_
    refine wp_exit ?_
    refine then_x (loop_x (inblk_e ?_))
    refine then_n ?_
    refine wp_seq ?_
    refine wp_reg (by kernel_rfl) ?_
    refine ar_move rfl rfl rfl rfl ?_
    refine ar_assign rfl rfl rfl rfl ?_
    refine ar_nil ?_
    refine then_n ?_
    refine wp_ret ?_
    refine ret_post rfl rfl ?_
    have hi : j = ls.length := by omega
    subst hi
    rw [List.take_length]


theorem valuesT_stepT {a : Aig} {st inp : List Int} : (valuesT a st inp).2 = 0 → stepT a st inp = stepTV a (valuesT a st inp).1 := fun h => by
  by_cases hs : shapeT a st inp
  · rw [valuesT_ok hs, stepT_ok hs]
  · rw [valuesT_bad hs] at h; cases h
theorem valuesT_stepN {a : Aig} {st inp : List Int} : (valuesT a st inp).2 ≠ 0 → stepT a st inp = ⟨[], [], [], [], (valuesT a st inp).2⟩ := fun h => by
  by_cases hs : shapeT a st inp
  · rw [valuesT_ok hs] at h; exact absurd rfl h
  · rw [valuesT_bad hs, stepT_bad hs]

theorem pc_58 (a : Aig) (st inp : List Int) (hb : Bd a) (h0 : Nn st) (h1 : Nn inp) (hl0 : st.length ≤ 9223372036854775807) (hl1 : inp.length ≤ 9223372036854775807) : PCall Try.prog 58 [aigV a, slU st, slU inp] ((stepT a st inp).v) := by
  refine pc_of tab_ok (f := 58) (fn := Try.f58) (N := 54) (rs := [.tmp 6, .cell 7 83, .tmp 8]) (by kernel_rfl) rfl (by kernel_rfl) rfl rfl [(0, .v (aigV a)), (1, .v (slU st)), (2, .v (slU inp))] ⟨rfl, rfl, rfl, trivial⟩ rfl rfl ?_
  intro B
  have hb0 := hb.i0; have hb1 := hb.i1; have hb2 := hb.l1; have hb3 := hb.g1; have hv : varsS a = a.i + a.l.length + a.g.length := rfl
  have hvt := valuesT_tri (a := a) h0 h1
  refine wp_seq ?_
  refine wp_reg (by kernel_rfl) ?_
  refine ar_box 3 [] rfl rfl rfl ⟨rfl, trivial⟩ rfl rfl rfl ?_
  refine ar_assign rfl rfl rfl rfl ?_
  refine ar_alloc (id := 7) tab_ok rfl rfl tb83 rfl rfl rfl rfl ?_
  refine ar_assign rfl rfl rfl rfl ?_
  refine ar_nil ?_
  refine then_n ?_
  refine wp_seq ?_
  refine wp_reg (by kernel_rfl) ?_
  refine ar_lda tab_ok rfl rfl rfl tb27 rfl rfl rfl rfl rfl rfl ?_
  refine ar_move rfl rfl rfl rfl ?_
  refine ar_move rfl rfl rfl rfl ?_
  refine ar_call [] (pc_56 a st inp hb h0 h1 hl0 hl1) rfl rfl rfl rfl rfl rfl trivial (.inl rfl) rfl rfl rfl ?_
  refine ar_move rfl rfl rfl rfl ?_
  refine ar_ext rfl rfl rfl rfl rfl ?_
  refine ar_ext rfl rfl rfl rfl rfl ?_
  refine ar_assign rfl rfl rfl rfl ?_
  refine ar_assign rfl rfl rfl rfl ?_
  refine ar_nil ?_
  refine then_n ?_
  refine wp_seq ?_
  refine wp_seq ?_
  refine wp_reg (by kernel_rfl) ?_
  refine ar_move rfl rfl rfl rfl ?_
  refine ar_neq_s rfl rfl rfl rfl rfl (fun h22 => ?_) (fun h22 => ?_)
  · refine ar_nil ?_
    refine then_n ?_
    refine wp_condT rfl ?_
    refine wp_seq ?_
    refine wp_reg (by kernel_rfl) ?_
    refine ar_builda [] tab_ok rfl tb83 rfl tb70 rfl trivial rfl rfl rfl rfl rfl rfl ?_
    refine ar_move rfl rfl rfl rfl ?_
    refine ar_assign rfl rfl rfl rfl ?_
    refine ar_st [] tab_ok rfl tb83 rfl rfl rfl trivial rfl rfl rfl rfl rfl rfl rfl rfl ?_
    refine ar_assign rfl rfl rfl rfl ?_
    refine ar_nil ?_
    refine then_n ?_
    refine wp_ret ?_
    refine then_r (ret_post rfl rfl ?_)
    rw [valuesT_stepN h22]; rfl
  · refine ar_nil ?_
    refine then_n ?_
    refine wp_condF rfl ?_
    refine wp_skip ?_
    refine then_n ?_
    refine wp_seq ?_
    refine wp_reg (by kernel_rfl) ?_
    refine ar_assign rfl rfl rfl rfl ?_
    refine ar_nil ?_
    refine then_n ?_
    refine wp_seq ?_
    refine wp_seq ?_
    refine wp_reg (by kernel_rfl) ?_
    refine ar_fa tab_ok rfl rfl rfl tb27 rfl rfl rfl rfl rfl ?_
    refine ar_ld tab_ok rfl rfl rfl tb22 rfl rfl rfl rfl rfl ?_
    refine ar_len tab_ok rfl rfl tb22 rfl len_map rfl rfl ?_
    refine ar_move rfl rfl rfl rfl ?_
    refine ar_nil ?_
    refine then_n ?_
    refine wp_block ?_
    refine wp_le (le_nil (t := 11) (id := 900) (e := 3) (sz := 1) rfl rfl (by decide)) ?_
    refine wp_loop (α := Nat) (fun j => mk [(3, .ptr 3 0), (7, .ptr 7 0), (9, .v (slU (valuesT a st inp).1)), (11, .own 901), (26, .v (slL a.l)), (27, .v (.int .i64 (a.l.length : Nat))), (28, .v (.int .i64 (j : Nat)))] [(3, .box ((encA a).map .v)), (7, .box [.nils, .nils, .nils]), (901, .row 3 1 (((a.l.take j).map Latch.next).map encI))] 0) (fun j => j ≤ a.l.length) (fun j => a.l.length - j) 0 (Nat.zero_le _) (le_ren [(901, 900)] ⟨rfl, rfl, rfl, rfl, rfl, rfl, rfl, trivial⟩ ⟨rfl, rfl, rfl, trivial⟩ rfl rfl rfl rfl rfl) ?_
    rintro j hinv
    refine wp_seq ?_
    refine wp_reg (by kernel_rfl) ?_
    refine ar_lss_s rfl rfl rfl rfl rfl (fun h29 => ?_) (fun h29 => ?_)
    · refine ar_nil ?_
      refine then_n ?_
      refine wp_seq ?_
      refine wp_condT rfl ?_
      refine wp_skip ?_
      refine then_n ?_
      refine wp_seq ?_
      refine wp_block ?_
      refine wp_seq ?_
      refine wp_reg (by kernel_rfl) ?_
      refine ar_ia tab_ok rfl rfl rfl tb22 rfl tb63 (by omega) (map_get (n := j) (by omega)) rfl rfl rfl ?_
      refine ar_ld_refa tab_ok rfl rfl tb63 rfl rfl rfl rfl rfl ?_
      refine ar_alloc (id := 13) tab_ok rfl rfl tb63 rfl rfl rfl rfl ?_
      refine ar_st [] tab_ok rfl tb63 rfl rfl rfl trivial rfl rfl rfl rfl rfl rfl rfl rfl ?_
      refine ar_nil ?_
      refine then_n ?_
      refine wp_reg (by kernel_rfl) ?_
      refine ar_move rfl rfl rfl rfl ?_
      refine ar_fa tab_ok rfl rfl rfl tb63 rfl rfl rfl rfl rfl ?_
      refine ar_ld tab_ok rfl rfl rfl tb3 rfl rfl rfl rfl rfl ?_
      refine ar_bs [] tab_ok rfl tb24 rfl tb3 rfl trivial rfl rfl rfl rfl rfl rfl rfl rfl ?_
      refine ar_app 36 [] tab_ok rfl tb24 rfl tb24 rfl tb3 rfl rfl rfl rfl ⟨rfl, rfl, trivial⟩ rfl (elOk.cons rfl rfl elOk.nil) app_one (by constructor <;> simp <;> omega) rfl rfl rfl ?_
      refine ar_assign rfl rfl rfl rfl ?_
      refine ar_nil ?_
      refine inblk_n ?_
      refine then_n ?_
      refine wp_reg (by kernel_rfl) ?_
      refine ar_addi rfl rfl rfl rfl (by omega) (by omega) rfl rfl ?_
      refine ar_move rfl rfl rfl rfl ?_
      refine ar_nil ?_
      exact loop_n (j + 1) (by omega) (by omega) (le_ren [(901, 36)] ⟨rfl, rfl, rfl, rfl, rfl, rfl, rfl, trivial⟩ ⟨rfl, rfl, (row_eq rfl (by rw [take_snoc (by omega)]; simp)), trivial⟩ rfl rfl rfl rfl rfl)
    · refine ar_nil ?_
      refine then_n ?_
      refine wp_seq ?_
      refine wp_condF rfl ?_
      refine wp_exit ?_
      refine then_x (loop_x (inblk_e ?_))
      refine then_n ?_
      refine wp_seq ?_
      refine wp_le (le_give_row (id := 901) rfl) ?_
      refine wp_to [(3, .ptr 3 0), (7, .ptr 7 0), (9, .v (slU (valuesT a st inp).1)), (11, .v (slI (a.l.map Latch.next)))] [(3, .box ((encA a).map .v)), (7, .box [.nils, .nils, .nils])] ⟨rfl, rfl, rfl, (t_eq rfl (by rw [List.take_of_length_le (by omega)]; rfl)), trivial⟩ ⟨rfl, rfl, trivial⟩ rfl rfl rfl rfl ?_
      refine wp_draw (L := [([], []), ([], []), ([], []), ([], []), ([3], []), ([3], []), ([], []), ([], []), ([3], []), ([3], []), ([], []), ([], []), ([3], []), ([3], []), ([], []), ([], []), ([], []), ([7], [7]), ([], [])]) (by kernel_rfl) mixed (by kernel_rfl) ?_
      refine ar_move rfl rfl rfl rfl ?_
      refine ar_move rfl rfl rfl rfl ?_
      refine ar_call [] (pc_108 _ (a.l.map Latch.next) hvt (by simp; omega)) rfl rfl rfl rfl rfl rfl trivial (.inl rfl) rfl rfl rfl ?_
      refine ar_move rfl rfl rfl rfl ?_
      refine ar_fa tab_ok rfl rfl rfl tb27 rfl rfl rfl rfl rfl ?_
      refine ar_ld tab_ok rfl rfl rfl tb24 rfl rfl rfl rfl rfl ?_
      refine ar_call [] (pc_108 _ a.outs hvt hb.o1) rfl rfl rfl rfl rfl rfl trivial (.inl rfl) rfl rfl rfl ?_
      refine ar_move rfl rfl rfl rfl ?_
      refine ar_fa tab_ok rfl rfl rfl tb27 rfl rfl rfl rfl rfl ?_
      refine ar_ld tab_ok rfl rfl rfl tb24 rfl rfl rfl rfl rfl ?_
      refine ar_call [] (pc_108 _ a.bad hvt hb.b1) rfl rfl rfl rfl rfl rfl trivial (.inl rfl) rfl rfl rfl ?_
      refine ar_move rfl rfl rfl rfl ?_
      refine ar_fa tab_ok rfl rfl rfl tb27 rfl rfl rfl rfl rfl ?_
      refine ar_ld tab_ok rfl rfl rfl tb24 rfl rfl rfl rfl rfl ?_
      refine ar_call [] (pc_108 _ a.con hvt hb.c1) rfl rfl rfl rfl rfl rfl trivial (.inl rfl) rfl rfl rfl ?_
      refine ar_builda [] tab_ok rfl tb83 rfl tb70 rfl trivial rfl rfl rfl rfl rfl rfl ?_
      refine ar_assign rfl rfl rfl rfl ?_
      refine ar_st [] tab_ok rfl tb83 rfl rfl rfl trivial rfl rfl rfl rfl rfl rfl rfl rfl ?_
      refine ar_assign rfl rfl rfl rfl ?_
      refine ar_nil ?_
      refine then_n ?_
      refine wp_ret ?_
      refine ret_post rfl rfl ?_
      rw [valuesT_stepT (Decidable.not_not.1 h22)]; simp [StepT.v, Function.comp_def]

theorem pc_59 (a : Aig) (st inp : List Int) (hg : Good a) (hl0 : st.length ≤ 9223372036854775807) (hl1 : inp.length ≤ 9223372036854775807) : PCall Try.prog 59 [aigV a, slU st, slU inp] ((stepT a st inp).v) := by
  refine pc_of tab_ok (f := 59) (fn := Try.f59) (N := 56) (rs := [.tmp 6, .cell 7 83, .tmp 8]) (by kernel_rfl) rfl (by kernel_rfl) rfl rfl [(0, .v (aigV a)), (1, .v (slU st)), (2, .v (slU inp))] ⟨rfl, rfl, rfl, trivial⟩ rfl rfl ?_
  intro B
  have hb := hg.bd; have hb0 := hb.i0; have hb1 := hb.i1; have hb2 := hb.l1; have hb3 := hb.g1
  have hv := hg.vars
  have hn : ∀ j, j < a.l.length → (a.l.getD j default).next ≤ 9223372036854775807 := fun j hj => by have := (hg.right.l j hj).2.1; omega
  have ho : ∀ x, (x ∈ a.outs ∨ x ∈ a.bad ∨ x ∈ a.con) → x ≤ 9223372036854775807 := fun x hx => by have := (hg.lit hx).2; omega
  refine wp_seq ?_
  refine wp_reg (by kernel_rfl) ?_
  refine ar_box 3 [] rfl rfl rfl ⟨rfl, trivial⟩ rfl rfl rfl ?_
  refine ar_assign rfl rfl rfl rfl ?_
  refine ar_alloc (id := 7) tab_ok rfl rfl tb83 rfl rfl rfl rfl ?_
  refine ar_assign rfl rfl rfl rfl ?_
  refine ar_nil ?_
  refine then_n ?_
  refine wp_seq ?_
  refine wp_reg (by kernel_rfl) ?_
  refine ar_lda tab_ok rfl rfl rfl tb27 rfl rfl rfl rfl rfl rfl ?_
  refine ar_move rfl rfl rfl rfl ?_
  refine ar_move rfl rfl rfl rfl ?_
  refine ar_call [] (pc_57 a st inp hg hl0 hl1) rfl rfl rfl rfl rfl rfl trivial (.inl rfl) rfl rfl rfl ?_
  refine ar_move rfl rfl rfl rfl ?_
  refine ar_ext rfl rfl rfl rfl rfl ?_
  refine ar_ext rfl rfl rfl rfl rfl ?_
  refine ar_assign rfl rfl rfl rfl ?_
  refine ar_assign rfl rfl rfl rfl ?_
  refine ar_nil ?_
  refine then_n ?_
  refine wp_seq ?_
  refine wp_seq ?_
  refine wp_reg (by kernel_rfl) ?_
  refine ar_move rfl rfl rfl rfl ?_
  refine ar_neq_s rfl rfl rfl rfl rfl (fun h21 => ?_) (fun h21 => ?_)
  · refine ar_nil ?_
    refine then_n ?_
    refine wp_condT rfl ?_
    refine wp_seq ?_
    refine wp_reg (by kernel_rfl) ?_
    refine ar_builda [] tab_ok rfl tb83 rfl tb70 rfl trivial rfl rfl rfl rfl rfl rfl ?_
    refine ar_move rfl rfl rfl rfl ?_
    refine ar_assign rfl rfl rfl rfl ?_
    refine ar_st [] tab_ok rfl tb83 rfl rfl rfl trivial rfl rfl rfl rfl rfl rfl rfl rfl ?_
    refine ar_assign rfl rfl rfl rfl ?_
    refine ar_nil ?_
    refine then_n ?_
    refine wp_ret ?_
    refine then_r (ret_post rfl rfl ?_)
    rw [valuesT_stepN h21]; rfl
  · refine ar_nil ?_
    refine then_n ?_
    refine wp_condF rfl ?_
    refine wp_skip ?_
    refine then_n ?_
    refine wp_seq ?_
    refine wp_reg (by kernel_rfl) ?_
    refine ar_assign rfl rfl rfl rfl ?_
    refine ar_nil ?_
    refine then_n ?_
    refine wp_seq ?_
    refine wp_seq ?_
    refine wp_reg (by kernel_rfl) ?_
    refine ar_assign rfl rfl rfl rfl ?_
    refine ar_nil ?_
    refine then_n ?_
    refine wp_block ?_
    refine wp_le (le_nil (t := 11) (id := 900) (e := 72) (sz := 1) rfl rfl (by decide)) ?_
    refine wp_loop (α := Nat) (fun j => mk [(3, .ptr 3 0), (7, .ptr 7 0), (9, .v (slU (valuesT a st inp).1)), (11, .own 901), (12, .v (.int .i64 (j : Nat)))] [(3, .box ((encA a).map .v)), (7, .box [.nils, .nils, .nils]), (901, .row 72 1 (((a.l.take j).map fun l => litT (valuesT a st inp).1 l.next).map encU))] 0) (fun j => j ≤ a.l.length) (fun j => a.l.length - j) 0 (Nat.zero_le _) (le_ren [(901, 900)] ⟨rfl, rfl, rfl, rfl, rfl, trivial⟩ ⟨rfl, rfl, rfl, trivial⟩ rfl rfl rfl rfl rfl) ?_
    rintro j hinv
    refine wp_seq ?_
    refine wp_seq ?_
    refine wp_reg (by kernel_rfl) ?_
    refine ar_move rfl rfl rfl rfl ?_
    refine ar_fa tab_ok rfl rfl rfl tb27 rfl rfl rfl rfl rfl ?_
    refine ar_ld tab_ok rfl rfl rfl tb22 rfl rfl rfl rfl rfl ?_
    refine ar_len tab_ok rfl rfl tb22 rfl len_map rfl rfl ?_
    refine ar_lss_s rfl rfl rfl rfl rfl (fun h28 => ?_) (fun h28 => ?_)
    · refine ar_nil ?_
      refine then_n ?_
      refine wp_condT rfl ?_
      refine wp_skip ?_
      refine then_n ?_
      refine wp_seq ?_
      refine wp_block ?_
      refine wp_reg (by kernel_rfl) ?_
      refine ar_move rfl rfl rfl rfl ?_
      refine ar_move rfl rfl rfl rfl ?_
      refine ar_fa tab_ok rfl rfl rfl tb27 rfl rfl rfl rfl rfl ?_
      refine ar_ld tab_ok rfl rfl rfl tb22 rfl rfl rfl rfl rfl ?_
      refine ar_move rfl rfl rfl rfl ?_
      refine ar_ia tab_ok rfl rfl rfl tb22 rfl tb63 (by omega) (map_get (n := j) (by omega)) rfl rfl rfl ?_
      refine ar_fa_ref tab_ok rfl rfl tb63 rfl rfl rfl rfl ?_
      refine ar_ld_ref tab_ok rfl rfl tb3 rfl rfl rfl rfl ?_
      refine ar_call [] (pc_62 _ _ (hn j (by omega))) rfl rfl rfl rfl rfl rfl trivial (.inl rfl) rfl rfl rfl ?_
      refine ar_bs [] tab_ok rfl tb70 rfl tb72 rfl trivial rfl rfl rfl rfl rfl rfl rfl rfl ?_
      refine ar_app 41 [] tab_ok rfl tb70 rfl tb70 rfl tb72 rfl rfl rfl rfl ⟨rfl, rfl, trivial⟩ rfl (elOk.cons rfl rfl elOk.nil) app_one (by constructor <;> simp <;> omega) rfl rfl rfl ?_
      refine ar_assign rfl rfl rfl rfl ?_
      refine ar_nil ?_
      refine inblk_n ?_
      refine then_n ?_
      refine wp_reg (by kernel_rfl) ?_
      refine ar_move rfl rfl rfl rfl ?_
      refine ar_addi rfl rfl rfl rfl (by omega) (by omega) rfl rfl ?_
      refine ar_assign rfl rfl rfl rfl ?_
      refine ar_nil ?_
      exact loop_n (j + 1) (by omega) (by omega) (le_ren [(901, 41)] ⟨rfl, rfl, rfl, rfl, rfl, trivial⟩ ⟨rfl, rfl, (row_eq rfl (by rw [take_snoc (by omega)]; simp)), trivial⟩ rfl rfl rfl rfl rfl)
    · refine ar_nil ?_
      refine then_n ?_
      refine wp_condF rfl ?_
      refine wp_exit ?_
      refine then_x (loop_x (inblk_e ?_))
      refine then_n ?_
      refine wp_seq ?_
      refine wp_draw (L := [([], []), ([], []), ([3], []), ([3], []), ([], []), ([], []), ([3], []), ([3], []), ([], []), ([], []), ([3], []), ([3], []), ([], []), ([], []), ([], []), ([7], [7]), ([], [])]) (by kernel_rfl) mixed (by kernel_rfl) ?_
      refine ar_move rfl rfl rfl rfl ?_
      refine ar_move rfl rfl rfl rfl ?_
      refine ar_fa tab_ok rfl rfl rfl tb27 rfl rfl rfl rfl rfl ?_
      refine ar_ld tab_ok rfl rfl rfl tb24 rfl rfl rfl rfl rfl ?_
      refine ar_call [] (pc_109 _ a.outs hb.o1 (fun l hl => ho l (.inl hl))) rfl rfl rfl rfl rfl rfl trivial (.inl rfl) rfl rfl rfl ?_
      refine ar_move rfl rfl rfl rfl ?_
      refine ar_fa tab_ok rfl rfl rfl tb27 rfl rfl rfl rfl rfl ?_
      refine ar_ld tab_ok rfl rfl rfl tb24 rfl rfl rfl rfl rfl ?_
      refine ar_call [] (pc_109 _ a.bad hb.b1 (fun l hl => ho l (.inr (.inl hl)))) rfl rfl rfl rfl rfl rfl trivial (.inl rfl) rfl rfl rfl ?_
      refine ar_move rfl rfl rfl rfl ?_
      refine ar_fa tab_ok rfl rfl rfl tb27 rfl rfl rfl rfl rfl ?_
      refine ar_ld tab_ok rfl rfl rfl tb24 rfl rfl rfl rfl rfl ?_
      refine ar_call [] (pc_109 _ a.con hb.c1 (fun l hl => ho l (.inr (.inr hl)))) rfl rfl rfl rfl rfl rfl trivial (.inl rfl) rfl rfl rfl ?_
      refine ar_builda [] tab_ok rfl tb83 rfl tb70 rfl trivial rfl rfl rfl rfl rfl rfl ?_
      refine ar_assign rfl rfl rfl rfl ?_
      refine ar_st [] tab_ok rfl tb83 rfl rfl rfl trivial rfl rfl rfl rfl rfl rfl rfl rfl ?_
      refine ar_assign rfl rfl rfl rfl ?_
      refine ar_nil ?_
      refine then_n ?_
      refine wp_ret ?_
      refine ret_post rfl rfl ?_
      have hi : j = a.l.length := by omega
      subst hi
      rw [valuesT_stepT (Decidable.not_not.1 h21), List.take_length]; rfl

theorem pr_63 (xs : List Bool) (hl : xs.length ≤ 1000000) : PRow Try.prog 63 [slB xs] 72 1 ((xs.map ofB).map encU) := by
  refine pr_of tab_ok (f := 63) (fn := Try.f63) (N := 22) (t := 2) (by kernel_rfl) rfl (by kernel_rfl) rfl rfl [(0, .v (slB xs))] ⟨rfl, trivial⟩ rfl rfl ?_
  intro B
  refine wp_seq ?_
  refine wp_reg (by kernel_rfl) ?_
  refine ar_assign rfl rfl rfl rfl ?_
  refine ar_nil ?_
  refine then_n ?_
  refine wp_seq ?_
  refine wp_reg (by kernel_rfl) ?_
  refine ar_assign rfl rfl rfl rfl ?_
  refine ar_nil ?_
  refine then_n ?_
  refine wp_seq ?_
  refine wp_seq ?_
  refine wp_reg (by kernel_rfl) ?_
  refine ar_assign rfl rfl rfl rfl ?_
  refine ar_nil ?_
  refine then_n ?_
  refine wp_block ?_
  refine wp_le (le_nil (t := 3) (id := 900) (e := 72) (sz := 1) rfl rfl (by decide)) ?_
  refine wp_loop (α := Nat) (fun j => mk [(0, .v (slB xs)), (3, .own 901), (4, .v (.int .i64 (j : Nat)))] [(901, .row 72 1 (((xs.take j).map ofB).map encU))] 0) (fun j => j ≤ xs.length) (fun j => xs.length - j) 0 (Nat.zero_le _) (le_ren [(901, 900)] ⟨rfl, rfl, rfl, trivial⟩ ⟨rfl, trivial⟩ rfl rfl rfl rfl rfl) ?_
  rintro j hinv
  refine wp_seq ?_
  refine wp_seq ?_
  refine wp_reg (by kernel_rfl) ?_
  refine ar_move rfl rfl rfl rfl ?_
  refine ar_move rfl rfl rfl rfl ?_
  refine ar_len tab_ok rfl rfl tb28 rfl len_map rfl rfl ?_
  refine ar_lss_s rfl rfl rfl rfl rfl (fun h8 => ?_) (fun h8 => ?_)
  · refine ar_nil ?_
    refine then_n ?_
    refine wp_condT rfl ?_
    refine wp_skip ?_
    refine then_n ?_
    refine wp_seq ?_
    refine wp_block ?_
    refine wp_seq ?_
    refine wp_reg (by kernel_rfl) ?_
    refine ar_move rfl rfl rfl rfl ?_
    refine ar_move rfl rfl rfl rfl ?_
    refine ar_ia tab_ok rfl rfl rfl tb28 rfl tb4 (by omega) (map_get (n := j) (by omega)) rfl rfl rfl ?_
    refine ar_ld_ref tab_ok rfl rfl tb4 rfl rfl rfl rfl ?_
    refine ar_split (fun h14 => ?_) (fun h14 => ?_)
    · refine ar_nil ?_
      refine then_n ?_
      refine wp_condT rfl ?_
      refine wp_reg (by kernel_rfl) ?_
      refine ar_move rfl rfl rfl rfl ?_
      refine ar_bs [] tab_ok rfl tb70 rfl tb72 rfl trivial rfl rfl rfl rfl rfl rfl rfl rfl ?_
      refine ar_app 17 [] tab_ok rfl tb70 rfl tb70 rfl tb72 rfl rfl rfl rfl ⟨rfl, rfl, trivial⟩ rfl (elOk.cons rfl rfl elOk.nil) app_one (by constructor <;> simp <;> omega) rfl rfl rfl ?_
      refine ar_assign rfl rfl rfl rfl ?_
      refine ar_nil ?_
      refine inblk_n ?_
      refine then_n ?_
      refine wp_reg (by kernel_rfl) ?_
      refine ar_move rfl rfl rfl rfl ?_
      refine ar_addi rfl rfl rfl rfl (by omega) (by omega) rfl rfl ?_
      refine ar_assign rfl rfl rfl rfl ?_
      refine ar_nil ?_
      exact loop_n (j + 1) (by omega) (by omega) (le_ren [(901, 17)] ⟨rfl, rfl, rfl, trivial⟩ ⟨(row_eq rfl (by rw [take_snoc (by omega), List.map_append, List.map_cons, h14]; simp [ofB])), trivial⟩ rfl rfl rfl rfl rfl)
    · refine ar_nil ?_
      refine then_n ?_
      refine wp_condF rfl ?_
      refine wp_reg (by kernel_rfl) ?_
      refine ar_move rfl rfl rfl rfl ?_
      refine ar_bs [] tab_ok rfl tb70 rfl tb72 rfl trivial rfl rfl rfl rfl rfl rfl rfl rfl ?_
      refine ar_app 20 [] tab_ok rfl tb70 rfl tb70 rfl tb72 rfl rfl rfl rfl ⟨rfl, rfl, trivial⟩ rfl (elOk.cons rfl rfl elOk.nil) app_one (by constructor <;> simp <;> omega) rfl rfl rfl ?_
      refine ar_assign rfl rfl rfl rfl ?_
      refine ar_nil ?_
      refine inblk_n ?_
      refine then_n ?_
      refine wp_reg (by kernel_rfl) ?_
      refine ar_move rfl rfl rfl rfl ?_
      refine ar_addi rfl rfl rfl rfl (by omega) (by omega) rfl rfl ?_
      refine ar_assign rfl rfl rfl rfl ?_
      refine ar_nil ?_
      exact loop_n (j + 1) (by omega) (by omega) (le_ren [(901, 20)] ⟨rfl, rfl, rfl, trivial⟩ ⟨(row_eq rfl (by rw [take_snoc (by omega), List.map_append, List.map_cons, h14]; simp [ofB])), trivial⟩ rfl rfl rfl rfl rfl)
  · refine ar_nil ?_
    refine then_n ?_
    refine wp_condF rfl ?_
    refine wp_exit ?_
    refine then_x (loop_x (inblk_e ?_))
    refine then_n ?_
    refine wp_seq ?_
    refine wp_reg (by kernel_rfl) ?_
    refine ar_move rfl rfl rfl rfl ?_
    refine ar_assign rfl rfl rfl rfl ?_
    refine ar_nil ?_
    refine then_n ?_
    refine wp_ret ?_
    refine ⟨.inl ⟨901, rfl, ?_⟩, rfl⟩
    have hi : j = xs.length := by omega
    subst hi
    rw [List.take_length]; rfl

theorem pc_63 (xs : List Bool) (hl : xs.length ≤ 1000000) : PCall Try.prog 63 [slB xs] (slU (xs.map ofB)) := (pr_63 xs hl).toCall

theorem pc_64 (xs : List Bool) (n : Int) (x : Int) (hl : xs.length ≤ 1000000) (h0 : 0 ≤ n) (h1 : n < xs.length) : PCall Try.prog 64 [slB xs, .int .i64 n, .int .u8 x] (slU ((xs.map ofB).set n.toNat x)) := by
  refine pc_of tab_ok (f := 64) (fn := Try.f64) (N := 15) (rs := [.tmp 6]) (by kernel_rfl) rfl (by kernel_rfl) rfl rfl [(0, .v (slB xs)), (1, .v (.int .i64 n)), (2, .v (.int .u8 x))] ⟨rfl, rfl, rfl, trivial⟩ rfl rfl ?_
  intro B
  refine wp_seq ?_
  refine wp_reg (by kernel_rfl) ?_
  refine ar_assign rfl rfl rfl rfl ?_
  refine ar_nil ?_
  refine then_n ?_
  refine wp_seq ?_
  refine wp_reg (by kernel_rfl) ?_
  refine ar_move rfl rfl rfl rfl ?_
  refine ar_callrow 9 (pr_63 xs hl) rfl rfl rfl rfl rfl rfl rfl rfl rfl rfl ?_
  refine ar_assign rfl rfl rfl rfl ?_
  refine ar_nil ?_
  refine then_n ?_
  refine wp_seq ?_
  refine wp_reg (by kernel_rfl) ?_
  refine ar_move rfl rfl rfl rfl ?_
  refine ar_move rfl rfl rfl rfl ?_
  refine ar_move rfl rfl rfl rfl ?_
  refine ar_ia_own tab_ok rfl rfl rfl rfl tb70 rfl tb72 rfl (by omega) (by simp; omega) rfl rfl rfl rfl ?_
  refine ar_st_e tab_ok rfl tb72 rfl rfl rfl rfl rfl (by simp; omega) set_map rfl rfl rfl ?_
  refine ar_nil ?_
  refine then_n ?_
  refine wp_seq ?_
  refine wp_reg (by kernel_rfl) ?_
  refine ar_move rfl rfl rfl rfl ?_
  refine ar_assign rfl rfl rfl rfl ?_
  refine ar_nil ?_
  refine then_n ?_
  refine wp_ret ?_
  refine ret_post rfl rfl ?_
  rfl

theorem pce_55 (a : Aig) (hf : Fit a) : PCallE Try.prog 55 [aigV a] (fun r => ∃ b : Bool, r = .bool b ∧ (b = true → Good a)) := by
  refine pce_of tab_ok (f := 55) (fn := Try.f55) (N := 5) (rs := [.tmp 2]) (by kernel_rfl) rfl (by kernel_rfl) rfl rfl [(0, .v (aigV a))] ⟨rfl, trivial⟩ rfl rfl ?_
  intro B
  refine wp_seq ?_
  refine wp_reg (by kernel_rfl) ?_
  refine ar_box 1 [] rfl rfl rfl ⟨rfl, trivial⟩ rfl rfl rfl ?_
  refine ar_assign rfl rfl rfl rfl ?_
  refine ar_nil ?_
  refine then_n ?_
  refine wp_seq ?_
  refine wp_reg (by kernel_rfl) ?_
  refine ar_lda tab_ok rfl rfl rfl tb27 rfl rfl rfl rfl rfl rfl ?_
  refine ar_callE [] (pce_30 a hf) rfl rfl rfl rfl rfl rfl trivial (.inl rfl) rfl rfl rfl ?_
  rintro _ ⟨b4, rfl, hb4⟩
  refine ar_assign rfl rfl rfl rfl ?_
  refine ar_nil ?_
  refine then_n ?_
  refine wp_ret ?_
  refine ret_postE rfl rfl ?_
  exact ⟨_, rfl, hb4⟩

end Go.Vd
