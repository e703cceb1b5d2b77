/- Walks over data, merged (part 4): what the laws of this claim use. -/
import Derived.Test.YtjbfplfopagpjaaMc
namespace Go.Vd
open Go.Proofs
def TriL (v : List Int) : Prop := ∀ x, x ∈ v → Tri x
def Nn (v : List Int) : Prop := ∀ x, x ∈ v → 0 ≤ x
theorem isTri_iff {v : List Int} : isTri v = true ↔ ∀ x, x ∈ v → x ≤ 2 := by simp [isTri]
theorem triL_of {v : List Int} (h : isTri v = true) (h0 : Nn v) : TriL v := fun x hx => ⟨h0 x hx, isTri_iff.1 h x hx⟩
theorem TriL.isTri {v : List Int} (h : TriL v) : isTri v = true := isTri_iff.2 fun x hx => (h x hx).2
theorem TriL.append {v w : List Int} (h : TriL v) (h' : TriL w) : TriL (v ++ w) := fun x hx => by
  rcases List.mem_append.1 hx with hx | hx
  · exact h x hx
  · exact h' x hx
theorem TriL.cons {x : Int} {v : List Int} (h : Tri x) (h' : TriL v) : TriL (x :: v) := fun y hy => by
  rcases List.mem_cons.1 hy with rfl | hy
  · exact h
  · exact h' y hy
theorem TriL.nil : TriL [] := fun x hx => by cases hx
theorem tri0 : Tri 0 := ⟨by decide, by decide⟩
theorem tri1 : Tri 1 := ⟨by decide, by decide⟩
theorem tri2 : Tri 2 := ⟨by decide, by decide⟩
def litT (v : List Int) (l : Int) : Int := if 0 ≤ l ∧ l / 2 < v.length then (if l % 2 = 1 then notT (v.getD (l / 2).toNat default) else v.getD (l / 2).toNat default) else 2
theorem litT_out {v : List Int} {l : Int} (h : ¬ (0 ≤ l ∧ l / 2 < v.length)) : litT v l = 2 := by simp only [litT]; rw [if_neg h]
theorem litT_odd {v : List Int} {l : Int} (h : 0 ≤ l) (h' : l / 2 < v.length) (h1 : l % 2 = 1) : litT v l = notT (v.getD (l / 2).toNat default) := by simp only [litT]; rw [if_pos ⟨h, h'⟩, if_pos h1]
theorem litT_even {v : List Int} {l : Int} (h : 0 ≤ l) (h' : l / 2 < v.length) (h1 : ¬ l % 2 = 1) : litT v l = v.getD (l / 2).toNat default := by simp only [litT]; rw [if_pos ⟨h, h'⟩, if_neg h1]
theorem litT_tri {v : List Int} (hv : TriL v) (l : Int) : Tri (litT v l) := by
  unfold litT
  split
  · rename_i h
    split
    · exact notT_tri _
    · exact hv _ (getD_mem (by omega))
  · exact tri2
def valsT (v : List Int) : List Gate → List Int
  | [] => v
  | g :: gs => valsT (v ++ [andT (litT v g.a) (litT v g.b)]) gs
theorem valsT_append (v : List Int) (xs ys : List Gate) : valsT v (xs ++ ys) = valsT (valsT v xs) ys := by
  induction xs generalizing v with
  | nil => rfl
  | cons g gs ih => simp [valsT, ih]
theorem valsT_len (v : List Int) (xs : List Gate) : (valsT v xs).length = v.length + xs.length := by
  induction xs generalizing v with
  | nil => rfl
  | cons g gs ih => simp [valsT, ih]; omega
theorem valsT_tri {v : List Int} (hv : TriL v) : ∀ gs : List Gate, TriL (valsT v gs)
  | [] => hv
  | g :: gs => valsT_tri (hv.append (TriL.cons (andT_tri _ _) TriL.nil)) gs
theorem valsT_snoc (v : List Int) (gs : List Gate) (n : Nat) (h : n < gs.length) :
    valsT v (gs.take (n + 1)) = valsT v (gs.take n) ++ [andT (litT (valsT v (gs.take n)) (gs.getD n default).a) (litT (valsT v (gs.take n)) (gs.getD n default).b)] := by
  rw [take_snoc h, valsT_append]; rfl
def shapeT (a : Aig) (st inp : List Int) : Prop := (st.length = a.l.length ∧ isTri st = true) ∧ ((inp.length : Int) = a.i ∧ isTri inp = true)
instance (a : Aig) (st inp : List Int) : Decidable (shapeT a st inp) := by unfold shapeT; infer_instance
abbrev valsTV (a : Aig) (st inp : List Int) : List Int := valsT (0 :: (inp ++ st)) a.g
def valuesT (a : Aig) (st inp : List Int) : List Int × Int := if shapeT a st inp then (valsTV a st inp, 0) else ([], 7)
theorem valuesT_ok {a : Aig} {st inp : List Int} (h : shapeT a st inp) : valuesT a st inp = (valsTV a st inp, 0) := by simp only [valuesT]; rw [if_pos h]
theorem valuesT_bad {a : Aig} {st inp : List Int} (h : ¬ shapeT a st inp) : valuesT a st inp = ([], 7) := by simp only [valuesT]; rw [if_neg h]
theorem init_tri {a : Aig} {st inp : List Int} (h : shapeT a st inp) (h0 : Nn st) (h1 : Nn inp) : TriL (0 :: (inp ++ st)) := TriL.cons tri0 ((triL_of h.2.2 h1).append (triL_of h.1.2 h0))
theorem valuesT_tri {a : Aig} {st inp : List Int} (h0 : Nn st) (h1 : Nn inp) : TriL (valuesT a st inp).1 := by
  by_cases h : shapeT a st inp
  · rw [valuesT_ok h]; exact valsT_tri (init_tri h h0 h1) _
  · rw [valuesT_bad h]; exact TriL.nil
structure StepT where
  n : List Int
  o : List Int
  b : List Int
  c : List Int
  e : Int
def StepT.v (r : StepT) : V := .tup [slU r.n, .agg [slU r.o, slU r.b, slU r.c], .int .i64 r.e]
abbrev stepTV (a : Aig) (v : List Int) : StepT := ⟨a.l.map fun l => litT v l.next, a.outs.map (litT v), a.bad.map (litT v), a.con.map (litT v), 0⟩
def stepT (a : Aig) (st inp : List Int) : StepT := if shapeT a st inp then stepTV a (valsTV a st inp) else ⟨[], [], [], [], 7⟩
theorem stepT_ok {a : Aig} {st inp : List Int} (h : shapeT a st inp) : stepT a st inp = stepTV a (valsTV a st inp) := by simp only [stepT]; rw [if_pos h]
theorem stepT_bad {a : Aig} {st inp : List Int} (h : ¬ shapeT a st inp) : stepT a st inp = ⟨[], [], [], [], 7⟩ := by simp only [stepT]; rw [if_neg h]
theorem mapT_tri {α : Type} {v : List Int} (hv : TriL v) (f : α → Int) (ls : List α) : TriL (ls.map fun l => litT v (f l)) := fun x hx => by
  obtain ⟨l, _, rfl⟩ := List.mem_map.1 hx
  exact litT_tri hv _
def ofB (b : Bool) : Int := if b then 1 else 0
theorem ofB_tri (b : Bool) : Tri (ofB b) := by cases b; exact tri0; exact tri1
theorem ofL_tri (xs : List Bool) : TriL (xs.map ofB) := fun x hx => by
  obtain ⟨b, _, rfl⟩ := List.mem_map.1 hx
  exact ofB_tri b
theorem pc_61 (v : List Int) (l : Int) (hv : TriL v) : PCall Try.prog 61 [slU v, .int .i64 l] (.int .u8 (litT v l)) := by
  refine pc_of tab_ok (f := 61) (fn := Try.f61) (N := 30) (rs := [.tmp 4]) (by kernel_rfl) rfl (by kernel_rfl) rfl rfl [(0, .v (slU v)), (1, .v (.int .i64 l))] ⟨rfl, rfl, trivial⟩ rfl rfl ?_
  intro B
  refine wp_seq ?_
  refine wp_reg (by kernel_rfl) ?_
  refine ar_assign rfl rfl rfl rfl ?_
  refine ar_nil ?_
  refine then_n ?_
  refine wp_seq ?_
  refine wp_reg (by kernel_rfl) ?_
  refine ar_move rfl rfl rfl rfl ?_
  refine ar_shr rfl rfl rfl (by decide) (by decide) rfl rfl rfl ?_
  refine ar_assign rfl rfl rfl rfl ?_
  refine ar_nil ?_
  refine then_n ?_
  refine wp_seq ?_
  refine wp_block ?_
  refine wp_seq ?_
  refine wp_reg (by kernel_rfl) ?_
  refine ar_move rfl rfl rfl rfl ?_
  refine ar_lss_s rfl rfl rfl rfl rfl (fun h10 => ?_) (fun h10 => ?_)
  · refine ar_move rfl rfl rfl rfl ?_
    refine ar_skip rfl rfl ?_
    refine ar_skip rfl rfl ?_
    refine ar_skip rfl rfl ?_
    refine ar_skip rfl rfl ?_
    refine ar_pickT rfl rfl rfl rfl rfl ?_
    refine ar_assign rfl rfl rfl rfl ?_
    refine ar_nil ?_
    refine then_n ?_
    refine wp_condT rfl ?_
    refine wp_seq ?_
    refine wp_reg (by kernel_rfl) ?_
    refine ar_assign rfl rfl rfl rfl ?_
    refine ar_nil ?_
    refine then_n ?_
    refine wp_ret ?_
    refine inblk_r (then_r (ret_post rfl rfl ?_))
    have e1 : l / 2 ^ Int.toNat 1 = l / 2 := rfl
    rw [litT_out (by omega)]
  · refine ar_move rfl rfl rfl rfl ?_
    refine ar_move rfl rfl rfl rfl ?_
    refine ar_move rfl rfl rfl rfl ?_
    refine ar_len tab_ok rfl rfl tb70 rfl len_map rfl rfl ?_
    refine ar_geq_s rfl rfl rfl rfl rfl (fun h15 => ?_) (fun h15 => ?_)
    · refine ar_pickF rfl rfl rfl rfl rfl ?_
      refine ar_assign rfl rfl rfl rfl ?_
      refine ar_nil ?_
      refine then_n ?_
      refine wp_condT rfl ?_
      refine wp_seq ?_
      refine wp_reg (by kernel_rfl) ?_
      refine ar_assign rfl rfl rfl rfl ?_
      refine ar_nil ?_
      refine then_n ?_
      refine wp_ret ?_
      refine inblk_r (then_r (ret_post rfl rfl ?_))
      have e1 : l / 2 ^ Int.toNat 1 = l / 2 := rfl
      rw [litT_out (by omega)]
    · refine ar_pickF rfl rfl rfl rfl rfl ?_
      refine ar_assign rfl rfl rfl rfl ?_
      refine ar_nil ?_
      refine then_n ?_
      refine wp_condF rfl ?_
      refine wp_seq ?_
      refine wp_reg (by kernel_rfl) ?_
      refine ar_move rfl rfl rfl rfl ?_
      refine ar_and rfl rfl rfl rfl rfl rfl ?_
      refine ar_eql_s rfl rfl rfl rfl rfl (fun h20 => ?_) (fun h20 => ?_)
      · refine ar_assign rfl rfl rfl rfl ?_
        refine ar_nil ?_
        refine then_n ?_
        refine wp_condT rfl ?_
        refine wp_seq ?_
        refine wp_reg (by kernel_rfl) ?_
        refine ar_move rfl rfl rfl rfl ?_
        refine ar_move rfl rfl rfl rfl ?_
        refine ar_ia tab_ok rfl rfl rfl tb70 rfl tb72 (by omega) (map_get (by omega)) rfl rfl rfl ?_
        refine ar_ld_ref tab_ok rfl rfl tb72 rfl rfl rfl rfl ?_
        refine ar_call [] (pc_47 _ (hv _ (getD_mem (by omega)))) rfl rfl rfl rfl rfl rfl trivial (.inl rfl) rfl rfl rfl ?_
        refine ar_assign rfl rfl rfl rfl ?_
        refine ar_nil ?_
        refine then_n ?_
        refine wp_ret ?_
        refine inblk_r (then_r (ret_post rfl rfl ?_))
        have e1 : l / 2 ^ Int.toNat 1 = l / 2 := rfl
        have := bits_and1 l
        rw [litT_odd (by omega) (by omega) (by omega)]; rfl
      · refine ar_assign rfl rfl rfl rfl ?_
        refine ar_nil ?_
        refine then_n ?_
        refine wp_condF rfl ?_
        refine wp_skip ?_
        refine inblk_n ?_
        refine then_n ?_
        refine wp_seq ?_
        refine wp_reg (by kernel_rfl) ?_
        refine ar_move rfl rfl rfl rfl ?_
        refine ar_move rfl rfl rfl rfl ?_
        refine ar_ia tab_ok rfl rfl rfl tb70 rfl tb72 (by omega) (map_get (by omega)) rfl rfl rfl ?_
        refine ar_ld_ref tab_ok rfl rfl tb72 rfl rfl rfl rfl ?_
        refine ar_assign rfl rfl rfl rfl ?_
        refine ar_nil ?_
        refine then_n ?_
        refine wp_ret ?_
        refine ret_post rfl rfl ?_
        have e1 : l / 2 ^ Int.toNat 1 = l / 2 := rfl
        have := bits_and1 l
        rw [litT_even (by omega) (by omega) (by omega)]; rfl
theorem pc_62 (v : List Int) (l : Int) (hl : l ≤ 9223372036854775807) : PCall Try.prog 62 [slU v, .int .i64 l] (.int .u8 (litT v l)) := by
  refine pc_of tab_ok (f := 62) (fn := Try.f62) (N := 28) (rs := [.tmp 4]) (by kernel_rfl) rfl (by kernel_rfl) rfl rfl [(0, .v (slU v)), (1, .v (.int .i64 l))] ⟨rfl, rfl, trivial⟩ rfl rfl ?_
  intro B
  refine wp_seq ?_
  refine wp_reg (by kernel_rfl) ?_
  refine ar_assign rfl rfl rfl rfl ?_
  refine ar_nil ?_
  refine then_n ?_
  refine wp_seq ?_
  refine wp_seq ?_
  refine wp_reg (by kernel_rfl) ?_
  refine ar_move rfl rfl rfl rfl ?_
  refine ar_lss_s rfl rfl rfl rfl rfl (fun h6 => ?_) (fun h6 => ?_)
  · refine ar_move rfl rfl rfl rfl ?_
    refine ar_skip rfl rfl ?_
    refine ar_skip rfl rfl ?_
    refine ar_skip rfl rfl ?_
    refine ar_skip rfl rfl ?_
    refine ar_skip rfl rfl ?_
    refine ar_pickT rfl rfl rfl rfl rfl ?_
    refine ar_nil ?_
    refine then_n ?_
    refine wp_condT rfl ?_
    refine wp_seq ?_
    refine wp_reg (by kernel_rfl) ?_
    refine ar_assign rfl rfl rfl rfl ?_
    refine ar_nil ?_
    refine then_n ?_
    refine wp_ret ?_
    refine then_r (ret_post rfl rfl ?_)
    rw [litT_out (by omega)]
  · refine ar_move rfl rfl rfl rfl ?_
    refine ar_move rfl rfl rfl rfl ?_
    refine ar_quo rfl rfl rfl (by decide) (IntWalk.i64_quo _ _ ⟨by omega, by omega, by omega⟩) rfl rfl ?_
    refine ar_move rfl rfl rfl rfl ?_
    refine ar_len tab_ok rfl rfl tb70 rfl len_map rfl rfl ?_
    refine ar_geq_s rfl rfl rfl rfl rfl (fun h12 => ?_) (fun h12 => ?_)
    · refine ar_pickF rfl rfl rfl rfl rfl ?_
      refine ar_nil ?_
      refine then_n ?_
      refine wp_condT rfl ?_
      refine wp_seq ?_
      refine wp_reg (by kernel_rfl) ?_
      refine ar_assign rfl rfl rfl rfl ?_
      refine ar_nil ?_
      refine then_n ?_
      refine wp_ret ?_
      refine then_r (ret_post rfl rfl ?_)
      rw [litT_out (by omega)]
    · refine ar_pickF rfl rfl rfl rfl rfl ?_
      refine ar_nil ?_
      refine then_n ?_
      refine wp_condF rfl ?_
      refine wp_skip ?_
      refine then_n ?_
      refine wp_seq ?_
      refine wp_seq ?_
      refine wp_reg (by kernel_rfl) ?_
      refine ar_move rfl rfl rfl rfl ?_
      refine ar_rem rfl rfl rfl (by decide) rfl rfl rfl ?_
      refine ar_eql_s rfl rfl rfl rfl rfl (fun h16 => ?_) (fun h16 => ?_)
      · refine ar_nil ?_
        refine then_n ?_
        refine wp_condT rfl ?_
        refine wp_seq ?_
        refine wp_reg (by kernel_rfl) ?_
        refine ar_move rfl rfl rfl rfl ?_
        refine ar_move rfl rfl rfl rfl ?_
        refine ar_quo rfl rfl rfl (by decide) (IntWalk.i64_quo _ _ ⟨by omega, by omega, by omega⟩) rfl rfl ?_
        refine ar_ia tab_ok rfl rfl rfl tb70 rfl tb72 (by omega) (map_get (by omega)) rfl rfl rfl ?_
        refine ar_ld_ref tab_ok rfl rfl tb72 rfl rfl rfl rfl ?_
        refine ar_call [] (pc_48 _) rfl rfl rfl rfl rfl rfl trivial (.inl rfl) rfl rfl rfl ?_
        refine ar_assign rfl rfl rfl rfl ?_
        refine ar_nil ?_
        refine then_n ?_
        refine wp_ret ?_
        refine then_r (ret_post rfl rfl ?_)
        rw [Int.tmod_eq_emod_of_nonneg (by omega)] at h16; rw [litT_odd (by omega) (by omega) (by omega)]
      · refine ar_nil ?_
        refine then_n ?_
        refine wp_condF rfl ?_
        refine wp_skip ?_
        refine then_n ?_
        refine wp_seq ?_
        refine wp_reg (by kernel_rfl) ?_
        refine ar_move rfl rfl rfl rfl ?_
        refine ar_move rfl rfl rfl rfl ?_
        refine ar_quo rfl rfl rfl (by decide) (IntWalk.i64_quo _ _ ⟨by omega, by omega, by omega⟩) rfl rfl ?_
        refine ar_ia tab_ok rfl rfl rfl tb70 rfl tb72 (by omega) (map_get (by omega)) rfl rfl rfl ?_
        refine ar_ld_ref tab_ok rfl rfl tb72 rfl rfl rfl rfl ?_
        refine ar_assign rfl rfl rfl rfl ?_
        refine ar_nil ?_
        refine then_n ?_
        refine wp_ret ?_
        refine ret_post rfl rfl ?_
        rw [Int.tmod_eq_emod_of_nonneg (by omega)] at h16; rw [litT_even (by omega) (by omega) (by omega)]
theorem pc_105 (a : Aig) : PCall Try.prog 105 [aigV a] (.int .i64 (a.l.length : Nat)) := by
  refine pc_of tab_ok (f := 105) (fn := Try.f105) (N := 6) (rs := [.tmp 2]) (by kernel_rfl) rfl (by kernel_rfl) rfl rfl [(0, .v (aigV a))] ⟨rfl, trivial⟩ rfl rfl ?_
  intro B
  refine wp_seq ?_
  refine wp_reg (by kernel_rfl) ?_
  refine ar_box 1 [] rfl rfl rfl ⟨rfl, trivial⟩ rfl rfl rfl ?_
  refine ar_assign rfl rfl rfl rfl ?_
  refine ar_nil ?_
  refine then_n ?_
  refine wp_seq ?_
  refine wp_reg (by kernel_rfl) ?_
  refine ar_fa tab_ok rfl rfl rfl tb27 rfl rfl rfl rfl rfl ?_
  refine ar_ld tab_ok rfl rfl rfl tb22 rfl rfl rfl rfl rfl ?_
  refine ar_len tab_ok rfl rfl tb22 rfl len_map rfl rfl ?_
  refine ar_assign rfl rfl rfl rfl ?_
  refine ar_nil ?_
  refine then_n ?_
  refine wp_ret ?_
  refine ret_post rfl rfl ?_
  rfl
theorem pc_106 (a : Aig) : PCall Try.prog 106 [aigV a] (.int .i64 a.i) := by
  refine pc_of tab_ok (f := 106) (fn := Try.f106) (N := 5) (rs := [.tmp 2]) (by kernel_rfl) rfl (by kernel_rfl) rfl rfl [(0, .v (aigV a))] ⟨rfl, trivial⟩ rfl rfl ?_
  intro B
  refine wp_seq ?_
  refine wp_reg (by kernel_rfl) ?_
  refine ar_box 1 [] rfl rfl rfl ⟨rfl, trivial⟩ rfl rfl rfl ?_
  refine ar_assign rfl rfl rfl rfl ?_
  refine ar_nil ?_
  refine then_n ?_
  refine wp_seq ?_
  refine wp_reg (by kernel_rfl) ?_
  refine ar_fa tab_ok rfl rfl rfl tb27 rfl rfl rfl rfl rfl ?_
  refine ar_ld tab_ok rfl rfl rfl tb3 rfl rfl rfl rfl rfl ?_
  refine ar_assign rfl rfl rfl rfl ?_
  refine ar_nil ?_
  refine then_n ?_
  refine wp_ret ?_
  refine ret_post rfl rfl ?_
  rfl
theorem pc_107 (a : Aig) (f : FuncId) (row : List Int) (n : Int) (hl : row.length ≤ 9223372036854775807) (hc : PCall Try.prog f [aigV a] (.int .i64 n)) : PCall Try.prog 107 [.agg [.fn (.func f) [] [], slU row], aigV a] (.bool (decide ((row.length : Int) = n) && isTri row)) := by
  refine pc_of tab_ok (f := 107) (fn := Try.f107) (N := 18) (rs := [.tmp 4]) (by kernel_rfl) rfl (by kernel_rfl) rfl rfl [(0, .v (.agg [.fn (.func f) [] [], slU row])), (1, .v (aigV a))] ⟨rfl, rfl, trivial⟩ rfl rfl ?_
  intro B
  refine wp_seq ?_
  refine wp_reg (by kernel_rfl) ?_
  refine ar_box 2 [] rfl rfl rfl ⟨rfl, trivial⟩ rfl rfl rfl ?_
  refine ar_box 3 [] rfl rfl rfl ⟨rfl, trivial⟩ rfl rfl rfl ?_
  refine ar_assign rfl rfl rfl rfl ?_
  refine ar_nil ?_
  refine then_n ?_
  refine wp_seq ?_
  refine wp_draw (L := [([2], []), ([2], []), ([], []), ([2], []), ([2], []), ([3], []), ([], []), ([], []), ([], []), ([2], []), ([2], []), ([], []), ([], []), ([], [])]) (by kernel_rfl) mixed (by kernel_rfl) ?_
  refine ar_fa tab_ok rfl rfl rfl tb148 rfl rfl rfl rfl rfl ?_
  refine ar_ld tab_ok rfl rfl rfl tb70 rfl rfl rfl rfl rfl ?_
  refine ar_len tab_ok rfl rfl tb70 rfl len_map rfl rfl ?_
  refine ar_fa tab_ok rfl rfl rfl tb148 rfl rfl rfl rfl rfl ?_
  refine ar_ld tab_ok rfl rfl rfl tb130 rfl rfl rfl rfl rfl ?_
  refine ar_lda tab_ok rfl rfl rfl tb27 rfl rfl rfl rfl rfl rfl ?_
  refine ar_call [] (hc) rfl rfl rfl rfl rfl rfl trivial (.inl rfl) rfl rfl rfl ?_
  refine ar_eql_s rfl rfl rfl rfl rfl (fun h12 => ?_) (fun h12 => ?_)
  · refine ar_move rfl rfl rfl rfl ?_
    refine ar_fa tab_ok rfl rfl rfl tb148 rfl rfl rfl rfl rfl ?_
    refine ar_ld tab_ok rfl rfl rfl tb70 rfl rfl rfl rfl rfl ?_
    refine ar_call [] (pc_45 row hl) rfl rfl rfl rfl rfl rfl trivial (.inl rfl) rfl rfl rfl ?_
    refine ar_pickT rfl rfl rfl rfl rfl ?_
    refine ar_assign rfl rfl rfl rfl ?_
    refine ar_nil ?_
    refine then_n ?_
    refine wp_ret ?_
    refine ret_post rfl rfl ?_
    simp [*]
  · refine ar_move rfl rfl rfl rfl ?_
    refine ar_skip rfl rfl ?_
    refine ar_skip rfl rfl ?_
    refine ar_skip rfl rfl ?_
    refine ar_pickF rfl rfl rfl rfl rfl ?_
    refine ar_assign rfl rfl rfl rfl ?_
    refine ar_nil ?_
    refine then_n ?_
    refine wp_ret ?_
    refine ret_post rfl rfl ?_
    simp [*]
theorem pc_56 (a : Aig) (st inp : List Int) (hb : Bd a) (h0 : Nn st) (h1 : Nn inp) (hl0 : st.length ≤ 9223372036854775807) (hl1 : inp.length ≤ 9223372036854775807) : PCall Try.prog 56 [aigV a, slU st, slU inp] (.tup [slU (valuesT a st inp).1, .int .i64 (valuesT a st inp).2]) := by
  refine pc_of tab_ok (f := 56) (fn := Try.f56) (N := 57) (rs := [.tmp 6, .tmp 7]) (by kernel_rfl) rfl (by kernel_rfl) rfl rfl [(0, .v (aigV a)), (1, .v (slU st)), (2, .v (slU inp))] ⟨rfl, rfl, rfl, trivial⟩ rfl rfl ?_
  intro B
  have hb0 := hb.i0; have hb1 := hb.i1; have hb2 := hb.l1; have hb3 := hb.g1; have hv : varsS a = a.i + a.l.length + a.g.length := rfl
  refine wp_seq ?_
  refine wp_reg (by kernel_rfl) ?_
  refine ar_box 3 [] rfl rfl rfl ⟨rfl, trivial⟩ rfl rfl rfl ?_
  refine ar_assign rfl rfl rfl rfl ?_
  refine ar_assign rfl rfl rfl rfl ?_
  refine ar_nil ?_
  refine then_n ?_
  refine wp_seq ?_
  refine wp_reg (by kernel_rfl) ?_
  refine ar_move rfl rfl rfl rfl ?_
  refine ar_build [] tab_ok rfl tb148 rfl rfl trivial rfl rfl rfl rfl rfl rfl ?_
  refine ar_alloc (id := 8) tab_ok rfl rfl tb148 rfl rfl rfl rfl ?_
  refine ar_st [] tab_ok rfl tb148 rfl rfl rfl trivial rfl rfl rfl rfl rfl rfl rfl rfl ?_
  refine ar_nil ?_
  refine then_n ?_
  refine wp_seq ?_
  refine wp_reg (by kernel_rfl) ?_
  refine ar_move rfl rfl rfl rfl ?_
  refine ar_build [] tab_ok rfl tb148 rfl rfl trivial rfl rfl rfl rfl rfl rfl ?_
  refine ar_alloc (id := 9) tab_ok rfl rfl tb148 rfl rfl rfl rfl ?_
  refine ar_st [] tab_ok rfl tb148 rfl rfl rfl trivial rfl rfl rfl rfl rfl rfl rfl rfl ?_
  refine ar_nil ?_
  refine then_n ?_
  refine wp_seq ?_
  refine wp_seq ?_
  refine wp_reg (by kernel_rfl) ?_
  refine ar_lda tab_ok rfl rfl rfl tb148 rfl rfl rfl rfl rfl rfl ?_
  refine ar_lda tab_ok rfl rfl rfl tb27 rfl rfl rfl rfl rfl rfl ?_
  refine ar_call [] (pc_107 a 105 st _ (by omega) (pc_105 a)) rfl rfl rfl rfl rfl rfl trivial (.inl rfl) rfl rfl rfl ?_
  refine ar_split (fun h19 => ?_) (fun h19 => ?_)
  · refine ar_not rfl rfl rfl rfl rfl ?_
    refine ar_move rfl rfl rfl rfl ?_
    refine ar_lda tab_ok rfl rfl rfl tb148 rfl rfl rfl rfl rfl rfl ?_
    refine ar_lda tab_ok rfl rfl rfl tb27 rfl rfl rfl rfl rfl rfl ?_
    refine ar_call [] (pc_107 a 106 inp _ (by omega) (pc_106 a)) rfl rfl rfl rfl rfl rfl trivial (.inl rfl) rfl rfl rfl ?_
    refine ar_split (fun h24 => ?_) (fun h24 => ?_)
    · refine ar_not rfl rfl rfl rfl rfl ?_
      refine ar_pickF rfl rfl rfl rfl rfl ?_
      refine ar_nil ?_
      refine then_n ?_
      refine wp_condF rfl ?_
      refine wp_skip ?_
      refine then_n ?_
      refine wp_seq ?_
      have hsh : shapeT a st inp := by simp only [Bool.and_eq_true, decide_eq_true_eq] at h19 h24; exact ⟨⟨by omega, h19.2⟩, by omega, h24.2⟩
      have hsh1 := hsh.1.1; have hsh2 := hsh.2.1
      refine wp_reg (by kernel_rfl) ?_
      refine ar_lda tab_ok rfl rfl rfl tb27 rfl rfl rfl rfl rfl rfl ?_
      refine ar_call [] (pc_93 _ hb) rfl rfl rfl rfl rfl rfl trivial (.inl rfl) rfl rfl rfl ?_
      refine ar_addi rfl rfl rfl rfl (by omega) (by omega) rfl rfl ?_
      refine ar_make (es := [0].map encU) 30 (el0 := [.int .u8 0]) tab_ok rfl tb70 rfl tb72 rfl rfl rfl rfl rfl ⟨by omega, by omega, by omega, by simp; omega⟩ rfl rfl rfl rfl rfl ?_
      refine ar_assign rfl rfl rfl rfl ?_
      refine ar_nil ?_
      refine then_n ?_
      refine wp_seq ?_
      refine wp_reg (by kernel_rfl) ?_
      refine ar_move rfl rfl rfl rfl ?_
      refine ar_move rfl rfl rfl rfl ?_
      refine ar_app 33 [] tab_ok rfl tb70 rfl tb70 rfl tb72 rfl rfl rfl rfl ⟨rfl, rfl, trivial⟩ rfl (el_72 _) app_map (by constructor <;> simp <;> omega) rfl rfl rfl ?_
      refine ar_move rfl rfl rfl rfl ?_
      refine ar_app 35 [] tab_ok rfl tb70 rfl tb70 rfl tb72 rfl rfl rfl rfl ⟨rfl, rfl, trivial⟩ rfl (el_72 _) app_map (by constructor <;> simp <;> omega) rfl rfl rfl ?_
      refine ar_assign rfl rfl rfl rfl ?_
      refine ar_nil ?_
      refine then_n ?_
      refine wp_seq ?_
      refine wp_seq ?_
      refine wp_reg (by kernel_rfl) ?_
      refine ar_fa tab_ok rfl rfl rfl tb27 rfl rfl rfl rfl rfl ?_
      refine ar_ld tab_ok rfl rfl rfl tb23 rfl rfl rfl rfl rfl ?_
      refine ar_len tab_ok rfl rfl tb23 rfl len_map rfl rfl ?_
      refine ar_move rfl rfl rfl rfl ?_
      refine ar_nil ?_
      refine then_n ?_
      refine wp_block ?_
      refine wp_loop (α := Nat) (fun j => mk [(37, .v (slG a.g)), (38, .v (.int .i64 (a.g.length : Nat))), (39, .v (.int .i64 (j : Nat))), (10, .own 35)] [(35, .row 72 1 ((valsT (0 :: (inp ++ st)) (a.g.take j)).map encU))] 0) (fun j => j ≤ a.g.length) (fun j => a.g.length - j) 0 (Nat.zero_le _) (le_to ⟨rfl, rfl, rfl, rfl, trivial⟩ ⟨(row_eq rfl (by simp [valsT])), trivial⟩ rfl rfl rfl rfl) ?_
      rintro j hinv
      have hvt : TriL (valsT (0 :: (inp ++ st)) (a.g.take j)) := valsT_tri (init_tri hsh h0 h1) _
      refine wp_seq ?_
      refine wp_reg (by kernel_rfl) ?_
      refine ar_lss_s rfl rfl rfl rfl rfl (fun h40 => ?_) (fun h40 => ?_)
      · refine ar_nil ?_
        refine then_n ?_
        refine wp_seq ?_
        refine wp_condT rfl ?_
        refine wp_skip ?_
        refine then_n ?_
        refine wp_seq ?_
        refine wp_block ?_
        refine wp_seq ?_
        refine wp_reg (by kernel_rfl) ?_
        refine ar_ia tab_ok rfl rfl rfl tb23 rfl tb58 (by omega) (map_get (n := j) (by omega)) rfl rfl rfl ?_
        refine ar_ld_refa tab_ok rfl rfl tb58 rfl rfl rfl rfl rfl ?_
        refine ar_alloc (id := 12) tab_ok rfl rfl tb58 rfl rfl rfl rfl ?_
        refine ar_st [] tab_ok rfl tb58 rfl rfl rfl trivial rfl rfl rfl rfl rfl rfl rfl rfl ?_
        refine ar_nil ?_
        refine then_n ?_
        refine wp_draw (L := [([], []), ([], []), ([12], []), ([12], []), ([35], []), ([], []), ([12], []), ([12], []), ([35], []), ([], []), ([], []), ([35, 54], [35, 54]), ([], [])]) (by kernel_rfl) mixed (by kernel_rfl) ?_
        refine ar_move rfl rfl rfl rfl ?_
        refine ar_move rfl rfl rfl rfl ?_
        refine ar_fa tab_ok rfl rfl rfl tb58 rfl rfl rfl rfl rfl ?_
        refine ar_ld tab_ok rfl rfl rfl tb3 rfl rfl rfl rfl rfl ?_
        refine ar_call [(35, _)] (pc_61 _ _ hvt) rfl rfl rfl rfl rfl rfl ⟨rfl, trivial⟩ (.inr rfl) rfl rfl rfl ?_
        refine ar_move rfl rfl rfl rfl ?_
        refine ar_fa tab_ok rfl rfl rfl tb58 rfl rfl rfl rfl rfl ?_
        refine ar_ld tab_ok rfl rfl rfl tb3 rfl rfl rfl rfl rfl ?_
        refine ar_call [(35, _)] (pc_61 _ _ hvt) rfl rfl rfl rfl rfl rfl ⟨rfl, trivial⟩ (.inr rfl) rfl rfl rfl ?_
        refine ar_call [] (pc_49 _ _ (litT_tri hvt _) (litT_tri hvt _)) rfl rfl rfl rfl rfl rfl trivial (.inl rfl) rfl rfl rfl ?_
        refine ar_bs [] tab_ok rfl tb70 rfl tb72 rfl trivial rfl rfl rfl rfl rfl rfl rfl rfl ?_
        refine ar_app 54 [] tab_ok rfl tb70 rfl tb70 rfl tb72 rfl rfl rfl rfl ⟨rfl, rfl, trivial⟩ rfl (elOk.cons rfl rfl elOk.nil) app_one (by constructor <;> simp [valsT_len] <;> omega) rfl rfl rfl ?_
        refine ar_assign rfl rfl rfl rfl ?_
        refine ar_nil ?_
        refine inblk_n ?_
        refine then_n ?_
        refine wp_reg (by kernel_rfl) ?_
        refine ar_addi rfl rfl rfl rfl (by omega) (by omega) rfl rfl ?_
        refine ar_move rfl rfl rfl rfl ?_
        refine ar_nil ?_
        exact loop_n (j + 1) (by omega) (by omega) (le_ren [(35, 54)] ⟨rfl, rfl, rfl, rfl, trivial⟩ ⟨(row_eq rfl (by rw [valsT_snoc _ _ _ (by omega)] <;> simp)), trivial⟩ rfl rfl rfl rfl rfl)
      · refine ar_nil ?_
        refine then_n ?_
        refine wp_seq ?_
        refine wp_condF rfl ?_
        refine wp_exit ?_
        refine then_x (loop_x (inblk_e ?_))
        refine then_n ?_
        refine wp_seq ?_
        refine wp_reg (by kernel_rfl) ?_
        refine ar_move rfl rfl rfl rfl ?_
        refine ar_assign rfl rfl rfl rfl ?_
        refine ar_assign rfl rfl rfl rfl ?_
        refine ar_nil ?_
        refine then_n ?_
        refine wp_ret ?_
        refine ret_post rfl rfl ?_
        rw [valuesT_ok hsh]
        have hi : j = a.g.length := by omega
        subst hi
        rw [List.take_length]
    · refine ar_not rfl rfl rfl rfl rfl ?_
      refine ar_pickF rfl rfl rfl rfl rfl ?_
      refine ar_nil ?_
      refine then_n ?_
      refine wp_condT rfl ?_
      refine wp_seq ?_
      refine wp_reg (by kernel_rfl) ?_
      refine ar_assign rfl rfl rfl rfl ?_
      refine ar_assign rfl rfl rfl rfl ?_
      refine ar_nil ?_
      refine then_n ?_
      refine wp_ret ?_
      refine then_r (ret_post rfl rfl ?_)
      rw [valuesT_bad (fun h => by have q1 := h.1.1; have q2 := h.1.2; have q3 := h.2.1; have q4 := h.2.2; simp [q1, q2, q3, q4] at h24)]; rfl
  · refine ar_not rfl rfl rfl rfl rfl ?_
    refine ar_move rfl rfl rfl rfl ?_
    refine ar_skip rfl rfl ?_
    refine ar_skip rfl rfl ?_
    refine ar_skip rfl rfl ?_
    refine ar_skip rfl rfl ?_
    refine ar_pickT rfl rfl rfl rfl rfl ?_
    refine ar_nil ?_
    refine then_n ?_
    refine wp_condT rfl ?_
    refine wp_seq ?_
    refine wp_reg (by kernel_rfl) ?_
    refine ar_assign rfl rfl rfl rfl ?_
    refine ar_assign rfl rfl rfl rfl ?_
    refine ar_nil ?_
    refine then_n ?_
    refine wp_ret ?_
    refine then_r (ret_post rfl rfl ?_)
    rw [valuesT_bad (fun h => by have q1 := h.1.1; have q2 := h.1.2; have q3 := h.2.1; have q4 := h.2.2; simp [q1, q2, q3, q4] at h19)]; rfl
theorem pc_57 (a : Aig) (st inp : List Int) (hg : Good a) (hl0 : st.length ≤ 9223372036854775807) (hl1 : inp.length ≤ 9223372036854775807) : PCall Try.prog 57 [aigV a, slU st, slU inp] (.tup [slU (valuesT a st inp).1, .int .i64 (valuesT a st inp).2]) := by
  refine pc_of tab_ok (f := 57) (fn := Try.f57) (N := 70) (rs := [.tmp 6, .tmp 7]) (by kernel_rfl) rfl (by kernel_rfl) rfl rfl [(0, .v (aigV a)), (1, .v (slU st)), (2, .v (slU inp))] ⟨rfl, rfl, rfl, trivial⟩ rfl rfl ?_
  intro B
  have hb := hg.bd; have hb0 := hb.i0; have hb1 := hb.i1; have hb2 := hb.l1; have hb3 := hb.g1
  refine wp_seq ?_
  refine wp_reg (by kernel_rfl) ?_
  refine ar_box 3 [] rfl rfl rfl ⟨rfl, trivial⟩ rfl rfl rfl ?_
  refine ar_assign rfl rfl rfl rfl ?_
  refine ar_assign rfl rfl rfl rfl ?_
  refine ar_nil ?_
  refine then_n ?_
  refine wp_seq ?_
  refine wp_reg (by kernel_rfl) ?_
  refine ar_move rfl rfl rfl rfl ?_
  refine ar_call [] (pc_46 st hl0) rfl rfl rfl rfl rfl rfl trivial (.inl rfl) rfl rfl rfl ?_
  refine ar_split (fun h13 => ?_) (fun h13 => ?_)
  · refine ar_assign rfl rfl rfl rfl ?_
    refine ar_nil ?_
    refine then_n ?_
    refine wp_seq ?_
    refine wp_reg (by kernel_rfl) ?_
    refine ar_move rfl rfl rfl rfl ?_
    refine ar_call [] (pc_46 inp hl1) rfl rfl rfl rfl rfl rfl trivial (.inl rfl) rfl rfl rfl ?_
    refine ar_split (fun h15 => ?_) (fun h15 => ?_)
    · refine ar_assign rfl rfl rfl rfl ?_
      refine ar_nil ?_
      refine then_n ?_
      refine wp_seq ?_
      refine wp_seq ?_
      refine wp_reg (by kernel_rfl) ?_
      refine ar_move rfl rfl rfl rfl ?_
      refine ar_not rfl rfl rfl rfl rfl ?_
      refine ar_move rfl rfl rfl rfl ?_
      refine ar_move rfl rfl rfl rfl ?_
      refine ar_not rfl rfl rfl rfl rfl ?_
      refine ar_pickF rfl rfl rfl rfl rfl ?_
      refine ar_move rfl rfl rfl rfl ?_
      refine ar_move rfl rfl rfl rfl ?_
      refine ar_len tab_ok rfl rfl tb70 rfl len_map rfl rfl ?_
      refine ar_fa tab_ok rfl rfl rfl tb27 rfl rfl rfl rfl rfl ?_
      refine ar_ld tab_ok rfl rfl rfl tb22 rfl rfl rfl rfl rfl ?_
      refine ar_len tab_ok rfl rfl tb22 rfl len_map rfl rfl ?_
      refine ar_neq_s rfl rfl rfl rfl rfl (fun h28 => ?_) (fun h28 => ?_)
      · refine ar_pickF rfl rfl rfl rfl rfl ?_
        refine ar_move rfl rfl rfl rfl ?_
        refine ar_skip rfl rfl ?_
        refine ar_skip rfl rfl ?_
        refine ar_skip rfl rfl ?_
        refine ar_skip rfl rfl ?_
        refine ar_skip rfl rfl ?_
        refine ar_pickT rfl rfl rfl rfl rfl ?_
        refine ar_nil ?_
        refine then_n ?_
        refine wp_condT rfl ?_
        refine wp_seq ?_
        refine wp_reg (by kernel_rfl) ?_
        refine ar_assign rfl rfl rfl rfl ?_
        refine ar_assign rfl rfl rfl rfl ?_
        refine ar_nil ?_
        refine then_n ?_
        refine wp_ret ?_
        refine then_r (ret_post rfl rfl ?_)
        rw [valuesT_bad (fun h => by have q1 := h.1.1; have q2 := h.1.2; have q3 := h.2.1; have q4 := h.2.2; omega)]; rfl
      · refine ar_pickF rfl rfl rfl rfl rfl ?_
        refine ar_move rfl rfl rfl rfl ?_
        refine ar_move rfl rfl rfl rfl ?_
        refine ar_len tab_ok rfl rfl tb70 rfl len_map rfl rfl ?_
        refine ar_fa tab_ok rfl rfl rfl tb27 rfl rfl rfl rfl rfl ?_
        refine ar_ld tab_ok rfl rfl rfl tb3 rfl rfl rfl rfl rfl ?_
        refine ar_neq_s rfl rfl rfl rfl rfl (fun h35 => ?_) (fun h35 => ?_)
        · refine ar_pickF rfl rfl rfl rfl rfl ?_
          refine ar_nil ?_
          refine then_n ?_
          refine wp_condT rfl ?_
          refine wp_seq ?_
          refine wp_reg (by kernel_rfl) ?_
          refine ar_assign rfl rfl rfl rfl ?_
          refine ar_assign rfl rfl rfl rfl ?_
          refine ar_nil ?_
          refine then_n ?_
          refine wp_ret ?_
          refine then_r (ret_post rfl rfl ?_)
          rw [valuesT_bad (fun h => by have q1 := h.1.1; have q2 := h.1.2; have q3 := h.2.1; have q4 := h.2.2; omega)]; rfl
        · refine ar_pickF rfl rfl rfl rfl rfl ?_
          refine ar_nil ?_
          refine then_n ?_
          refine wp_condF rfl ?_
          refine wp_skip ?_
          refine then_n ?_
          refine wp_seq ?_
          refine wp_reg (by kernel_rfl) ?_
          refine ar_bs_own (es := [0].map encU) 37 [] tab_ok rfl tb70 rfl tb72 rfl rfl ⟨rfl, trivial⟩ rfl rfl rfl rfl rfl rfl rfl rfl rfl ?_
          refine ar_move rfl rfl rfl rfl ?_
          refine ar_app 39 [] tab_ok rfl tb70 rfl tb70 rfl tb72 rfl rfl rfl rfl ⟨rfl, rfl, trivial⟩ rfl (el_72 _) app_map (by constructor <;> simp <;> omega) rfl rfl rfl ?_
          refine ar_move rfl rfl rfl rfl ?_
          refine ar_app 41 [] tab_ok rfl tb70 rfl tb70 rfl tb72 rfl rfl rfl rfl ⟨rfl, rfl, trivial⟩ rfl (el_72 _) app_map (by constructor <;> simp <;> omega) rfl rfl rfl ?_
          refine ar_assign rfl rfl rfl rfl ?_
          refine ar_nil ?_
          refine then_n ?_
          refine wp_seq ?_
          refine wp_seq ?_
          refine wp_reg (by kernel_rfl) ?_
          refine ar_assign rfl rfl rfl rfl ?_
          refine ar_nil ?_
          refine then_n ?_
          refine wp_block ?_
          refine wp_loop (α := Nat) (fun j => mk [(3, .ptr 3 0), (10, .own 41), (11, .v (.int .i64 (j : Nat)))] [(3, .box ((encA a).map .v)), (41, .row 72 1 ((valsT (0 :: (inp ++ st)) (a.g.take j)).map encU))] 0) (fun j => j ≤ a.g.length) (fun j => a.g.length - j) 0 (Nat.zero_le _) (le_to ⟨rfl, rfl, rfl, trivial⟩ ⟨rfl, (row_eq rfl (by simp [valsT])), trivial⟩ rfl rfl rfl rfl) ?_
          rintro j hinv
          have hgj : j < a.g.length → (a.g.getD j default).a ≤ 1000 ∧ (a.g.getD j default).b ≤ 1000 := fun hj => by have := hg.right.g j hj; obtain ⟨q1, q2, q3⟩ := this; have := hg.small.i1; have := hg.small.l1; have := hg.small.g1; omega
          refine wp_seq ?_
          refine wp_seq ?_
          refine wp_reg (by kernel_rfl) ?_
          refine ar_move rfl rfl rfl rfl ?_
          refine ar_fa tab_ok rfl rfl rfl tb27 rfl rfl rfl rfl rfl ?_
          refine ar_ld tab_ok rfl rfl rfl tb23 rfl rfl rfl rfl rfl ?_
          refine ar_len tab_ok rfl rfl tb23 rfl len_map rfl rfl ?_
          refine ar_lss_s rfl rfl rfl rfl rfl (fun h46 => ?_) (fun h46 => ?_)
          · refine ar_nil ?_
            refine then_n ?_
            refine wp_condT rfl ?_
            refine wp_skip ?_
            refine then_n ?_
            refine wp_seq ?_
            refine wp_block ?_
            refine wp_draw (L := [([], []), ([], []), ([3], []), ([3], []), ([], []), ([], []), ([], []), ([], []), ([41], []), ([], []), ([3], []), ([3], []), ([], []), ([], []), ([], []), ([], []), ([41], []), ([], []), ([], []), ([41, 68], [41, 68]), ([], [])]) (by kernel_rfl) mixed (by kernel_rfl) ?_
            refine ar_move rfl rfl rfl rfl ?_
            refine ar_move rfl rfl rfl rfl ?_
            refine ar_fa tab_ok rfl rfl rfl tb27 rfl rfl rfl rfl rfl ?_
            refine ar_ld tab_ok rfl rfl rfl tb23 rfl rfl rfl rfl rfl ?_
            refine ar_move rfl rfl rfl rfl ?_
            refine ar_ia tab_ok rfl rfl rfl tb23 rfl tb58 (by omega) (map_get (n := j) (by omega)) rfl rfl rfl ?_
            refine ar_fa_ref tab_ok rfl rfl tb58 rfl rfl rfl rfl ?_
            refine ar_ld_ref tab_ok rfl rfl tb3 rfl rfl rfl rfl ?_
            refine ar_call [(41, _)] (pc_62 _ _ (by have := hgj (by omega); omega)) rfl rfl rfl rfl rfl rfl ⟨rfl, trivial⟩ (.inr rfl) rfl rfl rfl ?_
            refine ar_move rfl rfl rfl rfl ?_
            refine ar_fa tab_ok rfl rfl rfl tb27 rfl rfl rfl rfl rfl ?_
            refine ar_ld tab_ok rfl rfl rfl tb23 rfl rfl rfl rfl rfl ?_
            refine ar_move rfl rfl rfl rfl ?_
            refine ar_ia tab_ok rfl rfl rfl tb23 rfl tb58 (by omega) (map_get (n := j) (by omega)) rfl rfl rfl ?_
            refine ar_fa_ref tab_ok rfl rfl tb58 rfl rfl rfl rfl ?_
            refine ar_ld_ref tab_ok rfl rfl tb3 rfl rfl rfl rfl ?_
            refine ar_call [(41, _)] (pc_62 _ _ (by have := hgj (by omega); omega)) rfl rfl rfl rfl rfl rfl ⟨rfl, trivial⟩ (.inr rfl) rfl rfl rfl ?_
            refine ar_call [] (pc_50 _ _) rfl rfl rfl rfl rfl rfl trivial (.inl rfl) rfl rfl rfl ?_
            refine ar_bs [] tab_ok rfl tb70 rfl tb72 rfl trivial rfl rfl rfl rfl rfl rfl rfl rfl ?_
            refine ar_app 68 [] tab_ok rfl tb70 rfl tb70 rfl tb72 rfl rfl rfl rfl ⟨rfl, rfl, trivial⟩ rfl (elOk.cons rfl rfl elOk.nil) app_one (by constructor <;> simp [valsT_len] <;> omega) rfl rfl rfl ?_
            refine ar_assign rfl rfl rfl rfl ?_
            refine ar_nil ?_
            refine inblk_n ?_
            refine then_n ?_
            refine wp_reg (by kernel_rfl) ?_
            refine ar_move rfl rfl rfl rfl ?_
            refine ar_addi rfl rfl rfl rfl (by omega) (by omega) rfl rfl ?_
            refine ar_assign rfl rfl rfl rfl ?_
            refine ar_nil ?_
            exact loop_n (j + 1) (by omega) (by omega) (le_ren [(41, 68)] ⟨rfl, rfl, rfl, trivial⟩ ⟨rfl, (row_eq rfl (by rw [valsT_snoc _ _ _ (by omega)] <;> simp)), trivial⟩ rfl rfl rfl rfl rfl)
          · refine ar_nil ?_
            refine then_n ?_
            refine wp_condF rfl ?_
            refine wp_exit ?_
            refine then_x (loop_x (inblk_e ?_))
            refine then_n ?_
            refine wp_seq ?_
            refine wp_reg (by kernel_rfl) ?_
            refine ar_move rfl rfl rfl rfl ?_
            refine ar_assign rfl rfl rfl rfl ?_
            refine ar_assign rfl rfl rfl rfl ?_
            refine ar_nil ?_
            refine then_n ?_
            refine wp_ret ?_
            refine ret_post rfl rfl ?_
            rw [valuesT_ok ⟨⟨by omega, h13⟩, by omega, h15⟩]
            have hi : j = a.g.length := by omega
            subst hi
            rw [List.take_length]
    · refine ar_assign rfl rfl rfl rfl ?_
      refine ar_nil ?_
      refine then_n ?_
      refine wp_seq ?_
      refine wp_seq ?_
      refine wp_reg (by kernel_rfl) ?_
      refine ar_move rfl rfl rfl rfl ?_
      refine ar_not rfl rfl rfl rfl rfl ?_
      refine ar_move rfl rfl rfl rfl ?_
      refine ar_move rfl rfl rfl rfl ?_
      refine ar_not rfl rfl rfl rfl rfl ?_
      refine ar_pickF rfl rfl rfl rfl rfl ?_
      refine ar_move rfl rfl rfl rfl ?_
      refine ar_skip rfl rfl ?_
      refine ar_skip rfl rfl ?_
      refine ar_skip rfl rfl ?_
      refine ar_skip rfl rfl ?_
      refine ar_skip rfl rfl ?_
      refine ar_skip rfl rfl ?_
      refine ar_pickT rfl rfl rfl rfl rfl ?_
      refine ar_move rfl rfl rfl rfl ?_
      refine ar_skip rfl rfl ?_
      refine ar_skip rfl rfl ?_
      refine ar_skip rfl rfl ?_
      refine ar_skip rfl rfl ?_
      refine ar_skip rfl rfl ?_
      refine ar_pickT rfl rfl rfl rfl rfl ?_
      refine ar_nil ?_
      refine then_n ?_
      refine wp_condT rfl ?_
      refine wp_seq ?_
      refine wp_reg (by kernel_rfl) ?_
      refine ar_assign rfl rfl rfl rfl ?_
      refine ar_assign rfl rfl rfl rfl ?_
      refine ar_nil ?_
      refine then_n ?_
      refine wp_ret ?_
      refine then_r (ret_post rfl rfl ?_)
      rw [valuesT_bad (fun h => by have q1 := h.1.1; have q2 := h.1.2; have q3 := h.2.1; have q4 := h.2.2; rw [q4] at h15; cases h15)]; rfl
  · refine ar_assign rfl rfl rfl rfl ?_
    refine ar_nil ?_
    refine then_n ?_
    refine wp_seq ?_
    refine wp_reg (by kernel_rfl) ?_
    refine ar_move rfl rfl rfl rfl ?_
    refine ar_call [] (pc_46 inp hl1) rfl rfl rfl rfl rfl rfl trivial (.inl rfl) rfl rfl rfl ?_
    refine ar_split (fun h15 => ?_) (fun h15 => ?_)
    · refine ar_assign rfl rfl rfl rfl ?_
      refine ar_nil ?_
      refine then_n ?_
      refine wp_seq ?_
      refine wp_seq ?_
      refine wp_reg (by kernel_rfl) ?_
      refine ar_move rfl rfl rfl rfl ?_
      refine ar_not rfl rfl rfl rfl rfl ?_
      refine ar_move rfl rfl rfl rfl ?_
      refine ar_skip rfl rfl ?_
      refine ar_skip rfl rfl ?_
      refine ar_pickT rfl rfl rfl rfl rfl ?_
      refine ar_move rfl rfl rfl rfl ?_
      refine ar_skip rfl rfl ?_
      refine ar_skip rfl rfl ?_
      refine ar_skip rfl rfl ?_
      refine ar_skip rfl rfl ?_
      refine ar_skip rfl rfl ?_
      refine ar_skip rfl rfl ?_
      refine ar_pickT rfl rfl rfl rfl rfl ?_
      refine ar_move rfl rfl rfl rfl ?_
      refine ar_skip rfl rfl ?_
      refine ar_skip rfl rfl ?_
      refine ar_skip rfl rfl ?_
      refine ar_skip rfl rfl ?_
      refine ar_skip rfl rfl ?_
      refine ar_pickT rfl rfl rfl rfl rfl ?_
      refine ar_nil ?_
      refine then_n ?_
      refine wp_condT rfl ?_
      refine wp_seq ?_
      refine wp_reg (by kernel_rfl) ?_
      refine ar_assign rfl rfl rfl rfl ?_
      refine ar_assign rfl rfl rfl rfl ?_
      refine ar_nil ?_
      refine then_n ?_
      refine wp_ret ?_
      refine then_r (ret_post rfl rfl ?_)
      rw [valuesT_bad (fun h => by have q1 := h.1.1; have q2 := h.1.2; have q3 := h.2.1; have q4 := h.2.2; rw [q2] at h13; cases h13)]; rfl
    · refine ar_assign rfl rfl rfl rfl ?_
      refine ar_nil ?_
      refine then_n ?_
      refine wp_seq ?_
      refine wp_seq ?_
      refine wp_reg (by kernel_rfl) ?_
      refine ar_move rfl rfl rfl rfl ?_
      refine ar_not rfl rfl rfl rfl rfl ?_
      refine ar_move rfl rfl rfl rfl ?_
      refine ar_skip rfl rfl ?_
      refine ar_skip rfl rfl ?_
      refine ar_pickT rfl rfl rfl rfl rfl ?_
      refine ar_move rfl rfl rfl rfl ?_
      refine ar_skip rfl rfl ?_
      refine ar_skip rfl rfl ?_
      refine ar_skip rfl rfl ?_
      refine ar_skip rfl rfl ?_
      refine ar_skip rfl rfl ?_
      refine ar_skip rfl rfl ?_
      refine ar_pickT rfl rfl rfl rfl rfl ?_
      refine ar_move rfl rfl rfl rfl ?_
      refine ar_skip rfl rfl ?_
      refine ar_skip rfl rfl ?_
      refine ar_skip rfl rfl ?_
      refine ar_skip rfl rfl ?_
      refine ar_skip rfl rfl ?_
      refine ar_pickT rfl rfl rfl rfl rfl ?_
      refine ar_nil ?_
      refine then_n ?_
      refine wp_condT rfl ?_
      refine wp_seq ?_
      refine wp_reg (by kernel_rfl) ?_
      refine ar_assign rfl rfl rfl rfl ?_
      refine ar_assign rfl rfl rfl rfl ?_
      refine ar_nil ?_
      refine then_n ?_
      refine wp_ret ?_
      refine then_r (ret_post rfl rfl ?_)
      rw [valuesT_bad (fun h => by have q1 := h.1.1; have q2 := h.1.2; have q3 := h.2.1; have q4 := h.2.2; rw [q2] at h13; cases h13)]; rfl
theorem fillU_step {α : Type} [Inhabited α] (gf : α → Int) (xs : List α) (j : Nat) (hj : j < xs.length) :
    ((xs.take j).map gf ++ List.replicate (xs.length - j) 0).set j (gf (xs.getD j default)) = (xs.take (j + 1)).map gf ++ List.replicate (xs.length - (j + 1)) 0 := by
  have h1 : List.replicate (xs.length - j) (0 : Int) = 0 :: List.replicate (xs.length - (j + 1)) 0 := by
    rw [← List.replicate_succ]; congr 1; omega
  rw [take_snoc hj, h1, List.set_append_right _ _ (by simp; omega)]
  have : j - ((xs.take j).map gf).length = 0 := by simp; omega
  rw [this]
  simp
theorem pc_108 (v : List Int) (ls : List Int) (hv : TriL v) (hl : ls.length ≤ 20000) : PCall Try.prog 108 [slU v, slI ls] (slU (ls.map (litT v))) := by
  refine pc_of tab_ok (f := 108) (fn := Try.f108) (N := 26) (rs := [.tmp 4]) (by kernel_rfl) rfl (by kernel_rfl) rfl rfl [(0, .v (slU v)), (1, .v (slI ls))] ⟨rfl, rfl, trivial⟩ rfl rfl ?_
  intro B
  refine wp_seq ?_
  refine wp_reg (by kernel_rfl) ?_
  refine ar_assign rfl rfl rfl rfl ?_
  refine ar_nil ?_
  refine then_n ?_
  refine wp_seq ?_
  refine wp_reg (by kernel_rfl) ?_
  refine ar_move rfl rfl rfl rfl ?_
  refine ar_len tab_ok rfl rfl tb24 rfl len_map rfl rfl ?_
  refine ar_make 10 (el0 := [.int .u8 0]) tab_ok rfl tb70 rfl tb72 rfl rfl rfl rfl rfl ⟨by omega, by omega, by omega, by simp; omega⟩ rfl rfl rfl rfl rfl ?_
  refine ar_assign rfl rfl rfl rfl ?_
  refine ar_nil ?_
  refine then_n ?_
  refine wp_seq ?_
  refine wp_seq ?_
  refine wp_reg (by kernel_rfl) ?_
  refine ar_move rfl rfl rfl rfl ?_
  refine ar_len tab_ok rfl rfl tb24 rfl len_map rfl rfl ?_
  refine ar_move rfl rfl rfl rfl ?_
  refine ar_nil ?_
  refine then_n ?_
  refine wp_block ?_
  refine wp_loop (α := Nat) (fun j => mk [(0, .v (slU v)), (5, .own 10), (11, .v (slI ls)), (12, .v (.int .i64 (ls.length : Nat))), (13, .v (.int .i64 (j : Nat)))] [(10, .row 72 1 (((ls.take j).map (litT v) ++ List.replicate (ls.length - j) 0).map encU))] 0) (fun j => j ≤ ls.length) (fun j => ls.length - j) 0 (Nat.zero_le _) (le_to ⟨rfl, rfl, rfl, rfl, rfl, trivial⟩ ⟨(row_eq rfl (by simp)), trivial⟩ rfl rfl rfl rfl) ?_
  rintro j hinv
  refine wp_seq ?_
  refine wp_reg (by kernel_rfl) ?_
  refine ar_lss_s rfl rfl rfl rfl rfl (fun h14 => ?_) (fun h14 => ?_)
  · refine ar_nil ?_
    refine then_n ?_
    refine wp_seq ?_
    refine wp_condT rfl ?_
    refine wp_skip ?_
    refine then_n ?_
    refine wp_seq ?_
    refine wp_block ?_
    refine wp_seq ?_
    refine wp_reg (by kernel_rfl) ?_
    refine ar_move rfl rfl rfl rfl ?_
    refine ar_ia tab_ok rfl rfl rfl tb24 rfl tb3 (by omega) (map_get (n := j) (by omega)) rfl rfl rfl ?_
    refine ar_ld_ref tab_ok rfl rfl tb3 rfl rfl rfl rfl ?_
    refine ar_assign rfl rfl rfl rfl ?_
    refine ar_assign rfl rfl rfl rfl ?_
    refine ar_nil ?_
    refine then_n ?_
    refine wp_reg (by kernel_rfl) ?_
    refine ar_move rfl rfl rfl rfl ?_
    refine ar_move rfl rfl rfl rfl ?_
    refine ar_move rfl rfl rfl rfl ?_
    refine ar_move rfl rfl rfl rfl ?_
    refine ar_call [] (pc_61 _ _ hv) rfl rfl rfl rfl rfl rfl trivial (.inl rfl) rfl rfl rfl ?_
    refine ar_ia_own tab_ok rfl rfl rfl rfl tb70 rfl tb72 rfl (by omega) (by simp; omega) rfl rfl rfl rfl ?_
    refine ar_st_e tab_ok rfl tb72 rfl rfl rfl rfl rfl (by simp; omega) set_map rfl rfl rfl ?_
    refine ar_nil ?_
    refine inblk_n ?_
    refine then_n ?_
    refine wp_reg (by kernel_rfl) ?_
    refine ar_addi rfl rfl rfl rfl (by omega) (by omega) rfl rfl ?_
    refine ar_move rfl rfl rfl rfl ?_
    refine ar_nil ?_
    exact loop_n (j + 1) (by omega) (by omega) (le_to ⟨rfl, rfl, rfl, rfl, rfl, trivial⟩ ⟨(row_eq rfl (by exact congrArg _ (fillU_step (litT v) ls j (by omega)))), trivial⟩ rfl rfl rfl rfl)
  · refine ar_nil ?_
    refine then_n ?_
    refine wp_seq ?_
    refine wp_condF rfl ?_
    refine wp_exit ?_
    refine then_x (loop_x (inblk_e ?_))
    refine then_n ?_
    refine wp_seq ?_
    refine wp_reg (by kernel_rfl) ?_
    refine ar_move rfl rfl rfl rfl ?_
    refine ar_assign rfl rfl rfl rfl ?_
    refine ar_nil ?_
    refine then_n ?_
    refine wp_ret ?_
    refine ret_post rfl rfl ?_
    have hi : j = ls.length := by omega
    subst hi
    simp
theorem pc_109 (v : List Int) (ls : List Int) (hl : ls.length ≤ 20000) (hb : ∀ l, l ∈ ls → l ≤ 9223372036854775807) : PCall Try.prog 109 [slU v, slI ls] (slU (ls.map (litT v))) := by
  refine pc_of tab_ok (f := 109) (fn := Try.f109) (N := 23) (rs := [.tmp 4]) (by kernel_rfl) rfl (by kernel_rfl) rfl rfl [(0, .v (slU v)), (1, .v (slI ls))] ⟨rfl, rfl, trivial⟩ rfl rfl ?_
  intro B
  refine wp_seq ?_
  refine wp_reg (by kernel_rfl) ?_
  refine ar_assign rfl rfl rfl rfl ?_
  refine ar_nil ?_
  refine then_n ?_
  refine wp_seq ?_
  refine wp_reg (by kernel_rfl) ?_
  refine ar_assign rfl rfl rfl rfl ?_
  refine ar_nil ?_
  refine then_n ?_
  refine wp_seq ?_
  refine wp_seq ?_
  refine wp_reg (by kernel_rfl) ?_
  refine ar_assign rfl rfl rfl rfl ?_
  refine ar_nil ?_
  refine then_n ?_
  refine wp_block ?_
  refine wp_le (le_nil (t := 5) (id := 900) (e := 72) (sz := 1) rfl rfl (by decide)) ?_
  refine wp_loop (α := Nat) (fun j => mk [(0, .v (slU v)), (1, .v (slI ls)), (5, .own 901), (6, .v (.int .i64 (j : Nat)))] [(901, .row 72 1 (((ls.take j).map (litT v)).map encU))] 0) (fun j => j ≤ ls.length) (fun j => ls.length - j) 0 (Nat.zero_le _) (le_ren [(901, 900)] ⟨rfl, rfl, rfl, rfl, trivial⟩ ⟨rfl, trivial⟩ rfl rfl rfl rfl rfl) ?_
  rintro j hinv
  refine wp_seq ?_
  refine wp_seq ?_
  refine wp_reg (by kernel_rfl) ?_
  refine ar_move rfl rfl rfl rfl ?_
  refine ar_move rfl rfl rfl rfl ?_
  refine ar_len tab_ok rfl rfl tb24 rfl len_map rfl rfl ?_
  refine ar_lss_s rfl rfl rfl rfl rfl (fun h10 => ?_) (fun h10 => ?_)
  · refine ar_nil ?_
    refine then_n ?_
    refine wp_condT rfl ?_
    refine wp_skip ?_
    refine then_n ?_
    refine wp_seq ?_
    refine wp_block ?_
    refine wp_reg (by kernel_rfl) ?_
    refine ar_move rfl rfl rfl rfl ?_
    refine ar_move rfl rfl rfl rfl ?_
    refine ar_move rfl rfl rfl rfl ?_
    refine ar_move rfl rfl rfl rfl ?_
    refine ar_ia tab_ok rfl rfl rfl tb24 rfl tb3 (by omega) (map_get (n := j) (by omega)) rfl rfl rfl ?_
    refine ar_ld_ref tab_ok rfl rfl tb3 rfl rfl rfl rfl ?_
    refine ar_call [] (pc_62 _ _ (hb _ (getD_mem (by omega)))) rfl rfl rfl rfl rfl rfl trivial (.inl rfl) rfl rfl rfl ?_
    refine ar_bs [] tab_ok rfl tb70 rfl tb72 rfl trivial rfl rfl rfl rfl rfl rfl rfl rfl ?_
    refine ar_app 21 [] tab_ok rfl tb70 rfl tb70 rfl tb72 rfl rfl rfl rfl ⟨rfl, rfl, trivial⟩ rfl (elOk.cons rfl rfl elOk.nil) app_one (by constructor <;> simp <;> omega) rfl rfl rfl ?_
    refine ar_assign rfl rfl rfl rfl ?_
    refine ar_nil ?_
    refine inblk_n ?_
    refine then_n ?_
    refine wp_reg (by kernel_rfl) ?_
    refine ar_move rfl rfl rfl rfl ?_
    refine ar_addi rfl rfl rfl rfl (by omega) (by omega) rfl rfl ?_
    refine ar_assign rfl rfl rfl rfl ?_
    refine ar_nil ?_
    exact loop_n (j + 1) (by omega) (by omega) (le_ren [(901, 21)] ⟨rfl, rfl, rfl, rfl, trivial⟩ ⟨(row_eq rfl (by rw [take_snoc (by omega)]; simp)), trivial⟩ rfl rfl rfl rfl rfl)
  · refine ar_nil ?_
    refine then_n ?_
    refine wp_condF rfl ?_
    refine wp_exit ?_
    refine then_x (loop_x (inblk_e ?_))
    refine then_n ?_
    refine wp_seq ?_
    refine wp_reg (by kernel_rfl) ?_
    refine ar_move rfl rfl rfl rfl ?_
    refine ar_assign rfl rfl rfl rfl ?_
    refine ar_nil ?_
    refine then_n ?_
    refine wp_ret ?_
    refine ret_post rfl rfl ?_
    have hi : j = ls.length := by omega
    subst hi
    rw [List.take_length]
theorem valuesT_stepT {a : Aig} {st inp : List Int} : (valuesT a st inp).2 = 0 → stepT a st inp = stepTV a (valuesT a st inp).1 := fun h => by
  by_cases hs : shapeT a st inp
  · rw [valuesT_ok hs, stepT_ok hs]
  · rw [valuesT_bad hs] at h; cases h
theorem valuesT_stepN {a : Aig} {st inp : List Int} : (valuesT a st inp).2 ≠ 0 → stepT a st inp = ⟨[], [], [], [], (valuesT a st inp).2⟩ := fun h => by
  by_cases hs : shapeT a st inp
  · rw [valuesT_ok hs] at h; exact absurd rfl h
  · rw [valuesT_bad hs, stepT_bad hs]
theorem pc_58 (a : Aig) (st inp : List Int) (hb : Bd a) (h0 : Nn st) (h1 : Nn inp) (hl0 : st.length ≤ 9223372036854775807) (hl1 : inp.length ≤ 9223372036854775807) : PCall Try.prog 58 [aigV a, slU st, slU inp] ((stepT a st inp).v) := by
  refine pc_of tab_ok (f := 58) (fn := Try.f58) (N := 54) (rs := [.tmp 6, .cell 7 83, .tmp 8]) (by kernel_rfl) rfl (by kernel_rfl) rfl rfl [(0, .v (aigV a)), (1, .v (slU st)), (2, .v (slU inp))] ⟨rfl, rfl, rfl, trivial⟩ rfl rfl ?_
  intro B
  have hb0 := hb.i0; have hb1 := hb.i1; have hb2 := hb.l1; have hb3 := hb.g1; have hv : varsS a = a.i + a.l.length + a.g.length := rfl
  have hvt := valuesT_tri (a := a) h0 h1
  refine wp_seq ?_
  refine wp_reg (by kernel_rfl) ?_
  refine ar_box 3 [] rfl rfl rfl ⟨rfl, trivial⟩ rfl rfl rfl ?_
  refine ar_assign rfl rfl rfl rfl ?_
  refine ar_alloc (id := 7) tab_ok rfl rfl tb83 rfl rfl rfl rfl ?_
  refine ar_assign rfl rfl rfl rfl ?_
  refine ar_nil ?_
  refine then_n ?_
  refine wp_seq ?_
  refine wp_reg (by kernel_rfl) ?_
  refine ar_lda tab_ok rfl rfl rfl tb27 rfl rfl rfl rfl rfl rfl ?_
  refine ar_move rfl rfl rfl rfl ?_
  refine ar_move rfl rfl rfl rfl ?_
  refine ar_call [] (pc_56 a st inp hb h0 h1 hl0 hl1) rfl rfl rfl rfl rfl rfl trivial (.inl rfl) rfl rfl rfl ?_
  refine ar_move rfl rfl rfl rfl ?_
  refine ar_ext rfl rfl rfl rfl rfl ?_
  refine ar_ext rfl rfl rfl rfl rfl ?_
  refine ar_assign rfl rfl rfl rfl ?_
  refine ar_assign rfl rfl rfl rfl ?_
  refine ar_nil ?_
  refine then_n ?_
  refine wp_seq ?_
  refine wp_seq ?_
  refine wp_reg (by kernel_rfl) ?_
  refine ar_move rfl rfl rfl rfl ?_
  refine ar_neq_s rfl rfl rfl rfl rfl (fun h22 => ?_) (fun h22 => ?_)
  · refine ar_nil ?_
    refine then_n ?_
    refine wp_condT rfl ?_
    refine wp_seq ?_
    refine wp_reg (by kernel_rfl) ?_
    refine ar_builda [] tab_ok rfl tb83 rfl tb70 rfl trivial rfl rfl rfl rfl rfl rfl ?_
    refine ar_move rfl rfl rfl rfl ?_
    refine ar_assign rfl rfl rfl rfl ?_
    refine ar_st [] tab_ok rfl tb83 rfl rfl rfl trivial rfl rfl rfl rfl rfl rfl rfl rfl ?_
    refine ar_assign rfl rfl rfl rfl ?_
    refine ar_nil ?_
    refine then_n ?_
    refine wp_ret ?_
    refine then_r (ret_post rfl rfl ?_)
    rw [valuesT_stepN h22]; rfl
  · refine ar_nil ?_
    refine then_n ?_
    refine wp_condF rfl ?_
    refine wp_skip ?_
    refine then_n ?_
    refine wp_seq ?_
    refine wp_reg (by kernel_rfl) ?_
    refine ar_assign rfl rfl rfl rfl ?_
    refine ar_nil ?_
    refine then_n ?_
    refine wp_seq ?_
    refine wp_seq ?_
    refine wp_reg (by kernel_rfl) ?_
    refine ar_fa tab_ok rfl rfl rfl tb27 rfl rfl rfl rfl rfl ?_
    refine ar_ld tab_ok rfl rfl rfl tb22 rfl rfl rfl rfl rfl ?_
    refine ar_len tab_ok rfl rfl tb22 rfl len_map rfl rfl ?_
    refine ar_move rfl rfl rfl rfl ?_
    refine ar_nil ?_
    refine then_n ?_
    refine wp_block ?_
    refine wp_le (le_nil (t := 11) (id := 900) (e := 3) (sz := 1) rfl rfl (by decide)) ?_
    refine wp_loop (α := Nat) (fun j => mk [(3, .ptr 3 0), (7, .ptr 7 0), (9, .v (slU (valuesT a st inp).1)), (11, .own 901), (26, .v (slL a.l)), (27, .v (.int .i64 (a.l.length : Nat))), (28, .v (.int .i64 (j : Nat)))] [(3, .box ((encA a).map .v)), (7, .box [.nils, .nils, .nils]), (901, .row 3 1 (((a.l.take j).map Latch.next).map encI))] 0) (fun j => j ≤ a.l.length) (fun j => a.l.length - j) 0 (Nat.zero_le _) (le_ren [(901, 900)] ⟨rfl, rfl, rfl, rfl, rfl, rfl, rfl, trivial⟩ ⟨rfl, rfl, rfl, trivial⟩ rfl rfl rfl rfl rfl) ?_
    rintro j hinv
    refine wp_seq ?_
    refine wp_reg (by kernel_rfl) ?_
    refine ar_lss_s rfl rfl rfl rfl rfl (fun h29 => ?_) (fun h29 => ?_)
    · refine ar_nil ?_
      refine then_n ?_
      refine wp_seq ?_
      refine wp_condT rfl ?_
      refine wp_skip ?_
      refine then_n ?_
      refine wp_seq ?_
      refine wp_block ?_
      refine wp_seq ?_
      refine wp_reg (by kernel_rfl) ?_
      refine ar_ia tab_ok rfl rfl rfl tb22 rfl tb63 (by omega) (map_get (n := j) (by omega)) rfl rfl rfl ?_
      refine ar_ld_refa tab_ok rfl rfl tb63 rfl rfl rfl rfl rfl ?_
      refine ar_alloc (id := 13) tab_ok rfl rfl tb63 rfl rfl rfl rfl ?_
      refine ar_st [] tab_ok rfl tb63 rfl rfl rfl trivial rfl rfl rfl rfl rfl rfl rfl rfl ?_
      refine ar_nil ?_
      refine then_n ?_
      refine wp_reg (by kernel_rfl) ?_
      refine ar_move rfl rfl rfl rfl ?_
      refine ar_fa tab_ok rfl rfl rfl tb63 rfl rfl rfl rfl rfl ?_
      refine ar_ld tab_ok rfl rfl rfl tb3 rfl rfl rfl rfl rfl ?_
      refine ar_bs [] tab_ok rfl tb24 rfl tb3 rfl trivial rfl rfl rfl rfl rfl rfl rfl rfl ?_
      refine ar_app 36 [] tab_ok rfl tb24 rfl tb24 rfl tb3 rfl rfl rfl rfl ⟨rfl, rfl, trivial⟩ rfl (elOk.cons rfl rfl elOk.nil) app_one (by constructor <;> simp <;> omega) rfl rfl rfl ?_
      refine ar_assign rfl rfl rfl rfl ?_
      refine ar_nil ?_
      refine inblk_n ?_
      refine then_n ?_
      refine wp_reg (by kernel_rfl) ?_
      refine ar_addi rfl rfl rfl rfl (by omega) (by omega) rfl rfl ?_
      refine ar_move rfl rfl rfl rfl ?_
      refine ar_nil ?_
      exact loop_n (j + 1) (by omega) (by omega) (le_ren [(901, 36)] ⟨rfl, rfl, rfl, rfl, rfl, rfl, rfl, trivial⟩ ⟨rfl, rfl, (row_eq rfl (by rw [take_snoc (by omega)]; simp)), trivial⟩ rfl rfl rfl rfl rfl)
    · refine ar_nil ?_
      refine then_n ?_
      refine wp_seq ?_
      refine wp_condF rfl ?_
      refine wp_exit ?_
      refine then_x (loop_x (inblk_e ?_))
      refine then_n ?_
      refine wp_seq ?_
      refine wp_le (le_give_row (id := 901) rfl) ?_
      refine wp_to [(3, .ptr 3 0), (7, .ptr 7 0), (9, .v (slU (valuesT a st inp).1)), (11, .v (slI (a.l.map Latch.next)))] [(3, .box ((encA a).map .v)), (7, .box [.nils, .nils, .nils])] ⟨rfl, rfl, rfl, (t_eq rfl (by rw [List.take_of_length_le (by omega)]; rfl)), trivial⟩ ⟨rfl, rfl, trivial⟩ rfl rfl rfl rfl ?_
      refine wp_draw (L := [([], []), ([], []), ([], []), ([], []), ([3], []), ([3], []), ([], []), ([], []), ([3], []), ([3], []), ([], []), ([], []), ([3], []), ([3], []), ([], []), ([], []), ([], []), ([7], [7]), ([], [])]) (by kernel_rfl) mixed (by kernel_rfl) ?_
      refine ar_move rfl rfl rfl rfl ?_
      refine ar_move rfl rfl rfl rfl ?_
      refine ar_call [] (pc_108 _ (a.l.map Latch.next) hvt (by simp; omega)) rfl rfl rfl rfl rfl rfl trivial (.inl rfl) rfl rfl rfl ?_
      refine ar_move rfl rfl rfl rfl ?_
      refine ar_fa tab_ok rfl rfl rfl tb27 rfl rfl rfl rfl rfl ?_
      refine ar_ld tab_ok rfl rfl rfl tb24 rfl rfl rfl rfl rfl ?_
      refine ar_call [] (pc_108 _ a.outs hvt hb.o1) rfl rfl rfl rfl rfl rfl trivial (.inl rfl) rfl rfl rfl ?_
      refine ar_move rfl rfl rfl rfl ?_
      refine ar_fa tab_ok rfl rfl rfl tb27 rfl rfl rfl rfl rfl ?_
      refine ar_ld tab_ok rfl rfl rfl tb24 rfl rfl rfl rfl rfl ?_
      refine ar_call [] (pc_108 _ a.bad hvt hb.b1) rfl rfl rfl rfl rfl rfl trivial (.inl rfl) rfl rfl rfl ?_
      refine ar_move rfl rfl rfl rfl ?_
      refine ar_fa tab_ok rfl rfl rfl tb27 rfl rfl rfl rfl rfl ?_
      refine ar_ld tab_ok rfl rfl rfl tb24 rfl rfl rfl rfl rfl ?_
      refine ar_call [] (pc_108 _ a.con hvt hb.c1) rfl rfl rfl rfl rfl rfl trivial (.inl rfl) rfl rfl rfl ?_
      refine ar_builda [] tab_ok rfl tb83 rfl tb70 rfl trivial rfl rfl rfl rfl rfl rfl ?_
      refine ar_assign rfl rfl rfl rfl ?_
      refine ar_st [] tab_ok rfl tb83 rfl rfl rfl trivial rfl rfl rfl rfl rfl rfl rfl rfl ?_
      refine ar_assign rfl rfl rfl rfl ?_
      refine ar_nil ?_
      refine then_n ?_
      refine wp_ret ?_
      refine ret_post rfl rfl ?_
      rw [valuesT_stepT (Decidable.not_not.1 h22)]; simp [StepT.v, Function.comp_def]
theorem pc_59 (a : Aig) (st inp : List Int) (hg : Good a) (hl0 : st.length ≤ 9223372036854775807) (hl1 : inp.length ≤ 9223372036854775807) : PCall Try.prog 59 [aigV a, slU st, slU inp] ((stepT a st inp).v) := by
  refine pc_of tab_ok (f := 59) (fn := Try.f59) (N := 56) (rs := [.tmp 6, .cell 7 83, .tmp 8]) (by kernel_rfl) rfl (by kernel_rfl) rfl rfl [(0, .v (aigV a)), (1, .v (slU st)), (2, .v (slU inp))] ⟨rfl, rfl, rfl, trivial⟩ rfl rfl ?_
  intro B
  have hb := hg.bd; have hb0 := hb.i0; have hb1 := hb.i1; have hb2 := hb.l1; have hb3 := hb.g1
  have hv := hg.vars
  have hn : ∀ j, j < a.l.length → (a.l.getD j default).next ≤ 9223372036854775807 := fun j hj => by have := (hg.right.l j hj).2.1; omega
  have ho : ∀ x, (x ∈ a.outs ∨ x ∈ a.bad ∨ x ∈ a.con) → x ≤ 9223372036854775807 := fun x hx => by have := (hg.lit hx).2; omega
  refine wp_seq ?_
  refine wp_reg (by kernel_rfl) ?_
  refine ar_box 3 [] rfl rfl rfl ⟨rfl, trivial⟩ rfl rfl rfl ?_
  refine ar_assign rfl rfl rfl rfl ?_
  refine ar_alloc (id := 7) tab_ok rfl rfl tb83 rfl rfl rfl rfl ?_
  refine ar_assign rfl rfl rfl rfl ?_
  refine ar_nil ?_
  refine then_n ?_
  refine wp_seq ?_
  refine wp_reg (by kernel_rfl) ?_
  refine ar_lda tab_ok rfl rfl rfl tb27 rfl rfl rfl rfl rfl rfl ?_
  refine ar_move rfl rfl rfl rfl ?_
  refine ar_move rfl rfl rfl rfl ?_
  refine ar_call [] (pc_57 a st inp hg hl0 hl1) rfl rfl rfl rfl rfl rfl trivial (.inl rfl) rfl rfl rfl ?_
  refine ar_move rfl rfl rfl rfl ?_
  refine ar_ext rfl rfl rfl rfl rfl ?_
  refine ar_ext rfl rfl rfl rfl rfl ?_
  refine ar_assign rfl rfl rfl rfl ?_
  refine ar_assign rfl rfl rfl rfl ?_
  refine ar_nil ?_
  refine then_n ?_
  refine wp_seq ?_
  refine wp_seq ?_
  refine wp_reg (by kernel_rfl) ?_
  refine ar_move rfl rfl rfl rfl ?_
  refine ar_neq_s rfl rfl rfl rfl rfl (fun h21 => ?_) (fun h21 => ?_)
  · refine ar_nil ?_
    refine then_n ?_
    refine wp_condT rfl ?_
    refine wp_seq ?_
    refine wp_reg (by kernel_rfl) ?_
    refine ar_builda [] tab_ok rfl tb83 rfl tb70 rfl trivial rfl rfl rfl rfl rfl rfl ?_
    refine ar_move rfl rfl rfl rfl ?_
    refine ar_assign rfl rfl rfl rfl ?_
    refine ar_st [] tab_ok rfl tb83 rfl rfl rfl trivial rfl rfl rfl rfl rfl rfl rfl rfl ?_
    refine ar_assign rfl rfl rfl rfl ?_
    refine ar_nil ?_
    refine then_n ?_
    refine wp_ret ?_
    refine then_r (ret_post rfl rfl ?_)
    rw [valuesT_stepN h21]; rfl
  · refine ar_nil ?_
    refine then_n ?_
    refine wp_condF rfl ?_
    refine wp_skip ?_
    refine then_n ?_
    refine wp_seq ?_
    refine wp_reg (by kernel_rfl) ?_
    refine ar_assign rfl rfl rfl rfl ?_
    refine ar_nil ?_
    refine then_n ?_
    refine wp_seq ?_
    refine wp_seq ?_
    refine wp_reg (by kernel_rfl) ?_
    refine ar_assign rfl rfl rfl rfl ?_
    refine ar_nil ?_
    refine then_n ?_
    refine wp_block ?_
    refine wp_le (le_nil (t := 11) (id := 900) (e := 72) (sz := 1) rfl rfl (by decide)) ?_
    refine wp_loop (α := Nat) (fun j => mk [(3, .ptr 3 0), (7, .ptr 7 0), (9, .v (slU (valuesT a st inp).1)), (11, .own 901), (12, .v (.int .i64 (j : Nat)))] [(3, .box ((encA a).map .v)), (7, .box [.nils, .nils, .nils]), (901, .row 72 1 (((a.l.take j).map fun l => litT (valuesT a st inp).1 l.next).map encU))] 0) (fun j => j ≤ a.l.length) (fun j => a.l.length - j) 0 (Nat.zero_le _) (le_ren [(901, 900)] ⟨rfl, rfl, rfl, rfl, rfl, trivial⟩ ⟨rfl, rfl, rfl, trivial⟩ rfl rfl rfl rfl rfl) ?_
    rintro j hinv
    refine wp_seq ?_
    refine wp_seq ?_
    refine wp_reg (by kernel_rfl) ?_
    refine ar_move rfl rfl rfl rfl ?_
    refine ar_fa tab_ok rfl rfl rfl tb27 rfl rfl rfl rfl rfl ?_
    refine ar_ld tab_ok rfl rfl rfl tb22 rfl rfl rfl rfl rfl ?_
    refine ar_len tab_ok rfl rfl tb22 rfl len_map rfl rfl ?_
    refine ar_lss_s rfl rfl rfl rfl rfl (fun h28 => ?_) (fun h28 => ?_)
    · refine ar_nil ?_
      refine then_n ?_
      refine wp_condT rfl ?_
      refine wp_skip ?_
      refine then_n ?_
      refine wp_seq ?_
      refine wp_block ?_
      refine wp_reg (by kernel_rfl) ?_
      refine ar_move rfl rfl rfl rfl ?_
      refine ar_move rfl rfl rfl rfl ?_
      refine ar_fa tab_ok rfl rfl rfl tb27 rfl rfl rfl rfl rfl ?_
      refine ar_ld tab_ok rfl rfl rfl tb22 rfl rfl rfl rfl rfl ?_
      refine ar_move rfl rfl rfl rfl ?_
      refine ar_ia tab_ok rfl rfl rfl tb22 rfl tb63 (by omega) (map_get (n := j) (by omega)) rfl rfl rfl ?_
      refine ar_fa_ref tab_ok rfl rfl tb63 rfl rfl rfl rfl ?_
      refine ar_ld_ref tab_ok rfl rfl tb3 rfl rfl rfl rfl ?_
      refine ar_call [] (pc_62 _ _ (hn j (by omega))) rfl rfl rfl rfl rfl rfl trivial (.inl rfl) rfl rfl rfl ?_
      refine ar_bs [] tab_ok rfl tb70 rfl tb72 rfl trivial rfl rfl rfl rfl rfl rfl rfl rfl ?_
      refine ar_app 41 [] tab_ok rfl tb70 rfl tb70 rfl tb72 rfl rfl rfl rfl ⟨rfl, rfl, trivial⟩ rfl (elOk.cons rfl rfl elOk.nil) app_one (by constructor <;> simp <;> omega) rfl rfl rfl ?_
      refine ar_assign rfl rfl rfl rfl ?_
      refine ar_nil ?_
      refine inblk_n ?_
      refine then_n ?_
      refine wp_reg (by kernel_rfl) ?_
      refine ar_move rfl rfl rfl rfl ?_
      refine ar_addi rfl rfl rfl rfl (by omega) (by omega) rfl rfl ?_
      refine ar_assign rfl rfl rfl rfl ?_
      refine ar_nil ?_
      exact loop_n (j + 1) (by omega) (by omega) (le_ren [(901, 41)] ⟨rfl, rfl, rfl, rfl, rfl, trivial⟩ ⟨rfl, rfl, (row_eq rfl (by rw [take_snoc (by omega)]; simp)), trivial⟩ rfl rfl rfl rfl rfl)
    · refine ar_nil ?_
      refine then_n ?_
      refine wp_condF rfl ?_
      refine wp_exit ?_
      refine then_x (loop_x (inblk_e ?_))
      refine then_n ?_
      refine wp_seq ?_
      refine wp_draw (L := [([], []), ([], []), ([3], []), ([3], []), ([], []), ([], []), ([3], []), ([3], []), ([], []), ([], []), ([3], []), ([3], []), ([], []), ([], []), ([], []), ([7], [7]), ([], [])]) (by kernel_rfl) mixed (by kernel_rfl) ?_
      refine ar_move rfl rfl rfl rfl ?_
      refine ar_move rfl rfl rfl rfl ?_
      refine ar_fa tab_ok rfl rfl rfl tb27 rfl rfl rfl rfl rfl ?_
      refine ar_ld tab_ok rfl rfl rfl tb24 rfl rfl rfl rfl rfl ?_
      refine ar_call [] (pc_109 _ a.outs hb.o1 (fun l hl => ho l (.inl hl))) rfl rfl rfl rfl rfl rfl trivial (.inl rfl) rfl rfl rfl ?_
      refine ar_move rfl rfl rfl rfl ?_
      refine ar_fa tab_ok rfl rfl rfl tb27 rfl rfl rfl rfl rfl ?_
      refine ar_ld tab_ok rfl rfl rfl tb24 rfl rfl rfl rfl rfl ?_
      refine ar_call [] (pc_109 _ a.bad hb.b1 (fun l hl => ho l (.inr (.inl hl)))) rfl rfl rfl rfl rfl rfl trivial (.inl rfl) rfl rfl rfl ?_
      refine ar_move rfl rfl rfl rfl ?_
      refine ar_fa tab_ok rfl rfl rfl tb27 rfl rfl rfl rfl rfl ?_
      refine ar_ld tab_ok rfl rfl rfl tb24 rfl rfl rfl rfl rfl ?_
      refine ar_call [] (pc_109 _ a.con hb.c1 (fun l hl => ho l (.inr (.inr hl)))) rfl rfl rfl rfl rfl rfl trivial (.inl rfl) rfl rfl rfl ?_
      refine ar_builda [] tab_ok rfl tb83 rfl tb70 rfl trivial rfl rfl rfl rfl rfl rfl ?_
      refine ar_assign rfl rfl rfl rfl ?_
      refine ar_st [] tab_ok rfl tb83 rfl rfl rfl trivial rfl rfl rfl rfl rfl rfl rfl rfl ?_
      refine ar_assign rfl rfl rfl rfl ?_
      refine ar_nil ?_
      refine then_n ?_
      refine wp_ret ?_
      refine ret_post rfl rfl ?_
      have hi : j = a.l.length := by omega
      subst hi
      rw [valuesT_stepT (Decidable.not_not.1 h21), List.take_length]; rfl
theorem pce_55 (a : Aig) (hf : Fit a) : PCallE Try.prog 55 [aigV a] (fun r => ∃ b : Bool, r = .bool b ∧ (b = true → Good a)) := by
  refine pce_of tab_ok (f := 55) (fn := Try.f55) (N := 5) (rs := [.tmp 2]) (by kernel_rfl) rfl (by kernel_rfl) rfl rfl [(0, .v (aigV a))] ⟨rfl, trivial⟩ rfl rfl ?_
  intro B
  refine wp_seq ?_
  refine wp_reg (by kernel_rfl) ?_
  refine ar_box 1 [] rfl rfl rfl ⟨rfl, trivial⟩ rfl rfl rfl ?_
  refine ar_assign rfl rfl rfl rfl ?_
  refine ar_nil ?_
  refine then_n ?_
  refine wp_seq ?_
  refine wp_reg (by kernel_rfl) ?_
  refine ar_lda tab_ok rfl rfl rfl tb27 rfl rfl rfl rfl rfl rfl ?_
  refine ar_callE [] (pce_30 a hf) rfl rfl rfl rfl rfl rfl trivial (.inl rfl) rfl rfl rfl ?_
  rintro _ ⟨b4, rfl, hb4⟩
  refine ar_assign rfl rfl rfl rfl ?_
  refine ar_nil ?_
  refine then_n ?_
  refine wp_ret ?_
  refine ret_postE rfl rfl ?_
  exact ⟨_, rfl, hb4⟩
end Go.Vd
namespace Go.Vd
open Go.Proofs
def ex09 : Aig := ⟨2, [], [⟨4, 2⟩], [6, 7], [], [], []⟩
end Go.Vd
namespace Go.Vd
open Go.Proofs
theorem pairs_append {α β : Type} {p : α → β → Bool} : ∀ {xs : List α} {ys : List β} {xs' : List α} {ys' : List β}, pairs p xs ys = true → pairs p xs' ys' = true → pairs p (xs ++ xs') (ys ++ ys') = true
  | [], [], _, _, _, h => h
  | x :: xs, y :: ys, _, _, h, h' => by
    simp only [pairs, Bool.and_eq_true] at h
    simp only [List.cons_append, pairs, Bool.and_eq_true]
    exact ⟨h.1, pairs_append h.2 h'⟩
  | [], _ :: _, _, _, h, _ => by simp [pairs] at h
  | _ :: _, [], _, _, h, _ => by simp [pairs] at h
theorem pairs_same {α β : Type} {p : α → β → Bool} : ∀ {xs : List α} {ys : List β}, pairs p xs ys = true → xs.length = ys.length
  | [], [], _ => rfl
  | x :: xs, y :: ys, h => by
    simp only [pairs, Bool.and_eq_true] at h
    simp [pairs_same h.2]
  | [], _ :: _, h => by simp [pairs] at h
  | _ :: _, [], h => by simp [pairs] at h
theorem pairs_map {α β γ : Type} {p : α → β → Bool} {f : γ → α} {g : γ → β} : ∀ {ls : List γ}, (∀ l, l ∈ ls → p (f l) (g l) = true) → pairs p (ls.map f) (ls.map g) = true
  | [], _ => rfl
  | l :: ls, h => by
    simp only [List.map_cons, pairs, Bool.and_eq_true]
    exact ⟨h l List.mem_cons_self, pairs_map fun x hx => h x (List.mem_cons_of_mem _ hx)⟩
theorem low_iff {x y : Int} : lowT x y = true ↔ x = y ∨ y = 2 := by simp [lowT]
theorem low_refl (x : Int) : lowT x x = true := low_iff.2 (.inl rfl)
theorem low_top (x : Int) : lowT x 2 = true := low_iff.2 (.inr rfl)
theorem low_trans {x y z : Int} (h : lowT x y = true) (h' : lowT y z = true) : lowT x z = true := by
  rw [low_iff] at *; omega
theorem low_not {x y : Int} (h : lowT x y = true) : lowT (notT x) (notT y) = true := by
  rcases low_iff.1 h with rfl | rfl
  · exact low_refl _
  · exact low_top _
theorem low_and {x x' y y' : Int} (h : lowT x x' = true) (h' : lowT y y' = true) : lowT (andT x y) (andT x' y') = true := by
  rw [low_iff] at *
  unfold andT
  rcases h with rfl | rfl <;> rcases h' with rfl | rfl <;> (repeat' split) <;> omega
theorem low_lit {v w : List Int} (h : pairs lowT v w = true) (l : Int) : lowT (litT v l) (litT w l) = true := by
  have hl := pairs_same h
  have hp := ((pairs_iff lowT v w).1 h).2
  unfold litT
  by_cases hc : 0 ≤ l ∧ l / 2 < v.length
  · have hc' : 0 ≤ l ∧ l / 2 < w.length := by omega
    have hj := hp (l / 2).toNat (by omega)
    rw [if_pos hc, if_pos hc']
    split
    · exact low_not hj
    · exact hj
  · have hc' : ¬ (0 ≤ l ∧ l / 2 < w.length) := by omega
    rw [if_neg hc, if_neg hc']; rfl
theorem low_vals : ∀ (gs : List Gate) {v w : List Int}, pairs lowT v w = true → pairs lowT (valsT v gs) (valsT w gs) = true
  | [], _, _, h => h
  | g :: gs, v, w, h => by
    simp only [valsT]
    refine low_vals gs (pairs_append h ?_)
    simp only [pairs, Bool.and_true]
    exact low_and (low_lit h _) (low_lit h _)
theorem low_step (a : Aig) {v w : List Int} (h : pairs lowT v w = true) :
    pairs lowT (stepTV a v).n (stepTV a w).n = true ∧ pairs lowT (stepTV a v).o (stepTV a w).o = true ∧ pairs lowT (stepTV a v).b (stepTV a w).b = true ∧ pairs lowT (stepTV a v).c (stepTV a w).c = true :=
  ⟨pairs_map fun l _ => low_lit h _, pairs_map fun l _ => low_lit h _, pairs_map fun l _ => low_lit h _, pairs_map fun l _ => low_lit h _⟩
theorem low_valsTV {a : Aig} {st st' inp inp' : List Int} (h : pairs lowT st st' = true) (h' : pairs lowT inp inp' = true) : pairs lowT (valsTV a st inp) (valsTV a st' inp') = true := by
  refine low_vals _ ?_
  simp only [pairs, Bool.and_eq_true]
  exact ⟨low_refl _, pairs_append h' h⟩
theorem stepT_low {a : Aig} {st st' inp inp' : List Int} (hs : shapeT a st inp) (hs' : shapeT a st' inp') (h : pairs lowT st st' = true) (h' : pairs lowT inp inp' = true) :
    pairs lowT (stepT a st inp).n (stepT a st' inp').n = true ∧ pairs lowT (stepT a st inp).o (stepT a st' inp').o = true ∧ pairs lowT (stepT a st inp).b (stepT a st' inp').b = true ∧ pairs lowT (stepT a st inp).c (stepT a st' inp').c = true := by
  rw [stepT_ok hs, stepT_ok hs']; exact low_step a (low_valsTV h h')
end Go.Vd
namespace Go.Vd
open Go.Proofs
theorem ofB_and (x y : Bool) : andT (ofB x) (ofB y) = ofB (x && y) := by cases x <;> cases y <;> rfl
theorem ofB_ne (x : Bool) : ofB x ≠ 2 := by cases x <;> decide
theorem getD_mapf {α β : Type} [Inhabited α] [Inhabited β] (f : α → β) {xs : List α} {j : Nat} (h : j < xs.length) : (xs.map f).getD j default = f (xs.getD j default) := by
  rw [List.getD_eq_getElem?_getD, List.getD_eq_getElem?_getD, List.getElem?_map, List.getElem?_eq_getElem h]; rfl
theorem lit_two {v : List Bool} {l : Int} (h0 : 0 ≤ l) (h : l < 2 * v.length) : litT (v.map ofB) l = ofB (litv v l) := by
  have hl : l / 2 < v.length := by omega
  have hg : (v.map ofB).getD (l / 2).toNat default = ofB (v.getD (l / 2).toNat default) := getD_mapf ofB (by omega)
  rw [litv_in h0 hl]
  by_cases h1 : l % 2 = 1
  · rw [litT_odd h0 (by simpa using hl) h1, hg]
    show notT (ofB (v.getD _ false)) = _
    cases v.getD (l / 2).toNat false <;> simp [h1] <;> rfl
  · rw [litT_even h0 (by simpa using hl) h1, hg]
    show ofB (v.getD _ false) = _
    cases v.getD (l / 2).toNat false <;> simp [h1]
theorem vals_two : ∀ (gs : List Gate) (v : List Bool), (∀ j, j < gs.length → 0 ≤ (gs.getD j default).a ∧ (gs.getD j default).a < 2 * (v.length + j) ∧ 0 ≤ (gs.getD j default).b ∧ (gs.getD j default).b < 2 * (v.length + j)) →
    valsT (v.map ofB) gs = (valsOf v gs).map ofB
  | [], _, _ => rfl
  | g :: gs, v, h => by
    obtain ⟨h1, h2, h3, h4⟩ := h 0 (by simp)
    simp only [List.getD_cons_zero, Int.natCast_zero, Int.add_zero] at h1 h2 h3 h4
    simp only [valsT, valsOf]
    rw [lit_two h1 (by simpa using h2), lit_two h3 (by simpa using h4), ofB_and]
    have := vals_two gs (v ++ [litv v g.a && litv v g.b]) (fun j hj => by
      have := h (j + 1) (by simpa using hj)
      simp only [List.getD_cons_succ] at this
      simp only [List.length_append, List.length_cons, List.length_nil]
      omega)
    rw [← this]; simp
theorem good_two {a : Aig} (hg : Good a) {st inp : List Bool} (hs : st.length = a.l.length) (hi : (inp.length : Int) = a.i) : valsTV a (st.map ofB) (inp.map ofB) = (valsV a st inp).map ofB := by
  have := vals_two a.g (false :: (inp ++ st)) (fun j hj => by
    have hgr := hg.right.g j hj
    obtain ⟨r1, r2, r3⟩ := hgr
    simp only [List.length_cons, List.length_append]
    omega)
  rw [← this]; simp [ofB]
theorem lits_two {a : Aig} (hg : Good a) {st inp : List Bool} (hs : st.length = a.l.length) (hi : (inp.length : Int) = a.i) {l : Int} (h0 : 0 ≤ l) (h1 : l ≤ 2 * varsS a + 1) : litT ((valsV a st inp).map ofB) l = ofB (litv (valsV a st inp) l) := by
  refine lit_two h0 ?_
  have : (valsV a st inp).length = 1 + inp.length + st.length + a.g.length := by
    show (valsOf (false :: (inp ++ st)) a.g).length = _
    rw [valsOf_len]; simp; omega
  have hv : varsS a = a.i + a.l.length + a.g.length := rfl
  omega
theorem step_two {a : Aig} (hg : Good a) {st inp : List Bool} (hs : st.length = a.l.length) (hi : (inp.length : Int) = a.i) :
    stepTV a (valsTV a (st.map ofB) (inp.map ofB)) = ⟨(stepOk a st inp).n.map ofB, (stepOk a st inp).o.map ofB, (stepOk a st inp).b.map ofB, (stepOk a st inp).c.map ofB, 0⟩ := by
  rw [good_two hg hs hi]
  have ho : ∀ {ls : List Int}, (∀ x, x ∈ ls → x ∈ a.outs ∨ x ∈ a.bad ∨ x ∈ a.con) → ls.map (litT ((valsV a st inp).map ofB)) = (ls.map (litv (valsV a st inp))).map ofB := fun {ls} h => by
    rw [List.map_map]
    exact List.map_congr_left fun l hl => by have := hg.lit (h l hl); exact lits_two hg hs hi this.1 this.2
  have hn : (a.l.map fun l => litT ((valsV a st inp).map ofB) l.next) = (a.l.map fun l => litv (valsV a st inp) l.next).map ofB := by
    rw [List.map_map]
    refine List.map_congr_left fun l hl => ?_
    obtain ⟨j, hj, rfl⟩ := List.getElem_of_mem hl
    have := hg.right.l j hj
    rw [List.getD_eq_getElem?_getD, List.getElem?_eq_getElem hj] at this
    exact lits_two hg hs hi this.1 this.2.1
  simp only [stepTV, stepOk]
  rw [hn, ho fun x hx => .inl hx, ho fun x hx => .inr (.inl hx), ho fun x hx => .inr (.inr hx)]
theorem shape_two {a : Aig} {st inp : List Bool} : shapeT a (st.map ofB) (inp.map ofB) ↔ st.length = a.l.length ∧ (inp.length : Int) = a.i := by
  simp [shapeT, (ofL_tri st).isTri, (ofL_tri inp).isTri]
theorem stepT_two {a : Aig} (hg : Good a) (st inp : List Bool) : stepT a (st.map ofB) (inp.map ofB) = ⟨(stepS a st inp).n.map ofB, (stepS a st inp).o.map ofB, (stepS a st inp).b.map ofB, (stepS a st inp).c.map ofB, (stepS a st inp).e⟩ := by
  by_cases h : st.length = a.l.length ∧ (inp.length : Int) = a.i
  · rw [stepT_ok (shape_two.2 h), step_two hg h.1 h.2, stepS_is h]
  · rw [stepT_bad (fun hh => h (shape_two.1 hh)), stepS_not h]; rfl
end Go.Vd
namespace Go.Vd
open Go.Proofs
def startsT (l : Latch) (v : Int) : Bool := decide (l.reset > 1) || decide (v = l.reset)
def oddT (a : Aig) (r : List Int) : Bool := decide ((r.length : Int) ≠ a.i) || !isTri r
def rightT (a : Aig) (t : Trace) : Bool :=
  (decide (0 ≤ t.bad) && (decide (t.bad < a.bad.length) && (decide (1 ≤ t.ins.length) && (decide (t.ins.length ≤ 200) && isTri t.ini)))) && (pairs startsT a.l t.ini && !t.ins.any (oddT a))
structure RightT (a : Aig) (t : Trace) : Prop where
  b0 : 0 ≤ t.bad
  b1 : t.bad < a.bad.length
  n0 : 1 ≤ t.ins.length
  n1 : t.ins.length ≤ 200
  it : isTri t.ini = true
  ip : pairs startsT a.l t.ini = true
  rl : ∀ r, r ∈ t.ins → (r.length : Int) = a.i
  rt : ∀ r, r ∈ t.ins → isTri r = true
theorem rightT_iff {a : Aig} {t : Trace} : rightT a t = true ↔ RightT a t := by
  simp only [rightT, Bool.and_eq_true, decide_eq_true_eq, Bool.not_eq_true', List.any_eq_false]
  constructor
  · rintro ⟨⟨h1, h2, h3, h4, h5⟩, h6, h7⟩
    have h8 : ∀ r, r ∈ t.ins → (r.length : Int) = a.i ∧ isTri r = true := fun r hr => by
      have := h7 r hr
      simp only [oddT, Bool.or_eq_true, decide_eq_true_eq, Bool.not_eq_true', not_or] at this
      exact ⟨Decidable.not_not.1 this.1, by simpa using this.2⟩
    exact ⟨h1, h2, h3, h4, h5, h6, fun r hr => (h8 r hr).1, fun r hr => (h8 r hr).2⟩
  · rintro ⟨h1, h2, h3, h4, h5, h6, h7, h8⟩
    exact ⟨⟨h1, h2, h3, h4, h5⟩, h6, fun r hr => by simp [oddT, h7 r hr, h8 r hr]⟩
theorem rightT_no {a : Aig} {t : Trace} (h : RightT a t → False) : rightT a t = false := by
  cases hb : rightT a t with
  | false => rfl
  | true => exact (h (rightT_iff.1 hb)).elim
theorem rightT_main {a : Aig} {t : Trace} (h1 : 0 ≤ t.bad) (h2 : t.bad < a.bad.length) (h3 : 1 ≤ t.ins.length) (h4 : t.ins.length ≤ 200) (h5 : isTri t.ini = true) : rightT a t = (pairs startsT a.l t.ini && !t.ins.any (oddT a)) := by
  simp [rightT, h1, h2, h3, h4, h5]
theorem RightT.il {a : Aig} {t : Trace} (h : RightT a t) : t.ini.length = a.l.length := (pairs_same h.ip).symm
def manyT (l : List Int) : Nat := l.countP fun x => decide (x = 2)
theorem manyT_le (l : List Int) : manyT l ≤ l.length := List.countP_le_length
theorem manyT_snoc (l : List Int) (x : Int) : manyT (l ++ [x]) = manyT l + (if x = 2 then 1 else 0) := by
  simp only [manyT, List.countP_append]
  by_cases h : x = 2 <;> simp [h]
def manyR (rs : List (List Int)) : Nat := (rs.map manyT).sum
theorem manyR_snoc (rs : List (List Int)) (r : List Int) : manyR (rs ++ [r]) = manyR rs + manyT r := by simp [manyR]
theorem manyR_le : ∀ (rs : List (List Int)) (n : Nat), (∀ r, r ∈ rs → r.length ≤ n) → manyR rs ≤ rs.length * n
  | [], n, _ => by simp [manyR]
  | r :: rs, n, h => by
    have h1 := manyR_le rs n (fun x hx => h x (List.mem_cons_of_mem _ hx))
    have h2 := manyT_le r
    have h3 := h r List.mem_cons_self
    simp only [manyR, List.map_cons, List.sum_cons, List.length_cons] at *
    rw [Nat.add_mul]; omega
def holesT (t : Trace) : Nat := manyR (t.ini :: t.ins)
/-- Sizes that counting bears. -/
structure SzT (t : Trace) : Prop where
  il : t.ini.length ≤ 1000000
  nl : t.ins.length ≤ 1000000
  rl : ∀ r, r ∈ t.ins → r.length ≤ 1000000
theorem SzT.rows {t : Trace} (h : SzT t) : ∀ r, r ∈ t.ini :: t.ins → r.length ≤ 1000000 := fun r hr => by
  rcases List.mem_cons.1 hr with rfl | hr
  · exact h.il
  · exact h.rl r hr
theorem manyR_take {rs : List (List Int)} (hl : rs.length ≤ 1000001) (h : ∀ r, r ∈ rs → r.length ≤ 1000000) (j : Nat) : manyR (rs.take j) ≤ 1000001000000 := by
  have h1 := manyR_le (rs.take j) 1000000 (fun r hr => h r (List.mem_of_mem_take hr))
  have h2 : (rs.take j).length ≤ 1000001 := by simp; omega
  have := Nat.mul_le_mul_right 1000000 h2
  omega
structure SmallT (t : Trace) (n : Int) : Prop where
  il : t.ini.length ≤ 60
  nl : (t.ins.length : Int) ≤ n
  rl : ∀ r, r ∈ t.ins → r.length ≤ 60
theorem SmallT.sz {t : Trace} {n : Int} (h : SmallT t n) (hn : n ≤ 1000) : SzT t := ⟨by have := h.il; omega, by have := h.nl; omega, fun r hr => by have := h.rl r hr; omega⟩
theorem pce_146 (xs : List (List Int)) (f : FuncId) (fi ca : List V) (p : (List Int) → Bool) (hl : xs.length ≤ 9223372036854775807) (hc : ∀ x, x ∈ xs → PCall Try.prog f (fi ++ [slU x] ++ ca) (.bool (p x))) : PCallE Try.prog 146 [slUU xs, .fn (.func f) fi ca] (fun r => ∃ n : Int, r = .int .i64 n ∧ decide (n ≥ 0) = xs.any p) := by
  refine pce_of tab_ok (f := 146) (fn := Try.f146) (N := 19) (rs := [.tmp 4]) (by kernel_rfl) rfl (by kernel_rfl) rfl rfl [(0, .v (slUU xs)), (1, .v (.fn (.func f) fi ca))] ⟨rfl, rfl, trivial⟩ rfl rfl ?_
  intro B
  refine wp_seq ?_
  refine wp_reg (by kernel_rfl) ?_
  refine ar_assign rfl rfl rfl rfl ?_
  refine ar_nil ?_
  refine then_n ?_
  refine wp_seq ?_
  refine wp_seq ?_
  refine wp_reg (by kernel_rfl) ?_
  refine ar_move rfl rfl rfl rfl ?_
  refine ar_len tab_ok rfl rfl tb99 rfl len_map rfl rfl ?_
  refine ar_move rfl rfl rfl rfl ?_
  refine ar_nil ?_
  refine then_n ?_
  refine wp_block ?_
  refine wp_loop (α := Nat) (fun j => mk [(0, .v (slUU xs)), (1, .v (.fn (.func f) fi ca)), (7, .v (.int .i64 (xs.length : Nat))), (8, .v (.int .i64 (j : Nat)))] [] 0) (fun j => j ≤ xs.length ∧ ∀ q, q < j → p (xs.getD q default) = false) (fun j => xs.length - j) 0 ⟨Nat.zero_le _, fun q h => absurd h (Nat.not_lt_zero q)⟩ (le_to ⟨rfl, rfl, rfl, rfl, trivial⟩ trivial rfl rfl rfl rfl) ?_
  rintro j ⟨hj1, hj2⟩
  refine wp_seq ?_
  refine wp_reg (by kernel_rfl) ?_
  refine ar_lss_s rfl rfl rfl rfl rfl (fun h9 => ?_) (fun h9 => ?_)
  · refine ar_nil ?_
    refine then_n ?_
    refine wp_seq ?_
    refine wp_condT rfl ?_
    refine wp_skip ?_
    refine then_n ?_
    refine wp_seq ?_
    refine wp_block ?_
    refine wp_seq ?_
    refine wp_reg (by kernel_rfl) ?_
    refine ar_move rfl rfl rfl rfl ?_
    refine ar_assign rfl rfl rfl rfl ?_
    refine ar_nil ?_
    refine then_n ?_
    refine wp_seq ?_
    refine wp_reg (by kernel_rfl) ?_
    refine ar_move rfl rfl rfl rfl ?_
    refine ar_move rfl rfl rfl rfl ?_
    refine ar_move rfl rfl rfl rfl ?_
    refine ar_ia tab_ok rfl rfl rfl tb99 rfl tb70 (by omega) (map_get (n := j) (by omega)) rfl rfl rfl ?_
    refine ar_ld_ref tab_ok rfl rfl tb70 rfl rfl rfl rfl ?_
    refine ar_call [] (hc _ (getD_mem (by omega))) rfl rfl rfl rfl rfl rfl trivial (.inl rfl) rfl rfl rfl ?_
    refine ar_split (fun h16 => ?_) (fun h16 => ?_)
    · refine ar_nil ?_
      refine then_n ?_
      refine wp_condT rfl ?_
      refine wp_seq ?_
      refine wp_reg (by kernel_rfl) ?_
      refine ar_move rfl rfl rfl rfl ?_
      refine ar_assign rfl rfl rfl rfl ?_
      refine ar_nil ?_
      refine then_n ?_
      refine wp_ret ?_
      refine inblk_r (then_r (loop_r (inblk_r (then_r (ret_postE rfl rfl ?_)))))
      exact ⟨_, rfl, by rw [any_of (by omega) h16]; simp⟩
    · refine ar_nil ?_
      refine then_n ?_
      refine wp_condF rfl ?_
      refine wp_skip ?_
      refine inblk_n ?_
      refine then_n ?_
      refine wp_reg (by kernel_rfl) ?_
      refine ar_addi rfl rfl rfl rfl (by omega) (by omega) rfl rfl ?_
      refine ar_move rfl rfl rfl rfl ?_
      refine ar_nil ?_
      exact loop_n (j + 1) ⟨by omega, fun q hq => (Nat.lt_succ_iff_lt_or_eq.1 hq).elim (hj2 q) (fun e => e ▸ h16)⟩ (by omega) (le_to ⟨rfl, rfl, rfl, rfl, trivial⟩ trivial rfl rfl rfl rfl)
  · refine ar_nil ?_
    refine then_n ?_
    refine wp_seq ?_
    refine wp_condF rfl ?_
    refine wp_exit ?_
    refine then_x (loop_x (inblk_e ?_))
    refine then_n ?_
    refine wp_seq ?_
    refine wp_reg (by kernel_rfl) ?_
    refine ar_assign rfl rfl rfl rfl ?_
    refine ar_nil ?_
    refine then_n ?_
    refine wp_ret ?_
    refine ret_postE rfl rfl ?_
    exact ⟨_, rfl, by rw [any_no (fun q hq => hj2 q (by omega))]; rfl⟩
theorem pc_141 (xs : List (List Int)) (f : FuncId) (fi ca : List V) (p : (List Int) → Bool) (hl : xs.length ≤ 9223372036854775807) (hc : ∀ x, x ∈ xs → PCall Try.prog f (fi ++ [slU x] ++ ca) (.bool (p x))) : PCall Try.prog 141 [slUU xs, .fn (.func f) fi ca] (.bool (xs.any p)) := by
  refine pc_of tab_ok (f := 141) (fn := Try.f141) (N := 9) (rs := [.tmp 4]) (by kernel_rfl) rfl (by kernel_rfl) rfl rfl [(0, .v (slUU xs)), (1, .v (.fn (.func f) fi ca))] ⟨rfl, rfl, trivial⟩ rfl rfl ?_
  intro B
  refine wp_seq ?_
  refine wp_reg (by kernel_rfl) ?_
  refine ar_assign rfl rfl rfl rfl ?_
  refine ar_nil ?_
  refine then_n ?_
  refine wp_seq ?_
  refine wp_reg (by kernel_rfl) ?_
  refine ar_move rfl rfl rfl rfl ?_
  refine ar_move rfl rfl rfl rfl ?_
  refine ar_callE [] (pce_146 xs f fi ca p hl hc) rfl rfl rfl rfl rfl rfl trivial (.inl rfl) rfl rfl rfl ?_
  rintro _ ⟨n, rfl, hn⟩
  refine ar_geq (z := xs.any p) rfl rfl rfl hn rfl rfl ?_
  refine ar_assign rfl rfl rfl rfl ?_
  refine ar_nil ?_
  refine then_n ?_
  refine wp_ret ?_
  refine ret_post rfl rfl ?_
  rfl
theorem pc_139 (xs : List Latch) (ys : List Int) (f : FuncId) (fi ca : List V) (p : Latch → Int → Bool) (hl : xs.length ≤ 9223372036854775807) (hl2 : ys.length ≤ 9223372036854775807) (hc : ∀ x y, x ∈ xs → y ∈ ys → PCall Try.prog f (fi ++ [.agg (encL x), .int .u8 y] ++ ca) (.bool (p x y))) : PCall Try.prog 139 [slL xs, slU ys, .fn (.func f) fi ca] (.bool (pairs p xs ys)) := by
  refine pc_of tab_ok (f := 139) (fn := Try.f139) (N := 32) (rs := [.tmp 6]) (by kernel_rfl) rfl (by kernel_rfl) rfl rfl [(0, .v (slL xs)), (1, .v (slU ys)), (2, .v (.fn (.func f) fi ca))] ⟨rfl, rfl, rfl, trivial⟩ rfl rfl ?_
  intro B
  refine wp_seq ?_
  refine wp_reg (by kernel_rfl) ?_
  refine ar_assign rfl rfl rfl rfl ?_
  refine ar_nil ?_
  refine then_n ?_
  refine wp_seq ?_
  refine wp_seq ?_
  refine wp_reg (by kernel_rfl) ?_
  refine ar_move rfl rfl rfl rfl ?_
  refine ar_len tab_ok rfl rfl tb22 rfl len_map rfl rfl ?_
  refine ar_move rfl rfl rfl rfl ?_
  refine ar_len tab_ok rfl rfl tb70 rfl len_map rfl rfl ?_
  refine ar_neq_s rfl rfl rfl rfl rfl (fun h14 => ?_) (fun h14 => ?_)
  · refine ar_nil ?_
    refine then_n ?_
    refine wp_condT rfl ?_
    refine wp_seq ?_
    refine wp_reg (by kernel_rfl) ?_
    refine ar_assign rfl rfl rfl rfl ?_
    refine ar_nil ?_
    refine then_n ?_
    refine wp_ret ?_
    refine then_r (ret_post rfl rfl ?_)
    rw [pairs_len (by omega)]
  · refine ar_nil ?_
    refine then_n ?_
    refine wp_condF rfl ?_
    refine wp_skip ?_
    refine then_n ?_
    refine wp_seq ?_
    refine wp_seq ?_
    refine wp_reg (by kernel_rfl) ?_
    refine ar_move rfl rfl rfl rfl ?_
    refine ar_len tab_ok rfl rfl tb22 rfl len_map rfl rfl ?_
    refine ar_move rfl rfl rfl rfl ?_
    refine ar_nil ?_
    refine then_n ?_
    refine wp_block ?_
    refine wp_loop (α := Nat) (fun j => mk [(1, .v (slU ys)), (2, .v (.fn (.func f) fi ca)), (15, .v (slL xs)), (16, .v (.int .i64 (xs.length : Nat))), (17, .v (.int .i64 (j : Nat)))] [] 0) (fun j => j ≤ xs.length ∧ ∀ q, q < j → p (xs.getD q default) (ys.getD q default) = true) (fun j => xs.length - j) 0 ⟨Nat.zero_le _, fun q h => absurd h (Nat.not_lt_zero q)⟩ (le_to ⟨rfl, rfl, rfl, rfl, rfl, trivial⟩ trivial rfl rfl rfl rfl) ?_
    rintro j ⟨hj1, hj2⟩
    refine wp_seq ?_
    refine wp_reg (by kernel_rfl) ?_
    refine ar_lss_s rfl rfl rfl rfl rfl (fun h18 => ?_) (fun h18 => ?_)
    · refine ar_nil ?_
      refine then_n ?_
      refine wp_seq ?_
      refine wp_condT rfl ?_
      refine wp_skip ?_
      refine then_n ?_
      refine wp_seq ?_
      refine wp_block ?_
      refine wp_seq ?_
      refine wp_reg (by kernel_rfl) ?_
      refine ar_move rfl rfl rfl rfl ?_
      refine ar_ia tab_ok rfl rfl rfl tb22 rfl tb63 (by omega) (map_get (n := j) (by omega)) rfl rfl rfl ?_
      refine ar_ld_refa tab_ok rfl rfl tb63 rfl rfl rfl rfl rfl ?_
      refine ar_alloc (id := 8) tab_ok rfl rfl tb63 rfl rfl rfl rfl ?_
      refine ar_assign rfl rfl rfl rfl ?_
      refine ar_st [] tab_ok rfl tb63 rfl rfl rfl trivial rfl rfl rfl rfl rfl rfl rfl rfl ?_
      refine ar_nil ?_
      refine then_n ?_
      refine wp_seq ?_
      refine wp_reg (by kernel_rfl) ?_
      refine ar_move rfl rfl rfl rfl ?_
      refine ar_move rfl rfl rfl rfl ?_
      refine ar_ia tab_ok rfl rfl rfl tb70 rfl tb72 (by omega) (map_get (n := j) (by omega)) rfl rfl rfl ?_
      refine ar_ld_ref tab_ok rfl rfl tb72 rfl rfl rfl rfl ?_
      refine ar_assign rfl rfl rfl rfl ?_
      refine ar_nil ?_
      refine then_n ?_
      refine wp_seq ?_
      refine wp_reg (by kernel_rfl) ?_
      refine ar_move rfl rfl rfl rfl ?_
      refine ar_lda tab_ok rfl rfl rfl tb63 rfl rfl rfl rfl rfl rfl ?_
      refine ar_move rfl rfl rfl rfl ?_
      refine ar_call [] (hc _ _ (getD_mem (by omega)) (getD_mem (by omega))) rfl rfl rfl rfl rfl rfl trivial (.inl rfl) rfl rfl rfl ?_
      refine ar_split (fun h29 => ?_) (fun h29 => ?_)
      · refine ar_not rfl rfl rfl rfl rfl ?_
        refine ar_nil ?_
        refine then_n ?_
        refine wp_condF rfl ?_
        refine wp_skip ?_
        refine inblk_n ?_
        refine then_n ?_
        refine wp_reg (by kernel_rfl) ?_
        refine ar_addi rfl rfl rfl rfl (by omega) (by omega) rfl rfl ?_
        refine ar_move rfl rfl rfl rfl ?_
        refine ar_nil ?_
        exact loop_n (j + 1) ⟨by omega, fun q hq => (Nat.lt_succ_iff_lt_or_eq.1 hq).elim (hj2 q) (fun e => e ▸ h29)⟩ (by omega) (le_to ⟨rfl, rfl, rfl, rfl, rfl, trivial⟩ trivial rfl rfl rfl rfl)
      · refine ar_not rfl rfl rfl rfl rfl ?_
        refine ar_nil ?_
        refine then_n ?_
        refine wp_condT rfl ?_
        refine wp_seq ?_
        refine wp_reg (by kernel_rfl) ?_
        refine ar_assign rfl rfl rfl rfl ?_
        refine ar_nil ?_
        refine then_n ?_
        refine wp_ret ?_
        refine inblk_r (then_r (loop_r (inblk_r (then_r (ret_post rfl rfl ?_)))))
        rw [pairs_at (j := j) (by omega) (by assumption)]
    · refine ar_nil ?_
      refine then_n ?_
      refine wp_seq ?_
      refine wp_condF rfl ?_
      refine wp_exit ?_
      refine then_x (loop_x (inblk_e ?_))
      refine then_n ?_
      refine wp_seq ?_
      refine wp_reg (by kernel_rfl) ?_
      refine ar_assign rfl rfl rfl rfl ?_
      refine ar_nil ?_
      refine then_n ?_
      refine wp_ret ?_
      refine ret_post rfl rfl ?_
      rw [pairs_of (by omega) (fun q hq => hj2 q (by omega))]
theorem pc_140 (l : Latch) (v : Int) (hv : Tri v) : PCall Try.prog 140 [.agg (encL l), .int .u8 v] (.bool (startsT l v)) := by
  refine pc_of tab_ok (f := 140) (fn := Try.f140) (N := 15) (rs := [.tmp 4]) (by kernel_rfl) rfl (by kernel_rfl) rfl rfl [(0, .v (.agg (encL l))), (1, .v (.int .u8 v))] ⟨rfl, rfl, trivial⟩ rfl rfl ?_
  intro B
  refine wp_seq ?_
  refine wp_reg (by kernel_rfl) ?_
  refine ar_box 2 [] rfl rfl rfl ⟨rfl, trivial⟩ rfl rfl rfl ?_
  refine ar_assign rfl rfl rfl rfl ?_
  refine ar_nil ?_
  refine then_n ?_
  refine wp_seq ?_
  refine wp_reg (by kernel_rfl) ?_
  refine ar_fa tab_ok rfl rfl rfl tb63 rfl rfl rfl rfl rfl ?_
  refine ar_ld tab_ok rfl rfl rfl tb3 rfl rfl rfl rfl rfl ?_
  refine ar_gtr_s rfl rfl rfl rfl rfl (fun h7 => ?_) (fun h7 => ?_)
  · refine ar_move rfl rfl rfl rfl ?_
    refine ar_skip rfl rfl ?_
    refine ar_skip rfl rfl ?_
    refine ar_skip rfl rfl ?_
    refine ar_skip rfl rfl ?_
    refine ar_skip rfl rfl ?_
    refine ar_pickT rfl rfl rfl rfl rfl ?_
    refine ar_assign rfl rfl rfl rfl ?_
    refine ar_nil ?_
    refine then_n ?_
    refine wp_ret ?_
    refine ret_post rfl rfl ?_
    simp [startsT, *]
  · refine ar_move rfl rfl rfl rfl ?_
    refine ar_move rfl rfl rfl rfl ?_
    refine ar_conv tab_ok rfl rfl tb72 tb3 rfl rfl (IntWalk.i64_in _ ⟨by have := hv.1; omega, by have := hv.2; omega⟩) rfl rfl ?_
    refine ar_fa tab_ok rfl rfl rfl tb63 rfl rfl rfl rfl rfl ?_
    refine ar_ld tab_ok rfl rfl rfl tb3 rfl rfl rfl rfl rfl ?_
    refine ar_eql rfl rfl rfl rfl rfl rfl ?_
    refine ar_pickF rfl rfl rfl rfl rfl ?_
    refine ar_assign rfl rfl rfl rfl ?_
    refine ar_nil ?_
    refine then_n ?_
    refine wp_ret ?_
    refine ret_post rfl rfl ?_
    simp [startsT, *]
theorem pc_138 (a : Aig) (r : List Int) (hl : r.length ≤ 9223372036854775807) : PCall Try.prog 138 [slU r, .ref (encA a)] (.bool (oddT a r)) := by
  refine pc_of tab_ok (f := 138) (fn := Try.f138) (N := 14) (rs := [.tmp 3]) (by kernel_rfl) rfl (by kernel_rfl) rfl rfl [(0, .v (slU r)), (1, .v (.ref (encA a)))] ⟨rfl, rfl, trivial⟩ rfl rfl ?_
  intro B
  refine wp_seq ?_
  refine wp_reg (by kernel_rfl) ?_
  refine ar_assign rfl rfl rfl rfl ?_
  refine ar_nil ?_
  refine then_n ?_
  refine wp_seq ?_
  refine wp_reg (by kernel_rfl) ?_
  refine ar_move rfl rfl rfl rfl ?_
  refine ar_len tab_ok rfl rfl tb70 rfl len_map rfl rfl ?_
  refine ar_fa_ref (cs' := encA a) tab_ok rfl rfl tb27 rfl rfl rfl rfl ?_
  refine ar_ld_ref tab_ok rfl rfl tb3 rfl rfl rfl rfl ?_
  refine ar_neq_s rfl rfl rfl rfl rfl (fun h8 => ?_) (fun h8 => ?_)
  · refine ar_move rfl rfl rfl rfl ?_
    refine ar_skip rfl rfl ?_
    refine ar_skip rfl rfl ?_
    refine ar_skip rfl rfl ?_
    refine ar_pickT rfl rfl rfl rfl rfl ?_
    refine ar_assign rfl rfl rfl rfl ?_
    refine ar_nil ?_
    refine then_n ?_
    refine wp_ret ?_
    refine ret_post rfl rfl ?_
    simp [oddT, *]
  · refine ar_move rfl rfl rfl rfl ?_
    refine ar_move rfl rfl rfl rfl ?_
    refine ar_call [] (pc_45 r (by omega)) rfl rfl rfl rfl rfl rfl trivial (.inl rfl) rfl rfl rfl ?_
    refine ar_not rfl rfl rfl rfl rfl ?_
    refine ar_pickF rfl rfl rfl rfl rfl ?_
    refine ar_assign rfl rfl rfl rfl ?_
    refine ar_nil ?_
    refine then_n ?_
    refine wp_ret ?_
    refine ret_post rfl rfl ?_
    simp [oddT, *]
theorem pc_113 (a : Aig) (t : Trace) (hf : Fit a) (hn : Nn t.ini) (hl1 : t.ini.length ≤ 9223372036854775807) (hl2 : t.ins.length ≤ 9223372036854775807) (hl3 : ∀ r, r ∈ t.ins → r.length ≤ 9223372036854775807) : PCall Try.prog 113 [aigV a, trV t] (.bool (rightT a t)) := by
  refine pc_of tab_ok (f := 113) (fn := Try.f113) (N := 48) (rs := [.tmp 4]) (by kernel_rfl) rfl (by kernel_rfl) rfl rfl [(0, .v (aigV a)), (1, .v (trV t))] ⟨rfl, rfl, trivial⟩ rfl rfl ?_
  intro B
  have hfl := hf.l; have hfb := hf.b
  refine wp_seq ?_
  refine wp_reg (by kernel_rfl) ?_
  refine ar_box 2 [] rfl rfl rfl ⟨rfl, trivial⟩ rfl rfl rfl ?_
  refine ar_box 3 [] rfl rfl rfl ⟨rfl, trivial⟩ rfl rfl rfl ?_
  refine ar_assign rfl rfl rfl rfl ?_
  refine ar_nil ?_
  refine then_n ?_
  refine wp_seq ?_
  refine wp_seq ?_
  refine wp_reg (by kernel_rfl) ?_
  refine ar_fa tab_ok rfl rfl rfl tb101 rfl rfl rfl rfl rfl ?_
  refine ar_ld tab_ok rfl rfl rfl tb3 rfl rfl rfl rfl rfl ?_
  refine ar_lss_s rfl rfl rfl rfl rfl (fun h8 => ?_) (fun h8 => ?_)
  · refine ar_move rfl rfl rfl rfl ?_
    refine ar_skip rfl rfl ?_
    refine ar_skip rfl rfl ?_
    refine ar_skip rfl rfl ?_
    refine ar_skip rfl rfl ?_
    refine ar_skip rfl rfl ?_
    refine ar_skip rfl rfl ?_
    refine ar_pickT rfl rfl rfl rfl rfl ?_
    refine ar_move rfl rfl rfl rfl ?_
    refine ar_skip rfl rfl ?_
    refine ar_skip rfl rfl ?_
    refine ar_skip rfl rfl ?_
    refine ar_skip rfl rfl ?_
    refine ar_pickT rfl rfl rfl rfl rfl ?_
    refine ar_move rfl rfl rfl rfl ?_
    refine ar_skip rfl rfl ?_
    refine ar_skip rfl rfl ?_
    refine ar_skip rfl rfl ?_
    refine ar_skip rfl rfl ?_
    refine ar_pickT rfl rfl rfl rfl rfl ?_
    refine ar_move rfl rfl rfl rfl ?_
    refine ar_skip rfl rfl ?_
    refine ar_skip rfl rfl ?_
    refine ar_skip rfl rfl ?_
    refine ar_skip rfl rfl ?_
    refine ar_pickT rfl rfl rfl rfl rfl ?_
    refine ar_nil ?_
    refine then_n ?_
    refine wp_condT rfl ?_
    refine wp_seq ?_
    refine wp_reg (by kernel_rfl) ?_
    refine ar_assign rfl rfl rfl rfl ?_
    refine ar_nil ?_
    refine then_n ?_
    refine wp_ret ?_
    refine then_r (ret_post rfl rfl ?_)
    first | (rw [rightT_main (by omega) (by omega) (by omega) (by omega) h32, h40]; done) | (rw [rightT_main (by omega) (by omega) (by omega) (by omega) h32, h40]; rfl) | (rw [rightT_no (fun h => Bool.false_ne_true (h32.symm.trans h.it))]; done) | (rw [rightT_no (fun h => by have q1 := h.b0; have q2 := h.b1; have q3 := h.n0; have q4 := h.n1; have q5 := h.it; omega)]; done)
  · refine ar_move rfl rfl rfl rfl ?_
    refine ar_fa tab_ok rfl rfl rfl tb101 rfl rfl rfl rfl rfl ?_
    refine ar_ld tab_ok rfl rfl rfl tb3 rfl rfl rfl rfl rfl ?_
    refine ar_fa tab_ok rfl rfl rfl tb27 rfl rfl rfl rfl rfl ?_
    refine ar_ld tab_ok rfl rfl rfl tb24 rfl rfl rfl rfl rfl ?_
    refine ar_len tab_ok rfl rfl tb24 rfl len_map rfl rfl ?_
    refine ar_geq_s rfl rfl rfl rfl rfl (fun h15 => ?_) (fun h15 => ?_)
    · refine ar_pickF rfl rfl rfl rfl rfl ?_
      refine ar_move rfl rfl rfl rfl ?_
      refine ar_skip rfl rfl ?_
      refine ar_skip rfl rfl ?_
      refine ar_skip rfl rfl ?_
      refine ar_skip rfl rfl ?_
      refine ar_pickT rfl rfl rfl rfl rfl ?_
      refine ar_move rfl rfl rfl rfl ?_
      refine ar_skip rfl rfl ?_
      refine ar_skip rfl rfl ?_
      refine ar_skip rfl rfl ?_
      refine ar_skip rfl rfl ?_
      refine ar_pickT rfl rfl rfl rfl rfl ?_
      refine ar_move rfl rfl rfl rfl ?_
      refine ar_skip rfl rfl ?_
      refine ar_skip rfl rfl ?_
      refine ar_skip rfl rfl ?_
      refine ar_skip rfl rfl ?_
      refine ar_pickT rfl rfl rfl rfl rfl ?_
      refine ar_nil ?_
      refine then_n ?_
      refine wp_condT rfl ?_
      refine wp_seq ?_
      refine wp_reg (by kernel_rfl) ?_
      refine ar_assign rfl rfl rfl rfl ?_
      refine ar_nil ?_
      refine then_n ?_
      refine wp_ret ?_
      refine then_r (ret_post rfl rfl ?_)
      first | (rw [rightT_main (by omega) (by omega) (by omega) (by omega) h32, h40]; done) | (rw [rightT_main (by omega) (by omega) (by omega) (by omega) h32, h40]; rfl) | (rw [rightT_no (fun h => Bool.false_ne_true (h32.symm.trans h.it))]; done) | (rw [rightT_no (fun h => by have q1 := h.b0; have q2 := h.b1; have q3 := h.n0; have q4 := h.n1; have q5 := h.it; omega)]; done)
    · refine ar_pickF rfl rfl rfl rfl rfl ?_
      refine ar_move rfl rfl rfl rfl ?_
      refine ar_fa tab_ok rfl rfl rfl tb101 rfl rfl rfl rfl rfl ?_
      refine ar_ld tab_ok rfl rfl rfl tb99 rfl rfl rfl rfl rfl ?_
      refine ar_len tab_ok rfl rfl tb99 rfl len_map rfl rfl ?_
      refine ar_lss_s rfl rfl rfl rfl rfl (fun h21 => ?_) (fun h21 => ?_)
      · refine ar_pickF rfl rfl rfl rfl rfl ?_
        refine ar_move rfl rfl rfl rfl ?_
        refine ar_skip rfl rfl ?_
        refine ar_skip rfl rfl ?_
        refine ar_skip rfl rfl ?_
        refine ar_skip rfl rfl ?_
        refine ar_pickT rfl rfl rfl rfl rfl ?_
        refine ar_move rfl rfl rfl rfl ?_
        refine ar_skip rfl rfl ?_
        refine ar_skip rfl rfl ?_
        refine ar_skip rfl rfl ?_
        refine ar_skip rfl rfl ?_
        refine ar_pickT rfl rfl rfl rfl rfl ?_
        refine ar_nil ?_
        refine then_n ?_
        refine wp_condT rfl ?_
        refine wp_seq ?_
        refine wp_reg (by kernel_rfl) ?_
        refine ar_assign rfl rfl rfl rfl ?_
        refine ar_nil ?_
        refine then_n ?_
        refine wp_ret ?_
        refine then_r (ret_post rfl rfl ?_)
        first | (rw [rightT_main (by omega) (by omega) (by omega) (by omega) h32, h40]; done) | (rw [rightT_main (by omega) (by omega) (by omega) (by omega) h32, h40]; rfl) | (rw [rightT_no (fun h => Bool.false_ne_true (h32.symm.trans h.it))]; done) | (rw [rightT_no (fun h => by have q1 := h.b0; have q2 := h.b1; have q3 := h.n0; have q4 := h.n1; have q5 := h.it; omega)]; done)
      · refine ar_pickF rfl rfl rfl rfl rfl ?_
        refine ar_move rfl rfl rfl rfl ?_
        refine ar_fa tab_ok rfl rfl rfl tb101 rfl rfl rfl rfl rfl ?_
        refine ar_ld tab_ok rfl rfl rfl tb99 rfl rfl rfl rfl rfl ?_
        refine ar_len tab_ok rfl rfl tb99 rfl len_map rfl rfl ?_
        refine ar_gtr_s rfl rfl rfl rfl rfl (fun h27 => ?_) (fun h27 => ?_)
        · refine ar_pickF rfl rfl rfl rfl rfl ?_
          refine ar_move rfl rfl rfl rfl ?_
          refine ar_skip rfl rfl ?_
          refine ar_skip rfl rfl ?_
          refine ar_skip rfl rfl ?_
          refine ar_skip rfl rfl ?_
          refine ar_pickT rfl rfl rfl rfl rfl ?_
          refine ar_nil ?_
          refine then_n ?_
          refine wp_condT rfl ?_
          refine wp_seq ?_
          refine wp_reg (by kernel_rfl) ?_
          refine ar_assign rfl rfl rfl rfl ?_
          refine ar_nil ?_
          refine then_n ?_
          refine wp_ret ?_
          refine then_r (ret_post rfl rfl ?_)
          first | (rw [rightT_main (by omega) (by omega) (by omega) (by omega) h32, h40]; done) | (rw [rightT_main (by omega) (by omega) (by omega) (by omega) h32, h40]; rfl) | (rw [rightT_no (fun h => Bool.false_ne_true (h32.symm.trans h.it))]; done) | (rw [rightT_no (fun h => by have q1 := h.b0; have q2 := h.b1; have q3 := h.n0; have q4 := h.n1; have q5 := h.it; omega)]; done)
        · refine ar_pickF rfl rfl rfl rfl rfl ?_
          refine ar_move rfl rfl rfl rfl ?_
          refine ar_fa tab_ok rfl rfl rfl tb101 rfl rfl rfl rfl rfl ?_
          refine ar_ld tab_ok rfl rfl rfl tb70 rfl rfl rfl rfl rfl ?_
          refine ar_call [] (pc_45 t.ini hl1) rfl rfl rfl rfl rfl rfl trivial (.inl rfl) rfl rfl rfl ?_
          refine ar_split (fun h32 => ?_) (fun h32 => ?_)
          · refine ar_not rfl rfl rfl rfl rfl ?_
            refine ar_pickF rfl rfl rfl rfl rfl ?_
            refine ar_nil ?_
            refine then_n ?_
            refine wp_condF rfl ?_
            refine wp_skip ?_
            refine then_n ?_
            refine wp_seq ?_
            have hti := triL_of h32 hn
            refine wp_reg (by kernel_rfl) ?_
            refine ar_mkf rfl rfl rfl rfl rfl rfl ?_
            refine ar_assign rfl rfl rfl rfl ?_
            refine ar_nil ?_
            refine then_n ?_
            refine wp_seq ?_
            refine wp_reg (by kernel_rfl) ?_
            refine ar_fa tab_ok rfl rfl rfl tb27 rfl rfl rfl rfl rfl ?_
            refine ar_ld tab_ok rfl rfl rfl tb22 rfl rfl rfl rfl rfl ?_
            refine ar_fa tab_ok rfl rfl rfl tb101 rfl rfl rfl rfl rfl ?_
            refine ar_ld tab_ok rfl rfl rfl tb70 rfl rfl rfl rfl rfl ?_
            refine ar_call [] (pc_139 a.l t.ini 140 [] [] startsT (by omega) hl1 (fun x y _ hy => pc_140 x y (hti y hy))) rfl rfl rfl rfl rfl rfl trivial (.inl rfl) rfl rfl rfl ?_
            refine ar_split (fun h40 => ?_) (fun h40 => ?_)
            · refine ar_move rfl rfl rfl rfl ?_
              refine ar_fa tab_ok rfl rfl rfl tb101 rfl rfl rfl rfl rfl ?_
              refine ar_ld tab_ok rfl rfl rfl tb99 rfl rfl rfl rfl rfl ?_
              refine ar_move rfl rfl rfl rfl ?_
              refine ar_call [(2, _)] (pc_141 t.ins 138 [] [.ref (encA a)] (oddT a) hl2 (fun x hx => pc_138 a x (hl3 x hx))) rfl rfl rfl rfl rfl rfl ⟨rfl, trivial⟩ (.inr rfl) rfl rfl rfl ?_
              refine ar_not rfl rfl rfl rfl rfl ?_
              refine ar_pickT rfl rfl rfl rfl rfl ?_
              refine ar_assign rfl rfl rfl rfl ?_
              refine ar_nil ?_
              refine then_n ?_
              refine wp_ret ?_
              refine ret_post rfl rfl ?_
              first | (rw [rightT_main (by omega) (by omega) (by omega) (by omega) h32, h40]; done) | (rw [rightT_main (by omega) (by omega) (by omega) (by omega) h32, h40]; rfl) | (rw [rightT_no (fun h => Bool.false_ne_true (h32.symm.trans h.it))]; done) | (rw [rightT_no (fun h => by have q1 := h.b0; have q2 := h.b1; have q3 := h.n0; have q4 := h.n1; have q5 := h.it; omega)]; done)
            · refine ar_move rfl rfl rfl rfl ?_
              refine ar_skip rfl rfl ?_
              refine ar_skip rfl rfl ?_
              refine ar_skip rfl rfl ?_
              refine ar_skip rfl rfl ?_
              refine ar_skip rfl rfl ?_
              refine ar_pickF rfl rfl rfl rfl rfl ?_
              refine ar_assign rfl rfl rfl rfl ?_
              refine ar_nil ?_
              refine then_n ?_
              refine wp_ret ?_
              refine ret_post rfl rfl ?_
              first | (rw [rightT_main (by omega) (by omega) (by omega) (by omega) h32, h40]; done) | (rw [rightT_main (by omega) (by omega) (by omega) (by omega) h32, h40]; rfl) | (rw [rightT_no (fun h => Bool.false_ne_true (h32.symm.trans h.it))]; done) | (rw [rightT_no (fun h => by have q1 := h.b0; have q2 := h.b1; have q3 := h.n0; have q4 := h.n1; have q5 := h.it; omega)]; done)
          · refine ar_not rfl rfl rfl rfl rfl ?_
            refine ar_pickF rfl rfl rfl rfl rfl ?_
            refine ar_nil ?_
            refine then_n ?_
            refine wp_condT rfl ?_
            refine wp_seq ?_
            refine wp_reg (by kernel_rfl) ?_
            refine ar_assign rfl rfl rfl rfl ?_
            refine ar_nil ?_
            refine then_n ?_
            refine wp_ret ?_
            refine then_r (ret_post rfl rfl ?_)
            first | (rw [rightT_main (by omega) (by omega) (by omega) (by omega) h32, h40]; done) | (rw [rightT_main (by omega) (by omega) (by omega) (by omega) h32, h40]; rfl) | (rw [rightT_no (fun h => Bool.false_ne_true (h32.symm.trans h.it))]; done) | (rw [rightT_no (fun h => by have q1 := h.b0; have q2 := h.b1; have q3 := h.n0; have q4 := h.n1; have q5 := h.it; omega)]; done)
theorem pr_121 (x : List Int) (hx : x.length ≤ 140737488355328) : PRow Try.prog 121 [slU x] 72 1 (x.map encU) := by
  refine pr_of tab_ok (f := 121) (fn := Try.f121) (N := 8) (t := 2) (by kernel_rfl) rfl (by kernel_rfl) rfl rfl [(0, .v (slU x))] ⟨rfl, trivial⟩ rfl rfl ?_
  intro B
  refine wp_seq ?_
  refine wp_reg (by kernel_rfl) ?_
  refine ar_assign rfl rfl rfl rfl ?_
  refine ar_nil ?_
  refine then_n ?_
  refine wp_seq ?_
  refine wp_seq ?_
  refine wp_reg (by kernel_rfl) ?_
  refine ar_move rfl rfl rfl rfl ?_
  refine ar_nileq tab_ok rfl tb70 rfl rfl rfl rfl rfl (fun h4 => ?_) ?_
  · refine ar_nil ?_
    refine then_n ?_
    refine wp_condT rfl ?_
    refine wp_seq ?_
    refine wp_reg (by kernel_rfl) ?_
    refine ar_assign rfl rfl rfl rfl ?_
    refine ar_nil ?_
    refine then_n ?_
    refine wp_ret ?_
    refine then_r (⟨.inr ⟨rfl, ?_, by decide⟩, rfl⟩)
    exact h4
  · refine ar_nil ?_
    refine then_n ?_
    refine wp_condF rfl ?_
    refine wp_skip ?_
    refine then_n ?_
    refine wp_seq ?_
    refine wp_reg (by kernel_rfl) ?_
    refine ar_bs_own (es := ([] : List Int).map encU) 5 [] tab_ok rfl tb70 rfl tb72 rfl rfl ⟨rfl, trivial⟩ rfl rfl rfl rfl rfl rfl rfl rfl rfl ?_
    refine ar_move rfl rfl rfl rfl ?_
    refine ar_app 7 [] tab_ok rfl tb70 rfl tb70 rfl tb72 rfl rfl rfl rfl ⟨rfl, rfl, trivial⟩ rfl (el_72 _) app_map (by constructor <;> simp <;> omega) rfl rfl rfl ?_
    refine ar_assign rfl rfl rfl rfl ?_
    refine ar_nil ?_
    refine then_n ?_
    refine wp_ret ?_
    refine ⟨.inl ⟨7, rfl, ?_⟩, rfl⟩
    rfl
theorem pc_115 (l : List Int) (hl : l.length ≤ 1000000) : PCall Try.prog 115 [slU l] (.int .i64 (manyT l : Nat)) := by
  refine pc_of tab_ok (f := 115) (fn := Try.f115) (N := 19) (rs := [.tmp 2]) (by kernel_rfl) rfl (by kernel_rfl) rfl rfl [(0, .v (slU l))] ⟨rfl, trivial⟩ rfl rfl ?_
  intro B
  refine wp_seq ?_
  refine wp_reg (by kernel_rfl) ?_
  refine ar_assign rfl rfl rfl rfl ?_
  refine ar_nil ?_
  refine then_n ?_
  refine wp_seq ?_
  refine wp_reg (by kernel_rfl) ?_
  refine ar_assign rfl rfl rfl rfl ?_
  refine ar_nil ?_
  refine then_n ?_
  refine wp_seq ?_
  refine wp_seq ?_
  refine wp_reg (by kernel_rfl) ?_
  refine ar_assign rfl rfl rfl rfl ?_
  refine ar_nil ?_
  refine then_n ?_
  refine wp_block ?_
  refine wp_loop (α := Nat) (fun j => mk [(0, .v (slU l)), (3, .v (.int .i64 (manyT (l.take j) : Nat))), (4, .v (.int .i64 (j : Nat)))] [] 0) (fun j => j ≤ l.length) (fun j => l.length - j) 0 (Nat.zero_le _) (le_to ⟨rfl, rfl, rfl, trivial⟩ trivial rfl rfl rfl rfl) ?_
  rintro j hinv
  have hm := manyT_le (l.take j)
  have hm2 : (l.take j).length ≤ l.length := by simp; omega
  refine wp_seq ?_
  refine wp_seq ?_
  refine wp_reg (by kernel_rfl) ?_
  refine ar_move rfl rfl rfl rfl ?_
  refine ar_move rfl rfl rfl rfl ?_
  refine ar_len tab_ok rfl rfl tb70 rfl len_map rfl rfl ?_
  refine ar_lss_s rfl rfl rfl rfl rfl (fun h8 => ?_) (fun h8 => ?_)
  · refine ar_nil ?_
    refine then_n ?_
    refine wp_condT rfl ?_
    refine wp_skip ?_
    refine then_n ?_
    refine wp_seq ?_
    refine wp_block ?_
    refine wp_seq ?_
    refine wp_reg (by kernel_rfl) ?_
    refine ar_move rfl rfl rfl rfl ?_
    refine ar_move rfl rfl rfl rfl ?_
    refine ar_ia tab_ok rfl rfl rfl tb70 rfl tb72 (by omega) (map_get (n := j) (by omega)) rfl rfl rfl ?_
    refine ar_ld_ref tab_ok rfl rfl tb72 rfl rfl rfl rfl ?_
    refine ar_eql_s rfl rfl rfl rfl rfl (fun h15 => ?_) (fun h15 => ?_)
    · refine ar_nil ?_
      refine then_n ?_
      refine wp_condT rfl ?_
      refine wp_reg (by kernel_rfl) ?_
      refine ar_move rfl rfl rfl rfl ?_
      refine ar_addi rfl rfl rfl rfl (by omega) (by omega) rfl rfl ?_
      refine ar_assign rfl rfl rfl rfl ?_
      refine ar_nil ?_
      refine inblk_n ?_
      refine then_n ?_
      refine wp_reg (by kernel_rfl) ?_
      refine ar_move rfl rfl rfl rfl ?_
      refine ar_addi rfl rfl rfl rfl (by omega) (by omega) rfl rfl ?_
      refine ar_assign rfl rfl rfl rfl ?_
      refine ar_nil ?_
      exact loop_n (j + 1) (by omega) (by omega) (le_to ⟨rfl, (int_eq rfl (by rw [take_snoc (by omega), manyT_snoc]; first | (rw [if_pos h15]; omega) | (rw [if_neg h15]; omega))), rfl, trivial⟩ trivial rfl rfl rfl rfl)
    · refine ar_nil ?_
      refine then_n ?_
      refine wp_condF rfl ?_
      refine wp_skip ?_
      refine inblk_n ?_
      refine then_n ?_
      refine wp_reg (by kernel_rfl) ?_
      refine ar_move rfl rfl rfl rfl ?_
      refine ar_addi rfl rfl rfl rfl (by omega) (by omega) rfl rfl ?_
      refine ar_assign rfl rfl rfl rfl ?_
      refine ar_nil ?_
      exact loop_n (j + 1) (by omega) (by omega) (le_to ⟨rfl, (int_eq rfl (by rw [take_snoc (by omega), manyT_snoc]; first | (rw [if_pos h15]; omega) | (rw [if_neg h15]; omega))), rfl, trivial⟩ trivial rfl rfl rfl rfl)
  · refine ar_nil ?_
    refine then_n ?_
    refine wp_condF rfl ?_
    refine wp_exit ?_
    refine then_x (loop_x (inblk_e ?_))
    refine then_n ?_
    refine wp_seq ?_
    refine wp_reg (by kernel_rfl) ?_
    refine ar_move rfl rfl rfl rfl ?_
    refine ar_assign rfl rfl rfl rfl ?_
    refine ar_nil ?_
    refine then_n ?_
    refine wp_ret ?_
    refine ret_post rfl rfl ?_
    have hi : j = l.length := by omega
    subst hi
    rw [List.take_length]
theorem pc_76 (t : Trace) (hz : SzT t) : PCall Try.prog 76 [trV t] (.int .i64 (holesT t : Nat)) := by
  refine pc_of tab_ok (f := 76) (fn := Try.f76) (N := 24) (rs := [.tmp 2]) (by kernel_rfl) rfl (by kernel_rfl) rfl rfl [(0, .v (trV t))] ⟨rfl, trivial⟩ rfl rfl ?_
  intro B
  refine wp_seq ?_
  refine wp_reg (by kernel_rfl) ?_
  refine ar_box 1 [] rfl rfl rfl ⟨rfl, trivial⟩ rfl rfl rfl ?_
  refine ar_assign rfl rfl rfl rfl ?_
  refine ar_nil ?_
  refine then_n ?_
  refine wp_seq ?_
  refine wp_reg (by kernel_rfl) ?_
  refine ar_fa tab_ok rfl rfl rfl tb101 rfl rfl rfl rfl rfl ?_
  refine ar_ld tab_ok rfl rfl rfl tb70 rfl rfl rfl rfl rfl ?_
  refine ar_call [] (pc_115 t.ini hz.il) rfl rfl rfl rfl rfl rfl trivial (.inl rfl) rfl rfl rfl ?_
  refine ar_assign rfl rfl rfl rfl ?_
  refine ar_nil ?_
  refine then_n ?_
  refine wp_seq ?_
  refine wp_seq ?_
  refine wp_reg (by kernel_rfl) ?_
  refine ar_assign rfl rfl rfl rfl ?_
  refine ar_nil ?_
  refine then_n ?_
  refine wp_block ?_
  refine wp_loop (α := Nat) (fun j => mk [(1, .ptr 1 0), (3, .v (.int .i64 (manyR ((t.ini :: t.ins).take (j + 1)) : Nat))), (4, .v (.int .i64 (j : Nat)))] [(1, .box ((encT t).map .v))] 0) (fun j => j ≤ t.ins.length) (fun j => t.ins.length - j) 0 (Nat.zero_le _) (le_to ⟨rfl, (int_eq rfl (by simp [manyR])), rfl, trivial⟩ ⟨rfl, trivial⟩ rfl rfl rfl rfl) ?_
  rintro j hinv
  have hm := manyR_take (rs := t.ini :: t.ins) (by simp; have := hz.nl; omega) hz.rows (j + 1)
  have hz2 := hz.nl
  have hm3 := manyT_le (t.ins.getD j default)
  refine wp_seq ?_
  refine wp_seq ?_
  refine wp_reg (by kernel_rfl) ?_
  refine ar_move rfl rfl rfl rfl ?_
  refine ar_fa tab_ok rfl rfl rfl tb101 rfl rfl rfl rfl rfl ?_
  refine ar_ld tab_ok rfl rfl rfl tb99 rfl rfl rfl rfl rfl ?_
  refine ar_len tab_ok rfl rfl tb99 rfl len_map rfl rfl ?_
  refine ar_lss_s rfl rfl rfl rfl rfl (fun h12 => ?_) (fun h12 => ?_)
  · refine ar_nil ?_
    refine then_n ?_
    refine wp_condT rfl ?_
    refine wp_skip ?_
    refine then_n ?_
    refine wp_seq ?_
    refine wp_block ?_
    refine wp_reg (by kernel_rfl) ?_
    refine ar_move rfl rfl rfl rfl ?_
    refine ar_fa tab_ok rfl rfl rfl tb101 rfl rfl rfl rfl rfl ?_
    refine ar_ld tab_ok rfl rfl rfl tb99 rfl rfl rfl rfl rfl ?_
    refine ar_move rfl rfl rfl rfl ?_
    refine ar_ia tab_ok rfl rfl rfl tb99 rfl tb70 (by omega) (map_get (n := j) (by omega)) rfl rfl rfl ?_
    refine ar_ld_ref tab_ok rfl rfl tb70 rfl rfl rfl rfl ?_
    refine ar_call [] (pc_115 (t.ins.getD j default) (hz.rl _ (getD_mem (by omega)))) rfl rfl rfl rfl rfl rfl trivial (.inl rfl) rfl rfl rfl ?_
    have hm4 := hz.rl (t.ins.getD j default) (getD_mem (by omega))
    refine ar_addi rfl rfl rfl rfl (by omega) (by omega) rfl rfl ?_
    refine ar_assign rfl rfl rfl rfl ?_
    refine ar_nil ?_
    refine inblk_n ?_
    refine then_n ?_
    refine wp_reg (by kernel_rfl) ?_
    refine ar_move rfl rfl rfl rfl ?_
    refine ar_addi rfl rfl rfl rfl (by omega) (by omega) rfl rfl ?_
    refine ar_assign rfl rfl rfl rfl ?_
    refine ar_nil ?_
    exact loop_n (j + 1) (by omega) (by omega) (le_to ⟨rfl, (int_eq rfl (by rw [List.take_succ_cons, List.take_succ_cons, take_snoc (xs := t.ins) (by omega), ← List.cons_append, manyR_snoc]; omega)), rfl, trivial⟩ ⟨rfl, trivial⟩ rfl rfl rfl rfl)
  · refine ar_nil ?_
    refine then_n ?_
    refine wp_condF rfl ?_
    refine wp_exit ?_
    refine then_x (loop_x (inblk_e ?_))
    refine then_n ?_
    refine wp_seq ?_
    refine wp_reg (by kernel_rfl) ?_
    refine ar_move rfl rfl rfl rfl ?_
    refine ar_assign rfl rfl rfl rfl ?_
    refine ar_nil ?_
    refine then_n ?_
    refine wp_ret ?_
    refine ret_post rfl rfl ?_
    have hi : j = t.ins.length := by omega
    subst hi
    rw [show (t.ini :: t.ins).take (t.ins.length + 1) = t.ini :: t.ins from List.take_length (l := t.ini :: t.ins)]; rfl
theorem pc_90 (t : Trace) (hz : SzT t) : PCall Try.prog 90 [trV t] (.bool (decide (holesT t = 0))) := by
  refine pc_of tab_ok (f := 90) (fn := Try.f90) (N := 6) (rs := [.tmp 2]) (by kernel_rfl) rfl (by kernel_rfl) rfl rfl [(0, .v (trV t))] ⟨rfl, trivial⟩ rfl rfl ?_
  intro B
  refine wp_seq ?_
  refine wp_reg (by kernel_rfl) ?_
  refine ar_box 1 [] rfl rfl rfl ⟨rfl, trivial⟩ rfl rfl rfl ?_
  refine ar_assign rfl rfl rfl rfl ?_
  refine ar_nil ?_
  refine then_n ?_
  refine wp_seq ?_
  refine wp_reg (by kernel_rfl) ?_
  refine ar_lda tab_ok rfl rfl rfl tb101 rfl rfl rfl rfl rfl rfl ?_
  refine ar_call [] (pc_76 t hz) rfl rfl rfl rfl rfl rfl trivial (.inl rfl) rfl rfl rfl ?_
  refine ar_eql rfl rfl rfl rfl rfl rfl ?_
  refine ar_assign rfl rfl rfl rfl ?_
  refine ar_nil ?_
  refine then_n ?_
  refine wp_ret ?_
  refine ret_post rfl rfl ?_
  exact congrArg V.bool (by simp)
theorem pce_81 (t : Trace) (n : Int) (h1 : t.ini.length ≤ 9223372036854775807) (h2 : t.ins.length ≤ 9223372036854775807) (hn : n ≤ 1000) : PCallE Try.prog 81 [trV t, .int .i64 n] (fun r => ∃ b : Bool, r = .bool b ∧ (b = true → SmallT t n)) := by
  refine pce_of tab_ok (f := 81) (fn := Try.f81) (N := 31) (rs := [.tmp 4]) (by kernel_rfl) rfl (by kernel_rfl) rfl rfl [(0, .v (trV t)), (1, .v (.int .i64 n))] ⟨rfl, rfl, trivial⟩ rfl rfl ?_
  intro B
  refine wp_seq ?_
  refine wp_reg (by kernel_rfl) ?_
  refine ar_box 2 [] rfl rfl rfl ⟨rfl, trivial⟩ rfl rfl rfl ?_
  refine ar_assign rfl rfl rfl rfl ?_
  refine ar_nil ?_
  refine then_n ?_
  refine wp_seq ?_
  refine wp_seq ?_
  refine wp_reg (by kernel_rfl) ?_
  refine ar_fa tab_ok rfl rfl rfl tb101 rfl rfl rfl rfl rfl ?_
  refine ar_ld tab_ok rfl rfl rfl tb70 rfl rfl rfl rfl rfl ?_
  refine ar_len tab_ok rfl rfl tb70 rfl len_map rfl rfl ?_
  refine ar_gtr_s rfl rfl rfl rfl rfl (fun h9 => ?_) (fun h9 => ?_)
  · refine ar_move rfl rfl rfl rfl ?_
    refine ar_skip rfl rfl ?_
    refine ar_skip rfl rfl ?_
    refine ar_skip rfl rfl ?_
    refine ar_skip rfl rfl ?_
    refine ar_skip rfl rfl ?_
    refine ar_pickT rfl rfl rfl rfl rfl ?_
    refine ar_nil ?_
    refine then_n ?_
    refine wp_condT rfl ?_
    refine wp_seq ?_
    refine wp_reg (by kernel_rfl) ?_
    refine ar_assign rfl rfl rfl rfl ?_
    refine ar_nil ?_
    refine then_n ?_
    refine wp_ret ?_
    refine then_r (ret_postE rfl rfl ?_)
    first | exact ⟨_, rfl, fun h => (Bool.false_ne_true h).elim⟩ | exact ⟨_, rfl, fun _ => ⟨by omega, by omega, fun r hr => by obtain ⟨q, hq, rfl⟩ := List.getElem_of_mem hr; have := hj2 q (by omega); rwa [List.getD_eq_getElem?_getD, List.getElem?_eq_getElem hq] at this⟩⟩
  · refine ar_move rfl rfl rfl rfl ?_
    refine ar_fa tab_ok rfl rfl rfl tb101 rfl rfl rfl rfl rfl ?_
    refine ar_ld tab_ok rfl rfl rfl tb99 rfl rfl rfl rfl rfl ?_
    refine ar_len tab_ok rfl rfl tb99 rfl len_map rfl rfl ?_
    refine ar_move rfl rfl rfl rfl ?_
    refine ar_gtr_s rfl rfl rfl rfl rfl (fun h15 => ?_) (fun h15 => ?_)
    · refine ar_pickF rfl rfl rfl rfl rfl ?_
      refine ar_nil ?_
      refine then_n ?_
      refine wp_condT rfl ?_
      refine wp_seq ?_
      refine wp_reg (by kernel_rfl) ?_
      refine ar_assign rfl rfl rfl rfl ?_
      refine ar_nil ?_
      refine then_n ?_
      refine wp_ret ?_
      refine then_r (ret_postE rfl rfl ?_)
      first | exact ⟨_, rfl, fun h => (Bool.false_ne_true h).elim⟩ | exact ⟨_, rfl, fun _ => ⟨by omega, by omega, fun r hr => by obtain ⟨q, hq, rfl⟩ := List.getElem_of_mem hr; have := hj2 q (by omega); rwa [List.getD_eq_getElem?_getD, List.getElem?_eq_getElem hq] at this⟩⟩
    · refine ar_pickF rfl rfl rfl rfl rfl ?_
      refine ar_nil ?_
      refine then_n ?_
      refine wp_condF rfl ?_
      refine wp_skip ?_
      refine then_n ?_
      refine wp_seq ?_
      refine wp_seq ?_
      refine wp_reg (by kernel_rfl) ?_
      refine ar_assign rfl rfl rfl rfl ?_
      refine ar_nil ?_
      refine then_n ?_
      refine wp_block ?_
      refine wp_loop (α := Nat) (fun j => mk [(2, .ptr 2 0), (5, .v (.int .i64 (j : Nat)))] [(2, .box ((encT t).map .v))] 0) (fun j => j ≤ t.ins.length ∧ ∀ q, q < j → (t.ins.getD q default).length ≤ 60) (fun j => t.ins.length - j) 0 ⟨Nat.zero_le _, fun q h => absurd h (Nat.not_lt_zero q)⟩ (le_to ⟨rfl, rfl, trivial⟩ ⟨rfl, trivial⟩ rfl rfl rfl rfl) ?_
      rintro j ⟨hj1, hj2⟩
      refine wp_seq ?_
      refine wp_seq ?_
      refine wp_reg (by kernel_rfl) ?_
      refine ar_move rfl rfl rfl rfl ?_
      refine ar_fa tab_ok rfl rfl rfl tb101 rfl rfl rfl rfl rfl ?_
      refine ar_ld tab_ok rfl rfl rfl tb99 rfl rfl rfl rfl rfl ?_
      refine ar_len tab_ok rfl rfl tb99 rfl len_map rfl rfl ?_
      refine ar_lss_s rfl rfl rfl rfl rfl (fun h21 => ?_) (fun h21 => ?_)
      · refine ar_nil ?_
        refine then_n ?_
        refine wp_condT rfl ?_
        refine wp_skip ?_
        refine then_n ?_
        refine wp_seq ?_
        refine wp_block ?_
        refine wp_seq ?_
        refine wp_reg (by kernel_rfl) ?_
        refine ar_fa tab_ok rfl rfl rfl tb101 rfl rfl rfl rfl rfl ?_
        refine ar_ld tab_ok rfl rfl rfl tb99 rfl rfl rfl rfl rfl ?_
        refine ar_move rfl rfl rfl rfl ?_
        refine ar_ia tab_ok rfl rfl rfl tb99 rfl tb70 (by omega) (map_get (n := j) (by omega)) rfl rfl rfl ?_
        refine ar_ld_ref tab_ok rfl rfl tb70 rfl rfl rfl rfl ?_
        refine ar_len tab_ok rfl rfl tb70 rfl len_map rfl rfl ?_
        refine ar_gtr_s rfl rfl rfl rfl rfl (fun h30 => ?_) (fun h30 => ?_)
        · refine ar_nil ?_
          refine then_n ?_
          refine wp_condT rfl ?_
          refine wp_seq ?_
          refine wp_reg (by kernel_rfl) ?_
          refine ar_assign rfl rfl rfl rfl ?_
          refine ar_nil ?_
          refine then_n ?_
          refine wp_ret ?_
          refine inblk_r (then_r (loop_r (inblk_r (then_r (ret_postE rfl rfl ?_)))))
          first | exact ⟨_, rfl, fun h => (Bool.false_ne_true h).elim⟩ | exact ⟨_, rfl, fun _ => ⟨by omega, by omega, fun r hr => by obtain ⟨q, hq, rfl⟩ := List.getElem_of_mem hr; have := hj2 q (by omega); rwa [List.getD_eq_getElem?_getD, List.getElem?_eq_getElem hq] at this⟩⟩
        · refine ar_nil ?_
          refine then_n ?_
          refine wp_condF rfl ?_
          refine wp_skip ?_
          refine inblk_n ?_
          refine then_n ?_
          refine wp_reg (by kernel_rfl) ?_
          refine ar_move rfl rfl rfl rfl ?_
          refine ar_addi rfl rfl rfl rfl (by omega) (by omega) rfl rfl ?_
          refine ar_assign rfl rfl rfl rfl ?_
          refine ar_nil ?_
          exact loop_n (j + 1) ⟨by omega, fun q hq => (Nat.lt_succ_iff_lt_or_eq.1 hq).elim (hj2 q) (fun e => e ▸ (by omega))⟩ (by omega) (le_to ⟨rfl, rfl, trivial⟩ ⟨rfl, trivial⟩ rfl rfl rfl rfl)
      · refine ar_nil ?_
        refine then_n ?_
        refine wp_condF rfl ?_
        refine wp_exit ?_
        refine then_x (loop_x (inblk_e ?_))
        refine then_n ?_
        refine wp_seq ?_
        refine wp_reg (by kernel_rfl) ?_
        refine ar_assign rfl rfl rfl rfl ?_
        refine ar_nil ?_
        refine then_n ?_
        refine wp_ret ?_
        refine ret_postE rfl rfl ?_
        first | exact ⟨_, rfl, fun h => (Bool.false_ne_true h).elim⟩ | exact ⟨_, rfl, fun _ => ⟨by omega, by omega, fun r hr => by obtain ⟨q, hq, rfl⟩ := List.getElem_of_mem hr; have := hj2 q (by omega); rwa [List.getD_eq_getElem?_getD, List.getElem?_eq_getElem hq] at this⟩⟩
theorem pc_79 (a : Aig) (t : Trace) (hf : Fit a) (hn : Nn t.ini) (hl1 : t.ini.length ≤ 9223372036854775807) (hl2 : t.ins.length ≤ 9223372036854775807) (hl3 : ∀ r, r ∈ t.ins → r.length ≤ 9223372036854775807) : PCall Try.prog 79 [aigV a, trV t] (.bool (rightT a t)) := by
  refine pc_of tab_ok (f := 79) (fn := Try.f79) (N := 103) (rs := [.tmp 4]) (by kernel_rfl) rfl (by kernel_rfl) rfl rfl [(0, .v (aigV a)), (1, .v (trV t))] ⟨rfl, rfl, trivial⟩ rfl rfl ?_
  intro B
  have hfl := hf.l; have hfb := hf.b
  refine wp_seq ?_
  refine wp_reg (by kernel_rfl) ?_
  refine ar_box 2 [] rfl rfl rfl ⟨rfl, trivial⟩ rfl rfl rfl ?_
  refine ar_box 3 [] rfl rfl rfl ⟨rfl, trivial⟩ rfl rfl rfl ?_
  refine ar_assign rfl rfl rfl rfl ?_
  refine ar_nil ?_
  refine then_n ?_
  refine wp_seq ?_
  refine wp_reg (by kernel_rfl) ?_
  refine ar_fa tab_ok rfl rfl rfl tb101 rfl rfl rfl rfl rfl ?_
  refine ar_ld tab_ok rfl rfl rfl tb70 rfl rfl rfl rfl rfl ?_
  refine ar_call [] (pc_46 t.ini hl1) rfl rfl rfl rfl rfl rfl trivial (.inl rfl) rfl rfl rfl ?_
  refine ar_split (fun h11 => ?_) (fun h11 => ?_)
  · refine ar_assign rfl rfl rfl rfl ?_
    refine ar_nil ?_
    refine then_n ?_
    refine wp_seq ?_
    refine wp_seq ?_
    refine wp_reg (by kernel_rfl) ?_
    refine ar_move rfl rfl rfl rfl ?_
    refine ar_not rfl rfl rfl rfl rfl ?_
    refine ar_move rfl rfl rfl rfl ?_
    refine ar_fa tab_ok rfl rfl rfl tb101 rfl rfl rfl rfl rfl ?_
    refine ar_ld tab_ok rfl rfl rfl tb3 rfl rfl rfl rfl rfl ?_
    refine ar_lss_s rfl rfl rfl rfl rfl (fun h17 => ?_) (fun h17 => ?_)
    · refine ar_pickF rfl rfl rfl rfl rfl ?_
      refine ar_move rfl rfl rfl rfl ?_
      refine ar_skip rfl rfl ?_
      refine ar_skip rfl rfl ?_
      refine ar_skip rfl rfl ?_
      refine ar_skip rfl rfl ?_
      refine ar_skip rfl rfl ?_
      refine ar_skip rfl rfl ?_
      refine ar_pickT rfl rfl rfl rfl rfl ?_
      refine ar_move rfl rfl rfl rfl ?_
      refine ar_skip rfl rfl ?_
      refine ar_skip rfl rfl ?_
      refine ar_skip rfl rfl ?_
      refine ar_skip rfl rfl ?_
      refine ar_pickT rfl rfl rfl rfl rfl ?_
      refine ar_move rfl rfl rfl rfl ?_
      refine ar_skip rfl rfl ?_
      refine ar_skip rfl rfl ?_
      refine ar_skip rfl rfl ?_
      refine ar_skip rfl rfl ?_
      refine ar_pickT rfl rfl rfl rfl rfl ?_
      refine ar_move rfl rfl rfl rfl ?_
      refine ar_skip rfl rfl ?_
      refine ar_skip rfl rfl ?_
      refine ar_skip rfl rfl ?_
      refine ar_skip rfl rfl ?_
      refine ar_skip rfl rfl ?_
      refine ar_skip rfl rfl ?_
      refine ar_skip rfl rfl ?_
      refine ar_pickT rfl rfl rfl rfl rfl ?_
      refine ar_nil ?_
      refine then_n ?_
      refine wp_condT rfl ?_
      refine wp_seq ?_
      refine wp_reg (by kernel_rfl) ?_
      refine ar_assign rfl rfl rfl rfl ?_
      refine ar_nil ?_
      refine then_n ?_
      refine wp_ret ?_
      refine then_r (ret_post rfl rfl ?_)
      first | (rw [rightT_main (by omega) (by omega) (by omega) (by omega) h11, pairs_at (j := j) (by omega) (by simp only [startsT, Bool.or_eq_false_iff, decide_eq_false_iff_not]; omega)]; rfl) | (rw [rightT_main (by omega) (by omega) (by omega) (by omega) h11, hip, any_of (j := i) (by omega) (by simp only [oddT, Bool.or_eq_true, decide_eq_true_eq, Bool.not_eq_true']; first | exact .inl h101 | exact .inr h89)]; rfl) | (rw [rightT_main (by omega) (by omega) (by omega) (by omega) h11, hip, any_no (fun q hq => hi2 q (by omega))]; rfl) | (rw [rightT_no (fun h => Bool.false_ne_true (h11.symm.trans h.it))]; done) | (rw [rightT_no (fun h => by have q1 := h.b0; have q2 := h.b1; have q3 := h.n0; have q4 := h.n1; have q5 := h.il; omega)]; done)
    · refine ar_pickF rfl rfl rfl rfl rfl ?_
      refine ar_move rfl rfl rfl rfl ?_
      refine ar_fa tab_ok rfl rfl rfl tb101 rfl rfl rfl rfl rfl ?_
      refine ar_ld tab_ok rfl rfl rfl tb3 rfl rfl rfl rfl rfl ?_
      refine ar_fa tab_ok rfl rfl rfl tb27 rfl rfl rfl rfl rfl ?_
      refine ar_ld tab_ok rfl rfl rfl tb24 rfl rfl rfl rfl rfl ?_
      refine ar_len tab_ok rfl rfl tb24 rfl len_map rfl rfl ?_
      refine ar_geq_s rfl rfl rfl rfl rfl (fun h25 => ?_) (fun h25 => ?_)
      · refine ar_pickF rfl rfl rfl rfl rfl ?_
        refine ar_move rfl rfl rfl rfl ?_
        refine ar_skip rfl rfl ?_
        refine ar_skip rfl rfl ?_
        refine ar_skip rfl rfl ?_
        refine ar_skip rfl rfl ?_
        refine ar_pickT rfl rfl rfl rfl rfl ?_
        refine ar_move rfl rfl rfl rfl ?_
        refine ar_skip rfl rfl ?_
        refine ar_skip rfl rfl ?_
        refine ar_skip rfl rfl ?_
        refine ar_skip rfl rfl ?_
        refine ar_pickT rfl rfl rfl rfl rfl ?_
        refine ar_move rfl rfl rfl rfl ?_
        refine ar_skip rfl rfl ?_
        refine ar_skip rfl rfl ?_
        refine ar_skip rfl rfl ?_
        refine ar_skip rfl rfl ?_
        refine ar_skip rfl rfl ?_
        refine ar_skip rfl rfl ?_
        refine ar_skip rfl rfl ?_
        refine ar_pickT rfl rfl rfl rfl rfl ?_
        refine ar_nil ?_
        refine then_n ?_
        refine wp_condT rfl ?_
        refine wp_seq ?_
        refine wp_reg (by kernel_rfl) ?_
        refine ar_assign rfl rfl rfl rfl ?_
        refine ar_nil ?_
        refine then_n ?_
        refine wp_ret ?_
        refine then_r (ret_post rfl rfl ?_)
        first | (rw [rightT_main (by omega) (by omega) (by omega) (by omega) h11, pairs_at (j := j) (by omega) (by simp only [startsT, Bool.or_eq_false_iff, decide_eq_false_iff_not]; omega)]; rfl) | (rw [rightT_main (by omega) (by omega) (by omega) (by omega) h11, hip, any_of (j := i) (by omega) (by simp only [oddT, Bool.or_eq_true, decide_eq_true_eq, Bool.not_eq_true']; first | exact .inl h101 | exact .inr h89)]; rfl) | (rw [rightT_main (by omega) (by omega) (by omega) (by omega) h11, hip, any_no (fun q hq => hi2 q (by omega))]; rfl) | (rw [rightT_no (fun h => Bool.false_ne_true (h11.symm.trans h.it))]; done) | (rw [rightT_no (fun h => by have q1 := h.b0; have q2 := h.b1; have q3 := h.n0; have q4 := h.n1; have q5 := h.il; omega)]; done)
      · refine ar_pickF rfl rfl rfl rfl rfl ?_
        refine ar_move rfl rfl rfl rfl ?_
        refine ar_fa tab_ok rfl rfl rfl tb101 rfl rfl rfl rfl rfl ?_
        refine ar_ld tab_ok rfl rfl rfl tb99 rfl rfl rfl rfl rfl ?_
        refine ar_len tab_ok rfl rfl tb99 rfl len_map rfl rfl ?_
        refine ar_lss_s rfl rfl rfl rfl rfl (fun h31 => ?_) (fun h31 => ?_)
        · refine ar_pickF rfl rfl rfl rfl rfl ?_
          refine ar_move rfl rfl rfl rfl ?_
          refine ar_skip rfl rfl ?_
          refine ar_skip rfl rfl ?_
          refine ar_skip rfl rfl ?_
          refine ar_skip rfl rfl ?_
          refine ar_pickT rfl rfl rfl rfl rfl ?_
          refine ar_move rfl rfl rfl rfl ?_
          refine ar_skip rfl rfl ?_
          refine ar_skip rfl rfl ?_
          refine ar_skip rfl rfl ?_
          refine ar_skip rfl rfl ?_
          refine ar_skip rfl rfl ?_
          refine ar_skip rfl rfl ?_
          refine ar_skip rfl rfl ?_
          refine ar_pickT rfl rfl rfl rfl rfl ?_
          refine ar_nil ?_
          refine then_n ?_
          refine wp_condT rfl ?_
          refine wp_seq ?_
          refine wp_reg (by kernel_rfl) ?_
          refine ar_assign rfl rfl rfl rfl ?_
          refine ar_nil ?_
          refine then_n ?_
          refine wp_ret ?_
          refine then_r (ret_post rfl rfl ?_)
          first | (rw [rightT_main (by omega) (by omega) (by omega) (by omega) h11, pairs_at (j := j) (by omega) (by simp only [startsT, Bool.or_eq_false_iff, decide_eq_false_iff_not]; omega)]; rfl) | (rw [rightT_main (by omega) (by omega) (by omega) (by omega) h11, hip, any_of (j := i) (by omega) (by simp only [oddT, Bool.or_eq_true, decide_eq_true_eq, Bool.not_eq_true']; first | exact .inl h101 | exact .inr h89)]; rfl) | (rw [rightT_main (by omega) (by omega) (by omega) (by omega) h11, hip, any_no (fun q hq => hi2 q (by omega))]; rfl) | (rw [rightT_no (fun h => Bool.false_ne_true (h11.symm.trans h.it))]; done) | (rw [rightT_no (fun h => by have q1 := h.b0; have q2 := h.b1; have q3 := h.n0; have q4 := h.n1; have q5 := h.il; omega)]; done)
        · refine ar_pickF rfl rfl rfl rfl rfl ?_
          refine ar_move rfl rfl rfl rfl ?_
          refine ar_fa tab_ok rfl rfl rfl tb101 rfl rfl rfl rfl rfl ?_
          refine ar_ld tab_ok rfl rfl rfl tb99 rfl rfl rfl rfl rfl ?_
          refine ar_len tab_ok rfl rfl tb99 rfl len_map rfl rfl ?_
          refine ar_gtr_s rfl rfl rfl rfl rfl (fun h37 => ?_) (fun h37 => ?_)
          · refine ar_pickF rfl rfl rfl rfl rfl ?_
            refine ar_move rfl rfl rfl rfl ?_
            refine ar_skip rfl rfl ?_
            refine ar_skip rfl rfl ?_
            refine ar_skip rfl rfl ?_
            refine ar_skip rfl rfl ?_
            refine ar_skip rfl rfl ?_
            refine ar_skip rfl rfl ?_
            refine ar_skip rfl rfl ?_
            refine ar_pickT rfl rfl rfl rfl rfl ?_
            refine ar_nil ?_
            refine then_n ?_
            refine wp_condT rfl ?_
            refine wp_seq ?_
            refine wp_reg (by kernel_rfl) ?_
            refine ar_assign rfl rfl rfl rfl ?_
            refine ar_nil ?_
            refine then_n ?_
            refine wp_ret ?_
            refine then_r (ret_post rfl rfl ?_)
            first | (rw [rightT_main (by omega) (by omega) (by omega) (by omega) h11, pairs_at (j := j) (by omega) (by simp only [startsT, Bool.or_eq_false_iff, decide_eq_false_iff_not]; omega)]; rfl) | (rw [rightT_main (by omega) (by omega) (by omega) (by omega) h11, hip, any_of (j := i) (by omega) (by simp only [oddT, Bool.or_eq_true, decide_eq_true_eq, Bool.not_eq_true']; first | exact .inl h101 | exact .inr h89)]; rfl) | (rw [rightT_main (by omega) (by omega) (by omega) (by omega) h11, hip, any_no (fun q hq => hi2 q (by omega))]; rfl) | (rw [rightT_no (fun h => Bool.false_ne_true (h11.symm.trans h.it))]; done) | (rw [rightT_no (fun h => by have q1 := h.b0; have q2 := h.b1; have q3 := h.n0; have q4 := h.n1; have q5 := h.il; omega)]; done)
          · refine ar_pickF rfl rfl rfl rfl rfl ?_
            refine ar_move rfl rfl rfl rfl ?_
            refine ar_fa tab_ok rfl rfl rfl tb101 rfl rfl rfl rfl rfl ?_
            refine ar_ld tab_ok rfl rfl rfl tb70 rfl rfl rfl rfl rfl ?_
            refine ar_len tab_ok rfl rfl tb70 rfl len_map rfl rfl ?_
            refine ar_fa tab_ok rfl rfl rfl tb27 rfl rfl rfl rfl rfl ?_
            refine ar_ld tab_ok rfl rfl rfl tb22 rfl rfl rfl rfl rfl ?_
            refine ar_len tab_ok rfl rfl tb22 rfl len_map rfl rfl ?_
            refine ar_neq_s rfl rfl rfl rfl rfl (fun h46 => ?_) (fun h46 => ?_)
            · refine ar_pickF rfl rfl rfl rfl rfl ?_
              refine ar_nil ?_
              refine then_n ?_
              refine wp_condT rfl ?_
              refine wp_seq ?_
              refine wp_reg (by kernel_rfl) ?_
              refine ar_assign rfl rfl rfl rfl ?_
              refine ar_nil ?_
              refine then_n ?_
              refine wp_ret ?_
              refine then_r (ret_post rfl rfl ?_)
              first | (rw [rightT_main (by omega) (by omega) (by omega) (by omega) h11, pairs_at (j := j) (by omega) (by simp only [startsT, Bool.or_eq_false_iff, decide_eq_false_iff_not]; omega)]; rfl) | (rw [rightT_main (by omega) (by omega) (by omega) (by omega) h11, hip, any_of (j := i) (by omega) (by simp only [oddT, Bool.or_eq_true, decide_eq_true_eq, Bool.not_eq_true']; first | exact .inl h101 | exact .inr h89)]; rfl) | (rw [rightT_main (by omega) (by omega) (by omega) (by omega) h11, hip, any_no (fun q hq => hi2 q (by omega))]; rfl) | (rw [rightT_no (fun h => Bool.false_ne_true (h11.symm.trans h.it))]; done) | (rw [rightT_no (fun h => by have q1 := h.b0; have q2 := h.b1; have q3 := h.n0; have q4 := h.n1; have q5 := h.il; omega)]; done)
            · refine ar_pickF rfl rfl rfl rfl rfl ?_
              refine ar_nil ?_
              refine then_n ?_
              refine wp_condF rfl ?_
              refine wp_skip ?_
              refine then_n ?_
              refine wp_seq ?_
              refine wp_seq ?_
              have hti := triL_of h11 hn
              refine wp_reg (by kernel_rfl) ?_
              refine ar_assign rfl rfl rfl rfl ?_
              refine ar_nil ?_
              refine then_n ?_
              refine wp_block ?_
              refine wp_loop (α := Nat) (fun j => mk [(2, .ptr 2 0), (3, .ptr 3 0), (6, .v (.int .i64 (j : Nat)))] [(2, .box ((encA a).map .v)), (3, .box ((encT t).map .v))] 0) (fun j => j ≤ a.l.length ∧ ∀ q, q < j → startsT (a.l.getD q default) (t.ini.getD q default) = true) (fun j => a.l.length - j) 0 ⟨Nat.zero_le _, fun q h => absurd h (Nat.not_lt_zero q)⟩ (le_to ⟨rfl, rfl, rfl, trivial⟩ ⟨rfl, rfl, trivial⟩ rfl rfl rfl rfl) ?_
              rintro j ⟨hj1, hj2⟩
              refine wp_seq ?_
              refine wp_seq ?_
              refine wp_reg (by kernel_rfl) ?_
              refine ar_move rfl rfl rfl rfl ?_
              refine ar_fa tab_ok rfl rfl rfl tb27 rfl rfl rfl rfl rfl ?_
              refine ar_ld tab_ok rfl rfl rfl tb22 rfl rfl rfl rfl rfl ?_
              refine ar_len tab_ok rfl rfl tb22 rfl len_map rfl rfl ?_
              refine ar_lss_s rfl rfl rfl rfl rfl (fun h52 => ?_) (fun h52 => ?_)
              · refine ar_nil ?_
                refine then_n ?_
                refine wp_condT rfl ?_
                refine wp_skip ?_
                refine then_n ?_
                refine wp_seq ?_
                refine wp_block ?_
                refine wp_seq ?_
                refine wp_draw (L := [([2], []), ([2], []), ([], []), ([], []), ([], []), ([], []), ([], []), ([], []), ([3], []), ([3], []), ([], []), ([], []), ([], []), ([], []), ([2], []), ([2], []), ([], []), ([], []), ([], []), ([], []), ([], []), ([], [])]) (by kernel_rfl) mixed (by kernel_rfl) ?_
                refine ar_fa tab_ok rfl rfl rfl tb27 rfl rfl rfl rfl rfl ?_
                refine ar_ld tab_ok rfl rfl rfl tb22 rfl rfl rfl rfl rfl ?_
                refine ar_move rfl rfl rfl rfl ?_
                refine ar_ia tab_ok rfl rfl rfl tb22 rfl tb63 (by omega) (map_get (n := j) (by omega)) rfl rfl rfl ?_
                refine ar_fa_ref tab_ok rfl rfl tb63 rfl rfl rfl rfl ?_
                refine ar_ld_ref tab_ok rfl rfl tb3 rfl rfl rfl rfl ?_
                refine ar_lss_s rfl rfl rfl rfl rfl (fun h61 => ?_) (fun h61 => ?_)
                · refine ar_move rfl rfl rfl rfl ?_
                  refine ar_fa tab_ok rfl rfl rfl tb101 rfl rfl rfl rfl rfl ?_
                  refine ar_ld tab_ok rfl rfl rfl tb70 rfl rfl rfl rfl rfl ?_
                  refine ar_move rfl rfl rfl rfl ?_
                  refine ar_ia tab_ok rfl rfl rfl tb70 rfl tb72 (by omega) (map_get (n := j) (by omega)) rfl rfl rfl ?_
                  refine ar_ld_ref tab_ok rfl rfl tb72 rfl rfl rfl rfl ?_
                  refine ar_conv tab_ok rfl rfl tb72 tb3 rfl rfl (IntWalk.i64_in _ ⟨by have := hti _ (getD_mem (xs := t.ini) (n := j) (by omega)); unfold Tri at this; omega, by have := hti _ (getD_mem (xs := t.ini) (n := j) (by omega)); unfold Tri at this; omega⟩) rfl rfl ?_
                  refine ar_fa tab_ok rfl rfl rfl tb27 rfl rfl rfl rfl rfl ?_
                  refine ar_ld tab_ok rfl rfl rfl tb22 rfl rfl rfl rfl rfl ?_
                  refine ar_move rfl rfl rfl rfl ?_
                  refine ar_ia tab_ok rfl rfl rfl tb22 rfl tb63 (by omega) (map_get (n := j) (by omega)) rfl rfl rfl ?_
                  refine ar_fa_ref tab_ok rfl rfl tb63 rfl rfl rfl rfl ?_
                  refine ar_ld_ref tab_ok rfl rfl tb3 rfl rfl rfl rfl ?_
                  refine ar_neq_s rfl rfl rfl rfl rfl (fun h75 => ?_) (fun h75 => ?_)
                  · refine ar_pickT rfl rfl rfl rfl rfl ?_
                    refine ar_nil ?_
                    refine then_n ?_
                    refine wp_condT rfl ?_
                    refine wp_seq ?_
                    refine wp_reg (by kernel_rfl) ?_
                    refine ar_assign rfl rfl rfl rfl ?_
                    refine ar_nil ?_
                    refine then_n ?_
                    refine wp_ret ?_
                    refine inblk_r (then_r (loop_r (inblk_r (then_r (ret_post rfl rfl ?_)))))
                    first | (rw [rightT_main (by omega) (by omega) (by omega) (by omega) h11, pairs_at (j := j) (by omega) (by simp only [startsT, Bool.or_eq_false_iff, decide_eq_false_iff_not]; omega)]; rfl) | (rw [rightT_main (by omega) (by omega) (by omega) (by omega) h11, hip, any_of (j := i) (by omega) (by simp only [oddT, Bool.or_eq_true, decide_eq_true_eq, Bool.not_eq_true']; first | exact .inl h101 | exact .inr h89)]; rfl) | (rw [rightT_main (by omega) (by omega) (by omega) (by omega) h11, hip, any_no (fun q hq => hi2 q (by omega))]; rfl) | (rw [rightT_no (fun h => Bool.false_ne_true (h11.symm.trans h.it))]; done) | (rw [rightT_no (fun h => by have q1 := h.b0; have q2 := h.b1; have q3 := h.n0; have q4 := h.n1; have q5 := h.il; omega)]; done)
                  · refine ar_pickT rfl rfl rfl rfl rfl ?_
                    refine ar_nil ?_
                    refine then_n ?_
                    refine wp_condF rfl ?_
                    refine wp_skip ?_
                    refine inblk_n ?_
                    refine then_n ?_
                    refine wp_reg (by kernel_rfl) ?_
                    refine ar_move rfl rfl rfl rfl ?_
                    refine ar_addi rfl rfl rfl rfl (by omega) (by omega) rfl rfl ?_
                    refine ar_assign rfl rfl rfl rfl ?_
                    refine ar_nil ?_
                    exact loop_n (j + 1) ⟨by omega, fun q hq => (Nat.lt_succ_iff_lt_or_eq.1 hq).elim (hj2 q) (fun e => e ▸ (by simp only [startsT, Bool.or_eq_true, decide_eq_true_eq]; omega))⟩ (by omega) (le_to ⟨rfl, rfl, rfl, trivial⟩ ⟨rfl, rfl, trivial⟩ rfl rfl rfl rfl)
                · refine ar_move rfl rfl rfl rfl ?_
                  refine ar_skip rfl rfl ?_
                  refine ar_skip rfl rfl ?_
                  refine ar_skip rfl rfl ?_
                  refine ar_skip rfl rfl ?_
                  refine ar_skip rfl rfl ?_
                  refine ar_skip rfl rfl ?_
                  refine ar_skip rfl rfl ?_
                  refine ar_skip rfl rfl ?_
                  refine ar_skip rfl rfl ?_
                  refine ar_skip rfl rfl ?_
                  refine ar_skip rfl rfl ?_
                  refine ar_skip rfl rfl ?_
                  refine ar_skip rfl rfl ?_
                  refine ar_pickF rfl rfl rfl rfl rfl ?_
                  refine ar_nil ?_
                  refine then_n ?_
                  refine wp_condF rfl ?_
                  refine wp_skip ?_
                  refine inblk_n ?_
                  refine then_n ?_
                  refine wp_reg (by kernel_rfl) ?_
                  refine ar_move rfl rfl rfl rfl ?_
                  refine ar_addi rfl rfl rfl rfl (by omega) (by omega) rfl rfl ?_
                  refine ar_assign rfl rfl rfl rfl ?_
                  refine ar_nil ?_
                  exact loop_n (j + 1) ⟨by omega, fun q hq => (Nat.lt_succ_iff_lt_or_eq.1 hq).elim (hj2 q) (fun e => e ▸ (by simp only [startsT, Bool.or_eq_true, decide_eq_true_eq]; omega))⟩ (by omega) (le_to ⟨rfl, rfl, rfl, trivial⟩ ⟨rfl, rfl, trivial⟩ rfl rfl rfl rfl)
              · refine ar_nil ?_
                refine then_n ?_
                refine wp_condF rfl ?_
                refine wp_exit ?_
                refine then_x (loop_x (inblk_e ?_))
                refine then_n ?_
                refine wp_seq ?_
                refine wp_seq ?_
                have hip : pairs startsT a.l t.ini = true := pairs_of (by omega) (fun q hq => hj2 q (by omega))
                refine wp_reg (by kernel_rfl) ?_
                refine ar_assign rfl rfl rfl rfl ?_
                refine ar_nil ?_
                refine then_n ?_
                refine wp_block ?_
                refine wp_loop (α := Nat) (fun i => mk [(2, .ptr 2 0), (3, .ptr 3 0), (7, .v (.int .i64 (i : Nat)))] [(2, .box ((encA a).map .v)), (3, .box ((encT t).map .v))] 0) (fun i => i ≤ t.ins.length ∧ ∀ q, q < i → oddT a (t.ins.getD q default) = false) (fun i => t.ins.length - i) 0 ⟨Nat.zero_le _, fun q h => absurd h (Nat.not_lt_zero q)⟩ (le_to ⟨rfl, rfl, rfl, trivial⟩ ⟨rfl, rfl, trivial⟩ rfl rfl rfl rfl) ?_
                rintro i ⟨hi1, hi2⟩
                refine wp_seq ?_
                refine wp_seq ?_
                refine wp_reg (by kernel_rfl) ?_
                refine ar_move rfl rfl rfl rfl ?_
                refine ar_fa tab_ok rfl rfl rfl tb101 rfl rfl rfl rfl rfl ?_
                refine ar_ld tab_ok rfl rfl rfl tb99 rfl rfl rfl rfl rfl ?_
                refine ar_len tab_ok rfl rfl tb99 rfl len_map rfl rfl ?_
                refine ar_lss_s rfl rfl rfl rfl rfl (fun h81 => ?_) (fun h81 => ?_)
                · refine ar_nil ?_
                  refine then_n ?_
                  refine wp_condT rfl ?_
                  refine wp_skip ?_
                  refine then_n ?_
                  refine wp_seq ?_
                  refine wp_block ?_
                  refine wp_seq ?_
                  refine wp_reg (by kernel_rfl) ?_
                  refine ar_fa tab_ok rfl rfl rfl tb101 rfl rfl rfl rfl rfl ?_
                  refine ar_ld tab_ok rfl rfl rfl tb99 rfl rfl rfl rfl rfl ?_
                  refine ar_move rfl rfl rfl rfl ?_
                  refine ar_ia tab_ok rfl rfl rfl tb99 rfl tb70 (by omega) (map_get (n := i) (by omega)) rfl rfl rfl ?_
                  refine ar_ld_ref tab_ok rfl rfl tb70 rfl rfl rfl rfl ?_
                  refine ar_call [] (pc_46 (t.ins.getD i default) (hl3 _ (getD_mem (by omega)))) rfl rfl rfl rfl rfl rfl trivial (.inl rfl) rfl rfl rfl ?_
                  refine ar_split (fun h89 => ?_) (fun h89 => ?_)
                  · refine ar_assign rfl rfl rfl rfl ?_
                    refine ar_nil ?_
                    refine then_n ?_
                    refine wp_seq ?_
                    refine wp_draw (L := [([], []), ([], []), ([], []), ([3], []), ([3], []), ([], []), ([], []), ([], []), ([], []), ([2], []), ([2], []), ([], []), ([], [])]) (by kernel_rfl) mixed (by kernel_rfl) ?_
                    refine ar_move rfl rfl rfl rfl ?_
                    refine ar_not rfl rfl rfl rfl rfl ?_
                    refine ar_move rfl rfl rfl rfl ?_
                    refine ar_fa tab_ok rfl rfl rfl tb101 rfl rfl rfl rfl rfl ?_
                    refine ar_ld tab_ok rfl rfl rfl tb99 rfl rfl rfl rfl rfl ?_
                    refine ar_move rfl rfl rfl rfl ?_
                    refine ar_ia tab_ok rfl rfl rfl tb99 rfl tb70 (by omega) (map_get (n := i) (by omega)) rfl rfl rfl ?_
                    refine ar_ld_ref tab_ok rfl rfl tb70 rfl rfl rfl rfl ?_
                    refine ar_len tab_ok rfl rfl tb70 rfl len_map rfl rfl ?_
                    refine ar_fa tab_ok rfl rfl rfl tb27 rfl rfl rfl rfl rfl ?_
                    refine ar_ld tab_ok rfl rfl rfl tb3 rfl rfl rfl rfl rfl ?_
                    refine ar_neq_s rfl rfl rfl rfl rfl (fun h101 => ?_) (fun h101 => ?_)
                    · refine ar_pickF rfl rfl rfl rfl rfl ?_
                      refine ar_nil ?_
                      refine then_n ?_
                      refine wp_condT rfl ?_
                      refine wp_seq ?_
                      refine wp_reg (by kernel_rfl) ?_
                      refine ar_assign rfl rfl rfl rfl ?_
                      refine ar_nil ?_
                      refine then_n ?_
                      refine wp_ret ?_
                      refine inblk_r (then_r (loop_r (inblk_r (then_r (ret_post rfl rfl ?_)))))
                      first | (rw [rightT_main (by omega) (by omega) (by omega) (by omega) h11, pairs_at (j := j) (by omega) (by simp only [startsT, Bool.or_eq_false_iff, decide_eq_false_iff_not]; omega)]; rfl) | (rw [rightT_main (by omega) (by omega) (by omega) (by omega) h11, hip, any_of (j := i) (by omega) (by simp only [oddT, Bool.or_eq_true, decide_eq_true_eq, Bool.not_eq_true']; first | exact .inl h101 | exact .inr h89)]; rfl) | (rw [rightT_main (by omega) (by omega) (by omega) (by omega) h11, hip, any_no (fun q hq => hi2 q (by omega))]; rfl) | (rw [rightT_no (fun h => Bool.false_ne_true (h11.symm.trans h.it))]; done) | (rw [rightT_no (fun h => by have q1 := h.b0; have q2 := h.b1; have q3 := h.n0; have q4 := h.n1; have q5 := h.il; omega)]; done)
                    · refine ar_pickF rfl rfl rfl rfl rfl ?_
                      refine ar_nil ?_
                      refine then_n ?_
                      refine wp_condF rfl ?_
                      refine wp_skip ?_
                      refine inblk_n ?_
                      refine then_n ?_
                      refine wp_reg (by kernel_rfl) ?_
                      refine ar_move rfl rfl rfl rfl ?_
                      refine ar_addi rfl rfl rfl rfl (by omega) (by omega) rfl rfl ?_
                      refine ar_assign rfl rfl rfl rfl ?_
                      refine ar_nil ?_
                      exact loop_n (i + 1) ⟨by omega, fun q hq => (Nat.lt_succ_iff_lt_or_eq.1 hq).elim (hi2 q) (fun e => e ▸ (by simp only [oddT, Bool.or_eq_false_iff, decide_eq_false_iff_not, Bool.not_eq_false']; exact ⟨h101, h89⟩))⟩ (by omega) (le_to ⟨rfl, rfl, rfl, trivial⟩ ⟨rfl, rfl, trivial⟩ rfl rfl rfl rfl)
                  · refine ar_assign rfl rfl rfl rfl ?_
                    refine ar_nil ?_
                    refine then_n ?_
                    refine wp_seq ?_
                    refine wp_draw (L := [([], []), ([], []), ([], []), ([3], []), ([3], []), ([], []), ([], []), ([], []), ([], []), ([2], []), ([2], []), ([], []), ([], [])]) (by kernel_rfl) mixed (by kernel_rfl) ?_
                    refine ar_move rfl rfl rfl rfl ?_
                    refine ar_not rfl rfl rfl rfl rfl ?_
                    refine ar_move rfl rfl rfl rfl ?_
                    refine ar_skip rfl rfl ?_
                    refine ar_skip rfl rfl ?_
                    refine ar_skip rfl rfl ?_
                    refine ar_skip rfl rfl ?_
                    refine ar_skip rfl rfl ?_
                    refine ar_skip rfl rfl ?_
                    refine ar_skip rfl rfl ?_
                    refine ar_skip rfl rfl ?_
                    refine ar_skip rfl rfl ?_
                    refine ar_pickT rfl rfl rfl rfl rfl ?_
                    refine ar_nil ?_
                    refine then_n ?_
                    refine wp_condT rfl ?_
                    refine wp_seq ?_
                    refine wp_reg (by kernel_rfl) ?_
                    refine ar_assign rfl rfl rfl rfl ?_
                    refine ar_nil ?_
                    refine then_n ?_
                    refine wp_ret ?_
                    refine inblk_r (then_r (loop_r (inblk_r (then_r (ret_post rfl rfl ?_)))))
                    first | (rw [rightT_main (by omega) (by omega) (by omega) (by omega) h11, pairs_at (j := j) (by omega) (by simp only [startsT, Bool.or_eq_false_iff, decide_eq_false_iff_not]; omega)]; rfl) | (rw [rightT_main (by omega) (by omega) (by omega) (by omega) h11, hip, any_of (j := i) (by omega) (by simp only [oddT, Bool.or_eq_true, decide_eq_true_eq, Bool.not_eq_true']; first | exact .inl h101 | exact .inr h89)]; rfl) | (rw [rightT_main (by omega) (by omega) (by omega) (by omega) h11, hip, any_no (fun q hq => hi2 q (by omega))]; rfl) | (rw [rightT_no (fun h => Bool.false_ne_true (h11.symm.trans h.it))]; done) | (rw [rightT_no (fun h => by have q1 := h.b0; have q2 := h.b1; have q3 := h.n0; have q4 := h.n1; have q5 := h.il; omega)]; done)
                · refine ar_nil ?_
                  refine then_n ?_
                  refine wp_condF rfl ?_
                  refine wp_exit ?_
                  refine then_x (loop_x (inblk_e ?_))
                  refine then_n ?_
                  refine wp_seq ?_
                  refine wp_reg (by kernel_rfl) ?_
                  refine ar_assign rfl rfl rfl rfl ?_
                  refine ar_nil ?_
                  refine then_n ?_
                  refine wp_ret ?_
                  refine ret_post rfl rfl ?_
                  first | (rw [rightT_main (by omega) (by omega) (by omega) (by omega) h11, pairs_at (j := j) (by omega) (by simp only [startsT, Bool.or_eq_false_iff, decide_eq_false_iff_not]; omega)]; rfl) | (rw [rightT_main (by omega) (by omega) (by omega) (by omega) h11, hip, any_of (j := i) (by omega) (by simp only [oddT, Bool.or_eq_true, decide_eq_true_eq, Bool.not_eq_true']; first | exact .inl h101 | exact .inr h89)]; rfl) | (rw [rightT_main (by omega) (by omega) (by omega) (by omega) h11, hip, any_no (fun q hq => hi2 q (by omega))]; rfl) | (rw [rightT_no (fun h => Bool.false_ne_true (h11.symm.trans h.it))]; done) | (rw [rightT_no (fun h => by have q1 := h.b0; have q2 := h.b1; have q3 := h.n0; have q4 := h.n1; have q5 := h.il; omega)]; done)
  · refine ar_assign rfl rfl rfl rfl ?_
    refine ar_nil ?_
    refine then_n ?_
    refine wp_seq ?_
    refine wp_seq ?_
    refine wp_reg (by kernel_rfl) ?_
    refine ar_move rfl rfl rfl rfl ?_
    refine ar_not rfl rfl rfl rfl rfl ?_
    refine ar_move rfl rfl rfl rfl ?_
    refine ar_skip rfl rfl ?_
    refine ar_skip rfl rfl ?_
    refine ar_skip rfl rfl ?_
    refine ar_pickT rfl rfl rfl rfl rfl ?_
    refine ar_move rfl rfl rfl rfl ?_
    refine ar_skip rfl rfl ?_
    refine ar_skip rfl rfl ?_
    refine ar_skip rfl rfl ?_
    refine ar_skip rfl rfl ?_
    refine ar_skip rfl rfl ?_
    refine ar_skip rfl rfl ?_
    refine ar_pickT rfl rfl rfl rfl rfl ?_
    refine ar_move rfl rfl rfl rfl ?_
    refine ar_skip rfl rfl ?_
    refine ar_skip rfl rfl ?_
    refine ar_skip rfl rfl ?_
    refine ar_skip rfl rfl ?_
    refine ar_pickT rfl rfl rfl rfl rfl ?_
    refine ar_move rfl rfl rfl rfl ?_
    refine ar_skip rfl rfl ?_
    refine ar_skip rfl rfl ?_
    refine ar_skip rfl rfl ?_
    refine ar_skip rfl rfl ?_
    refine ar_pickT rfl rfl rfl rfl rfl ?_
    refine ar_move rfl rfl rfl rfl ?_
    refine ar_skip rfl rfl ?_
    refine ar_skip rfl rfl ?_
    refine ar_skip rfl rfl ?_
    refine ar_skip rfl rfl ?_
    refine ar_skip rfl rfl ?_
    refine ar_skip rfl rfl ?_
    refine ar_skip rfl rfl ?_
    refine ar_pickT rfl rfl rfl rfl rfl ?_
    refine ar_nil ?_
    refine then_n ?_
    refine wp_condT rfl ?_
    refine wp_seq ?_
    refine wp_reg (by kernel_rfl) ?_
    refine ar_assign rfl rfl rfl rfl ?_
    refine ar_nil ?_
    refine then_n ?_
    refine wp_ret ?_
    refine then_r (ret_post rfl rfl ?_)
    first | (rw [rightT_main (by omega) (by omega) (by omega) (by omega) h11, pairs_at (j := j) (by omega) (by simp only [startsT, Bool.or_eq_false_iff, decide_eq_false_iff_not]; omega)]; rfl) | (rw [rightT_main (by omega) (by omega) (by omega) (by omega) h11, hip, any_of (j := i) (by omega) (by simp only [oddT, Bool.or_eq_true, decide_eq_true_eq, Bool.not_eq_true']; first | exact .inl h101 | exact .inr h89)]; rfl) | (rw [rightT_main (by omega) (by omega) (by omega) (by omega) h11, hip, any_no (fun q hq => hi2 q (by omega))]; rfl) | (rw [rightT_no (fun h => Bool.false_ne_true (h11.symm.trans h.it))]; done) | (rw [rightT_no (fun h => by have q1 := h.b0; have q2 := h.b1; have q3 := h.n0; have q4 := h.n1; have q5 := h.il; omega)]; done)
end Go.Vd
namespace Go.Vd
open Go.Proofs
theorem rows_next {fs : List FR} {f : FR} {ls : List (List Int)} (h1 : fs.map (·.l) = ls.take fs.length) (h2 : fs.length < ls.length) (hf : f.l = ls.getD fs.length default) : (fs ++ [f]).map (·.l) = ls.take (fs ++ [f]).length := by
  rw [List.map_append, h1, List.length_append]
  show _ ++ [f.l] = ls.take (fs.length + 1)
  rw [hf, List.take_add_one, List.getElem?_eq_getElem h2, List.getD_eq_getElem?_getD, List.getElem?_eq_getElem h2]; rfl
theorem own_110 (t : Trace) (hz : SzT t) : POwn Try.prog 110 [trV t] t.bad t.ini t.ins := by
  have hil := hz.il
  have hnl := hz.nl
  refine pown_of_wp tab_ok (f := 110) (fn := Try.f110) (N := 28) (rs := [.cell 2 101]) (by kernel_rfl) rfl (by kernel_rfl) rfl rfl rfl [(0, .v (trV t))] ⟨rfl, trivial⟩ rfl ?_
  intro B
  refine wp_seq ?_
  refine wp_reg (by kernel_rfl) ?_
  refine ar_box 1 [] rfl rfl rfl ⟨rfl, trivial⟩ rfl rfl rfl ?_
  refine ar_alloc (id := 2) tab_ok rfl rfl tb101 rfl rfl rfl rfl ?_
  refine ar_nil ?_
  refine then_n ?_
  refine wp_seq ?_
  refine wp_draw (L := [([1], []), ([1], []), ([1], []), ([1], []), ([10], [10]), ([10], []), ([3], [3]), ([3, 10], [3])]) (by kernel_rfl) mixed (by kernel_rfl) ?_
  refine ar_fa tab_ok rfl rfl rfl tb101 rfl rfl rfl rfl rfl ?_
  refine ar_ld tab_ok rfl rfl rfl tb3 rfl rfl rfl rfl rfl ?_
  refine ar_fa tab_ok rfl rfl rfl tb101 rfl rfl rfl rfl rfl ?_
  refine ar_ld tab_ok rfl rfl rfl tb70 rfl rfl rfl rfl rfl ?_
  refine ar_callrow 10 (pr_121 t.ini (by omega)) rfl rfl rfl rfl rfl rfl rfl rfl rfl rfl ?_
  refine ar_build [(10, _)] tab_ok rfl tb101 rfl rfl ⟨rfl, trivial⟩ rfl rfl rfl rfl rfl rfl ?_
  refine ar_alloc (id := 3) tab_ok rfl rfl tb101 rfl rfl rfl rfl ?_
  refine ar_st [(10, _)] tab_ok rfl tb101 rfl rfl rfl ⟨rfl, trivial⟩ rfl rfl rfl rfl rfl rfl rfl rfl ?_
  refine ar_nil ?_
  refine then_n ?_
  refine wp_le (le_nilb (bid := 3) (id := 950) (e := 70) (sz := 1) (j := 2) rfl rfl rfl (by decide)) ?_
  refine wp_le (le_to (tl := [(1, .ptr 1 0), (2, .ptr 2 0), (3, .ptr 3 0)]) (hl := [(1, .box ((encT t).map .v)), (2, .box [.v (.int .i64 0), .nils, .nils]), (3, .box [.v (.int .i64 t.bad), .own 10, .own 950]), (10, .row 72 1 (t.ini.map encU)), (950, .row 70 1 [])]) (m := 0) ⟨rfl, rfl, rfl, trivial⟩ ⟨rfl, rfl, rfl, rfl, rfl, trivial⟩ rfl rfl rfl rfl) ?_
  refine wp_pinF (tl := [(1, .ptr 1 0), (2, .ptr 2 0), (3, .ptr 3 0)]) (C := [(1, .box ((encT t).map .v)), (2, .box [.v (.int .i64 0), .nils, .nils]), (3, .box [.v (.int .i64 t.bad), .own 10, .own 950]), (10, .row 72 1 (t.ini.map encU)), (950, .row 70 1 [])]) (F := []) (d := 0) (k := 0) (id := 10) (q := 3) (e := 72) (l := t.ini)
    (BQ := fun v => .box [.v (.int .i64 t.bad), .v v, .own 950]) [(1, .box ((encT t).map .v)), (2, .box [.v (.int .i64 0), .nils, .nils]), (950, .row 70 1 [])] rfl rfl rfl (by decide) (fix_box (i := 1) (cs := [.v (.int .i64 t.bad), .own 10, .own 950]) rfl)
    (fun p hp => by
      simp only [List.mem_cons, List.not_mem_nil, or_false] at hp
      rcases hp with rfl | rfl | rfl <;> exact ⟨Nat.ne_of_beq_eq_false rfl, Nat.ne_of_beq_eq_false rfl, rfl⟩) rfl rfl (fun _ => rfl) (fun p hp => by
      simp only [List.mem_cons, List.not_mem_nil, or_false] at hp
      rcases hp with rfl | rfl | rfl <;> rfl) (fun f0 hf0 => ?_)
  refine wp_seq ?_
  refine wp_seq ?_
  refine wp_reg (by kernel_rfl) ?_
  refine ar_fa tab_ok rfl rfl rfl tb101 rfl rfl rfl rfl rfl ?_
  refine ar_ld tab_ok rfl rfl rfl tb99 rfl rfl rfl rfl rfl ?_
  refine ar_len tab_ok rfl rfl tb99 rfl len_map rfl rfl ?_
  refine ar_move rfl rfl rfl rfl ?_
  refine ar_nil ?_
  refine then_n ?_
  refine wp_block ?_
  refine wp_loop (α := List FR) (fun fs => mk [(2, .ptr 2 0), (3, .ptr 3 0), (13, .v (slUU t.ins)), (14, .v (.int .i64 (t.ins.length : Nat))), (15, .v (.int .i64 (fs.length : Nat)))]
      ([(2, .box [.v (.int .i64 0), .nils, .nils]), (3, .box [.v (.int .i64 t.bad), .v (hdF f0), .own 950]), (950, .row 70 1 (fs.map fun f => [hdF f]))] ++ fam 1000 (f0 :: fs)) ⟨0, 0, pinF 1000 (f0 :: fs)⟩)
    (fun fs => fs.map (·.l) = t.ins.take fs.length ∧ fs.length ≤ t.ins.length) (fun fs => t.ins.length - fs.length) [] ⟨rfl, Nat.zero_le _⟩
    (le_fam ⟨rfl, rfl, rfl, rfl, rfl, trivial⟩ ⟨rfl, rfl, rfl, trivial⟩ (famAt_app (C := [(3, _), (1, _), (2, _), (950, _)]) (fs := [f0]) rfl) rfl rfl rfl rfl) ?_
  rintro fs ⟨hinv, hle⟩
  refine wp_seq ?_
  refine wp_reg (by kernel_rfl) ?_
  refine ar_lss_s rfl rfl rfl rfl rfl (fun h16 => ?_) (fun h16 => ?_)
  · refine ar_nil ?_
    refine then_n ?_
    refine wp_seq ?_
    refine wp_condT rfl ?_
    refine wp_skip ?_
    refine then_n ?_
    refine wp_seq ?_
    refine wp_block ?_
    refine wp_seq ?_
    refine wp_reg (by kernel_rfl) ?_
    refine ar_ia tab_ok rfl rfl rfl tb99 rfl tb70 (by omega) (map_get (n := fs.length) (by omega)) rfl rfl rfl ?_
    refine ar_ld_ref tab_ok rfl rfl tb70 rfl rfl rfl rfl ?_
    refine ar_assign rfl rfl rfl rfl ?_
    refine ar_nil ?_
    refine then_n ?_
    have hrl := hz.rl _ (getD_mem (xs := t.ins) (n := fs.length) (by omega))
    refine wp_draw (L := [([3], []), ([3], []), ([], []), ([22], [22]), ([23, 22], [23]), ([24, 950, 23, 22], [950, 24]), ([3], []), ([3, 24], [3])]) (by kernel_rfl) mixed (by kernel_rfl) ?_
    refine ar_fa tab_ok rfl rfl rfl tb101 rfl rfl rfl rfl rfl ?_
    refine ar_ld tab_ok rfl rfl rfl tb99 rfl rfl rfl rfl rfl ?_
    refine ar_move rfl rfl rfl rfl ?_
    refine ar_callrow 22 (pr_121 (t.ins.getD fs.length default) (by omega)) rfl rfl rfl rfl rfl rfl (res_fam (C := [(2, _), (3, _), (950, _)]) rfl rfl) rfl rfl rfl ?_
    refine ar_bsh 23 tab_ok rfl tb99 rfl tb70 rfl rfl rfl rfl (res_cons rfl (res_fam (tl := []) (C := [(2, _), (3, _), (950, _)]) rfl rfl)) rfl rfl rfl ?_
    refine ar_apph 24 tab_ok rfl tb99 rfl tb99 rfl tb70 rfl rfl rfl rfl rfl rfl (res_cons (tl' := []) rfl (res_cons rfl (res_fam (tl := []) (C := [(2, _), (3, _), (950, _)]) rfl rfl))) (by constructor <;> simp [maxLen] <;> omega) rfl rfl rfl ?_
    refine ar_fa tab_ok rfl rfl rfl tb101 rfl rfl rfl rfl rfl ?_
    refine ar_st [(24, _)] tab_ok rfl tb99 rfl rfl rfl ⟨rfl, trivial⟩ rfl rfl rfl rfl rfl rfl rfl rfl ?_
    refine ar_nil ?_
    refine inblk_n ?_
    refine then_n ?_
    refine wp_le (le_fam (tl := [(2, .ptr 2 0), (3, .ptr 3 0), (13, .v (slUU t.ins)), (14, .v (.int .i64 (t.ins.length : Nat))), (15, .v (.int .i64 (fs.length : Nat)))])
      (C := [(2, .box [.v (.int .i64 0), .nils, .nils]), (3, .box [.v (.int .i64 t.bad), .v (hdF f0), .own 24]), (24, .rowh 70 (fs.map fun f => [hdF f]) 22), (22, .row 72 1 ((t.ins.getD fs.length default).map encU))]) (fs := f0 :: fs) (m := ⟨0, 0, pinF 1000 (f0 :: fs)⟩)
      ⟨rfl, rfl, rfl, rfl, rfl, trivial⟩ ⟨rfl, rfl, rfl, rfl, trivial⟩ (FamAt.cons (tl := []) (FamAt.cons (tl := []) (FamAt.cons (tl := []) (FamAt.cons (tl := []) (FamAt.cons (tl := []) (famAt_app (C := [(2, _), (3, _), (950, _)]) rfl) rfl) rfl) rfl) rfl) rfl) rfl rfl rfl rfl) ?_
    refine wp_pinF (id := 22) (q := 24) (e := 72) (l := t.ins.getD fs.length default) (BQ := fun v => .row 70 1 ((fs.map fun f => [hdF f]) ++ [[v]]))
      [(2, .box [.v (.int .i64 0), .nils, .nils]), (3, .box [.v (.int .i64 t.bad), .v (hdF f0), .own 24])] rfl rfl rfl (by decide) fix_rowh
      (fun p hp => by
        simp only [List.mem_cons, List.not_mem_nil, or_false] at hp
        rcases hp with rfl | rfl <;> exact ⟨Nat.ne_of_beq_eq_false rfl, Nat.ne_of_beq_eq_false rfl, rfl⟩) rfl rfl (fun _ => rfl) (fun p hp => by
        simp only [List.mem_cons, List.not_mem_nil, or_false] at hp
        rcases hp with rfl | rfl | rfl | rfl | rfl <;> rfl) (fun f hf => ?_)
    refine wp_reg (by kernel_rfl) ?_
    refine ar_addi rfl rfl rfl rfl (by omega) (by omega) rfl rfl ?_
    refine ar_move rfl rfl rfl rfl ?_
    refine ar_nil ?_
    refine loop_n (fs ++ [f]) ⟨rows_next hinv (by omega) hf, by simp; omega⟩ (by simp; omega) (le_renF [(950, 24)] ⟨rfl, rfl, rfl, rfl, (int_eq rfl (by simp)), trivial⟩ ⟨rfl, rfl, (row_eq rfl (by simp)), trivial⟩ (famAt_app (C := [(24, _), (2, _), (3, _)]) (fs := f0 :: fs ++ [f]) rfl) rfl rfl rfl rfl rfl rfl rfl)
  · refine ar_nil ?_
    refine then_n ?_
    refine wp_seq ?_
    refine wp_condF rfl ?_
    refine wp_exit ?_
    refine then_x (loop_x (inblk_e ?_))
    refine then_n ?_
    have hi : fs.length = t.ins.length := by omega
    refine wp_seq ?_
    refine wp_reg (by kernel_rfl) ?_
    refine ar_lda tab_ok rfl rfl rfl tb101 rfl rfl rfl rfl rfl rfl ?_
    refine ar_st [(950, _)] tab_ok rfl tb101 rfl rfl rfl ⟨rfl, trivial⟩ rfl (by show ((true && ((hdF f0).one && (true && true))) : Bool) = true; rw [show (hdF f0).one = true from hdV_one _ _]; rfl) rfl rfl rfl rfl rfl rfl ?_
    refine ar_nil ?_
    refine then_n ?_
    refine wp_ret ?_
    exact ⟨⟨_, f0, fs, rfl, rfl, hf0, by rw [hinv, hi, List.take_length], fun i f h1 h2 => FamAt.cons (tl := []) (famAt_app (tl := []) (C := [(2, _), (3, _), (950, _)]) (d := 0) (q := 0) rfl) rfl i f h1 h2⟩, rfl⟩
end Go.Vd
namespace Go.Vd
open Go.Proofs
/-- A latch's place is one that may be left out. -/
def freeL (x : Latch) : Bool := decide (x.reset > 1)
def initP (g : Nat) : Nat → List Latch → List (Nat × Nat)
  | _, [] => []
  | i, x :: xs => if freeL x = true then (g, i) :: initP g (i + 1) xs else initP g (i + 1) xs
def rowP (g : Nat) (n : Nat) : List (Nat × Nat) := (List.range n).map fun o => (g, o)
def rowsP (fs : List FR) : List (Nat × Nat) := fs.flatMap fun f => rowP f.g f.l.length
def placesF (a : Aig) (f0 : FR) (fs : List FR) : List (Nat × Nat) := initP f0.g 0 a.l ++ rowsP fs
def encP (p : Nat × Nat) : List V := [.adr p.1 p.2]
def cntL (ls : List Latch) (j : Nat) : Nat := ((ls.take j).filter freeL).length
def cntR (fs : List FR) (r : Nat) : Nat := (rowsP (fs.take r)).length
abbrev trFC (bad : Int) (f0 : FR) (fs : List FR) : List V := [.int .i64 bad, hdF f0, .sl (fs.map fun f => [hdF f])]
theorem initP_len (g : Nat) : ∀ (ls : List Latch) (i : Nat), (initP g i ls).length = (ls.filter freeL).length
  | [], _ => rfl
  | x :: xs, i => by
    unfold initP
    by_cases h : freeL x = true
    · rw [if_pos h, List.filter_cons_of_pos h, List.length_cons, List.length_cons, initP_len g xs]
    · rw [if_neg h, List.filter_cons_of_neg h, initP_len g xs]
theorem initP_get (g : Nat) : ∀ (ls : List Latch) (i j : Nat) (x : Latch), ls[j]? = some x → freeL x = true → (initP g i ls)[cntL ls j]? = some (g, i + j)
  | [], _, _, _, h, _ => by simp at h
  | y :: ys, i, 0, x, h, hx => by
    simp at h; subst h
    unfold initP; rw [if_pos hx]; rfl
  | y :: ys, i, j + 1, x, h, hx => by
    have ih := initP_get g ys (i + 1) j x (by simpa using h) hx
    have hc : cntL (y :: ys) (j + 1) = (if freeL y = true then 1 else 0) + cntL ys j := by
      unfold cntL
      rw [List.take_succ_cons]
      by_cases hy : freeL y = true
      · rw [List.filter_cons_of_pos hy, if_pos hy, List.length_cons]; omega
      · rw [List.filter_cons_of_neg hy, if_neg hy]; omega
    unfold initP
    rw [hc]
    by_cases hy : freeL y = true
    · rw [if_pos hy, if_pos hy, show 1 + cntL ys j = cntL ys j + 1 by omega, List.getElem?_cons_succ, ih]; congr 2; omega
    · rw [if_neg hy, if_neg hy, Nat.zero_add, ih]; congr 2; omega
theorem cntL_snoc {ls : List Latch} {j : Nat} (h : j < ls.length) : cntL ls (j + 1) = cntL ls j + if freeL (ls.getD j default) = true then 1 else 0 := by
  unfold cntL
  rw [List.take_add_one, List.getElem?_eq_getElem h, List.filter_append, List.length_append, List.getD_eq_getElem?_getD, List.getElem?_eq_getElem h]
  congr 1
  simp only [Option.toList_some, Option.getD_some]
  by_cases hx : freeL ls[j] = true
  · rw [if_pos hx, List.filter_cons_of_pos hx]; rfl
  · rw [if_neg hx, List.filter_cons_of_neg hx]; rfl
theorem rowsP_get {fs : List FR} {r q : Nat} {f : FR} (hf : fs[r]? = some f) (hq : q < f.l.length) : (rowsP fs)[cntR fs r + q]? = some (f.g, q) := by
  have hlt := (List.getElem?_eq_some_iff.1 hf).1
  have he : fs = fs.take r ++ (f :: fs.drop (r + 1)) := by
    have := (List.take_append_drop r fs).symm
    rw [List.drop_eq_getElem_cons hlt] at this
    have h2 : fs[r] = f := (List.getElem?_eq_some_iff.1 hf).2
    rw [h2] at this; exact this
  have : rowsP fs = rowsP (fs.take r) ++ (rowP f.g f.l.length ++ rowsP (fs.drop (r + 1))) := by
    conv => lhs; rw [he]
    unfold rowsP; rw [List.flatMap_append, List.flatMap_cons]
  rw [this, List.getElem?_append_right (by unfold cntR; omega)]
  have e : cntR fs r + q - (rowsP (fs.take r)).length = q := by unfold cntR; omega
  rw [e, List.getElem?_append_left (by simp [rowP]; exact hq)]
  simp [rowP, hq]
theorem cntR_snoc {fs : List FR} {r : Nat} {f : FR} (hf : fs[r]? = some f) : cntR fs (r + 1) = cntR fs r + f.l.length := by
  unfold cntR
  rw [List.take_add_one, hf]
  unfold rowsP
  rw [List.flatMap_append, List.length_append]
  congr 1
  simp [rowP]
theorem place_init {a : Aig} {f0 : FR} {fs : List FR} {j : Nat} (h : j < a.l.length) (hx : freeL (a.l.getD j default) = true) : ((placesF a f0 fs).map encP)[cntL a.l j]? = some (encP (f0.g, j)) := by
  have hg := initP_get f0.g a.l 0 j (a.l.getD j default) (by rw [List.getD_eq_getElem?_getD, List.getElem?_eq_getElem h]; rfl) hx
  rw [List.getElem?_map]
  unfold placesF
  rw [List.getElem?_append_left (List.getElem?_eq_some_iff.1 hg).1, hg, Nat.zero_add]; rfl
theorem place_row {a : Aig} {f0 : FR} {fs : List FR} {r q : Nat} (h : r < fs.length) (hq : q < (fs.getD r ⟨0, [], 0⟩).l.length) : ((placesF a f0 fs).map encP)[cntL a.l a.l.length + cntR fs r + q]? = some (encP ((fs.getD r ⟨0, [], 0⟩).g, q)) := by
  have hf : fs[r]? = some (fs.getD r ⟨0, [], 0⟩) := by rw [List.getD_eq_getElem?_getD, List.getElem?_eq_getElem h]; rfl
  have hg := rowsP_get hf hq
  have hl : (initP f0.g 0 a.l).length = cntL a.l a.l.length := by rw [initP_len]; unfold cntL; rw [List.take_length]
  rw [List.getElem?_map]
  unfold placesF
  rw [List.getElem?_append_right (by omega), hl, show cntL a.l a.l.length + cntR fs r + q - cntL a.l a.l.length = cntR fs r + q by omega, hg]; rfl
theorem places_len {a : Aig} {f0 : FR} {fs : List FR} : ((placesF a f0 fs).map encP).length = cntL a.l a.l.length + cntR fs fs.length := by
  rw [List.length_map]
  unfold placesF
  rw [List.length_append, initP_len]
  unfold cntL cntR
  rw [List.take_length, List.take_length]
theorem mm_k {k k' : Nat} (h : k = k') : (⟨0, k, []⟩ : MM) = ⟨0, k', []⟩ := by rw [h]
theorem fr_map {fs : List FR} {r : Nat} (h : r < fs.length) : (fs.map fun f => [hdF f])[r]? = some [hdF (fs.getD r ⟨0, [], 0⟩)] := by
  rw [List.getElem?_map, List.getD_eq_getElem?_getD, List.getElem?_eq_getElem h]; rfl
theorem fr_get {fs : List FR} {r : Nat} (h : r < fs.length) : fs[r]? = some (fs.getD r ⟨0, [], 0⟩) := by
  rw [List.getD_eq_getElem?_getD, List.getElem?_eq_getElem h]; rfl
theorem fr_mem {fs : List FR} {r : Nat} (h : r < fs.length) : fs.getD r ⟨0, [], 0⟩ ∈ fs := List.mem_of_getElem? (fr_get h)
theorem cntL_T {ls : List Latch} {j : Nat} (h : j < ls.length) (hx : (ls.getD j default).reset > 1) : cntL ls (j + 1) = cntL ls j + 1 := by
  rw [cntL_snoc h, if_pos (show freeL (ls.getD j default) = true from decide_eq_true hx)]
theorem cntL_F {ls : List Latch} {j : Nat} (h : j < ls.length) (hx : ¬ (ls.getD j default).reset > 1) : cntL ls (j + 1) = cntL ls j := by
  rw [cntL_snoc h, if_neg (show ¬ freeL (ls.getD j default) = true from fun e => hx (of_decide_eq_true e))]; rfl
theorem it_137 (a : Aig) (bad : Int) (f0 : FR) (fs : List FR) (hb : Bd a) (h0 : f0.l.length = a.l.length) (hn : fs.length ≤ 1000000) (hr : ∀ f ∈ fs, f.l.length ≤ 1000000) : IterC Try.prog 137 [.ref (encA a), .ref (trFC bad f0 fs)] ((placesF a f0 fs).map encP) := by
  refine it_of (f := 137) (fn := Try.f137) (N := 50) (by kernel_rfl) rfl (by kernel_rfl) rfl rfl (fun l => [(0, .v (.fn (.yield l) [] [])), (1, .v (.ref (encA a))), (2, .v (.ref (trFC bad f0 fs)))]) (fun _ => ⟨rfl, rfl, rfl, trivial⟩) rfl (fun _ => rfl) ?_
  intro 𝔅 l hy
  have hl1 := hb.l1
  refine wp_seq ?_
  refine wp_seq ?_
  refine wp_reg (by kernel_rfl) ?_
  refine ar_fa_ref tab_ok rfl rfl tb27 rfl rfl rfl rfl ?_
  refine ar_ld_ref tab_ok rfl rfl tb22 rfl rfl rfl rfl ?_
  refine ar_len tab_ok rfl rfl tb22 rfl len_map rfl rfl ?_
  refine ar_move rfl rfl rfl rfl ?_
  refine ar_nil ?_
  refine then_n ?_
  refine wp_block ?_
  refine wp_loop (α := Nat) (fun j => mk [(0, .v (.fn (.yield l) [] [])), (2, .v (.ref (trFC bad f0 fs))), (10, .v (.sl (a.l.map encL))), (11, .v (.int .i64 (a.l.length : Nat))), (12, .v (.int .i64 (j : Nat)))] [] ⟨0, cntL a.l j + 1, []⟩) (fun j => j ≤ a.l.length) (fun j => a.l.length - j) 0 (Nat.zero_le _) (le_to ⟨rfl, rfl, rfl, rfl, rfl, trivial⟩ trivial rfl rfl rfl rfl) ?_
  rintro j hinv
  refine wp_seq ?_
  refine wp_reg (by kernel_rfl) ?_
  refine ar_lss_s rfl rfl rfl rfl rfl (fun h13 => ?_) (fun h13 => ?_)
  · refine ar_nil ?_
    refine then_n ?_
    refine wp_seq ?_
    refine wp_condT rfl ?_
    refine wp_skip ?_
    refine then_n ?_
    refine wp_seq ?_
    refine wp_block ?_
    refine wp_seq ?_
    refine wp_reg (by kernel_rfl) ?_
    refine ar_move rfl rfl rfl rfl ?_
    refine ar_ia tab_ok rfl rfl rfl tb22 rfl tb63 (by omega) (map_get (n := j) (by omega)) rfl rfl rfl ?_
    refine ar_ld_refa tab_ok rfl rfl tb63 rfl rfl rfl rfl rfl ?_
    refine ar_alloc (id := 5) tab_ok rfl rfl tb63 rfl rfl rfl rfl ?_
    refine ar_assign rfl rfl rfl rfl ?_
    refine ar_st [] tab_ok rfl tb63 rfl rfl rfl trivial rfl rfl rfl rfl rfl rfl rfl rfl ?_
    refine ar_nil ?_
    refine then_n ?_
    refine wp_seq ?_
    refine wp_reg (by kernel_rfl) ?_
    refine ar_fa tab_ok rfl rfl rfl tb63 rfl rfl rfl rfl rfl ?_
    refine ar_ld tab_ok rfl rfl rfl tb3 rfl rfl rfl rfl rfl ?_
    refine ar_gtr_s rfl rfl rfl rfl rfl (fun h19 => ?_) (fun h19 => ?_)
    · refine ar_move rfl rfl rfl rfl ?_
      refine ar_move rfl rfl rfl rfl ?_
      refine ar_fa_ref (cs' := [hdF f0, .sl (fs.map fun f => [hdF f])]) tab_ok rfl rfl tb101 rfl rfl rfl rfl ?_
      refine ar_ld_ref tab_ok rfl rfl tb70 rfl rfl rfl rfl ?_
      refine ar_move rfl rfl rfl rfl ?_
      refine ar_ix_hd tab_ok rfl rfl rfl tb70 rfl tb72 rfl (by omega) (by omega) rfl rfl ?_
      refine ar_yield (j := cntL a.l j) hy (place_init (by omega) (decide_eq_true h19)) rfl rfl rfl rfl rfl rfl rfl rfl rfl ?_ ?_
      · refine ar_not rfl rfl rfl rfl rfl ?_
        refine ar_pickT rfl rfl rfl rfl rfl ?_
        refine ar_nil ?_
        refine then_n ?_
        refine wp_condF rfl ?_
        refine wp_skip ?_
        refine inblk_n ?_
        refine then_n ?_
        refine wp_reg (by kernel_rfl) ?_
        refine ar_addi rfl rfl rfl rfl (by omega) (by omega) rfl rfl ?_
        refine ar_move rfl rfl rfl rfl ?_
        refine ar_nil ?_
        exact loop_n (j + 1) (by omega) (by omega) (le_to ⟨rfl, rfl, rfl, rfl, rfl, trivial⟩ trivial (mm_k (by rw [cntL_T (by omega) h19])) rfl rfl rfl)
      · refine ar_not rfl rfl rfl rfl rfl ?_
        refine ar_pickT rfl rfl rfl rfl rfl ?_
        refine ar_nil ?_
        refine then_n ?_
        refine wp_condT rfl ?_
        refine wp_ret ?_
        exact inblk_r (then_r (loop_r (inblk_r (then_r (⟨rfl, .inr rfl⟩)))))
    · refine ar_move rfl rfl rfl rfl ?_
      refine ar_skip rfl rfl ?_
      refine ar_skip rfl rfl ?_
      refine ar_skip rfl rfl ?_
      refine ar_skip rfl rfl ?_
      refine ar_skip rfl rfl ?_
      refine ar_skip rfl rfl ?_
      refine ar_skip rfl rfl ?_
      refine ar_pickF rfl rfl rfl rfl rfl ?_
      refine ar_nil ?_
      refine then_n ?_
      refine wp_condF rfl ?_
      refine wp_skip ?_
      refine inblk_n ?_
      refine then_n ?_
      refine wp_reg (by kernel_rfl) ?_
      refine ar_addi rfl rfl rfl rfl (by omega) (by omega) rfl rfl ?_
      refine ar_move rfl rfl rfl rfl ?_
      refine ar_nil ?_
      exact loop_n (j + 1) (by omega) (by omega) (le_to ⟨rfl, rfl, rfl, rfl, rfl, trivial⟩ trivial (mm_k (by rw [cntL_F (by omega) h19])) rfl rfl rfl)
  · refine ar_nil ?_
    refine then_n ?_
    refine wp_seq ?_
    refine wp_condF rfl ?_
    refine wp_exit ?_
    refine then_x (loop_x (inblk_e ?_))
    refine then_n ?_
    refine wp_seq ?_
    refine wp_reg (by kernel_rfl) ?_
    refine ar_fa_ref (cs' := [.sl (fs.map fun f => [hdF f])]) tab_ok rfl rfl tb101 rfl rfl rfl rfl ?_
    refine ar_ld_ref tab_ok rfl rfl tb99 rfl rfl rfl rfl ?_
    refine ar_len tab_ok rfl rfl tb99 rfl len_map rfl rfl ?_
    refine ar_move rfl rfl rfl rfl ?_
    refine ar_nil ?_
    refine then_n ?_
    refine wp_block ?_
    refine wp_loop (α := Nat) (fun r => mk [(0, .v (.fn (.yield l) [] [])), (31, .v (.sl (fs.map fun f => [hdF f]))), (32, .v (.int .i64 (fs.length : Nat))), (33, .v (.int .i64 (r : Nat)))] [] ⟨0, cntL a.l a.l.length + cntR fs r + 1, []⟩) (fun r => r ≤ fs.length) (fun r => fs.length - r) 0 (Nat.zero_le _) (le_to ⟨rfl, rfl, rfl, rfl, trivial⟩ trivial (mm_k (by rw [show j = a.l.length by omega]; rfl)) rfl rfl rfl) ?_
    rintro r hinv1
    have hrr := fun h : r < fs.length => hr _ (fr_mem h)
    refine wp_seq ?_
    refine wp_reg (by kernel_rfl) ?_
    refine ar_lss_s rfl rfl rfl rfl rfl (fun h34 => ?_) (fun h34 => ?_)
    · refine ar_nil ?_
      refine then_n ?_
      refine wp_seq ?_
      refine wp_condT rfl ?_
      refine wp_skip ?_
      refine then_n ?_
      refine wp_seq ?_
      refine wp_block ?_
      refine wp_seq ?_
      refine wp_reg (by kernel_rfl) ?_
      refine ar_ia tab_ok rfl rfl rfl tb99 rfl tb70 (by omega) (fr_map (r := r) (by omega)) rfl rfl rfl ?_
      refine ar_ld_ref tab_ok rfl rfl tb70 rfl rfl rfl rfl ?_
      refine ar_assign rfl rfl rfl rfl ?_
      refine ar_nil ?_
      refine then_n ?_
      refine wp_seq ?_
      refine wp_reg (by kernel_rfl) ?_
      refine ar_move rfl rfl rfl rfl ?_
      refine ar_len_hd tab_ok rfl rfl tb70 rfl rfl rfl ?_
      refine ar_move rfl rfl rfl rfl ?_
      refine ar_nil ?_
      refine then_n ?_
      refine wp_block ?_
      refine wp_loop (α := Nat) (fun q => mk [(0, .v (.fn (.yield l) [] [])), (7, .v (hdF (fs.getD r ⟨0, [], 0⟩))), (31, .v (.sl (fs.map fun f => [hdF f]))), (32, .v (.int .i64 (fs.length : Nat))), (33, .v (.int .i64 (r : Nat))), (38, .v (.int .i64 ((fs.getD r ⟨0, [], 0⟩).l.length : Nat))), (39, .v (.int .i64 (q : Nat)))] [] ⟨0, cntL a.l a.l.length + cntR fs r + q + 1, []⟩) (fun q => q ≤ (fs.getD r ⟨0, [], 0⟩).l.length) (fun q => (fs.getD r ⟨0, [], 0⟩).l.length - q) 0 (Nat.zero_le _) (le_to ⟨rfl, rfl, rfl, rfl, rfl, rfl, rfl, trivial⟩ trivial rfl rfl rfl rfl) ?_
      rintro q hinv2
      refine wp_seq ?_
      refine wp_reg (by kernel_rfl) ?_
      refine ar_lss_s rfl rfl rfl rfl rfl (fun h40 => ?_) (fun h40 => ?_)
      · refine ar_nil ?_
        refine then_n ?_
        refine wp_seq ?_
        refine wp_condT rfl ?_
        refine wp_skip ?_
        refine then_n ?_
        refine wp_seq ?_
        refine wp_block ?_
        refine wp_seq ?_
        refine wp_reg (by kernel_rfl) ?_
        refine ar_move rfl rfl rfl rfl ?_
        refine ar_assign rfl rfl rfl rfl ?_
        refine ar_nil ?_
        refine then_n ?_
        refine wp_seq ?_
        refine wp_reg (by kernel_rfl) ?_
        refine ar_move rfl rfl rfl rfl ?_
        refine ar_move rfl rfl rfl rfl ?_
        refine ar_move rfl rfl rfl rfl ?_
        refine ar_ix_hd tab_ok rfl rfl rfl tb70 rfl tb72 rfl (by omega) (by omega) rfl rfl ?_
        refine ar_yield (j := cntL a.l a.l.length + cntR fs r + q) hy (place_row (by omega) (by omega)) rfl rfl rfl rfl rfl rfl rfl rfl rfl ?_ ?_
        · refine ar_not rfl rfl rfl rfl rfl ?_
          refine ar_nil ?_
          refine then_n ?_
          refine wp_condF rfl ?_
          refine wp_skip ?_
          refine inblk_n ?_
          refine then_n ?_
          refine wp_reg (by kernel_rfl) ?_
          refine ar_addi rfl rfl rfl rfl (by omega) (by omega) rfl rfl ?_
          refine ar_move rfl rfl rfl rfl ?_
          refine ar_nil ?_
          exact loop_n (q + 1) (by omega) (by omega) (le_to ⟨rfl, rfl, rfl, rfl, rfl, rfl, rfl, trivial⟩ trivial rfl rfl rfl rfl)
        · refine ar_not rfl rfl rfl rfl rfl ?_
          refine ar_nil ?_
          refine then_n ?_
          refine wp_condT rfl ?_
          refine wp_ret ?_
          exact inblk_r (then_r (loop_r (inblk_r (inblk_r (then_r (loop_r (inblk_r (⟨rfl, .inr rfl⟩))))))))
      · refine ar_nil ?_
        refine then_n ?_
        refine wp_seq ?_
        refine wp_condF rfl ?_
        refine wp_exit ?_
        refine then_x (loop_x (inblk_e ?_))
        refine inblk_n ?_
        refine then_n ?_
        refine wp_reg (by kernel_rfl) ?_
        refine ar_addi rfl rfl rfl rfl (by omega) (by omega) rfl rfl ?_
        refine ar_move rfl rfl rfl rfl ?_
        refine ar_nil ?_
        exact loop_n (r + 1) (by omega) (by omega) (le_to ⟨rfl, rfl, rfl, rfl, trivial⟩ trivial (mm_k (by rw [cntR_snoc (fr_get (by omega))]; omega)) rfl rfl rfl)
    · refine ar_nil ?_
      refine then_n ?_
      refine wp_seq ?_
      refine wp_condF rfl ?_
      refine wp_exit ?_
      refine then_x (loop_x (inblk_e ?_))
      refine ⟨rfl, .inl ?_⟩
      show cntL a.l a.l.length + cntR fs r + 1 = ((placesF a f0 fs).map encP).length + 1
      rw [places_len, show r = fs.length by omega]
end Go.Vd
namespace Go.Vd
open Go.Proofs
def fillR : List Bool → List Int → List Int
  | _, [] => []
  | m, x :: xs => if x = 2 then (match m with
    | [] => x :: fillR [] xs
    | b :: m' => ofB b :: fillR m' xs) else x :: fillR m xs
theorem fillR_len : ∀ (xs : List Int) (m : List Bool), (fillR m xs).length = xs.length
  | [], _ => by simp [fillR]
  | x :: xs, m => by
    unfold fillR
    split
    · cases m with
      | nil => simp [fillR_len xs]
      | cons b m => simp [fillR_len xs]
    · simp [fillR_len xs]
theorem manyT_cons (x : Int) (xs : List Int) : manyT (x :: xs) = (if x = 2 then 1 else 0) + manyT xs := by
  simp only [manyT, List.countP_cons]
  by_cases h : x = 2 <;> simp [h]
  omega
theorem fillR_nn {m : List Bool} {x : Int} {xs : List Int} (h : x ≠ 2) : fillR m (x :: xs) = x :: fillR m xs := by cases m <;> simp [fillR, h]
theorem fillR_h0 {x : Int} {xs : List Int} (h : x = 2) : fillR [] (x :: xs) = x :: fillR [] xs := by simp [fillR, h]
theorem fillR_h1 {b : Bool} {m : List Bool} {x : Int} {xs : List Int} (h : x = 2) : fillR (b :: m) (x :: xs) = ofB b :: fillR m xs := by simp [fillR, h]
theorem fillR_append : ∀ (xs ys : List Int) (m : List Bool), fillR m (xs ++ ys) = fillR m xs ++ fillR (m.drop (manyT xs)) ys
  | [], ys, m => by simp [fillR, manyT]
  | x :: xs, ys, m => by
    rw [List.cons_append, manyT_cons]
    by_cases h : x = 2
    · rw [if_pos h]
      cases m with
      | nil => rw [fillR_h0 h, fillR_h0 h, fillR_append xs ys, List.drop_nil, List.drop_nil, List.cons_append]
      | cons b m => rw [fillR_h1 h, fillR_h1 h, fillR_append xs ys, show 1 + manyT xs = manyT xs + 1 by omega, List.drop_succ_cons, List.cons_append]
    · rw [if_neg h, fillR_nn h, fillR_nn h, fillR_append xs ys, Nat.zero_add, List.cons_append]
theorem fillR_keep {m : List Bool} {x : Int} (h : x ≠ 2 ∨ m = []) : fillR m [x] = [x] := by
  by_cases hx : x = 2
  · rcases h with h | h
    · exact absurd hx h
    · subst h; rw [fillR_h0 hx]; simp [fillR]
  · rw [fillR_nn hx]; simp [fillR]
theorem fillR_put {m : List Bool} {x : Int} (h : x = 2) (hm : 0 < m.length) : fillR m [x] = [ofB (m.getD 0 default)] := by
  cases m with
  | nil => simp at hm
  | cons b m => rw [fillR_h1 h]; simp [fillR]
theorem fill_elem {m : List Bool} {l : List Int} {j : Nat} (h : j < l.length) : ((fillR m (l.take j) ++ l.drop j).map encU)[j]? = some (encU (l.getD j default)) := by
  have : (fillR m (l.take j)).length = j := by rw [fillR_len]; simp; omega
  rw [List.getElem?_map, List.getElem?_append_right (by omega), this, drop_cons h]; simp
theorem fill_same {m : List Bool} {l : List Int} {j : Nat} (h : j < l.length) (hx : l.getD j default ≠ 2 ∨ m.drop (manyT (l.take j)) = []) : fillR m (l.take j) ++ l.drop j = fillR m (l.take (j + 1)) ++ l.drop (j + 1) := by
  rw [take_snoc h, fillR_append, fillR_keep hx, drop_cons h]; simp
theorem fill_turn {m : List Bool} {l : List Int} {j : Nat} {v : Int} (h : j < l.length) (hx : l.getD j default = 2) (hm : 0 < (m.drop (manyT (l.take j))).length) (hv : v = ofB ((m.drop (manyT (l.take j))).getD 0 default)) :
    (fillR m (l.take j) ++ l.drop j).set j v = fillR m (l.take (j + 1)) ++ l.drop (j + 1) := by
  have hl : (fillR m (l.take j)).length = j := by rw [fillR_len]; simp; omega
  rw [take_snoc h, fillR_append, fillR_put hx hm, drop_cons h, List.set_append_right _ _ (by omega), hl, hv]
  simp
theorem many_next {l : List Int} {j : Nat} (h : j < l.length) : manyT (l.take (j + 1)) = manyT (l.take j) + (if l.getD j default = 2 then 1 else 0) := by rw [take_snoc h, manyT_snoc]
def fillRows : List Bool → List (List Int) → List (List Int)
  | _, [] => []
  | m, r :: rs => fillR m r :: fillRows (m.drop (manyT r)) rs
theorem fillRows_snoc (r : List Int) : ∀ (rs : List (List Int)) (m : List Bool), fillRows m (rs ++ [r]) = fillRows m rs ++ [fillR (m.drop (manyR rs)) r]
  | [], m => by simp [fillRows, manyR]
  | x :: rs, m => by
    simp only [List.cons_append, fillRows, fillRows_snoc r rs, List.drop_drop]
    simp [manyR]
theorem fillRows_len : ∀ (rs : List (List Int)) (m : List Bool), (fillRows m rs).length = rs.length
  | [], _ => rfl
  | r :: rs, m => by simp [fillRows, fillRows_len rs]
def fillT (t : Trace) (m : List Bool) : Trace := ⟨t.bad, fillR m t.ini, fillRows (m.drop (manyT t.ini)) t.ins⟩
theorem pc_114 (l : List Int) (m : List Bool) (n : Nat) (hl : l.length ≤ 1000000) (hm : m.length ≤ 9223372036854775807) (hn0 : n ≤ 10000000000000) : PCall Try.prog 114 [slU l, slB m, .int .i64 (n : Nat)] (slU (fillR (m.drop n) l)) := by
  refine pc_of tab_ok (f := 114) (fn := Try.f114) (N := 46) (rs := [.tmp 6]) (by kernel_rfl) rfl (by kernel_rfl) rfl rfl [(0, .v (slU l)), (1, .v (slB m)), (2, .v (.int .i64 (n : Nat)))] ⟨rfl, rfl, rfl, trivial⟩ rfl rfl ?_
  intro B
  refine wp_seq ?_
  refine wp_reg (by kernel_rfl) ?_
  refine ar_assign rfl rfl rfl rfl ?_
  refine ar_nil ?_
  refine then_n ?_
  refine wp_seq ?_
  refine wp_reg (by kernel_rfl) ?_
  refine ar_bs_own (es := ([] : List Int).map encU) 9 [] tab_ok rfl tb70 rfl tb72 rfl rfl ⟨rfl, trivial⟩ rfl rfl rfl rfl rfl rfl rfl rfl rfl ?_
  refine ar_move rfl rfl rfl rfl ?_
  refine ar_app 11 [] tab_ok rfl tb70 rfl tb70 rfl tb72 rfl rfl rfl rfl ⟨rfl, rfl, trivial⟩ rfl (el_72 _) app_map (by constructor <;> simp <;> omega) rfl rfl rfl ?_
  refine ar_assign rfl rfl rfl rfl ?_
  refine ar_nil ?_
  refine then_n ?_
  refine wp_seq ?_
  refine wp_seq ?_
  refine wp_reg (by kernel_rfl) ?_
  refine ar_assign rfl rfl rfl rfl ?_
  refine ar_nil ?_
  refine then_n ?_
  refine wp_block ?_
  refine wp_loop (α := Nat) (fun j => mk [(1, .v (slB m)), (2, .v (.int .i64 (n + manyT (l.take j) : Nat))), (7, .own 11), (8, .v (.int .i64 (j : Nat)))] [(11, .row 72 1 ((fillR (m.drop n) (l.take j) ++ l.drop j).map encU))] 0) (fun j => j ≤ l.length) (fun j => l.length - j) 0 (Nat.zero_le _) (le_to ⟨rfl, (int_eq rfl (by simp [manyT])), rfl, rfl, trivial⟩ ⟨(row_eq rfl (by simp [fillR])), trivial⟩ rfl rfl rfl rfl) ?_
  rintro j hinv
  have hlr : (fillR (m.drop n) (l.take j) ++ l.drop j).length = l.length := by simp only [List.length_append, fillR_len, List.length_take, List.length_drop]; omega
  have hn := fun h => many_next (l := l) (j := j) h
  have hml := manyT_le (l.take j)
  have hml2 : (l.take j).length ≤ l.length := by rw [List.length_take]; omega
  have hdl : ((m.drop n).drop (manyT (l.take j))).length = m.length - n - manyT (l.take j) := by rw [List.length_drop, List.length_drop]
  have hdg : ∀ h : n + manyT (l.take j) < m.length, m.getD (n + manyT (l.take j)) default = ((m.drop n).drop (manyT (l.take j))).getD 0 default := fun h => by rw [List.drop_drop, List.getD_eq_getElem?_getD, List.getD_eq_getElem?_getD, List.getElem?_drop]; rfl
  refine wp_seq ?_
  refine wp_seq ?_
  refine wp_reg (by kernel_rfl) ?_
  refine ar_move rfl rfl rfl rfl ?_
  refine ar_move rfl rfl rfl rfl ?_
  refine ar_len_own tab_ok rfl rfl rfl tb70 rfl (show _ = (l.length : Int) by simp only [List.length_map, hlr]) rfl rfl rfl ?_
  refine ar_lss_s rfl rfl rfl rfl rfl (fun h15 => ?_) (fun h15 => ?_)
  · refine ar_nil ?_
    refine then_n ?_
    refine wp_condT rfl ?_
    refine wp_skip ?_
    refine then_n ?_
    refine wp_seq ?_
    refine wp_block ?_
    refine wp_seq ?_
    refine wp_seq ?_
    refine wp_reg (by kernel_rfl) ?_
    refine ar_move rfl rfl rfl rfl ?_
    refine ar_move rfl rfl rfl rfl ?_
    refine ar_ia_own tab_ok rfl rfl rfl rfl tb70 rfl tb72 rfl (by omega) (by simp only [List.length_map, hlr]; omega) rfl rfl rfl rfl ?_
    refine ar_ld_eptr tab_ok rfl rfl rfl tb72 rfl (fill_elem (by omega)) rfl rfl rfl ?_
    refine ar_neq_s rfl rfl rfl rfl rfl (fun h22 => ?_) (fun h22 => ?_)
    · refine ar_nil ?_
      refine then_n ?_
      refine wp_condT rfl ?_
      refine wp_exit ?_
      refine then_x (inblk_e ?_)
      refine then_n ?_
      refine wp_reg (by kernel_rfl) ?_
      refine ar_move rfl rfl rfl rfl ?_
      refine ar_addi rfl rfl rfl rfl (by omega) (by omega) rfl rfl ?_
      refine ar_assign rfl rfl rfl rfl ?_
      refine ar_nil ?_
      exact loop_n (j + 1) (by omega) (by omega) (le_to ⟨rfl, (int_eq rfl (by rw [hn (by omega)]; split <;> omega)), rfl, rfl, trivial⟩ ⟨(row_eq rfl (by first | exact congrArg (List.map encU) (fill_same (by omega) (.inl h22)) | exact congrArg (List.map encU) (fill_same (by omega) (.inr (List.eq_nil_of_length_eq_zero (by omega)))) | (exact congrArg (List.map encU) (fill_turn (by omega) (Decidable.not_not.1 h22) (by omega) (by rw [← hdg (by omega)]; first | (rw [h31]; rfl)))))), trivial⟩ rfl rfl rfl rfl)
    · refine ar_nil ?_
      refine then_n ?_
      refine wp_condF rfl ?_
      refine wp_skip ?_
      refine then_n ?_
      refine wp_seq ?_
      refine wp_seq ?_
      refine wp_reg (by kernel_rfl) ?_
      refine ar_move rfl rfl rfl rfl ?_
      refine ar_move rfl rfl rfl rfl ?_
      refine ar_len tab_ok rfl rfl tb28 rfl len_map rfl rfl ?_
      refine ar_lss_s rfl rfl rfl rfl rfl (fun h26 => ?_) (fun h26 => ?_)
      · refine ar_move rfl rfl rfl rfl ?_
        refine ar_move rfl rfl rfl rfl ?_
        refine ar_move rfl rfl rfl rfl ?_
        refine ar_ia tab_ok rfl rfl rfl tb28 rfl tb4 (by omega) (map_get (n := n + manyT (l.take j)) (by omega)) rfl rfl rfl ?_
        refine ar_ld_ref tab_ok rfl rfl tb4 rfl rfl rfl rfl ?_
        refine ar_split (fun h31 => ?_) (fun h31 => ?_)
        · refine ar_pickT rfl rfl rfl rfl rfl ?_
          refine ar_nil ?_
          refine then_n ?_
          refine wp_condT rfl ?_
          refine wp_reg (by kernel_rfl) ?_
          refine ar_move rfl rfl rfl rfl ?_
          refine ar_move rfl rfl rfl rfl ?_
          refine ar_ia_own tab_ok rfl rfl rfl rfl tb70 rfl tb72 rfl (by omega) (by simp only [List.length_map, hlr]; omega) rfl rfl rfl rfl ?_
          refine ar_st_e tab_ok rfl tb72 rfl rfl rfl rfl rfl (by simp only [List.length_map, hlr]; show j < _; omega) set_map rfl rfl rfl ?_
          refine ar_nil ?_
          refine then_n ?_
          refine wp_reg (by kernel_rfl) ?_
          refine ar_move rfl rfl rfl rfl ?_
          refine ar_addi rfl rfl rfl rfl (by omega) (by omega) rfl rfl ?_
          refine ar_assign rfl rfl rfl rfl ?_
          refine ar_nil ?_
          refine inblk_n ?_
          refine then_n ?_
          refine wp_reg (by kernel_rfl) ?_
          refine ar_move rfl rfl rfl rfl ?_
          refine ar_addi rfl rfl rfl rfl (by omega) (by omega) rfl rfl ?_
          refine ar_assign rfl rfl rfl rfl ?_
          refine ar_nil ?_
          exact loop_n (j + 1) (by omega) (by omega) (le_to ⟨rfl, (int_eq rfl (by rw [hn (by omega)]; split <;> omega)), rfl, rfl, trivial⟩ ⟨(row_eq rfl (by first | exact congrArg (List.map encU) (fill_same (by omega) (.inl h22)) | exact congrArg (List.map encU) (fill_same (by omega) (.inr (List.eq_nil_of_length_eq_zero (by omega)))) | (exact congrArg (List.map encU) (fill_turn (by omega) (Decidable.not_not.1 h22) (by omega) (by rw [← hdg (by omega)]; first | (rw [h31]; rfl)))))), trivial⟩ rfl rfl rfl rfl)
        · refine ar_pickT rfl rfl rfl rfl rfl ?_
          refine ar_nil ?_
          refine then_n ?_
          refine wp_condF rfl ?_
          refine wp_seq ?_
          refine wp_reg (by kernel_rfl) ?_
          refine ar_move rfl rfl rfl rfl ?_
          refine ar_move rfl rfl rfl rfl ?_
          refine ar_len tab_ok rfl rfl tb28 rfl len_map rfl rfl ?_
          refine ar_lss rfl rfl rfl (decide_eq_true (by omega)) rfl rfl ?_
          refine ar_nil ?_
          refine then_n ?_
          refine wp_condT rfl ?_
          refine wp_reg (by kernel_rfl) ?_
          refine ar_move rfl rfl rfl rfl ?_
          refine ar_move rfl rfl rfl rfl ?_
          refine ar_ia_own tab_ok rfl rfl rfl rfl tb70 rfl tb72 rfl (by omega) (by simp only [List.length_map, hlr]; omega) rfl rfl rfl rfl ?_
          refine ar_st_e tab_ok rfl tb72 rfl rfl rfl rfl rfl (by simp only [List.length_map, hlr]; show j < _; omega) set_map rfl rfl rfl ?_
          refine ar_nil ?_
          refine then_n ?_
          refine wp_reg (by kernel_rfl) ?_
          refine ar_move rfl rfl rfl rfl ?_
          refine ar_addi rfl rfl rfl rfl (by omega) (by omega) rfl rfl ?_
          refine ar_assign rfl rfl rfl rfl ?_
          refine ar_nil ?_
          refine inblk_n ?_
          refine then_n ?_
          refine wp_reg (by kernel_rfl) ?_
          refine ar_move rfl rfl rfl rfl ?_
          refine ar_addi rfl rfl rfl rfl (by omega) (by omega) rfl rfl ?_
          refine ar_assign rfl rfl rfl rfl ?_
          refine ar_nil ?_
          exact loop_n (j + 1) (by omega) (by omega) (le_to ⟨rfl, (int_eq rfl (by rw [hn (by omega)]; split <;> omega)), rfl, rfl, trivial⟩ ⟨(row_eq rfl (by first | exact congrArg (List.map encU) (fill_same (by omega) (.inl h22)) | exact congrArg (List.map encU) (fill_same (by omega) (.inr (List.eq_nil_of_length_eq_zero (by omega)))) | (exact congrArg (List.map encU) (fill_turn (by omega) (Decidable.not_not.1 h22) (by omega) (by rw [← hdg (by omega)]; first | (rw [h31]; rfl)))))), trivial⟩ rfl rfl rfl rfl)
      · refine ar_move rfl rfl rfl rfl ?_
        refine ar_skip rfl rfl ?_
        refine ar_skip rfl rfl ?_
        refine ar_skip rfl rfl ?_
        refine ar_skip rfl rfl ?_
        refine ar_pickF rfl rfl rfl rfl rfl ?_
        refine ar_nil ?_
        refine then_n ?_
        refine wp_condF rfl ?_
        refine wp_seq ?_
        refine wp_reg (by kernel_rfl) ?_
        refine ar_move rfl rfl rfl rfl ?_
        refine ar_move rfl rfl rfl rfl ?_
        refine ar_len tab_ok rfl rfl tb28 rfl len_map rfl rfl ?_
        refine ar_lss rfl rfl rfl (decide_eq_false (by omega)) rfl rfl ?_
        refine ar_nil ?_
        refine then_n ?_
        refine wp_condF rfl ?_
        refine wp_skip ?_
        refine then_n ?_
        refine wp_reg (by kernel_rfl) ?_
        refine ar_move rfl rfl rfl rfl ?_
        refine ar_addi rfl rfl rfl rfl (by omega) (by omega) rfl rfl ?_
        refine ar_assign rfl rfl rfl rfl ?_
        refine ar_nil ?_
        refine inblk_n ?_
        refine then_n ?_
        refine wp_reg (by kernel_rfl) ?_
        refine ar_move rfl rfl rfl rfl ?_
        refine ar_addi rfl rfl rfl rfl (by omega) (by omega) rfl rfl ?_
        refine ar_assign rfl rfl rfl rfl ?_
        refine ar_nil ?_
        exact loop_n (j + 1) (by omega) (by omega) (le_to ⟨rfl, (int_eq rfl (by rw [hn (by omega)]; split <;> omega)), rfl, rfl, trivial⟩ ⟨(row_eq rfl (by first | exact congrArg (List.map encU) (fill_same (by omega) (.inl h22)) | exact congrArg (List.map encU) (fill_same (by omega) (.inr (List.eq_nil_of_length_eq_zero (by omega)))) | (exact congrArg (List.map encU) (fill_turn (by omega) (Decidable.not_not.1 h22) (by omega) (by rw [← hdg (by omega)]; first | (rw [h31]; rfl)))))), trivial⟩ rfl rfl rfl rfl)
  · refine ar_nil ?_
    refine then_n ?_
    refine wp_condF rfl ?_
    refine wp_exit ?_
    refine then_x (loop_x (inblk_e ?_))
    refine then_n ?_
    refine wp_seq ?_
    refine wp_reg (by kernel_rfl) ?_
    refine ar_move rfl rfl rfl rfl ?_
    refine ar_assign rfl rfl rfl rfl ?_
    refine ar_nil ?_
    refine then_n ?_
    refine wp_ret ?_
    refine ret_post rfl rfl ?_
    have hi : j = l.length := by omega
    subst hi
    rw [List.take_length, List.drop_eq_nil_of_le (Nat.le_refl _), List.append_nil]
theorem pc_74 (t : Trace) (m : List Bool) (hz : SzT t) (hm : m.length ≤ 9223372036854775807) : PCall Try.prog 74 [trV t, slB m] (trV (fillT t m)) := by
  refine pc_of tab_ok (f := 74) (fn := Try.f74) (N := 47) (rs := [.cell 4 101]) (by kernel_rfl) rfl (by kernel_rfl) rfl rfl [(0, .v (trV t)), (1, .v (slB m))] ⟨rfl, rfl, trivial⟩ rfl rfl ?_
  intro B
  refine wp_seq ?_
  refine wp_reg (by kernel_rfl) ?_
  refine ar_box 2 [] rfl rfl rfl ⟨rfl, trivial⟩ rfl rfl rfl ?_
  refine ar_alloc (id := 4) tab_ok rfl rfl tb101 rfl rfl rfl rfl ?_
  refine ar_nil ?_
  refine then_n ?_
  refine wp_seq ?_
  refine wp_draw (L := [([2], []), ([2], []), ([2], []), ([2], []), ([], []), ([], []), ([], []), ([5], [5]), ([5], [5])]) (by kernel_rfl) mixed (by kernel_rfl) ?_
  refine ar_fa tab_ok rfl rfl rfl tb101 rfl rfl rfl rfl rfl ?_
  refine ar_ld tab_ok rfl rfl rfl tb3 rfl rfl rfl rfl rfl ?_
  refine ar_fa tab_ok rfl rfl rfl tb101 rfl rfl rfl rfl rfl ?_
  refine ar_ld tab_ok rfl rfl rfl tb70 rfl rfl rfl rfl rfl ?_
  refine ar_move rfl rfl rfl rfl ?_
  refine ar_call [] (pc_114 t.ini m 0 hz.il hm (by decide)) rfl rfl rfl rfl rfl rfl trivial (.inl rfl) rfl rfl rfl ?_
  refine ar_build [] tab_ok rfl tb101 rfl rfl trivial rfl rfl rfl rfl rfl rfl ?_
  refine ar_alloc (id := 5) tab_ok rfl rfl tb101 rfl rfl rfl rfl ?_
  refine ar_st [] tab_ok rfl tb101 rfl rfl rfl trivial rfl rfl rfl rfl rfl rfl rfl rfl ?_
  refine ar_nil ?_
  refine then_n ?_
  refine wp_seq ?_
  refine wp_reg (by kernel_rfl) ?_
  refine ar_fa tab_ok rfl rfl rfl tb101 rfl rfl rfl rfl rfl ?_
  refine ar_ld tab_ok rfl rfl rfl tb70 rfl rfl rfl rfl rfl ?_
  refine ar_call [] (pc_115 t.ini hz.il) rfl rfl rfl rfl rfl rfl trivial (.inl rfl) rfl rfl rfl ?_
  refine ar_assign rfl rfl rfl rfl ?_
  refine ar_nil ?_
  refine then_n ?_
  refine wp_seq ?_
  refine wp_seq ?_
  refine wp_reg (by kernel_rfl) ?_
  refine ar_assign rfl rfl rfl rfl ?_
  refine ar_nil ?_
  refine then_n ?_
  refine wp_block ?_
  refine wp_le (le_nilb (bid := 5) (id := 950) (e := 70) (sz := 1) (j := 2) rfl rfl rfl (by decide)) ?_
  refine wp_loop (α := Nat) (fun j => mk [(1, .v (slB m)), (2, .ptr 2 0), (4, .ptr 4 0), (5, .ptr 5 0), (6, .v (.int .i64 (manyT t.ini + manyR (t.ins.take j) : Nat))), (7, .v (.int .i64 (j : Nat)))] [(2, .box ((encT t).map .v)), (4, .box [.v (.int .i64 0), .nils, .nils]), (5, .box [.v (.int .i64 t.bad), .v (slU (fillR m t.ini)), .own 951]), (951, .row 70 1 ((fillRows (m.drop (manyT t.ini)) (t.ins.take j)).map encUs))] 0) (fun j => j ≤ t.ins.length) (fun j => t.ins.length - j) 0 (Nat.zero_le _) (le_ren [(951, 950)] ⟨rfl, rfl, rfl, rfl, (int_eq rfl (by simp [manyR])), rfl, trivial⟩ ⟨rfl, rfl, rfl, rfl, trivial⟩ rfl rfl rfl rfl rfl) ?_
  rintro j hinv
  have hnl := hz.nl
  have hmr := manyR_take (rs := t.ins) (by omega) hz.rl j
  have hmi := manyT_le t.ini
  have hil := hz.il
  have hmj := manyT_le (t.ins.getD j default)
  have hrj := fun h => hz.rl (t.ins.getD j default) (getD_mem (n := j) h)
  refine wp_seq ?_
  refine wp_seq ?_
  refine wp_reg (by kernel_rfl) ?_
  refine ar_move rfl rfl rfl rfl ?_
  refine ar_fa tab_ok rfl rfl rfl tb101 rfl rfl rfl rfl rfl ?_
  refine ar_ld tab_ok rfl rfl rfl tb99 rfl rfl rfl rfl rfl ?_
  refine ar_len tab_ok rfl rfl tb99 rfl len_map rfl rfl ?_
  refine ar_lss_s rfl rfl rfl rfl rfl (fun h22 => ?_) (fun h22 => ?_)
  · refine ar_nil ?_
    refine then_n ?_
    refine wp_condT rfl ?_
    refine wp_skip ?_
    refine then_n ?_
    refine wp_seq ?_
    refine wp_block ?_
    refine wp_seq ?_
    refine wp_draw (L := [([5], []), ([5], []), ([2], []), ([2], []), ([], []), ([], []), ([], []), ([], []), ([], []), ([], []), ([], []), ([36, 951], [36, 951]), ([5], []), ([5, 36], [5])]) (by kernel_rfl) mixed (by kernel_rfl) ?_
    refine ar_fa tab_ok rfl rfl rfl tb101 rfl rfl rfl rfl rfl ?_
    refine ar_ld tab_ok rfl rfl rfl tb99 rfl rfl rfl rfl rfl ?_
    refine ar_fa tab_ok rfl rfl rfl tb101 rfl rfl rfl rfl rfl ?_
    refine ar_ld tab_ok rfl rfl rfl tb99 rfl rfl rfl rfl rfl ?_
    refine ar_move rfl rfl rfl rfl ?_
    refine ar_ia tab_ok rfl rfl rfl tb99 rfl tb70 (by omega) (map_get (n := j) (by omega)) rfl rfl rfl ?_
    refine ar_ld_ref tab_ok rfl rfl tb70 rfl rfl rfl rfl ?_
    refine ar_move rfl rfl rfl rfl ?_
    refine ar_move rfl rfl rfl rfl ?_
    refine ar_call [] (pc_114 (t.ins.getD j default) m (manyT t.ini + manyR (t.ins.take j)) (hrj (by omega)) hm (by omega)) rfl rfl rfl rfl rfl rfl trivial (.inl rfl) rfl rfl rfl ?_
    refine ar_bs [] tab_ok rfl tb99 rfl tb70 rfl trivial rfl rfl rfl rfl rfl rfl rfl rfl ?_
    refine ar_app 36 [] tab_ok rfl tb99 rfl tb99 rfl tb70 rfl rfl rfl rfl ⟨rfl, rfl, trivial⟩ rfl (elOk.cons rfl rfl elOk.nil) app_one (by constructor <;> simp [fillRows_len] <;> omega) rfl rfl rfl ?_
    refine ar_fa tab_ok rfl rfl rfl tb101 rfl rfl rfl rfl rfl ?_
    refine ar_st [(36, _)] tab_ok rfl tb99 rfl rfl rfl ⟨rfl, trivial⟩ rfl rfl rfl rfl rfl rfl rfl rfl ?_
    refine ar_nil ?_
    refine then_n ?_
    have hrj2 := hrj (by omega)
    refine wp_reg (by kernel_rfl) ?_
    refine ar_move rfl rfl rfl rfl ?_
    refine ar_fa tab_ok rfl rfl rfl tb101 rfl rfl rfl rfl rfl ?_
    refine ar_ld tab_ok rfl rfl rfl tb99 rfl rfl rfl rfl rfl ?_
    refine ar_move rfl rfl rfl rfl ?_
    refine ar_ia tab_ok rfl rfl rfl tb99 rfl tb70 (by omega) (map_get (n := j) (by omega)) rfl rfl rfl ?_
    refine ar_ld_ref tab_ok rfl rfl tb70 rfl rfl rfl rfl ?_
    refine ar_call [] (pc_115 (t.ins.getD j default) (hrj (by omega))) rfl rfl rfl rfl rfl rfl trivial (.inl rfl) rfl rfl rfl ?_
    refine ar_addi rfl rfl rfl rfl (by omega) (by omega) rfl rfl ?_
    refine ar_assign rfl rfl rfl rfl ?_
    refine ar_nil ?_
    refine inblk_n ?_
    refine then_n ?_
    refine wp_reg (by kernel_rfl) ?_
    refine ar_move rfl rfl rfl rfl ?_
    refine ar_addi rfl rfl rfl rfl (by omega) (by omega) rfl rfl ?_
    refine ar_assign rfl rfl rfl rfl ?_
    refine ar_nil ?_
    exact loop_n (j + 1) (by omega) (by omega) (le_ren [(951, 36)] ⟨rfl, rfl, rfl, rfl, (int_eq rfl (by rw [take_snoc (n := j) (by omega), manyR_snoc]; omega)), rfl, trivial⟩ ⟨rfl, rfl, rfl, (row_eq rfl (by rw [take_snoc (by omega), fillRows_snoc, List.drop_drop] <;> simp)), trivial⟩ rfl rfl rfl rfl rfl)
  · refine ar_nil ?_
    refine then_n ?_
    refine wp_condF rfl ?_
    refine wp_exit ?_
    refine then_x (loop_x (inblk_e ?_))
    refine then_n ?_
    refine wp_seq ?_
    refine wp_reg (by kernel_rfl) ?_
    refine ar_lda tab_ok rfl rfl rfl tb101 rfl rfl rfl rfl rfl rfl ?_
    refine ar_st [(951, _)] tab_ok rfl tb101 rfl rfl rfl ⟨rfl, trivial⟩ rfl rfl rfl rfl rfl rfl rfl rfl ?_
    refine ar_nil ?_
    refine then_n ?_
    refine wp_ret ?_
    refine ret_post rfl rfl ?_
    have hi : j = t.ins.length := by omega
    subst hi
    rw [List.take_length]; rfl
def flagsT (l : List Int) : List Bool := l.map fun x => decide (x = 1)
theorem pc_119 (ls : List Int) (hl : ls.length ≤ 1000000) : PCall Try.prog 119 [slU ls] (slB (flagsT ls)) := by
  refine pc_of tab_ok (f := 119) (fn := Try.f119) (N := 20) (rs := [.tmp 2]) (by kernel_rfl) rfl (by kernel_rfl) rfl rfl [(0, .v (slU ls))] ⟨rfl, trivial⟩ rfl rfl ?_
  intro B
  refine wp_seq ?_
  refine wp_reg (by kernel_rfl) ?_
  refine ar_assign rfl rfl rfl rfl ?_
  refine ar_nil ?_
  refine then_n ?_
  refine wp_seq ?_
  refine wp_reg (by kernel_rfl) ?_
  refine ar_assign rfl rfl rfl rfl ?_
  refine ar_nil ?_
  refine then_n ?_
  refine wp_seq ?_
  refine wp_seq ?_
  refine wp_reg (by kernel_rfl) ?_
  refine ar_assign rfl rfl rfl rfl ?_
  refine ar_nil ?_
  refine then_n ?_
  refine wp_block ?_
  refine wp_le (le_nil (t := 3) (id := 900) (e := 4) (sz := 1) rfl rfl (by decide)) ?_
  refine wp_loop (α := Nat) (fun j => mk [(0, .v (slU ls)), (3, .own 901), (4, .v (.int .i64 (j : Nat)))] [(901, .row 4 1 ((flagsT (ls.take j)).map encB))] 0) (fun j => j ≤ ls.length) (fun j => ls.length - j) 0 (Nat.zero_le _) (le_ren [(901, 900)] ⟨rfl, rfl, rfl, trivial⟩ ⟨rfl, trivial⟩ rfl rfl rfl rfl rfl) ?_
  rintro j hinv
  refine wp_seq ?_
  refine wp_seq ?_
  refine wp_reg (by kernel_rfl) ?_
  refine ar_move rfl rfl rfl rfl ?_
  refine ar_move rfl rfl rfl rfl ?_
  refine ar_len tab_ok rfl rfl tb70 rfl len_map rfl rfl ?_
  refine ar_lss_s rfl rfl rfl rfl rfl (fun h8 => ?_) (fun h8 => ?_)
  · refine ar_nil ?_
    refine then_n ?_
    refine wp_condT rfl ?_
    refine wp_skip ?_
    refine then_n ?_
    refine wp_seq ?_
    refine wp_block ?_
    refine wp_reg (by kernel_rfl) ?_
    refine ar_move rfl rfl rfl rfl ?_
    refine ar_move rfl rfl rfl rfl ?_
    refine ar_move rfl rfl rfl rfl ?_
    refine ar_ia tab_ok rfl rfl rfl tb70 rfl tb72 (by omega) (map_get (n := j) (by omega)) rfl rfl rfl ?_
    refine ar_ld_ref tab_ok rfl rfl tb72 rfl rfl rfl rfl ?_
    refine ar_eql rfl rfl rfl rfl rfl rfl ?_
    refine ar_bs [] tab_ok rfl tb28 rfl tb4 rfl trivial rfl rfl rfl rfl rfl rfl rfl rfl ?_
    refine ar_app 18 [] tab_ok rfl tb28 rfl tb28 rfl tb4 rfl rfl rfl rfl ⟨rfl, rfl, trivial⟩ rfl (elOk.cons rfl rfl elOk.nil) app_one (by constructor <;> simp [flagsT] <;> omega) rfl rfl rfl ?_
    refine ar_assign rfl rfl rfl rfl ?_
    refine ar_nil ?_
    refine inblk_n ?_
    refine then_n ?_
    refine wp_reg (by kernel_rfl) ?_
    refine ar_move rfl rfl rfl rfl ?_
    refine ar_addi rfl rfl rfl rfl (by omega) (by omega) rfl rfl ?_
    refine ar_assign rfl rfl rfl rfl ?_
    refine ar_nil ?_
    exact loop_n (j + 1) (by omega) (by omega) (le_ren [(901, 18)] ⟨rfl, rfl, rfl, trivial⟩ ⟨(row_eq rfl (by rw [take_snoc (by omega)]; simp [flagsT])), trivial⟩ rfl rfl rfl rfl rfl)
  · refine ar_nil ?_
    refine then_n ?_
    refine wp_condF rfl ?_
    refine wp_exit ?_
    refine then_x (loop_x (inblk_e ?_))
    refine then_n ?_
    refine wp_seq ?_
    refine wp_reg (by kernel_rfl) ?_
    refine ar_move rfl rfl rfl rfl ?_
    refine ar_assign rfl rfl rfl rfl ?_
    refine ar_nil ?_
    refine then_n ?_
    refine wp_ret ?_
    refine ret_post rfl rfl ?_
    have hi : j = ls.length := by omega
    subst hi
    rw [List.take_length]
end Go.Vd
namespace Go.Vd
open Go.Proofs
instance : Inhabited StepT := ⟨⟨[], [], [], [], 0⟩⟩
def frT (a : Aig) (s : List Int) : List (List Int) → List StepT
  | [] => []
  | r :: rs => stepT a s r :: frT a (stepT a s r).n rs
def endT (a : Aig) (s : List Int) : List (List Int) → List Int
  | [] => s
  | r :: rs => endT a (stepT a s r).n rs
theorem frT_len (a : Aig) : ∀ (ins : List (List Int)) (s : List Int), (frT a s ins).length = ins.length
  | [], _ => rfl
  | r :: rs, s => by simp [frT, frT_len a rs]
theorem endT_snoc (a : Aig) (r : List Int) : ∀ (xs : List (List Int)) (s : List Int), endT a s (xs ++ [r]) = (stepT a (endT a s xs) r).n
  | [], _ => rfl
  | x :: xs, s => by simp [endT, endT_snoc a r xs]
theorem frT_get (a : Aig) : ∀ (ins : List (List Int)) (s : List Int) (j : Nat), j < ins.length → (frT a s ins).getD j default = stepT a (endT a s (ins.take j)) (ins.getD j default)
  | [], _, _, h => by simp at h
  | r :: rs, s, 0, _ => rfl
  | r :: rs, s, j + 1, h => by
    have := frT_get a rs (stepT a s r).n j (by simpa using h)
    simpa [frT, endT] using this
/-- A right trace of values. -/
structure Okt (a : Aig) (t : Trace) : Prop where
  r : RightT a t
  i : TriL t.ini
  n : ∀ r, r ∈ t.ins → TriL r
theorem okt_of {a : Aig} {t : Trace} (h : RightT a t) (h0 : Nn t.ini) (h1 : ∀ r, r ∈ t.ins → Nn r) : Okt a t := ⟨h, triL_of h.it h0, fun r hr => triL_of (h.rt r hr) (h1 r hr)⟩
theorem stepT_next {a : Aig} {s r : List Int} (hs : s.length = a.l.length) (ht : TriL s) (hr : (r.length : Int) = a.i) (hrt : TriL r) : shapeT a s r ∧ (stepT a s r).n.length = a.l.length ∧ TriL (stepT a s r).n := by
  have h : shapeT a s r := ⟨⟨hs, ht.isTri⟩, hr, hrt.isTri⟩
  refine ⟨h, ?_⟩
  rw [stepT_ok h]
  exact ⟨by simp, mapT_tri (valsT_tri (init_tri h (fun x hx => (ht x hx).1) (fun x hx => (hrt x hx).1)) _) _ _⟩
theorem endT_ok {a : Aig} : ∀ (ins : List (List Int)) (s : List Int), s.length = a.l.length → TriL s → (∀ r, r ∈ ins → (r.length : Int) = a.i ∧ TriL r) → (endT a s ins).length = a.l.length ∧ TriL (endT a s ins)
  | [], s, h, h', _ => ⟨h, h'⟩
  | r :: rs, s, h, h', hr => by
    have h1 := stepT_next h h' (hr r List.mem_cons_self).1 (hr r List.mem_cons_self).2
    exact endT_ok rs _ h1.2.1 h1.2.2 (fun x hx => hr x (List.mem_cons_of_mem _ hx))
theorem Okt.at {a : Aig} {t : Trace} (h : Okt a t) (j : Nat) : (endT a t.ini (t.ins.take j)).length = a.l.length ∧ TriL (endT a t.ini (t.ins.take j)) :=
  endT_ok _ _ h.r.il h.i (fun r hr => ⟨h.r.rl r (List.mem_of_mem_take hr), h.n r (List.mem_of_mem_take hr)⟩)
theorem Okt.row {a : Aig} {t : Trace} (h : Okt a t) {j : Nat} (hj : j < t.ins.length) : ((t.ins.getD j default).length : Int) = a.i ∧ TriL (t.ins.getD j default) := ⟨h.r.rl _ (getD_mem hj), h.n _ (getD_mem hj)⟩
theorem Okt.shape {a : Aig} {t : Trace} (h : Okt a t) {j : Nat} (hj : j < t.ins.length) : shapeT a (endT a t.ini (t.ins.take j)) (t.ins.getD j default) :=
  (stepT_next (h.at j).1 (h.at j).2 (h.row hj).1 (h.row hj).2).1
theorem TriL.nn {v : List Int} (h : TriL v) : Nn v := fun x hx => (h x hx).1
theorem step_lens {a : Aig} {s r : List Int} (h : shapeT a s r) : (stepT a s r).n.length = a.l.length ∧ (stepT a s r).o.length = a.outs.length ∧ (stepT a s r).b.length = a.bad.length ∧ (stepT a s r).c.length = a.con.length := by
  rw [stepT_ok h]; simp
def encFr (f : StepT) : List V := [.agg [slU f.n, slU f.o, slU f.b, slU f.c]]
theorem fr_enc (a : Aig) (s : List Int) (ins : List (List Int)) (j : Nat) (h : j < ins.length) : ((frT a s ins).map encFr)[j]? = some (encFr (stepT a (endT a s (ins.take j)) (ins.getD j default))) := by
  rw [← frT_get a ins s j h, map_get (by rw [frT_len]; exact h)]
theorem it_142 (a : Aig) (t : Trace) (hb : Bd a) (ho : Okt a t) : IterC Try.prog 142 [.ref (encT t), .ref (encA a)] ((frT a t.ini t.ins).map encFr) := by
  refine it_of (f := 142) (fn := Try.f142) (N := 35) (by kernel_rfl) rfl (by kernel_rfl) rfl rfl (fun l => [(0, .v (.fn (.yield l) [] [])), (1, .v (.ref (encT t))), (2, .v (.ref (encA a)))]) (fun _ => ⟨rfl, rfl, rfl, trivial⟩) rfl (fun _ => rfl) ?_
  intro 𝔅 l hy
  refine wp_seq ?_
  refine wp_reg (by kernel_rfl) ?_
  refine ar_fa_ref (cs' := [slU t.ini, slUU t.ins]) tab_ok rfl rfl tb101 rfl rfl rfl rfl ?_
  refine ar_ld_ref tab_ok rfl rfl tb70 rfl rfl rfl rfl ?_
  refine ar_assign rfl rfl rfl rfl ?_
  refine ar_nil ?_
  refine then_n ?_
  refine wp_seq ?_
  refine wp_reg (by kernel_rfl) ?_
  refine ar_fa_ref (cs' := [slUU t.ins]) tab_ok rfl rfl tb101 rfl rfl rfl rfl ?_
  refine ar_ld_ref tab_ok rfl rfl tb99 rfl rfl rfl rfl ?_
  refine ar_len tab_ok rfl rfl tb99 rfl len_map rfl rfl ?_
  refine ar_move rfl rfl rfl rfl ?_
  refine ar_nil ?_
  refine then_n ?_
  refine wp_block ?_
  refine wp_loop (α := Nat) (fun j => mk [(0, .v (.fn (.yield l) [] [])), (2, .v (.ref (encA a))), (4, .v (slU (endT a t.ini (t.ins.take j)))), (13, .v (slUU t.ins)), (14, .v (.int .i64 (t.ins.length : Nat))), (15, .v (.int .i64 (j : Nat)))] [] ⟨0, j + 1, []⟩) (fun j => j ≤ t.ins.length) (fun j => t.ins.length - j) 0 (Nat.zero_le _) (le_to ⟨rfl, rfl, rfl, rfl, rfl, rfl, trivial⟩ trivial rfl rfl rfl rfl) ?_
  rintro j hinv
  have hn1 := ho.r.n1
  have hat := ho.at j
  refine wp_seq ?_
  refine wp_reg (by kernel_rfl) ?_
  refine ar_lss_s rfl rfl rfl rfl rfl (fun h16 => ?_) (fun h16 => ?_)
  · refine ar_nil ?_
    refine then_n ?_
    refine wp_seq ?_
    refine wp_condT rfl ?_
    refine wp_skip ?_
    refine then_n ?_
    refine wp_seq ?_
    refine wp_block ?_
    refine wp_seq ?_
    refine wp_reg (by kernel_rfl) ?_
    refine ar_ia tab_ok rfl rfl rfl tb99 rfl tb70 (by omega) (map_get (n := j) (by omega)) rfl rfl rfl ?_
    refine ar_ld_ref tab_ok rfl rfl tb70 rfl rfl rfl rfl ?_
    refine ar_assign rfl rfl rfl rfl ?_
    refine ar_nil ?_
    refine then_n ?_
    refine wp_seq ?_
    refine wp_reg (by kernel_rfl) ?_
    refine ar_ld_refa (cs' := encA a) tab_ok rfl rfl tb27 rfl rfl rfl rfl rfl ?_
    refine ar_move rfl rfl rfl rfl ?_
    refine ar_move rfl rfl rfl rfl ?_
    refine ar_call [] (pc_58 a (endT a t.ini (t.ins.take j)) (t.ins.getD j default) hb hat.2.nn (ho.row (by omega)).2.nn (by have := hat.1; have := hb.l1; omega) (by have := (ho.row (j := j) (by omega)).1; have := hb.i1; omega)) rfl rfl rfl rfl rfl rfl trivial (.inl rfl) rfl rfl rfl ?_
    refine ar_move rfl rfl rfl rfl ?_
    refine ar_ext rfl rfl rfl rfl rfl ?_
    refine ar_ext rfl rfl rfl rfl rfl ?_
    refine ar_ext rfl rfl rfl rfl rfl ?_
    refine ar_alloc (id := 8) tab_ok rfl rfl tb83 rfl rfl rfl rfl ?_
    refine ar_assign rfl rfl rfl rfl ?_
    refine ar_st [] tab_ok rfl tb83 rfl rfl rfl trivial rfl rfl rfl rfl rfl rfl rfl rfl ?_
    refine ar_assign rfl rfl rfl rfl ?_
    refine ar_nil ?_
    refine then_n ?_
    refine wp_seq ?_
    refine wp_seq ?_
    refine wp_reg (by kernel_rfl) ?_
    refine ar_move rfl rfl rfl rfl ?_
    refine ar_move rfl rfl rfl rfl ?_
    refine ar_lda tab_ok rfl rfl rfl tb83 rfl rfl rfl rfl rfl rfl ?_
    refine ar_build [] tab_ok rfl tb167 rfl rfl trivial rfl rfl rfl rfl rfl rfl ?_
    refine ar_yield (j := j) hy (fr_enc a t.ini t.ins j (by omega)) rfl rfl rfl rfl rfl rfl rfl rfl rfl ?_ ?_
    · refine ar_not rfl rfl rfl rfl rfl ?_
      refine ar_nil ?_
      refine then_n ?_
      refine wp_condF rfl ?_
      refine wp_skip ?_
      refine then_n ?_
      refine wp_reg (by kernel_rfl) ?_
      refine ar_move rfl rfl rfl rfl ?_
      refine ar_assign rfl rfl rfl rfl ?_
      refine ar_nil ?_
      refine inblk_n ?_
      refine then_n ?_
      refine wp_reg (by kernel_rfl) ?_
      refine ar_addi rfl rfl rfl rfl (by omega) (by omega) rfl rfl ?_
      refine ar_move rfl rfl rfl rfl ?_
      refine ar_nil ?_
      exact loop_n (j + 1) (by omega) (by omega) (le_to ⟨rfl, rfl, (sl_eq rfl (by rw [take_snoc (by omega), endT_snoc])), rfl, rfl, rfl, trivial⟩ trivial rfl rfl rfl rfl)
    · refine ar_not rfl rfl rfl rfl rfl ?_
      refine ar_nil ?_
      refine then_n ?_
      refine wp_condT rfl ?_
      refine wp_ret ?_
      exact then_r (inblk_r (then_r (loop_r (inblk_r (⟨rfl, .inr rfl⟩)))))
  · refine ar_nil ?_
    refine then_n ?_
    refine wp_seq ?_
    refine wp_condF rfl ?_
    refine wp_exit ?_
    refine then_x (loop_x (inblk_e ?_))
    refine ⟨rfl, .inl ?_⟩
    show _ = ((frT a t.ini t.ins).map encFr).length + 1
    rw [List.length_map, frT_len]
    simp [mk]
    omega
theorem pc_122 (a : Aig) (t : Trace) : PCall Try.prog 122 [aigV a, trV t] (.fn (.func 142) [] [.ref (encT t), .ref (encA a)]) := by
  refine pc_of tab_ok (f := 122) (fn := Try.f122) (N := 6) (rs := [.tmp 4]) (by kernel_rfl) rfl (by kernel_rfl) rfl rfl [(0, .v (aigV a)), (1, .v (trV t))] ⟨rfl, rfl, trivial⟩ rfl rfl ?_
  intro B
  refine wp_seq ?_
  refine wp_reg (by kernel_rfl) ?_
  refine ar_box 2 [] rfl rfl rfl ⟨rfl, trivial⟩ rfl rfl rfl ?_
  refine ar_box 3 [] rfl rfl rfl ⟨rfl, trivial⟩ rfl rfl rfl ?_
  refine ar_any rfl rfl rfl ?_
  refine ar_nil ?_
  refine then_n ?_
  refine wp_seq ?_
  refine wp_reg (by kernel_rfl) ?_
  refine ar_mkf rfl rfl rfl rfl rfl rfl ?_
  refine ar_assign rfl rfl rfl rfl ?_
  refine ar_nil ?_
  refine then_n ?_
  refine wp_ret ?_
  refine ret_post rfl rfl ?_
  rfl
def statesT (a : Aig) (t : Trace) : List (List Int) × Int := if rightT a t then (t.ini :: (frT a t.ini t.ins).map StepT.n, 0) else ([], 7)
theorem statesT_ok {a : Aig} {t : Trace} (h : rightT a t = true) : statesT a t = (t.ini :: (frT a t.ini t.ins).map StepT.n, 0) := by simp only [statesT]; rw [if_pos h]
theorem statesT_bad {a : Aig} {t : Trace} (h : rightT a t = false) : statesT a t = ([], 7) := by simp only [statesT]; rw [if_neg (by rw [h]; exact Bool.false_ne_true)]
theorem fr_at {fs : List StepT} {k : Nat} {x : List V} (h : (fs.map encFr)[k]? = some x) : k < fs.length ∧ encFr (fs.getD k default) = x := by
  rw [List.getElem?_map, Option.map_eq_some_iff] at h
  obtain ⟨p, h1, rfl⟩ := h
  have hlt := (List.getElem?_eq_some_iff.1 h1).1
  refine ⟨hlt, ?_⟩
  rw [List.getD_eq_getElem?_getD, h1]; rfl
abbrev outT (a : Aig) (t : Trace) (j : Nat) : List (List Int) := t.ini :: ((frT a t.ini t.ins).take j).map StepT.n
theorem outT_len {a : Aig} {t : Trace} {j : Nat} (h : j ≤ t.ins.length) : (outT a t j).length = j + 1 := by
  have := frT_len a t.ins t.ini
  simp; omega
theorem outT_get {a : Aig} {t : Trace} : ∀ {j i : Nat}, j ≤ t.ins.length → i ≤ j → (outT a t j).getD i default = endT a t.ini (t.ins.take i)
  | j, 0, _, _ => by simp [endT]
  | j, i + 1, hj, hi => by
    have hl := frT_len a t.ins t.ini
    show ((((frT a t.ini t.ins).take j).map StepT.n).getD i default) = _
    have h1 : i < ((frT a t.ini t.ins).take j).length := by simp; omega
    rw [List.getD_eq_getElem?_getD, List.getElem?_map, List.getElem?_eq_getElem h1, List.getElem_take, take_snoc (by omega), endT_snoc, ← frT_get a t.ins t.ini i (by omega)]
    rw [List.getD_eq_getElem?_getD, List.getElem?_eq_getElem (by omega)]; rfl
theorem outT_snoc {a : Aig} {t : Trace} {j : Nat} (h : j < t.ins.length) : outT a t (j + 1) = outT a t j ++ [(stepT a (endT a t.ini (t.ins.take j)) (t.ins.getD j default)).n] := by
  have hl := frT_len a t.ins t.ini
  rw [← frT_get a t.ins t.ini j h]
  simp only [outT]
  rw [take_snoc (by omega)]; simp
theorem outT_all (a : Aig) (t : Trace) : outT a t t.ins.length = t.ini :: (frT a t.ini t.ins).map StepT.n := by
  simp only [outT]; rw [List.take_of_length_le (by rw [frT_len]; exact Nat.le_refl _)]
theorem pc_83 (a : Aig) (t : Trace) (hf : Fit a) (hg : Good a) (hz : SzT t) (hn : Nn t.ini) (hn2 : ∀ r, r ∈ t.ins → Nn r) : PCall Try.prog 83 [aigV a, trV t] (.tup [slUU (statesT a t).1, .int .i64 (statesT a t).2]) := by
  refine pc_of tab_ok (f := 83) (fn := Try.f83) (N := 47) (rs := [.tmp 4, .tmp 5]) (by kernel_rfl) rfl (by kernel_rfl) rfl rfl [(0, .v (aigV a)), (1, .v (trV t))] ⟨rfl, rfl, trivial⟩ rfl rfl ?_
  intro B
  have hb := hg.bd
  refine wp_seq ?_
  refine wp_reg (by kernel_rfl) ?_
  refine ar_box 2 [] rfl rfl rfl ⟨rfl, trivial⟩ rfl rfl rfl ?_
  refine ar_box 3 [] rfl rfl rfl ⟨rfl, trivial⟩ rfl rfl rfl ?_
  refine ar_assign rfl rfl rfl rfl ?_
  refine ar_assign rfl rfl rfl rfl ?_
  refine ar_nil ?_
  refine then_n ?_
  refine wp_seq ?_
  refine wp_reg (by kernel_rfl) ?_
  refine ar_lda tab_ok rfl rfl rfl tb27 rfl rfl rfl rfl rfl rfl ?_
  refine ar_lda tab_ok rfl rfl rfl tb101 rfl rfl rfl rfl rfl rfl ?_
  refine ar_call [] (pc_79 a t hf hn (by have := hz.il; omega) (by have := hz.nl; omega) (fun r hr => by have := hz.rl r hr; omega)) rfl rfl rfl rfl rfl rfl trivial (.inl rfl) rfl rfl rfl ?_
  refine ar_split (fun h14 => ?_) (fun h14 => ?_)
  · refine ar_assign rfl rfl rfl rfl ?_
    refine ar_nil ?_
    refine then_n ?_
    refine wp_seq ?_
    refine wp_seq ?_
    refine wp_reg (by kernel_rfl) ?_
    refine ar_move rfl rfl rfl rfl ?_
    refine ar_not rfl rfl rfl rfl rfl ?_
    refine ar_nil ?_
    refine then_n ?_
    refine wp_condF rfl ?_
    refine wp_skip ?_
    refine then_n ?_
    refine wp_seq ?_
    have ho := okt_of (rightT_iff.1 h14) hn hn2
    refine wp_reg (by kernel_rfl) ?_
    refine ar_fa tab_ok rfl rfl rfl tb101 rfl rfl rfl rfl rfl ?_
    refine ar_ld tab_ok rfl rfl rfl tb70 rfl rfl rfl rfl rfl ?_
    refine ar_bs_own (es := [t.ini].map encUs) 19 [] tab_ok rfl tb99 rfl tb70 rfl rfl ⟨rfl, trivial⟩ rfl rfl rfl rfl rfl rfl rfl rfl rfl ?_
    refine ar_assign rfl rfl rfl rfl ?_
    refine ar_nil ?_
    refine then_n ?_
    refine wp_seq ?_
    refine wp_seq ?_
    refine wp_reg (by kernel_rfl) ?_
    refine ar_assign rfl rfl rfl rfl ?_
    refine ar_nil ?_
    refine then_n ?_
    refine wp_block ?_
    refine wp_loop (α := Nat) (fun j => mk [(2, .ptr 2 0), (3, .ptr 3 0), (7, .own 901), (8, .v (.int .i64 (j : Nat)))] [(2, .box ((encA a).map .v)), (3, .box ((encT t).map .v)), (901, .row 70 1 ((outT a t j).map encUs))] 0) (fun j => j ≤ t.ins.length) (fun j => t.ins.length - j) 0 (Nat.zero_le _) (le_ren [(901, 19)] ⟨rfl, rfl, rfl, rfl, trivial⟩ ⟨rfl, rfl, rfl, trivial⟩ rfl rfl rfl rfl rfl) ?_
    rintro j hinv
    have hn1 := ho.r.n1
    have hat := ho.at j
    have hol := outT_len (a := a) (t := t) (j := j) hinv
    have hog := outT_get (a := a) (t := t) (j := j) (i := j) hinv (Nat.le_refl _)
    refine wp_seq ?_
    refine wp_seq ?_
    refine wp_reg (by kernel_rfl) ?_
    refine ar_move rfl rfl rfl rfl ?_
    refine ar_fa tab_ok rfl rfl rfl tb101 rfl rfl rfl rfl rfl ?_
    refine ar_ld tab_ok rfl rfl rfl tb99 rfl rfl rfl rfl rfl ?_
    refine ar_len tab_ok rfl rfl tb99 rfl len_map rfl rfl ?_
    refine ar_lss_s rfl rfl rfl rfl rfl (fun h24 => ?_) (fun h24 => ?_)
    · refine ar_nil ?_
      refine then_n ?_
      refine wp_condT rfl ?_
      refine wp_skip ?_
      refine then_n ?_
      refine wp_seq ?_
      refine wp_block ?_
      refine wp_seq ?_
      refine wp_draw (L := [([2], []), ([], []), ([], []), ([901], []), ([901], []), ([3], []), ([3], []), ([], []), ([], []), ([], []), ([], []), ([], []), ([], []), ([], []), ([], []), ([10], [10]), ([], []), ([10], [10]), ([], [])]) (by kernel_rfl) mixed (by kernel_rfl) ?_
      refine ar_lda tab_ok rfl rfl rfl tb27 rfl rfl rfl rfl rfl rfl ?_
      refine ar_move rfl rfl rfl rfl ?_
      refine ar_move rfl rfl rfl rfl ?_
      refine ar_ia_own tab_ok rfl rfl rfl rfl tb99 rfl tb70 rfl (by omega) (by simp only [List.length_map, hol]; omega) rfl rfl rfl rfl ?_
      refine ar_ld_eptr (y := slU (endT a t.ini (t.ins.take j))) tab_ok rfl rfl rfl tb70 rfl (by have := map_get (enc := encUs) (xs := outT a t j) (n := j) (by omega); rw [hog] at this; exact this) rfl rfl rfl ?_
      refine ar_fa tab_ok rfl rfl rfl tb101 rfl rfl rfl rfl rfl ?_
      refine ar_ld tab_ok rfl rfl rfl tb99 rfl rfl rfl rfl rfl ?_
      refine ar_move rfl rfl rfl rfl ?_
      refine ar_ia tab_ok rfl rfl rfl tb99 rfl tb70 (by omega) (map_get (n := j) (by omega)) rfl rfl rfl ?_
      refine ar_ld_ref tab_ok rfl rfl tb70 rfl rfl rfl rfl ?_
      refine ar_call [] (pc_59 a (endT a t.ini (t.ins.take j)) (t.ins.getD j default) hg (by have := hat.1; have := hb.l1; omega) (by have := (ho.row (j := j) (by omega)).1; have := hb.i1; omega)) rfl rfl rfl rfl rfl rfl trivial (.inl rfl) rfl rfl rfl ?_
      refine ar_move rfl rfl rfl rfl ?_
      refine ar_ext rfl rfl rfl rfl rfl ?_
      refine ar_ext rfl rfl rfl rfl rfl ?_
      refine ar_ext rfl rfl rfl rfl rfl ?_
      refine ar_alloc (id := 10) tab_ok rfl rfl tb83 rfl rfl rfl rfl ?_
      refine ar_assign rfl rfl rfl rfl ?_
      refine ar_st [] tab_ok rfl tb83 rfl rfl rfl trivial rfl rfl rfl rfl rfl rfl rfl rfl ?_
      refine ar_assign rfl rfl rfl rfl ?_
      refine ar_nil ?_
      refine then_n ?_
      refine wp_reg (by kernel_rfl) ?_
      refine ar_move rfl rfl rfl rfl ?_
      refine ar_move rfl rfl rfl rfl ?_
      refine ar_bs [] tab_ok rfl tb99 rfl tb70 rfl trivial rfl rfl rfl rfl rfl rfl rfl rfl ?_
      refine ar_app 45 [] tab_ok rfl tb99 rfl tb99 rfl tb70 rfl rfl rfl rfl ⟨rfl, rfl, trivial⟩ rfl (elOk.cons rfl rfl elOk.nil) app_one (by constructor <;> simp only [List.length_map, List.length_append, hol, List.length_cons, List.length_nil] <;> omega) rfl rfl rfl ?_
      refine ar_assign rfl rfl rfl rfl ?_
      refine ar_nil ?_
      refine inblk_n ?_
      refine then_n ?_
      refine wp_reg (by kernel_rfl) ?_
      refine ar_move rfl rfl rfl rfl ?_
      refine ar_addi rfl rfl rfl rfl (by omega) (by omega) rfl rfl ?_
      refine ar_assign rfl rfl rfl rfl ?_
      refine ar_nil ?_
      exact loop_n (j + 1) (by omega) (by omega) (le_ren [(901, 45)] ⟨rfl, rfl, rfl, rfl, trivial⟩ ⟨rfl, rfl, (row_eq rfl (by rw [outT_snoc (by omega)] <;> simp)), trivial⟩ rfl rfl rfl rfl rfl)
    · refine ar_nil ?_
      refine then_n ?_
      refine wp_condF rfl ?_
      refine wp_exit ?_
      refine then_x (loop_x (inblk_e ?_))
      refine then_n ?_
      refine wp_seq ?_
      refine wp_reg (by kernel_rfl) ?_
      refine ar_move rfl rfl rfl rfl ?_
      refine ar_assign rfl rfl rfl rfl ?_
      refine ar_assign rfl rfl rfl rfl ?_
      refine ar_nil ?_
      refine then_n ?_
      refine wp_ret ?_
      refine ret_post rfl rfl ?_
      have hi : j = t.ins.length := by omega
      subst hi
      rw [statesT_ok h14, outT_all]
  · refine ar_assign rfl rfl rfl rfl ?_
    refine ar_nil ?_
    refine then_n ?_
    refine wp_seq ?_
    refine wp_seq ?_
    refine wp_reg (by kernel_rfl) ?_
    refine ar_move rfl rfl rfl rfl ?_
    refine ar_not rfl rfl rfl rfl rfl ?_
    refine ar_nil ?_
    refine then_n ?_
    refine wp_condT rfl ?_
    refine wp_seq ?_
    refine wp_reg (by kernel_rfl) ?_
    refine ar_assign rfl rfl rfl rfl ?_
    refine ar_assign rfl rfl rfl rfl ?_
    refine ar_nil ?_
    refine then_n ?_
    refine wp_ret ?_
    refine then_r (ret_post rfl rfl ?_)
    rw [statesT_bad h14]; rfl
theorem pairs_eqR : ∀ {xs ys : List (List Int)}, pairs (fun a b : List Int => decide (a = b)) xs ys = decide (xs = ys)
  | [], [] => rfl
  | [], y :: ys => rfl
  | x :: xs, [] => rfl
  | x :: xs, y :: ys => by simp only [pairs, pairs_eqR, List.cons.injEq, Bool.decide_and]
def conT (f : StepT) : Bool := f.c.all fun x => decide (x = 1)
def ternGo (k : Nat) (bad : Int) : List StepT → Int
  | [] => bad
  | f :: fs => if conT f then ternGo k (f.b.getD k default) fs else 0
def ternaryT (a : Aig) (t : Trace) : Int := if rightT a t then (if ternGo t.bad.toNat 0 (frT a t.ini t.ins) = 1 then 0 else 8) else 7
theorem ternaryT_bad {a : Aig} {t : Trace} (h : rightT a t = false) : ternaryT a t = 7 := by simp only [ternaryT]; rw [if_neg (by rw [h]; exact Bool.false_ne_true)]
theorem ternaryT_0 {a : Aig} {t : Trace} (h : rightT a t = true) (h' : ternGo t.bad.toNat 0 (frT a t.ini t.ins) = 1) : ternaryT a t = 0 := by simp only [ternaryT]; rw [if_pos h, if_pos h']
theorem ternaryT_8 {a : Aig} {t : Trace} (h : rightT a t = true) (h' : ¬ ternGo t.bad.toNat 0 (frT a t.ini t.ins) = 1) : ternaryT a t = 8 := by simp only [ternaryT]; rw [if_pos h, if_neg h']
theorem conT_no {f : StepT} {i : Nat} (h : i < f.c.length) (h' : f.c.getD i default ≠ 1) : conT f = false := by
  simp only [conT]
  cases hb : (f.c.all fun x => decide (x = 1)) with
  | false => rfl
  | true =>
    have := List.all_eq_true.1 hb _ (getD_mem h)
    exact absurd (of_decide_eq_true this) h'
theorem conT_of {f : StepT} (h : ∀ q, q < f.c.length → f.c.getD q default = 1) : conT f = true := List.all_eq_true.2 fun x hx => by
  obtain ⟨q, hq, rfl⟩ := List.getElem_of_mem hx
  have := h q hq
  rw [List.getD_eq_getElem?_getD, List.getElem?_eq_getElem hq] at this
  exact decide_eq_true this
theorem ternGo_next {k j : Nat} {bad : Int} {fs : List StepT} (h : j < fs.length) (hc : conT (fs.getD j default) = true) : ternGo k bad (fs.drop j) = ternGo k ((fs.getD j default).b.getD k default) (fs.drop (j + 1)) := by
  rw [drop_cons h, ternGo, if_pos hc]
theorem ternGo_stop {k j : Nat} {bad : Int} {fs : List StepT} (h : j < fs.length) (hc : conT (fs.getD j default) = false) : ternGo k bad (fs.drop j) = 0 := by
  rw [drop_cons h, ternGo, if_neg (by rw [hc]; exact Bool.false_ne_true)]
theorem Okt.fb {a : Aig} {t : Trace} (h : Okt a t) {k : Nat} (hk : k < t.ins.length) : ((frT a t.ini t.ins).getD k default).b.length = a.bad.length ∧ ((frT a t.ini t.ins).getD k default).c.length = a.con.length := by
  rw [frT_get a t.ins t.ini k hk]
  have := step_lens (h.shape hk)
  exact ⟨this.2.2.1, this.2.2.2⟩
theorem pc_85 (a : Aig) (t : Trace) (hf : Fit a) (hb : Bd a) (hz : SzT t) (hn : Nn t.ini) (hn2 : ∀ r, r ∈ t.ins → Nn r) : PCall Try.prog 85 [aigV a, trV t] (.int .i64 (ternaryT a t)) := by
  refine pc_of tab_ok (f := 85) (fn := Try.f85) (N := 37) (rs := [.tmp 4]) (by kernel_rfl) rfl (by kernel_rfl) rfl rfl [(0, .v (aigV a)), (1, .v (trV t))] ⟨rfl, rfl, trivial⟩ rfl rfl ?_
  intro B
  refine wp_seq ?_
  refine wp_reg (by kernel_rfl) ?_
  refine ar_box 2 [] rfl rfl rfl ⟨rfl, trivial⟩ rfl rfl rfl ?_
  refine ar_box 3 [] rfl rfl rfl ⟨rfl, trivial⟩ rfl rfl rfl ?_
  refine ar_assign rfl rfl rfl rfl ?_
  refine ar_nil ?_
  refine then_n ?_
  refine wp_scope ?_
  refine wp_seq ?_
  refine wp_seq ?_
  refine wp_reg (by kernel_rfl) ?_
  refine ar_lda tab_ok rfl rfl rfl tb27 rfl rfl rfl rfl rfl rfl ?_
  refine ar_lda tab_ok rfl rfl rfl tb101 rfl rfl rfl rfl rfl rfl ?_
  refine ar_call [] (pc_113 a t hf hn (by have := hz.il; omega) (by have := hz.nl; omega) (fun r hr => by have := hz.rl r hr; omega)) rfl rfl rfl rfl rfl rfl trivial (.inl rfl) rfl rfl rfl ?_
  refine ar_split (fun h11 => ?_) (fun h11 => ?_)
  · refine ar_not rfl rfl rfl rfl rfl ?_
    refine ar_nil ?_
    refine then_n ?_
    refine wp_condF rfl ?_
    refine wp_skip ?_
    refine then_n ?_
    refine wp_seq ?_
    have ho := okt_of (rightT_iff.1 h11) hn hn2
    refine wp_reg (by kernel_rfl) ?_
    refine ar_alloc (id := 5) tab_ok rfl rfl tb72 rfl rfl rfl rfl ?_
    refine ar_st [] tab_ok rfl tb72 rfl rfl rfl trivial rfl rfl rfl rfl rfl rfl rfl rfl ?_
    refine ar_nil ?_
    refine then_n ?_
    refine wp_seq ?_
    refine wp_label ?_
    refine then_n ?_
    refine wp_seq ?_
    refine wp_seq ?_
    refine wp_reg (by kernel_rfl) ?_
    refine ar_lda tab_ok rfl rfl rfl tb27 rfl rfl rfl rfl rfl rfl ?_
    refine ar_lda tab_ok rfl rfl rfl tb101 rfl rfl rfl rfl rfl rfl ?_
    refine ar_call [] (pc_122 a t) rfl rfl rfl rfl rfl rfl trivial (.inl rfl) rfl rfl rfl ?_
    refine ar_nil ?_
    refine then_n ?_
    refine wp_block ?_
    refine wp_range (α := Int) (it_142 a t hb ho) (fun x hx => by obtain ⟨p, _, rfl⟩ := List.mem_map.1 hx; rfl) [(2, .ptr 2 0), (3, .ptr 3 0), (4, .v (.int .i64 0)), (5, .ptr 5 0), (15, .v (.fn (.func 142) [] [.ref (encT t), .ref (encA a)]))] [2, 3, 5] (fun y => [(2, .box ((encA a).map .v)), (3, .box ((encT t).map .v)), (5, .box [.v (.int .u8 y)])]) (fun k y => k ≤ (frT a t.ini t.ins).length ∧ ternGo t.bad.toNat 0 (frT a t.ini t.ins) = ternGo t.bad.toNat y ((frT a t.ini t.ins).drop k)) 0 0 0 ⟨Nat.zero_le _, rfl⟩ (le_to ⟨rfl, rfl, rfl, rfl, rfl, trivial⟩ ⟨rfl, rfl, rfl, trivial⟩ rfl rfl rfl rfl) rfl rfl rfl (fun _ => rfl) ?_ ?_
    · rintro l β k x y hx ⟨hk1, hk2⟩ 𝔅1
      obtain ⟨hk4, rfl⟩ := fr_at hx
      have hk5 := frT_len a t.ins t.ini
      have hk6 := ho.r.n1
      have hk7 := ho.fb (k := k) (by omega)
      have hk8 := ho.r.b0; have hk9 := ho.r.b1
      have hk10 := hb.c1
      refine wp_reg (by kernel_rfl) ?_
      refine ar_alloc (id := 6) tab_ok rfl rfl tb167 rfl rfl rfl rfl ?_
      refine ar_st [] tab_ok rfl tb167 rfl rfl rfl trivial rfl rfl rfl rfl rfl rfl rfl rfl ?_
      refine ar_nil ?_
      refine assign_n rfl ?_
      intro 𝔅2
      refine wp_block ?_
      refine wp_seq ?_
      refine wp_reg (by kernel_rfl) ?_
      refine ar_fa tab_ok rfl rfl rfl tb167 rfl rfl rfl rfl rfl ?_
      refine ar_ia_arr tab_ok rfl rfl rfl rfl tb83 rfl tb70 (by omega) (by omega) rfl rfl rfl rfl ?_
      refine ar_ld tab_ok rfl rfl rfl tb70 rfl rfl rfl rfl rfl ?_
      refine ar_fa tab_ok rfl rfl rfl tb101 rfl rfl rfl rfl rfl ?_
      refine ar_ld tab_ok rfl rfl rfl tb3 rfl rfl rfl rfl rfl ?_
      refine ar_ia tab_ok rfl rfl rfl tb70 rfl tb72 hk8 (map_get (n := t.bad.toNat) (by omega)) rfl rfl rfl ?_
      refine ar_ld_ref tab_ok rfl rfl tb72 rfl rfl rfl rfl ?_
      refine ar_st [] tab_ok rfl tb72 rfl rfl rfl trivial rfl rfl rfl rfl rfl rfl rfl rfl ?_
      refine ar_nil ?_
      refine then_n ?_
      refine wp_seq ?_
      refine wp_reg (by kernel_rfl) ?_
      refine ar_fa tab_ok rfl rfl rfl tb167 rfl rfl rfl rfl rfl ?_
      refine ar_ia_arr tab_ok rfl rfl rfl rfl tb83 rfl tb70 (by omega) (by omega) rfl rfl rfl rfl ?_
      refine ar_ld tab_ok rfl rfl rfl tb70 rfl rfl rfl rfl rfl ?_
      refine ar_len tab_ok rfl rfl tb70 rfl len_map rfl rfl ?_
      refine ar_move rfl rfl rfl rfl ?_
      refine ar_nil ?_
      refine then_n ?_
      refine wp_block ?_
      refine wp_loop (α := Nat) (fun i => mk [(2, .ptr 2 0), (3, .ptr 3 0), (4, .v (.int .i64 0)), (5, .ptr 5 0), (15, .v (.fn (.func 142) [] [.ref (encT t), .ref (encA a)])), (26, .v (slU ((frT a t.ini t.ins).getD k default).c)), (27, .v (.int .i64 (((frT a t.ini t.ins).getD k default).c.length : Nat))), (28, .v (.int .i64 (i : Nat)))] [(2, .box ((encA a).map .v)), (3, .box ((encT t).map .v)), (5, .box [.v (.int .u8 (((frT a t.ini t.ins).getD k default).b.getD t.bad.toNat default))])] ⟨0, 0, pinsOf [2, 3, 5] β⟩) (fun i => i ≤ ((frT a t.ini t.ins).getD k default).c.length ∧ ∀ q, q < i → ((frT a t.ini t.ins).getD k default).c.getD q default = 1) (fun i => ((frT a t.ini t.ins).getD k default).c.length - i) 0 ⟨Nat.zero_le _, fun q h => absurd h (Nat.not_lt_zero q)⟩ (le_to ⟨rfl, rfl, rfl, rfl, rfl, rfl, rfl, rfl, trivial⟩ ⟨rfl, rfl, rfl, trivial⟩ rfl rfl rfl rfl) ?_
      rintro i ⟨hq1, hq2⟩
      refine wp_seq ?_
      refine wp_reg (by kernel_rfl) ?_
      refine ar_lss_s rfl rfl rfl rfl rfl (fun h29 => ?_) (fun h29 => ?_)
      · refine ar_nil ?_
        refine then_n ?_
        refine wp_seq ?_
        refine wp_condT rfl ?_
        refine wp_skip ?_
        refine then_n ?_
        refine wp_seq ?_
        refine wp_block ?_
        refine wp_seq ?_
        refine wp_reg (by kernel_rfl) ?_
        refine ar_ia tab_ok rfl rfl rfl tb70 rfl tb72 (by omega) (map_get (n := i) (by omega)) rfl rfl rfl ?_
        refine ar_ld_ref tab_ok rfl rfl tb72 rfl rfl rfl rfl ?_
        refine ar_assign rfl rfl rfl rfl ?_
        refine ar_nil ?_
        refine then_n ?_
        refine wp_seq ?_
        refine wp_reg (by kernel_rfl) ?_
        refine ar_move rfl rfl rfl rfl ?_
        refine ar_neq_s rfl rfl rfl rfl rfl (fun h33 => ?_) (fun h33 => ?_)
        · refine ar_nil ?_
          refine then_n ?_
          refine wp_condT rfl ?_
          refine wp_seq ?_
          refine wp_reg (by kernel_rfl) ?_
          refine ar_st [] tab_ok rfl tb72 rfl rfl rfl trivial rfl rfl rfl rfl rfl rfl rfl rfl ?_
          refine ar_nil ?_
          refine then_n ?_
          refine wp_exit ?_
          refine inblk_x rfl (then_x (loop_x (inblk_x rfl (inblk_x rfl (round_x [(2, .box ((encA a).map .v)), (3, .box ((encT t).map .v)), (5, .box [.v (.int .u8 0)])] rfl (le_to ⟨rfl, rfl, rfl, rfl, rfl, trivial⟩ ⟨rfl, rfl, rfl, trivial⟩ rfl rfl rfl rfl) ?_)))))
          refine inblk_e ?_
          refine then_n ?_
          refine wp_seq ?_
          refine wp_seq ?_
          refine wp_reg (by kernel_rfl) ?_
          refine ar_ld tab_ok rfl rfl rfl tb72 rfl rfl rfl rfl rfl ?_
          refine ar_neq_s rfl rfl rfl rfl rfl (fun h36 => ?_) (fun h36 => ?_)
          · refine ar_nil ?_
            refine then_n ?_
            refine wp_condT rfl ?_
            refine wp_seq ?_
            refine wp_reg (by kernel_rfl) ?_
            refine ar_assign rfl rfl rfl rfl ?_
            refine ar_nil ?_
            refine then_n ?_
            refine wp_ret ?_
            refine then_r (nogo_r (ret_post rfl rfl ?_))
            first | (rw [ternaryT_bad h11]; done) | exact absurd (show (0 : Int) ≠ 1 by decide) h36 | (rw [ternaryT_8 h11 (by rw [hk2, ternGo_stop hk4 (conT_no (by omega) h33)]; decide)]; done) | (rw [ternaryT_8 h11 (by rw [hk2, List.drop_eq_nil_of_le (by rw [List.length_map]; exact Nat.le_refl _), ternGo]; exact h36)]; done) | (rw [ternaryT_0 h11 (by rw [hk2, List.drop_eq_nil_of_le (by rw [List.length_map]; exact Nat.le_refl _), ternGo]; exact Decidable.not_not.1 h36)]; done)
          · refine ar_nil ?_
            refine then_n ?_
            refine wp_condF rfl ?_
            refine wp_skip ?_
            refine then_n ?_
            refine wp_seq ?_
            refine wp_reg (by kernel_rfl) ?_
            refine ar_assign rfl rfl rfl rfl ?_
            refine ar_nil ?_
            refine then_n ?_
            refine wp_ret ?_
            refine nogo_r (ret_post rfl rfl ?_)
            first | (rw [ternaryT_bad h11]; done) | exact absurd (show (0 : Int) ≠ 1 by decide) h36 | (rw [ternaryT_8 h11 (by rw [hk2, ternGo_stop hk4 (conT_no (by omega) h33)]; decide)]; done) | (rw [ternaryT_8 h11 (by rw [hk2, List.drop_eq_nil_of_le (by rw [List.length_map]; exact Nat.le_refl _), ternGo]; exact h36)]; done) | (rw [ternaryT_0 h11 (by rw [hk2, List.drop_eq_nil_of_le (by rw [List.length_map]; exact Nat.le_refl _), ternGo]; exact Decidable.not_not.1 h36)]; done)
        · refine ar_nil ?_
          refine then_n ?_
          refine wp_condF rfl ?_
          refine wp_skip ?_
          refine inblk_n ?_
          refine then_n ?_
          refine wp_reg (by kernel_rfl) ?_
          refine ar_addi rfl rfl rfl rfl (by omega) (by omega) rfl rfl ?_
          refine ar_move rfl rfl rfl rfl ?_
          refine ar_nil ?_
          exact loop_n (i + 1) ⟨by omega, fun q hq => (Nat.lt_succ_iff_lt_or_eq.1 hq).elim (hq2 q) (fun e => e ▸ Decidable.not_not.1 h33)⟩ (by omega) (le_to ⟨rfl, rfl, rfl, rfl, rfl, rfl, rfl, rfl, trivial⟩ ⟨rfl, rfl, rfl, trivial⟩ rfl rfl rfl rfl)
      · refine ar_nil ?_
        refine then_n ?_
        refine wp_seq ?_
        refine wp_condF rfl ?_
        refine wp_exit ?_
        refine then_x (loop_x (inblk_e ?_))
        refine inblk_n ?_
        exact round_n (((frT a t.ini t.ins).getD k default).b.getD t.bad.toNat default) ⟨hk4, by rw [hk2, ternGo_next hk4 (conT_of (fun q hq => hq2 q (by omega)))]⟩ (le_to ⟨rfl, rfl, rfl, rfl, rfl, trivial⟩ ⟨rfl, rfl, rfl, trivial⟩ rfl rfl rfl rfl)
    · rintro y ⟨hk1, hk2⟩
      refine inblk_n ?_
      refine then_n ?_
      refine wp_seq ?_
      refine wp_seq ?_
      refine wp_reg (by kernel_rfl) ?_
      refine ar_ld tab_ok rfl rfl rfl tb72 rfl rfl rfl rfl rfl ?_
      refine ar_neq_s rfl rfl rfl rfl rfl (fun h36 => ?_) (fun h36 => ?_)
      · refine ar_nil ?_
        refine then_n ?_
        refine wp_condT rfl ?_
        refine wp_seq ?_
        refine wp_reg (by kernel_rfl) ?_
        refine ar_assign rfl rfl rfl rfl ?_
        refine ar_nil ?_
        refine then_n ?_
        refine wp_ret ?_
        refine then_r (nogo_r (ret_post rfl rfl ?_))
        first | (rw [ternaryT_bad h11]; done) | exact absurd (show (0 : Int) ≠ 1 by decide) h36 | (rw [ternaryT_8 h11 (by rw [hk2, ternGo_stop hk4 (conT_no (by omega) h33)]; decide)]; done) | (rw [ternaryT_8 h11 (by rw [hk2, List.drop_eq_nil_of_le (by rw [List.length_map]; exact Nat.le_refl _), ternGo]; exact h36)]; done) | (rw [ternaryT_0 h11 (by rw [hk2, List.drop_eq_nil_of_le (by rw [List.length_map]; exact Nat.le_refl _), ternGo]; exact Decidable.not_not.1 h36)]; done)
      · refine ar_nil ?_
        refine then_n ?_
        refine wp_condF rfl ?_
        refine wp_skip ?_
        refine then_n ?_
        refine wp_seq ?_
        refine wp_reg (by kernel_rfl) ?_
        refine ar_assign rfl rfl rfl rfl ?_
        refine ar_nil ?_
        refine then_n ?_
        refine wp_ret ?_
        refine nogo_r (ret_post rfl rfl ?_)
        first | (rw [ternaryT_bad h11]; done) | exact absurd (show (0 : Int) ≠ 1 by decide) h36 | (rw [ternaryT_8 h11 (by rw [hk2, ternGo_stop hk4 (conT_no (by omega) h33)]; decide)]; done) | (rw [ternaryT_8 h11 (by rw [hk2, List.drop_eq_nil_of_le (by rw [List.length_map]; exact Nat.le_refl _), ternGo]; exact h36)]; done) | (rw [ternaryT_0 h11 (by rw [hk2, List.drop_eq_nil_of_le (by rw [List.length_map]; exact Nat.le_refl _), ternGo]; exact Decidable.not_not.1 h36)]; done)
  · refine ar_not rfl rfl rfl rfl rfl ?_
    refine ar_nil ?_
    refine then_n ?_
    refine wp_condT rfl ?_
    refine wp_seq ?_
    refine wp_reg (by kernel_rfl) ?_
    refine ar_assign rfl rfl rfl rfl ?_
    refine ar_nil ?_
    refine then_n ?_
    refine wp_ret ?_
    refine then_r (nogo_r (ret_post rfl rfl ?_))
    first | (rw [ternaryT_bad h11]; done) | exact absurd (show (0 : Int) ≠ 1 by decide) h36 | (rw [ternaryT_8 h11 (by rw [hk2, ternGo_stop hk4 (conT_no (by omega) h33)]; decide)]; done) | (rw [ternaryT_8 h11 (by rw [hk2, List.drop_eq_nil_of_le (by rw [List.length_map]; exact Nat.le_refl _), ternGo]; exact h36)]; done) | (rw [ternaryT_0 h11 (by rw [hk2, List.drop_eq_nil_of_le (by rw [List.length_map]; exact Nat.le_refl _), ternGo]; exact Decidable.not_not.1 h36)]; done)
end Go.Vd
namespace Go.Vd
open Go.Proofs
theorem statesT_0 {a : Aig} {t : Trace} (h : ¬ (statesT a t).2 ≠ 0) : rightT a t = true := by
  cases hb : rightT a t with
  | true => rfl
  | false => rw [statesT_bad hb] at h; exact absurd (by decide) h
theorem statesT_7 {a : Aig} {t : Trace} (h : (statesT a t).2 ≠ 0) : ternaryT a t = (statesT a t).2 := by
  cases hb : rightT a t with
  | true => rw [statesT_ok hb] at h; exact absurd rfl h
  | false => rw [statesT_bad hb, ternaryT_bad hb]
theorem pc_68 (a : Aig) (t : Trace) (hf : Fit a) (hg : Good a) (hz : SzT t) (hn : Nn t.ini) (hn2 : ∀ r, r ∈ t.ins → Nn r) : PCall Try.prog 68 [aigV a, trV t] (.int .i64 (ternaryT a t)) := by
  refine pc_of tab_ok (f := 68) (fn := Try.f68) (N := 65) (rs := [.tmp 4]) (by kernel_rfl) rfl (by kernel_rfl) rfl rfl [(0, .v (aigV a)), (1, .v (trV t))] ⟨rfl, rfl, trivial⟩ rfl rfl ?_
  intro B
  have hb := hg.bd
  refine wp_seq ?_
  refine wp_reg (by kernel_rfl) ?_
  refine ar_box 2 [] rfl rfl rfl ⟨rfl, trivial⟩ rfl rfl rfl ?_
  refine ar_box 3 [] rfl rfl rfl ⟨rfl, trivial⟩ rfl rfl rfl ?_
  refine ar_assign rfl rfl rfl rfl ?_
  refine ar_nil ?_
  refine then_n ?_
  refine wp_seq ?_
  refine wp_reg (by kernel_rfl) ?_
  refine ar_lda tab_ok rfl rfl rfl tb27 rfl rfl rfl rfl rfl rfl ?_
  refine ar_lda tab_ok rfl rfl rfl tb101 rfl rfl rfl rfl rfl rfl ?_
  refine ar_call [] (pc_83 a t hf hg hz hn hn2) rfl rfl rfl rfl rfl rfl trivial (.inl rfl) rfl rfl rfl ?_
  refine ar_move rfl rfl rfl rfl ?_
  refine ar_ext rfl rfl rfl rfl rfl ?_
  refine ar_ext rfl rfl rfl rfl rfl ?_
  refine ar_assign rfl rfl rfl rfl ?_
  refine ar_assign rfl rfl rfl rfl ?_
  refine ar_nil ?_
  refine then_n ?_
  refine wp_seq ?_
  refine wp_seq ?_
  refine wp_reg (by kernel_rfl) ?_
  refine ar_move rfl rfl rfl rfl ?_
  refine ar_neq_s rfl rfl rfl rfl rfl (fun h20 => ?_) (fun h20 => ?_)
  · refine ar_nil ?_
    refine then_n ?_
    refine wp_condT rfl ?_
    refine wp_seq ?_
    refine wp_reg (by kernel_rfl) ?_
    refine ar_move rfl rfl rfl rfl ?_
    refine ar_assign rfl rfl rfl rfl ?_
    refine ar_nil ?_
    refine then_n ?_
    refine wp_ret ?_
    refine then_r (ret_post rfl rfl ?_)
    first | (rw [statesT_7 h20]; done) | (rw [ternaryT_8 hr (by rw [hj2, ternGo_stop (by omega) (by rw [hfk]; exact conT_no (by omega) h62)]; decide)]; done) | (rw [ternaryT_8 hr (by rw [hj2, List.drop_eq_nil_of_le (by omega), ternGo]; exact h64)]; done) | (rw [ternaryT_0 hr (by rw [hj2, List.drop_eq_nil_of_le (by omega), ternGo]; exact h64)]; done)
  · refine ar_nil ?_
    refine then_n ?_
    refine wp_condF rfl ?_
    refine wp_skip ?_
    refine then_n ?_
    refine wp_seq ?_
    have hr := statesT_0 h20
    have ho := okt_of (rightT_iff.1 hr) hn hn2
    rw [statesT_ok hr]
    refine wp_reg (by kernel_rfl) ?_
    refine ar_assign rfl rfl rfl rfl ?_
    refine ar_nil ?_
    refine then_n ?_
    refine wp_seq ?_
    refine wp_seq ?_
    refine wp_reg (by kernel_rfl) ?_
    refine ar_assign rfl rfl rfl rfl ?_
    refine ar_nil ?_
    refine then_n ?_
    refine wp_block ?_
    refine wp_loop (α := Nat × Int) (fun ⟨j, y⟩ => mk [(2, .ptr 2 0), (3, .ptr 3 0), (5, .v (slUU (outT a t t.ins.length))), (7, .v (.int .u8 y)), (8, .v (.int .i64 (j : Nat)))] [(2, .box ((encA a).map .v)), (3, .box ((encT t).map .v))] 0) (fun ⟨j, y⟩ => j ≤ t.ins.length ∧ ternGo t.bad.toNat 0 (frT a t.ini t.ins) = ternGo t.bad.toNat y ((frT a t.ini t.ins).drop j)) (fun ⟨j, y⟩ => t.ins.length - j) ⟨0, 0⟩ ⟨Nat.zero_le _, rfl⟩ (le_to ⟨rfl, rfl, (sl_eq rfl (by rw [outT_all])), rfl, rfl, trivial⟩ ⟨rfl, rfl, trivial⟩ rfl rfl rfl rfl) ?_
    rintro ⟨j, y⟩ ⟨hj1, hj2⟩
    have hn1 := ho.r.n1
    have hat := ho.at j
    have hfl := frT_len a t.ins t.ini
    have hol := outT_len (a := a) (t := t) (j := t.ins.length) (Nat.le_refl _)
    have hog := outT_get (a := a) (t := t) (j := t.ins.length) (i := j) (Nat.le_refl _) hj1
    have hk8 := ho.r.b0; have hk9 := ho.r.b1; have hk10 := hb.c1
    have hlen := fun h : j < t.ins.length => step_lens (ho.shape h)
    have hfk0 := fun h : j < t.ins.length => frT_get a t.ins t.ini j h
    refine wp_seq ?_
    refine wp_seq ?_
    refine wp_reg (by kernel_rfl) ?_
    refine ar_move rfl rfl rfl rfl ?_
    refine ar_fa tab_ok rfl rfl rfl tb101 rfl rfl rfl rfl rfl ?_
    refine ar_ld tab_ok rfl rfl rfl tb99 rfl rfl rfl rfl rfl ?_
    refine ar_len tab_ok rfl rfl tb99 rfl len_map rfl rfl ?_
    refine ar_lss_s rfl rfl rfl rfl rfl (fun h26 => ?_) (fun h26 => ?_)
    · refine ar_nil ?_
      refine then_n ?_
      refine wp_condT rfl ?_
      refine wp_skip ?_
      refine then_n ?_
      refine wp_seq ?_
      refine wp_block ?_
      refine wp_seq ?_
      refine wp_draw (L := [([2], []), ([], []), ([], []), ([], []), ([], []), ([3], []), ([3], []), ([], []), ([], []), ([], []), ([], []), ([], []), ([], []), ([], []), ([], []), ([10], [10]), ([], []), ([10], [10]), ([], [])]) (by kernel_rfl) mixed (by kernel_rfl) ?_
      refine ar_lda tab_ok rfl rfl rfl tb27 rfl rfl rfl rfl rfl rfl ?_
      refine ar_move rfl rfl rfl rfl ?_
      refine ar_move rfl rfl rfl rfl ?_
      refine ar_ia (el := encUs (endT a t.ini (t.ins.take j))) tab_ok rfl rfl rfl tb99 rfl tb70 (by omega) (by have := map_get (enc := encUs) (xs := outT a t t.ins.length) (n := j) (by omega); rw [hog] at this; exact this) rfl rfl rfl ?_
      refine ar_ld_ref tab_ok rfl rfl tb70 rfl rfl rfl rfl ?_
      refine ar_fa tab_ok rfl rfl rfl tb101 rfl rfl rfl rfl rfl ?_
      refine ar_ld tab_ok rfl rfl rfl tb99 rfl rfl rfl rfl rfl ?_
      refine ar_move rfl rfl rfl rfl ?_
      refine ar_ia tab_ok rfl rfl rfl tb99 rfl tb70 (by omega) (map_get (n := j) (by omega)) rfl rfl rfl ?_
      refine ar_ld_ref tab_ok rfl rfl tb70 rfl rfl rfl rfl ?_
      refine ar_call [] (pc_59 a (endT a t.ini (t.ins.take j)) (t.ins.getD j default) hg (by have := hat.1; have := hb.l1; omega) (by have := (ho.row (j := j) (by omega)).1; have := hb.i1; omega)) rfl rfl rfl rfl rfl rfl trivial (.inl rfl) rfl rfl rfl ?_
      refine ar_move rfl rfl rfl rfl ?_
      refine ar_ext rfl rfl rfl rfl rfl ?_
      refine ar_ext rfl rfl rfl rfl rfl ?_
      refine ar_ext rfl rfl rfl rfl rfl ?_
      refine ar_alloc (id := 10) tab_ok rfl rfl tb83 rfl rfl rfl rfl ?_
      refine ar_assign rfl rfl rfl rfl ?_
      refine ar_st [] tab_ok rfl tb83 rfl rfl rfl trivial rfl rfl rfl rfl rfl rfl rfl rfl ?_
      refine ar_assign rfl rfl rfl rfl ?_
      refine ar_nil ?_
      refine then_n ?_
      refine wp_seq ?_
      have hlen1 := hlen (by omega)
      have hfk := hfk0 (by omega)
      refine wp_reg (by kernel_rfl) ?_
      refine ar_ia_arr tab_ok rfl rfl rfl rfl tb83 rfl tb70 (by omega) (by omega) rfl rfl rfl rfl ?_
      refine ar_ld tab_ok rfl rfl rfl tb70 rfl rfl rfl rfl rfl ?_
      refine ar_fa tab_ok rfl rfl rfl tb101 rfl rfl rfl rfl rfl ?_
      refine ar_ld tab_ok rfl rfl rfl tb3 rfl rfl rfl rfl rfl ?_
      refine ar_ia tab_ok rfl rfl rfl tb70 rfl tb72 hk8 (map_get (n := t.bad.toNat) (by omega)) rfl rfl rfl ?_
      refine ar_ld_ref tab_ok rfl rfl tb72 rfl rfl rfl rfl ?_
      refine ar_assign rfl rfl rfl rfl ?_
      refine ar_nil ?_
      refine then_n ?_
      refine wp_seq ?_
      refine wp_reg (by kernel_rfl) ?_
      refine ar_assign rfl rfl rfl rfl ?_
      refine ar_nil ?_
      refine then_n ?_
      refine wp_block ?_
      refine wp_loop (α := Nat) (fun i => mk [(2, .ptr 2 0), (3, .ptr 3 0), (5, .v (slUU (outT a t t.ins.length))), (7, .v (.int .u8 ((stepT a (endT a t.ini (t.ins.take j)) (t.ins.getD j default)).b.getD t.bad.toNat default))), (8, .v (.int .i64 (j : Nat))), (10, .ptr 10 0), (12, .v (.int .i64 (i : Nat)))] [(2, .box ((encA a).map .v)), (3, .box ((encT t).map .v)), (10, .box [.v (slU (stepT a (endT a t.ini (t.ins.take j)) (t.ins.getD j default)).o), .v (slU (stepT a (endT a t.ini (t.ins.take j)) (t.ins.getD j default)).b), .v (slU (stepT a (endT a t.ini (t.ins.take j)) (t.ins.getD j default)).c)])] 0) (fun i => i ≤ (stepT a (endT a t.ini (t.ins.take j)) (t.ins.getD j default)).c.length ∧ ∀ q, q < i → (stepT a (endT a t.ini (t.ins.take j)) (t.ins.getD j default)).c.getD q default = 1) (fun i => (stepT a (endT a t.ini (t.ins.take j)) (t.ins.getD j default)).c.length - i) 0 ⟨Nat.zero_le _, fun q h => absurd h (Nat.not_lt_zero q)⟩ (le_to ⟨rfl, rfl, rfl, rfl, rfl, rfl, rfl, trivial⟩ ⟨rfl, rfl, rfl, trivial⟩ rfl rfl rfl rfl) ?_
      rintro i ⟨hq1, hq2⟩
      refine wp_seq ?_
      refine wp_seq ?_
      refine wp_reg (by kernel_rfl) ?_
      refine ar_move rfl rfl rfl rfl ?_
      refine ar_ia_arr tab_ok rfl rfl rfl rfl tb83 rfl tb70 (by omega) (by omega) rfl rfl rfl rfl ?_
      refine ar_ld tab_ok rfl rfl rfl tb70 rfl rfl rfl rfl rfl ?_
      refine ar_len tab_ok rfl rfl tb70 rfl len_map rfl rfl ?_
      refine ar_lss_s rfl rfl rfl rfl rfl (fun h54 => ?_) (fun h54 => ?_)
      · refine ar_nil ?_
        refine then_n ?_
        refine wp_condT rfl ?_
        refine wp_skip ?_
        refine then_n ?_
        refine wp_seq ?_
        refine wp_block ?_
        refine wp_seq ?_
        refine wp_reg (by kernel_rfl) ?_
        refine ar_ia_arr tab_ok rfl rfl rfl rfl tb83 rfl tb70 (by omega) (by omega) rfl rfl rfl rfl ?_
        refine ar_ld tab_ok rfl rfl rfl tb70 rfl rfl rfl rfl rfl ?_
        refine ar_move rfl rfl rfl rfl ?_
        refine ar_ia tab_ok rfl rfl rfl tb70 rfl tb72 (by omega) (map_get (n := i) (by omega)) rfl rfl rfl ?_
        refine ar_ld_ref tab_ok rfl rfl tb72 rfl rfl rfl rfl ?_
        refine ar_neq_s rfl rfl rfl rfl rfl (fun h62 => ?_) (fun h62 => ?_)
        · refine ar_nil ?_
          refine then_n ?_
          refine wp_condT rfl ?_
          refine wp_seq ?_
          refine wp_reg (by kernel_rfl) ?_
          refine ar_assign rfl rfl rfl rfl ?_
          refine ar_nil ?_
          refine then_n ?_
          refine wp_ret ?_
          refine inblk_r (then_r (loop_r (inblk_r (inblk_r (then_r (loop_r (inblk_r (then_r (ret_post rfl rfl ?_)))))))))
          first | (rw [statesT_7 h20]; done) | (rw [ternaryT_8 hr (by rw [hj2, ternGo_stop (by omega) (by rw [hfk]; exact conT_no (by omega) h62)]; decide)]; done) | (rw [ternaryT_8 hr (by rw [hj2, List.drop_eq_nil_of_le (by omega), ternGo]; exact h64)]; done) | (rw [ternaryT_0 hr (by rw [hj2, List.drop_eq_nil_of_le (by omega), ternGo]; exact h64)]; done)
        · refine ar_nil ?_
          refine then_n ?_
          refine wp_condF rfl ?_
          refine wp_skip ?_
          refine inblk_n ?_
          refine then_n ?_
          refine wp_reg (by kernel_rfl) ?_
          refine ar_move rfl rfl rfl rfl ?_
          refine ar_addi rfl rfl rfl rfl (by omega) (by omega) rfl rfl ?_
          refine ar_assign rfl rfl rfl rfl ?_
          refine ar_nil ?_
          exact loop_n (i + 1) ⟨by omega, fun q hq => (Nat.lt_succ_iff_lt_or_eq.1 hq).elim (hq2 q) (fun e => e ▸ Decidable.not_not.1 h62)⟩ (by omega) (le_to ⟨rfl, rfl, rfl, rfl, rfl, rfl, rfl, trivial⟩ ⟨rfl, rfl, rfl, trivial⟩ rfl rfl rfl rfl)
      · refine ar_nil ?_
        refine then_n ?_
        refine wp_condF rfl ?_
        refine wp_exit ?_
        refine then_x (loop_x (inblk_e ?_))
        refine inblk_n ?_
        refine then_n ?_
        refine wp_reg (by kernel_rfl) ?_
        refine ar_move rfl rfl rfl rfl ?_
        refine ar_addi rfl rfl rfl rfl (by omega) (by omega) rfl rfl ?_
        refine ar_assign rfl rfl rfl rfl ?_
        refine ar_nil ?_
        exact loop_n ⟨j + 1, _⟩ ⟨by omega, by rw [hj2, ternGo_next (by omega) (by rw [hfk]; exact conT_of (fun q hq => hq2 q (by omega))), hfk]⟩ (by show t.ins.length - (j + 1) < t.ins.length - j; omega) (le_to ⟨rfl, rfl, rfl, rfl, rfl, trivial⟩ ⟨rfl, rfl, trivial⟩ rfl rfl rfl rfl)
    · refine ar_nil ?_
      refine then_n ?_
      refine wp_condF rfl ?_
      refine wp_exit ?_
      refine then_x (loop_x (inblk_e ?_))
      refine then_n ?_
      refine wp_seq ?_
      refine wp_seq ?_
      refine wp_reg (by kernel_rfl) ?_
      refine ar_move rfl rfl rfl rfl ?_
      refine ar_eql_s rfl rfl rfl rfl rfl (fun h64 => ?_) (fun h64 => ?_)
      · refine ar_nil ?_
        refine then_n ?_
        refine wp_condT rfl ?_
        refine wp_seq ?_
        refine wp_reg (by kernel_rfl) ?_
        refine ar_assign rfl rfl rfl rfl ?_
        refine ar_nil ?_
        refine then_n ?_
        refine wp_ret ?_
        refine then_r (ret_post rfl rfl ?_)
        first | (rw [statesT_7 h20]; done) | (rw [ternaryT_8 hr (by rw [hj2, ternGo_stop (by omega) (by rw [hfk]; exact conT_no (by omega) h62)]; decide)]; done) | (rw [ternaryT_8 hr (by rw [hj2, List.drop_eq_nil_of_le (by omega), ternGo]; exact h64)]; done) | (rw [ternaryT_0 hr (by rw [hj2, List.drop_eq_nil_of_le (by omega), ternGo]; exact h64)]; done)
      · refine ar_nil ?_
        refine then_n ?_
        refine wp_condF rfl ?_
        refine wp_skip ?_
        refine then_n ?_
        refine wp_seq ?_
        refine wp_reg (by kernel_rfl) ?_
        refine ar_assign rfl rfl rfl rfl ?_
        refine ar_nil ?_
        refine then_n ?_
        refine wp_ret ?_
        refine ret_post rfl rfl ?_
        first | (rw [statesT_7 h20]; done) | (rw [ternaryT_8 hr (by rw [hj2, ternGo_stop (by omega) (by rw [hfk]; exact conT_no (by omega) h62)]; decide)]; done) | (rw [ternaryT_8 hr (by rw [hj2, List.drop_eq_nil_of_le (by omega), ternGo]; exact h64)]; done) | (rw [ternaryT_0 hr (by rw [hj2, List.drop_eq_nil_of_le (by omega), ternGo]; exact h64)]; done)
def wholeGo (a : Aig) (k : Nat) (bad : Bool) (s : List Bool) : List (List Int) → Bool
  | [] => bad
  | r :: rs => if (stepOk a s (flagsT r)).c.any (fun b => false == b) then false else wholeGo a k ((stepOk a s (flagsT r)).b.getD k default) (stepOk a s (flagsT r)).n rs
def wholeT (a : Aig) (t : Trace) : Int := if rightT a t = true ∧ holesT t = 0 then (if wholeGo a t.bad.toNat false (flagsT t.ini) t.ins = true then 0 else 8) else 7
theorem wholeT_bad {a : Aig} {t : Trace} (h : ¬ (rightT a t = true ∧ holesT t = 0)) : wholeT a t = 7 := by simp only [wholeT]; rw [if_neg h]
theorem wholeT_0 {a : Aig} {t : Trace} (h : rightT a t = true) (h0 : holesT t = 0) (h' : wholeGo a t.bad.toNat false (flagsT t.ini) t.ins = true) : wholeT a t = 0 := by simp only [wholeT]; rw [if_pos ⟨h, h0⟩, if_pos h']
theorem wholeT_8 {a : Aig} {t : Trace} (h : rightT a t = true) (h0 : holesT t = 0) (h' : wholeGo a t.bad.toNat false (flagsT t.ini) t.ins = false) : wholeT a t = 8 := by simp only [wholeT]; rw [if_pos ⟨h, h0⟩, if_neg (by rw [h']; exact Bool.false_ne_true)]
theorem wholeGo_next {a : Aig} {k j : Nat} {bad : Bool} {s : List Bool} {ins : List (List Int)} (h : j < ins.length) (hc : (stepOk a s (flagsT (ins.getD j default))).c.any (fun b => false == b) = false) :
    wholeGo a k bad s (ins.drop j) = wholeGo a k ((stepOk a s (flagsT (ins.getD j default))).b.getD k default) (stepOk a s (flagsT (ins.getD j default))).n (ins.drop (j + 1)) := by
  rw [drop_cons h, wholeGo, if_neg (by rw [hc]; exact Bool.false_ne_true)]
theorem wholeGo_stop {a : Aig} {k j : Nat} {bad : Bool} {s : List Bool} {ins : List (List Int)} (h : j < ins.length) (hc : (stepOk a s (flagsT (ins.getD j default))).c.any (fun b => false == b) = true) : wholeGo a k bad s (ins.drop j) = false := by
  rw [drop_cons h, wholeGo, if_pos hc]
theorem flagsT_len (l : List Int) : (flagsT l).length = l.length := List.length_map ..
theorem pc_35_ok (a : Aig) (st inp : List Bool) (hg : Good a) (h : shapeOk a st inp) : PCall Try.prog 35 [aigV a, slB st, slB inp] (stepOk a st inp).v := by
  have := pc_35 a st inp hg
  rwa [stepS_is h] at this
theorem pc_77 (a : Aig) (t : Trace) (hf : Fit a) (hg : Good a) (hz : SzT t) (hn : Nn t.ini) (hn2 : ∀ r, r ∈ t.ins → Nn r) : PCall Try.prog 77 [aigV a, trV t] (.int .i64 (wholeT a t)) := by
  refine pc_of tab_ok (f := 77) (fn := Try.f77) (N := 69) (rs := [.tmp 4]) (by kernel_rfl) rfl (by kernel_rfl) rfl rfl [(0, .v (aigV a)), (1, .v (trV t))] ⟨rfl, rfl, trivial⟩ rfl rfl ?_
  intro B
  have hb := hg.bd
  refine wp_seq ?_
  refine wp_reg (by kernel_rfl) ?_
  refine ar_box 2 [] rfl rfl rfl ⟨rfl, trivial⟩ rfl rfl rfl ?_
  refine ar_box 3 [] rfl rfl rfl ⟨rfl, trivial⟩ rfl rfl rfl ?_
  refine ar_assign rfl rfl rfl rfl ?_
  refine ar_nil ?_
  refine then_n ?_
  refine wp_seq ?_
  refine wp_reg (by kernel_rfl) ?_
  refine ar_lda tab_ok rfl rfl rfl tb27 rfl rfl rfl rfl rfl rfl ?_
  refine ar_lda tab_ok rfl rfl rfl tb101 rfl rfl rfl rfl rfl rfl ?_
  refine ar_call [] (pc_79 a t hf hn (by have := hz.il; omega) (by have := hz.nl; omega) (fun r hr => by have := hz.rl r hr; omega)) rfl rfl rfl rfl rfl rfl trivial (.inl rfl) rfl rfl rfl ?_
  refine ar_split (fun h16 => ?_) (fun h16 => ?_)
  · refine ar_assign rfl rfl rfl rfl ?_
    refine ar_nil ?_
    refine then_n ?_
    refine wp_seq ?_
    refine wp_reg (by kernel_rfl) ?_
    refine ar_lda tab_ok rfl rfl rfl tb101 rfl rfl rfl rfl rfl rfl ?_
    refine ar_call [] (pc_90 t hz) rfl rfl rfl rfl rfl rfl trivial (.inl rfl) rfl rfl rfl ?_
    refine ar_split (fun h18 => ?_) (fun h18 => ?_)
    · refine ar_assign rfl rfl rfl rfl ?_
      refine ar_nil ?_
      refine then_n ?_
      refine wp_seq ?_
      refine wp_seq ?_
      refine wp_reg (by kernel_rfl) ?_
      refine ar_move rfl rfl rfl rfl ?_
      refine ar_not rfl rfl rfl rfl rfl ?_
      refine ar_move rfl rfl rfl rfl ?_
      refine ar_move rfl rfl rfl rfl ?_
      refine ar_not rfl rfl rfl rfl rfl ?_
      refine ar_pickF rfl rfl rfl rfl rfl ?_
      refine ar_nil ?_
      refine then_n ?_
      refine wp_condF rfl ?_
      refine wp_skip ?_
      refine then_n ?_
      refine wp_seq ?_
      have hr := rightT_iff.1 h16
      have hh := of_decide_eq_true h18
      refine wp_reg (by kernel_rfl) ?_
      refine ar_fa tab_ok rfl rfl rfl tb101 rfl rfl rfl rfl rfl ?_
      refine ar_ld tab_ok rfl rfl rfl tb70 rfl rfl rfl rfl rfl ?_
      refine ar_call [] (pc_119 t.ini hz.il) rfl rfl rfl rfl rfl rfl trivial (.inl rfl) rfl rfl rfl ?_
      refine ar_assign rfl rfl rfl rfl ?_
      refine ar_nil ?_
      refine then_n ?_
      refine wp_seq ?_
      refine wp_reg (by kernel_rfl) ?_
      refine ar_assign rfl rfl rfl rfl ?_
      refine ar_nil ?_
      refine then_n ?_
      refine wp_seq ?_
      refine wp_seq ?_
      refine wp_reg (by kernel_rfl) ?_
      refine ar_assign rfl rfl rfl rfl ?_
      refine ar_nil ?_
      refine then_n ?_
      refine wp_block ?_
      refine wp_loop (α := Nat × Bool × List Bool) (fun ⟨j, y, s⟩ => mk [(2, .ptr 2 0), (3, .ptr 3 0), (7, .v (slB s)), (8, .v (.bool y)), (9, .v (.int .i64 (j : Nat)))] [(2, .box ((encA a).map .v)), (3, .box ((encT t).map .v))] 0) (fun ⟨j, y, s⟩ => j ≤ t.ins.length ∧ s.length = a.l.length ∧ wholeGo a t.bad.toNat false (flagsT t.ini) t.ins = wholeGo a t.bad.toNat y s (t.ins.drop j)) (fun ⟨j, y, s⟩ => t.ins.length - j) ⟨0, false, flagsT t.ini⟩ ⟨Nat.zero_le _, by rw [flagsT_len]; exact hr.il, rfl⟩ (le_to ⟨rfl, rfl, rfl, rfl, rfl, trivial⟩ ⟨rfl, rfl, trivial⟩ rfl rfl rfl rfl) ?_
      rintro ⟨j, y, s⟩ ⟨hj1, hj2, hj3⟩
      have hn1 := hr.n1
      have hk8 := hr.b0; have hk9 := hr.b1; have hk10 := hb.c1
      have hso := fun h : j < t.ins.length => (⟨hj2, by rw [flagsT_len]; exact hr.rl _ (getD_mem h)⟩ : shapeOk a s (flagsT (t.ins.getD j default)))
      have hrl := fun h : j < t.ins.length => hz.rl (t.ins.getD j default) (getD_mem h)
      refine wp_seq ?_
      refine wp_seq ?_
      refine wp_reg (by kernel_rfl) ?_
      refine ar_move rfl rfl rfl rfl ?_
      refine ar_fa tab_ok rfl rfl rfl tb101 rfl rfl rfl rfl rfl ?_
      refine ar_ld tab_ok rfl rfl rfl tb99 rfl rfl rfl rfl rfl ?_
      refine ar_len tab_ok rfl rfl tb99 rfl len_map rfl rfl ?_
      refine ar_lss_s rfl rfl rfl rfl rfl (fun h32 => ?_) (fun h32 => ?_)
      · refine ar_nil ?_
        refine then_n ?_
        refine wp_condT rfl ?_
        refine wp_skip ?_
        refine then_n ?_
        refine wp_seq ?_
        refine wp_block ?_
        refine wp_seq ?_
        refine wp_draw (L := [([2], []), ([], []), ([3], []), ([3], []), ([], []), ([], []), ([], []), ([], []), ([], []), ([], []), ([], []), ([], []), ([], []), ([11], [11]), ([], []), ([11], [11]), ([], [])]) (by kernel_rfl) mixed (by kernel_rfl) ?_
        refine ar_lda tab_ok rfl rfl rfl tb27 rfl rfl rfl rfl rfl rfl ?_
        refine ar_move rfl rfl rfl rfl ?_
        refine ar_fa tab_ok rfl rfl rfl tb101 rfl rfl rfl rfl rfl ?_
        refine ar_ld tab_ok rfl rfl rfl tb99 rfl rfl rfl rfl rfl ?_
        refine ar_move rfl rfl rfl rfl ?_
        refine ar_ia tab_ok rfl rfl rfl tb99 rfl tb70 (by omega) (map_get (n := j) (by omega)) rfl rfl rfl ?_
        refine ar_ld_ref tab_ok rfl rfl tb70 rfl rfl rfl rfl ?_
        refine ar_call [] (pc_119 (t.ins.getD j default) (hrl (by omega))) rfl rfl rfl rfl rfl rfl trivial (.inl rfl) rfl rfl rfl ?_
        refine ar_call [] (pc_35_ok a s (flagsT (t.ins.getD j default)) hg (hso (by omega))) rfl rfl rfl rfl rfl rfl trivial (.inl rfl) rfl rfl rfl ?_
        refine ar_move rfl rfl rfl rfl ?_
        refine ar_ext rfl rfl rfl rfl rfl ?_
        refine ar_ext rfl rfl rfl rfl rfl ?_
        refine ar_ext rfl rfl rfl rfl rfl ?_
        refine ar_alloc (id := 11) tab_ok rfl rfl tb40 rfl rfl rfl rfl ?_
        refine ar_assign rfl rfl rfl rfl ?_
        refine ar_st [] tab_ok rfl tb40 rfl rfl rfl trivial rfl rfl rfl rfl rfl rfl rfl rfl ?_
        refine ar_assign rfl rfl rfl rfl ?_
        refine ar_nil ?_
        refine then_n ?_
        refine wp_seq ?_
        refine wp_seq ?_
        refine wp_reg (by kernel_rfl) ?_
        refine ar_assign rfl rfl rfl rfl ?_
        refine ar_nil ?_
        refine then_n ?_
        refine wp_block ?_
        refine wp_loop (α := Nat) (fun i => mk [(2, .ptr 2 0), (3, .ptr 3 0), (9, .v (.int .i64 (j : Nat))), (10, .v (slB (stepOk a s (flagsT (t.ins.getD j default))).n)), (11, .ptr 11 0), (13, .v (.int .i64 (i : Nat)))] [(2, .box ((encA a).map .v)), (3, .box ((encT t).map .v)), (11, .box [.v (slB (stepOk a s (flagsT (t.ins.getD j default))).o), .v (slB (stepOk a s (flagsT (t.ins.getD j default))).b), .v (slB (stepOk a s (flagsT (t.ins.getD j default))).c)])] 0) (fun i => i ≤ (stepOk a s (flagsT (t.ins.getD j default))).c.length ∧ ∀ q, q < i → (stepOk a s (flagsT (t.ins.getD j default))).c.getD q default = true) (fun i => (stepOk a s (flagsT (t.ins.getD j default))).c.length - i) 0 ⟨Nat.zero_le _, fun q h => absurd h (Nat.not_lt_zero q)⟩ (le_to ⟨rfl, rfl, rfl, rfl, rfl, rfl, trivial⟩ ⟨rfl, rfl, rfl, trivial⟩ rfl rfl rfl rfl) ?_
        rintro i ⟨hq1, hq2⟩
        have hcl : (stepOk a s (flagsT (t.ins.getD j default))).c.length = a.con.length := by simp
        refine wp_seq ?_
        refine wp_seq ?_
        refine wp_reg (by kernel_rfl) ?_
        refine ar_move rfl rfl rfl rfl ?_
        refine ar_ia_arr tab_ok rfl rfl rfl rfl tb40 rfl tb28 (by omega) (by omega) rfl rfl rfl rfl ?_
        refine ar_ld tab_ok rfl rfl rfl tb28 rfl rfl rfl rfl rfl ?_
        refine ar_len tab_ok rfl rfl tb28 rfl len_map rfl rfl ?_
        refine ar_lss_s rfl rfl rfl rfl rfl (fun h52 => ?_) (fun h52 => ?_)
        · refine ar_nil ?_
          refine then_n ?_
          refine wp_condT rfl ?_
          refine wp_skip ?_
          refine then_n ?_
          refine wp_seq ?_
          refine wp_block ?_
          refine wp_seq ?_
          refine wp_reg (by kernel_rfl) ?_
          refine ar_ia_arr tab_ok rfl rfl rfl rfl tb40 rfl tb28 (by omega) (by omega) rfl rfl rfl rfl ?_
          refine ar_ld tab_ok rfl rfl rfl tb28 rfl rfl rfl rfl rfl ?_
          refine ar_move rfl rfl rfl rfl ?_
          refine ar_ia tab_ok rfl rfl rfl tb28 rfl tb4 (by omega) (map_get (n := i) (by omega)) rfl rfl rfl ?_
          refine ar_ld_ref tab_ok rfl rfl tb4 rfl rfl rfl rfl ?_
          refine ar_split (fun h59 => ?_) (fun h59 => ?_)
          · refine ar_not rfl rfl rfl rfl rfl ?_
            refine ar_nil ?_
            refine then_n ?_
            refine wp_condF rfl ?_
            refine wp_skip ?_
            refine inblk_n ?_
            refine then_n ?_
            refine wp_reg (by kernel_rfl) ?_
            refine ar_move rfl rfl rfl rfl ?_
            refine ar_addi rfl rfl rfl rfl (by omega) (by omega) rfl rfl ?_
            refine ar_assign rfl rfl rfl rfl ?_
            refine ar_nil ?_
            exact loop_n (i + 1) ⟨by omega, fun q hq => (Nat.lt_succ_iff_lt_or_eq.1 hq).elim (hq2 q) (fun e => e ▸ h59)⟩ (by omega) (le_to ⟨rfl, rfl, rfl, rfl, rfl, rfl, trivial⟩ ⟨rfl, rfl, rfl, trivial⟩ rfl rfl rfl rfl)
          · refine ar_not rfl rfl rfl rfl rfl ?_
            refine ar_nil ?_
            refine then_n ?_
            refine wp_condT rfl ?_
            refine wp_seq ?_
            refine wp_reg (by kernel_rfl) ?_
            refine ar_assign rfl rfl rfl rfl ?_
            refine ar_nil ?_
            refine then_n ?_
            refine wp_ret ?_
            refine inblk_r (then_r (loop_r (inblk_r (then_r (inblk_r (then_r (loop_r (inblk_r (then_r (ret_post rfl rfl ?_))))))))))
            first | (rw [wholeT_8 h16 hh (by rw [hj3, wholeGo_stop (by omega) (any_of (j := i) (by omega) (by rw [h59]; rfl))])]; done) | (rw [wholeT_8 h16 hh (by rw [hj3, List.drop_eq_nil_of_le (by omega), wholeGo]; exact h68)]; done) | (rw [wholeT_0 h16 hh (by rw [hj3, List.drop_eq_nil_of_le (by omega), wholeGo]; exact h68)]; done) | (rw [wholeT_bad (fun h => Bool.false_ne_true (h16.symm.trans h.1))]; done) | (rw [wholeT_bad (fun h => of_decide_eq_false h18 h.2)]; done)
        · refine ar_nil ?_
          refine then_n ?_
          refine wp_condF rfl ?_
          refine wp_exit ?_
          refine then_x (loop_x (inblk_e ?_))
          refine then_n ?_
          refine wp_seq ?_
          refine wp_reg (by kernel_rfl) ?_
          refine ar_ia_arr tab_ok rfl rfl rfl rfl tb40 rfl tb28 (by omega) (by omega) rfl rfl rfl rfl ?_
          refine ar_ld tab_ok rfl rfl rfl tb28 rfl rfl rfl rfl rfl ?_
          refine ar_fa tab_ok rfl rfl rfl tb101 rfl rfl rfl rfl rfl ?_
          refine ar_ld tab_ok rfl rfl rfl tb3 rfl rfl rfl rfl rfl ?_
          refine ar_ia tab_ok rfl rfl rfl tb28 rfl tb4 hk8 (map_get (n := t.bad.toNat) (by simp; omega)) rfl rfl rfl ?_
          refine ar_ld_ref tab_ok rfl rfl tb4 rfl rfl rfl rfl ?_
          refine ar_split (fun h66 => ?_) (fun h66 => ?_)
          · refine ar_assign rfl rfl rfl rfl ?_
            refine ar_nil ?_
            refine then_n ?_
            refine wp_reg (by kernel_rfl) ?_
            refine ar_move rfl rfl rfl rfl ?_
            refine ar_assign rfl rfl rfl rfl ?_
            refine ar_nil ?_
            refine inblk_n ?_
            refine then_n ?_
            refine wp_reg (by kernel_rfl) ?_
            refine ar_move rfl rfl rfl rfl ?_
            refine ar_addi rfl rfl rfl rfl (by omega) (by omega) rfl rfl ?_
            refine ar_assign rfl rfl rfl rfl ?_
            refine ar_nil ?_
            exact loop_n ⟨j + 1, _, _⟩ ⟨by omega, by simp, by rw [hj3, wholeGo_next (by omega) (any_no (fun q hq => by rw [hq2 q (by omega)]; rfl)), h66]⟩ (by show t.ins.length - (j + 1) < t.ins.length - j; omega) (le_to ⟨rfl, rfl, rfl, rfl, rfl, trivial⟩ ⟨rfl, rfl, trivial⟩ rfl rfl rfl rfl)
          · refine ar_assign rfl rfl rfl rfl ?_
            refine ar_nil ?_
            refine then_n ?_
            refine wp_reg (by kernel_rfl) ?_
            refine ar_move rfl rfl rfl rfl ?_
            refine ar_assign rfl rfl rfl rfl ?_
            refine ar_nil ?_
            refine inblk_n ?_
            refine then_n ?_
            refine wp_reg (by kernel_rfl) ?_
            refine ar_move rfl rfl rfl rfl ?_
            refine ar_addi rfl rfl rfl rfl (by omega) (by omega) rfl rfl ?_
            refine ar_assign rfl rfl rfl rfl ?_
            refine ar_nil ?_
            exact loop_n ⟨j + 1, _, _⟩ ⟨by omega, by simp, by rw [hj3, wholeGo_next (by omega) (any_no (fun q hq => by rw [hq2 q (by omega)]; rfl)), h66]⟩ (by show t.ins.length - (j + 1) < t.ins.length - j; omega) (le_to ⟨rfl, rfl, rfl, rfl, rfl, trivial⟩ ⟨rfl, rfl, trivial⟩ rfl rfl rfl rfl)
      · refine ar_nil ?_
        refine then_n ?_
        refine wp_condF rfl ?_
        refine wp_exit ?_
        refine then_x (loop_x (inblk_e ?_))
        refine then_n ?_
        refine wp_seq ?_
        refine wp_seq ?_
        refine wp_reg (by kernel_rfl) ?_
        refine ar_move rfl rfl rfl rfl ?_
        refine ar_split (fun h68 => ?_) (fun h68 => ?_)
        · refine ar_nil ?_
          refine then_n ?_
          refine wp_condT rfl ?_
          refine wp_seq ?_
          refine wp_reg (by kernel_rfl) ?_
          refine ar_assign rfl rfl rfl rfl ?_
          refine ar_nil ?_
          refine then_n ?_
          refine wp_ret ?_
          refine then_r (ret_post rfl rfl ?_)
          first | (rw [wholeT_8 h16 hh (by rw [hj3, wholeGo_stop (by omega) (any_of (j := i) (by omega) (by rw [h59]; rfl))])]; done) | (rw [wholeT_8 h16 hh (by rw [hj3, List.drop_eq_nil_of_le (by omega), wholeGo]; exact h68)]; done) | (rw [wholeT_0 h16 hh (by rw [hj3, List.drop_eq_nil_of_le (by omega), wholeGo]; exact h68)]; done) | (rw [wholeT_bad (fun h => Bool.false_ne_true (h16.symm.trans h.1))]; done) | (rw [wholeT_bad (fun h => of_decide_eq_false h18 h.2)]; done)
        · refine ar_nil ?_
          refine then_n ?_
          refine wp_condF rfl ?_
          refine wp_skip ?_
          refine then_n ?_
          refine wp_seq ?_
          refine wp_reg (by kernel_rfl) ?_
          refine ar_assign rfl rfl rfl rfl ?_
          refine ar_nil ?_
          refine then_n ?_
          refine wp_ret ?_
          refine ret_post rfl rfl ?_
          first | (rw [wholeT_8 h16 hh (by rw [hj3, wholeGo_stop (by omega) (any_of (j := i) (by omega) (by rw [h59]; rfl))])]; done) | (rw [wholeT_8 h16 hh (by rw [hj3, List.drop_eq_nil_of_le (by omega), wholeGo]; exact h68)]; done) | (rw [wholeT_0 h16 hh (by rw [hj3, List.drop_eq_nil_of_le (by omega), wholeGo]; exact h68)]; done) | (rw [wholeT_bad (fun h => Bool.false_ne_true (h16.symm.trans h.1))]; done) | (rw [wholeT_bad (fun h => of_decide_eq_false h18 h.2)]; done)
    · refine ar_assign rfl rfl rfl rfl ?_
      refine ar_nil ?_
      refine then_n ?_
      refine wp_seq ?_
      refine wp_seq ?_
      refine wp_reg (by kernel_rfl) ?_
      refine ar_move rfl rfl rfl rfl ?_
      refine ar_not rfl rfl rfl rfl rfl ?_
      refine ar_move rfl rfl rfl rfl ?_
      refine ar_move rfl rfl rfl rfl ?_
      refine ar_not rfl rfl rfl rfl rfl ?_
      refine ar_pickF rfl rfl rfl rfl rfl ?_
      refine ar_nil ?_
      refine then_n ?_
      refine wp_condT rfl ?_
      refine wp_seq ?_
      refine wp_reg (by kernel_rfl) ?_
      refine ar_assign rfl rfl rfl rfl ?_
      refine ar_nil ?_
      refine then_n ?_
      refine wp_ret ?_
      refine then_r (ret_post rfl rfl ?_)
      first | (rw [wholeT_8 h16 hh (by rw [hj3, wholeGo_stop (by omega) (any_of (j := i) (by omega) (by rw [h59]; rfl))])]; done) | (rw [wholeT_8 h16 hh (by rw [hj3, List.drop_eq_nil_of_le (by omega), wholeGo]; exact h68)]; done) | (rw [wholeT_0 h16 hh (by rw [hj3, List.drop_eq_nil_of_le (by omega), wholeGo]; exact h68)]; done) | (rw [wholeT_bad (fun h => Bool.false_ne_true (h16.symm.trans h.1))]; done) | (rw [wholeT_bad (fun h => of_decide_eq_false h18 h.2)]; done)
  · refine ar_assign rfl rfl rfl rfl ?_
    refine ar_nil ?_
    refine then_n ?_
    refine wp_seq ?_
    refine wp_reg (by kernel_rfl) ?_
    refine ar_lda tab_ok rfl rfl rfl tb101 rfl rfl rfl rfl rfl rfl ?_
    refine ar_call [] (pc_90 t hz) rfl rfl rfl rfl rfl rfl trivial (.inl rfl) rfl rfl rfl ?_
    refine ar_split (fun h18 => ?_) (fun h18 => ?_)
    · refine ar_assign rfl rfl rfl rfl ?_
      refine ar_nil ?_
      refine then_n ?_
      refine wp_seq ?_
      refine wp_seq ?_
      refine wp_reg (by kernel_rfl) ?_
      refine ar_move rfl rfl rfl rfl ?_
      refine ar_not rfl rfl rfl rfl rfl ?_
      refine ar_move rfl rfl rfl rfl ?_
      refine ar_skip rfl rfl ?_
      refine ar_skip rfl rfl ?_
      refine ar_pickT rfl rfl rfl rfl rfl ?_
      refine ar_nil ?_
      refine then_n ?_
      refine wp_condT rfl ?_
      refine wp_seq ?_
      refine wp_reg (by kernel_rfl) ?_
      refine ar_assign rfl rfl rfl rfl ?_
      refine ar_nil ?_
      refine then_n ?_
      refine wp_ret ?_
      refine then_r (ret_post rfl rfl ?_)
      first | (rw [wholeT_8 h16 hh (by rw [hj3, wholeGo_stop (by omega) (any_of (j := i) (by omega) (by rw [h59]; rfl))])]; done) | (rw [wholeT_8 h16 hh (by rw [hj3, List.drop_eq_nil_of_le (by omega), wholeGo]; exact h68)]; done) | (rw [wholeT_0 h16 hh (by rw [hj3, List.drop_eq_nil_of_le (by omega), wholeGo]; exact h68)]; done) | (rw [wholeT_bad (fun h => Bool.false_ne_true (h16.symm.trans h.1))]; done) | (rw [wholeT_bad (fun h => of_decide_eq_false h18 h.2)]; done)
    · refine ar_assign rfl rfl rfl rfl ?_
      refine ar_nil ?_
      refine then_n ?_
      refine wp_seq ?_
      refine wp_seq ?_
      refine wp_reg (by kernel_rfl) ?_
      refine ar_move rfl rfl rfl rfl ?_
      refine ar_not rfl rfl rfl rfl rfl ?_
      refine ar_move rfl rfl rfl rfl ?_
      refine ar_skip rfl rfl ?_
      refine ar_skip rfl rfl ?_
      refine ar_pickT rfl rfl rfl rfl rfl ?_
      refine ar_nil ?_
      refine then_n ?_
      refine wp_condT rfl ?_
      refine wp_seq ?_
      refine wp_reg (by kernel_rfl) ?_
      refine ar_assign rfl rfl rfl rfl ?_
      refine ar_nil ?_
      refine then_n ?_
      refine wp_ret ?_
      refine then_r (ret_post rfl rfl ?_)
      first | (rw [wholeT_8 h16 hh (by rw [hj3, wholeGo_stop (by omega) (any_of (j := i) (by omega) (by rw [h59]; rfl))])]; done) | (rw [wholeT_8 h16 hh (by rw [hj3, List.drop_eq_nil_of_le (by omega), wholeGo]; exact h68)]; done) | (rw [wholeT_0 h16 hh (by rw [hj3, List.drop_eq_nil_of_le (by omega), wholeGo]; exact h68)]; done) | (rw [wholeT_bad (fun h => Bool.false_ne_true (h16.symm.trans h.1))]; done) | (rw [wholeT_bad (fun h => of_decide_eq_false h18 h.2)]; done)
end Go.Vd
