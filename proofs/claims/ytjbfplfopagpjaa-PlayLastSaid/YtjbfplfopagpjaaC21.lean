/- Filling: the program's and the document's; values without X. -/
import Derived.Test.YtjbfplfopagpjaaC20
namespace Go.Vd
open Go.Proofs

def fillR : List Bool → List Int → List Int
  | _, [] => []
  | m, x :: xs => if x = 2 then (match m with
    | [] => x :: fillR [] xs
    | b :: m' => ofB b :: fillR m' xs) else x :: fillR m xs
theorem fillR_len : ∀ (xs : List Int) (m : List Bool), (fillR m xs).length = xs.length
  | [], _ => by simp [fillR]
  | x :: xs, m => by
    unfold fillR
    split
    · cases m with
      | nil => simp [fillR_len xs]
      | cons b m => simp [fillR_len xs]
    · simp [fillR_len xs]
theorem manyT_cons (x : Int) (xs : List Int) : manyT (x :: xs) = (if x = 2 then 1 else 0) + manyT xs := by
  simp only [manyT, List.countP_cons]
  by_cases h : x = 2 <;> simp [h]
  omega
theorem fillR_nn {m : List Bool} {x : Int} {xs : List Int} (h : x ≠ 2) : fillR m (x :: xs) = x :: fillR m xs := by cases m <;> simp [fillR, h]
theorem fillR_h0 {x : Int} {xs : List Int} (h : x = 2) : fillR [] (x :: xs) = x :: fillR [] xs := by simp [fillR, h]
theorem fillR_h1 {b : Bool} {m : List Bool} {x : Int} {xs : List Int} (h : x = 2) : fillR (b :: m) (x :: xs) = ofB b :: fillR m xs := by simp [fillR, h]
theorem fillR_append : ∀ (xs ys : List Int) (m : List Bool), fillR m (xs ++ ys) = fillR m xs ++ fillR (m.drop (manyT xs)) ys
  | [], ys, m => by simp [fillR, manyT]
  | x :: xs, ys, m => by
    rw [List.cons_append, manyT_cons]
    by_cases h : x = 2
    · rw [if_pos h]
      cases m with
      | nil => rw [fillR_h0 h, fillR_h0 h, fillR_append xs ys, List.drop_nil, List.drop_nil, List.cons_append]
      | cons b m => rw [fillR_h1 h, fillR_h1 h, fillR_append xs ys, show 1 + manyT xs = manyT xs + 1 by omega, List.drop_succ_cons, List.cons_append]
    · rw [if_neg h, fillR_nn h, fillR_nn h, fillR_append xs ys, Nat.zero_add, List.cons_append]
theorem fillR_keep {m : List Bool} {x : Int} (h : x ≠ 2 ∨ m = []) : fillR m [x] = [x] := by
  by_cases hx : x = 2
  · rcases h with h | h
    · exact absurd hx h
    · subst h; rw [fillR_h0 hx]; simp [fillR]
  · rw [fillR_nn hx]; simp [fillR]
theorem fillR_put {m : List Bool} {x : Int} (h : x = 2) (hm : 0 < m.length) : fillR m [x] = [ofB (m.getD 0 default)] := by
  cases m with
  | nil => simp at hm
  | cons b m => rw [fillR_h1 h]; simp [fillR]
theorem fill_elem {m : List Bool} {l : List Int} {j : Nat} (h : j < l.length) : ((fillR m (l.take j) ++ l.drop j).map encU)[j]? = some (encU (l.getD j default)) := by
  have : (fillR m (l.take j)).length = j := by rw [fillR_len]; simp; omega
  rw [List.getElem?_map, List.getElem?_append_right (by omega), this, drop_cons h]; simp
theorem fill_same {m : List Bool} {l : List Int} {j : Nat} (h : j < l.length) (hx : l.getD j default ≠ 2 ∨ m.drop (manyT (l.take j)) = []) : fillR m (l.take j) ++ l.drop j = fillR m (l.take (j + 1)) ++ l.drop (j + 1) := by
  rw [take_snoc h, fillR_append, fillR_keep hx, drop_cons h]; simp
theorem fill_turn {m : List Bool} {l : List Int} {j : Nat} {v : Int} (h : j < l.length) (hx : l.getD j default = 2) (hm : 0 < (m.drop (manyT (l.take j))).length) (hv : v = ofB ((m.drop (manyT (l.take j))).getD 0 default)) :
    (fillR m (l.take j) ++ l.drop j).set j v = fillR m (l.take (j + 1)) ++ l.drop (j + 1) := by
  have hl : (fillR m (l.take j)).length = j := by rw [fillR_len]; simp; omega
  rw [take_snoc h, fillR_append, fillR_put hx hm, drop_cons h, List.set_append_right _ _ (by omega), hl, hv]
  simp
theorem many_next {l : List Int} {j : Nat} (h : j < l.length) : manyT (l.take (j + 1)) = manyT (l.take j) + (if l.getD j default = 2 then 1 else 0) := by rw [take_snoc h, manyT_snoc]
def fillRows : List Bool → List (List Int) → List (List Int)
  | _, [] => []
  | m, r :: rs => fillR m r :: fillRows (m.drop (manyT r)) rs
theorem fillRows_snoc (r : List Int) : ∀ (rs : List (List Int)) (m : List Bool), fillRows m (rs ++ [r]) = fillRows m rs ++ [fillR (m.drop (manyR rs)) r]
  | [], m => by simp [fillRows, manyR]
  | x :: rs, m => by
    simp only [List.cons_append, fillRows, fillRows_snoc r rs, List.drop_drop]
    simp [manyR]
theorem fillRows_len : ∀ (rs : List (List Int)) (m : List Bool), (fillRows m rs).length = rs.length
  | [], _ => rfl
  | r :: rs, m => by simp [fillRows, fillRows_len rs]
def fillT (t : Trace) (m : List Bool) : Trace := ⟨t.bad, fillR m t.ini, fillRows (m.drop (manyT t.ini)) t.ins⟩
theorem box_eq {s : St} {id : Nat} {cs cs' : List D} (h : s.h id = .box cs) (he : cs = cs') : s.h id = .box cs' := he ▸ h

theorem pm_144 (m : List Bool) (l : List Int) (hl : l.length ≤ 140737488355328) (hm : m.length ≤ 9223372036854775807) : PMut Try.prog 144 [slB m] [slU l] [slB (m.drop (manyT l))] (slU (fillR m l)) := by
  refine pm_of tab_ok (f := 144) (fn := Try.f144) (N := 49) (t := 4) (by kernel_rfl) rfl (by kernel_rfl) rfl rfl [(0, .ptr 900 0), (1, .v (slU l))] (fun _ => ⟨rfl, rfl, trivial⟩) rfl rfl ?_ rfl
  intro B b
  refine wp_seq ?_
  refine wp_reg (by kernel_rfl) ?_
  refine ar_assign rfl rfl rfl rfl ?_
  refine ar_nil ?_
  refine then_n ?_
  refine wp_seq ?_
  refine wp_reg (by kernel_rfl) ?_
  refine ar_move rfl rfl rfl rfl ?_
  refine ar_callrow 9 (pr_121 l hl) rfl rfl rfl rfl rfl rfl rfl rfl rfl rfl ?_
  refine ar_assign rfl rfl rfl rfl ?_
  refine ar_nil ?_
  refine then_n ?_
  refine wp_seq ?_
  refine wp_seq ?_
  refine wp_reg (by kernel_rfl) ?_
  refine ar_move rfl rfl rfl rfl ?_
  refine ar_len_own tab_ok rfl rfl rfl tb70 rfl len_map rfl rfl rfl ?_
  refine ar_move rfl rfl rfl rfl ?_
  refine ar_nil ?_
  refine then_n ?_
  refine wp_block ?_
  refine wp_loop (α := Nat) (fun j => mk [(0, .ptr 900 0), (5, .own 9), (10, .own 9), (11, .v (.int .i64 (l.length : Nat))), (12, .v (.int .i64 (j : Nat)))] [(9, .row 72 1 ((fillR m (l.take j) ++ l.drop j).map encU)), (900, .box [.v (slB (m.drop (manyT (l.take j))))])] ⟨0, 0, [(900, b)]⟩) (fun j => j ≤ l.length) (fun j => l.length - j) 0 (Nat.zero_le _) (le_to ⟨rfl, rfl, rfl, rfl, rfl, trivial⟩ ⟨(row_eq rfl (by simp [fillR])), (box_eq rfl (by simp [manyT])), trivial⟩ rfl rfl rfl rfl) ?_
  rintro j hinv
  have hlr : (fillR m (l.take j) ++ l.drop j).length = l.length := by simp only [List.length_append, fillR_len, List.length_take, List.length_drop]; omega
  have hn := fun h => many_next (l := l) (j := j) h
  refine wp_seq ?_
  refine wp_reg (by kernel_rfl) ?_
  refine ar_lss_s rfl rfl rfl rfl rfl (fun h13 => ?_) (fun h13 => ?_)
  · refine ar_nil ?_
    refine then_n ?_
    refine wp_seq ?_
    refine wp_condT rfl ?_
    refine wp_skip ?_
    refine then_n ?_
    refine wp_seq ?_
    refine wp_block ?_
    refine wp_seq ?_
    refine wp_reg (by kernel_rfl) ?_
    refine ar_move rfl rfl rfl rfl ?_
    refine ar_ia_own tab_ok rfl rfl rfl rfl tb70 rfl tb72 rfl (by omega) (by simp only [List.length_map, hlr]; omega) rfl rfl rfl rfl ?_
    refine ar_ld_eptr tab_ok rfl rfl rfl tb72 rfl (fill_elem (by omega)) rfl rfl rfl ?_
    refine ar_assign rfl rfl rfl rfl ?_
    refine ar_assign rfl rfl rfl rfl ?_
    refine ar_nil ?_
    refine then_n ?_
    refine wp_seq ?_
    refine wp_seq ?_
    refine wp_reg (by kernel_rfl) ?_
    refine ar_move rfl rfl rfl rfl ?_
    refine ar_neq_s rfl rfl rfl rfl rfl (fun h18 => ?_) (fun h18 => ?_)
    · refine ar_move rfl rfl rfl rfl ?_
      refine ar_skip rfl rfl ?_
      refine ar_skip rfl rfl ?_
      refine ar_skip rfl rfl ?_
      refine ar_skip rfl rfl ?_
      refine ar_skip rfl rfl ?_
      refine ar_skip rfl rfl ?_
      refine ar_pickT rfl rfl rfl rfl rfl ?_
      refine ar_nil ?_
      refine then_n ?_
      refine wp_condT rfl ?_
      refine wp_exit ?_
      refine then_x (inblk_e ?_)
      refine then_n ?_
      refine wp_reg (by kernel_rfl) ?_
      refine ar_addi rfl rfl rfl rfl (by omega) (by omega) rfl rfl ?_
      refine ar_move rfl rfl rfl rfl ?_
      refine ar_nil ?_
      exact loop_n (j + 1) (by omega) (by omega) (le_to ⟨rfl, rfl, rfl, rfl, rfl, trivial⟩ ⟨(row_eq rfl (by first | exact congrArg (List.map encU) (fill_same (by omega) (.inl h18)) | exact congrArg (List.map encU) (fill_same (by omega) (.inr (List.eq_nil_of_length_eq_zero (by omega)))) | (rw [List.set_set]; exact congrArg (List.map encU) (fill_turn (by omega) (Decidable.not_not.1 h18) (by omega) (by rw [h35]; rfl))) | exact congrArg (List.map encU) (fill_turn (by omega) (Decidable.not_not.1 h18) (by omega) (by rw [h35]; rfl)))), (box_eq rfl (by rw [hn (by omega)]; first | (rw [if_neg h18]; rfl) | (rw [if_pos (Decidable.not_not.1 h18)]; first | (rw [List.drop_drop]; done) | (rw [← List.drop_drop, List.eq_nil_of_length_eq_zero (l := (m.drop (manyT (l.take j)))) (by omega)]; rfl) | (show [D.v (slB (List.drop 1 (m.drop (manyT (l.take j)))))] = _; rw [List.drop_drop])))), trivial⟩ rfl rfl rfl rfl)
    · refine ar_move rfl rfl rfl rfl ?_
      refine ar_move rfl rfl rfl rfl ?_
      refine ar_nilck rfl rfl rfl rfl rfl rfl ?_
      refine ar_fa tab_ok rfl rfl rfl tb187 rfl rfl rfl rfl rfl ?_
      refine ar_ld tab_ok rfl rfl rfl tb28 rfl rfl rfl rfl rfl ?_
      refine ar_len tab_ok rfl rfl tb28 rfl len_map rfl rfl ?_
      refine ar_eql_s rfl rfl rfl rfl rfl (fun h25 => ?_) (fun h25 => ?_)
      · refine ar_pickF rfl rfl rfl rfl rfl ?_
        refine ar_nil ?_
        refine then_n ?_
        refine wp_condT rfl ?_
        refine wp_exit ?_
        refine then_x (inblk_e ?_)
        refine then_n ?_
        refine wp_reg (by kernel_rfl) ?_
        refine ar_addi rfl rfl rfl rfl (by omega) (by omega) rfl rfl ?_
        refine ar_move rfl rfl rfl rfl ?_
        refine ar_nil ?_
        exact loop_n (j + 1) (by omega) (by omega) (le_to ⟨rfl, rfl, rfl, rfl, rfl, trivial⟩ ⟨(row_eq rfl (by first | exact congrArg (List.map encU) (fill_same (by omega) (.inl h18)) | exact congrArg (List.map encU) (fill_same (by omega) (.inr (List.eq_nil_of_length_eq_zero (by omega)))) | (rw [List.set_set]; exact congrArg (List.map encU) (fill_turn (by omega) (Decidable.not_not.1 h18) (by omega) (by rw [h35]; rfl))) | exact congrArg (List.map encU) (fill_turn (by omega) (Decidable.not_not.1 h18) (by omega) (by rw [h35]; rfl)))), (box_eq rfl (by rw [hn (by omega)]; first | (rw [if_neg h18]; rfl) | (rw [if_pos (Decidable.not_not.1 h18)]; first | (rw [List.drop_drop]; done) | (rw [← List.drop_drop, List.eq_nil_of_length_eq_zero (l := (m.drop (manyT (l.take j)))) (by omega)]; rfl) | (show [D.v (slB (List.drop 1 (m.drop (manyT (l.take j)))))] = _; rw [List.drop_drop])))), trivial⟩ rfl rfl rfl rfl)
      · refine ar_pickF rfl rfl rfl rfl rfl ?_
        refine ar_nil ?_
        refine then_n ?_
        refine wp_condF rfl ?_
        refine wp_skip ?_
        refine then_n ?_
        refine wp_seq ?_
        refine wp_reg (by kernel_rfl) ?_
        refine ar_move rfl rfl rfl rfl ?_
        refine ar_move rfl rfl rfl rfl ?_
        refine ar_ia_own tab_ok rfl rfl rfl rfl tb70 rfl tb72 rfl (by omega) (by simp only [List.length_map, hlr]; omega) rfl rfl rfl rfl ?_
        refine ar_st_e tab_ok rfl tb72 rfl rfl rfl rfl rfl (by simp only [List.length_map, hlr]; show j < _; omega) set_map rfl rfl rfl ?_
        refine ar_nil ?_
        refine then_n ?_
        refine wp_seq ?_
        refine wp_seq ?_
        refine wp_reg (by kernel_rfl) ?_
        refine ar_move rfl rfl rfl rfl ?_
        refine ar_nilck rfl rfl rfl rfl rfl rfl ?_
        refine ar_fa tab_ok rfl rfl rfl tb187 rfl rfl rfl rfl rfl ?_
        refine ar_ld tab_ok rfl rfl rfl tb28 rfl rfl rfl rfl rfl ?_
        refine ar_ia tab_ok rfl rfl rfl tb28 rfl tb4 (by decide) (map_get (n := 0) (by omega)) rfl rfl rfl ?_
        refine ar_ld_ref tab_ok rfl rfl tb4 rfl rfl rfl rfl ?_
        refine ar_split (fun h35 => ?_) (fun h35 => ?_)
        · refine ar_nil ?_
          refine then_n ?_
          refine wp_condT rfl ?_
          refine wp_reg (by kernel_rfl) ?_
          refine ar_move rfl rfl rfl rfl ?_
          refine ar_move rfl rfl rfl rfl ?_
          refine ar_ia_own tab_ok rfl rfl rfl rfl tb70 rfl tb72 rfl (by omega) (by simp only [List.length_map, List.length_set, hlr]; omega) rfl rfl rfl rfl ?_
          refine ar_st_e tab_ok rfl tb72 rfl rfl rfl rfl rfl (by simp only [List.length_map, List.length_set, hlr]; show j < _; omega) set_map rfl rfl rfl ?_
          refine ar_nil ?_
          refine then_n ?_
          refine wp_reg (by kernel_rfl) ?_
          refine ar_move rfl rfl rfl rfl ?_
          refine ar_move rfl rfl rfl rfl ?_
          refine ar_nilck rfl rfl rfl rfl rfl rfl ?_
          refine ar_fa tab_ok rfl rfl rfl tb187 rfl rfl rfl rfl rfl ?_
          refine ar_ld tab_ok rfl rfl rfl tb28 rfl rfl rfl rfl rfl ?_
          refine ar_slice_lo (es' := ((m.drop (manyT (l.take j))).drop 1).map encB) 1 tab_ok rfl tb28 rfl tb4 rfl rfl rfl (by simp only [List.length_map]; omega) (fun el h => by obtain ⟨_, _, rfl⟩ := List.mem_map.1 h; rfl) List.map_drop.symm rfl rfl ?_
          refine ar_nilck rfl rfl rfl rfl rfl rfl ?_
          refine ar_fa tab_ok rfl rfl rfl tb187 rfl rfl rfl rfl rfl ?_
          refine ar_st [] tab_ok rfl tb28 rfl rfl rfl trivial rfl rfl rfl rfl rfl rfl rfl rfl ?_
          refine ar_nil ?_
          refine inblk_n ?_
          refine then_n ?_
          refine wp_reg (by kernel_rfl) ?_
          refine ar_addi rfl rfl rfl rfl (by omega) (by omega) rfl rfl ?_
          refine ar_move rfl rfl rfl rfl ?_
          refine ar_nil ?_
          exact loop_n (j + 1) (by omega) (by omega) (le_to ⟨rfl, rfl, rfl, rfl, rfl, trivial⟩ ⟨(row_eq rfl (by first | exact congrArg (List.map encU) (fill_same (by omega) (.inl h18)) | exact congrArg (List.map encU) (fill_same (by omega) (.inr (List.eq_nil_of_length_eq_zero (by omega)))) | (rw [List.set_set]; exact congrArg (List.map encU) (fill_turn (by omega) (Decidable.not_not.1 h18) (by omega) (by rw [h35]; rfl))) | exact congrArg (List.map encU) (fill_turn (by omega) (Decidable.not_not.1 h18) (by omega) (by rw [h35]; rfl)))), (box_eq rfl (by rw [hn (by omega)]; first | (rw [if_neg h18]; rfl) | (rw [if_pos (Decidable.not_not.1 h18)]; first | (rw [List.drop_drop]; done) | (rw [← List.drop_drop, List.eq_nil_of_length_eq_zero (l := (m.drop (manyT (l.take j)))) (by omega)]; rfl) | (show [D.v (slB (List.drop 1 (m.drop (manyT (l.take j)))))] = _; rw [List.drop_drop])))), trivial⟩ rfl rfl rfl rfl)
        · refine ar_nil ?_
          refine then_n ?_
          refine wp_condF rfl ?_
          refine wp_skip ?_
          refine then_n ?_
          refine wp_reg (by kernel_rfl) ?_
          refine ar_move rfl rfl rfl rfl ?_
          refine ar_move rfl rfl rfl rfl ?_
          refine ar_nilck rfl rfl rfl rfl rfl rfl ?_
          refine ar_fa tab_ok rfl rfl rfl tb187 rfl rfl rfl rfl rfl ?_
          refine ar_ld tab_ok rfl rfl rfl tb28 rfl rfl rfl rfl rfl ?_
          refine ar_slice_lo (es' := ((m.drop (manyT (l.take j))).drop 1).map encB) 1 tab_ok rfl tb28 rfl tb4 rfl rfl rfl (by simp only [List.length_map]; omega) (fun el h => by obtain ⟨_, _, rfl⟩ := List.mem_map.1 h; rfl) List.map_drop.symm rfl rfl ?_
          refine ar_nilck rfl rfl rfl rfl rfl rfl ?_
          refine ar_fa tab_ok rfl rfl rfl tb187 rfl rfl rfl rfl rfl ?_
          refine ar_st [] tab_ok rfl tb28 rfl rfl rfl trivial rfl rfl rfl rfl rfl rfl rfl rfl ?_
          refine ar_nil ?_
          refine inblk_n ?_
          refine then_n ?_
          refine wp_reg (by kernel_rfl) ?_
          refine ar_addi rfl rfl rfl rfl (by omega) (by omega) rfl rfl ?_
          refine ar_move rfl rfl rfl rfl ?_
          refine ar_nil ?_
          exact loop_n (j + 1) (by omega) (by omega) (le_to ⟨rfl, rfl, rfl, rfl, rfl, trivial⟩ ⟨(row_eq rfl (by first | exact congrArg (List.map encU) (fill_same (by omega) (.inl h18)) | exact congrArg (List.map encU) (fill_same (by omega) (.inr (List.eq_nil_of_length_eq_zero (by omega)))) | (rw [List.set_set]; exact congrArg (List.map encU) (fill_turn (by omega) (Decidable.not_not.1 h18) (by omega) (by rw [h35]; rfl))) | exact congrArg (List.map encU) (fill_turn (by omega) (Decidable.not_not.1 h18) (by omega) (by rw [h35]; rfl)))), (box_eq rfl (by rw [hn (by omega)]; first | (rw [if_neg h18]; rfl) | (rw [if_pos (Decidable.not_not.1 h18)]; first | (rw [List.drop_drop]; done) | (rw [← List.drop_drop, List.eq_nil_of_length_eq_zero (l := (m.drop (manyT (l.take j)))) (by omega)]; rfl) | (show [D.v (slB (List.drop 1 (m.drop (manyT (l.take j)))))] = _; rw [List.drop_drop])))), trivial⟩ rfl rfl rfl rfl)
  · refine ar_nil ?_
    refine then_n ?_
    refine wp_seq ?_
    refine wp_condF rfl ?_
    refine wp_exit ?_
    refine then_x (loop_x (inblk_e ?_))
    refine then_n ?_
    refine wp_seq ?_
    refine wp_reg (by kernel_rfl) ?_
    refine ar_move rfl rfl rfl rfl ?_
    refine ar_assign rfl rfl rfl rfl ?_
    refine ar_nil ?_
    refine then_n ?_
    refine wp_ret ?_
    refine retm_post rfl rfl rfl rfl rfl ?_ ?_
    · have hi : j = l.length := by omega
      subst hi
      rw [List.take_length, List.drop_eq_nil_of_le (Nat.le_refl _), List.append_nil]
    · have hi : j = l.length := by omega
      subst hi
      rw [List.take_length]; rfl

theorem pc_127 (t : Trace) (m : List Bool) (hz : SzT t) (hm : m.length ≤ 9223372036854775807) : PCall Try.prog 127 [trV t, slB m] (trV (fillT t m)) := by
  refine pc_of tab_ok (f := 127) (fn := Try.f127) (N := 39) (rs := [.cell 4 101]) (by kernel_rfl) rfl (by kernel_rfl) rfl rfl [(0, .v (trV t)), (1, .v (slB m))] ⟨rfl, rfl, trivial⟩ rfl rfl ?_
  intro B
  refine wp_seq ?_
  refine wp_reg (by kernel_rfl) ?_
  refine ar_box 2 [] rfl rfl rfl ⟨rfl, trivial⟩ rfl rfl rfl ?_
  refine ar_alloc (id := 4) tab_ok rfl rfl tb101 rfl rfl rfl rfl ?_
  refine ar_nil ?_
  refine then_n ?_
  refine wp_seq ?_
  refine wp_reg (by kernel_rfl) ?_
  refine ar_move rfl rfl rfl rfl ?_
  refine ar_build [] tab_ok rfl tb187 rfl rfl trivial rfl rfl rfl rfl rfl rfl ?_
  refine ar_box 12 [] rfl rfl rfl ⟨rfl, trivial⟩ rfl rfl rfl ?_
  refine ar_assign rfl rfl rfl rfl ?_
  refine ar_assign rfl rfl rfl rfl ?_
  refine ar_nil ?_
  refine then_n ?_
  refine wp_seq ?_
  refine wp_draw (L := [([2], []), ([2], []), ([], []), ([], []), ([2], []), ([2], []), ([12], [12]), ([], []), ([7], [7]), ([7], [7])]) (by kernel_rfl) mixed (by kernel_rfl) ?_
  refine ar_fa tab_ok rfl rfl rfl tb101 rfl rfl rfl rfl rfl ?_
  refine ar_ld tab_ok rfl rfl rfl tb3 rfl rfl rfl rfl rfl ?_
  refine ar_move rfl rfl rfl rfl ?_
  refine ar_move rfl rfl rfl rfl ?_
  refine ar_fa tab_ok rfl rfl rfl tb101 rfl rfl rfl rfl rfl ?_
  refine ar_ld tab_ok rfl rfl rfl tb70 rfl rfl rfl rfl rfl ?_
  refine ar_callM 12 (pm_144 m t.ini (by have := hz.il; omega) hm) rfl rfl rfl rfl rfl rfl rfl rfl rfl rfl rfl rfl ?_
  refine ar_build [] tab_ok rfl tb101 rfl rfl trivial rfl rfl rfl rfl rfl rfl ?_
  refine ar_alloc (id := 7) tab_ok rfl rfl tb101 rfl rfl rfl rfl ?_
  refine ar_st [] tab_ok rfl tb101 rfl rfl rfl trivial rfl rfl rfl rfl rfl rfl rfl rfl ?_
  refine ar_nil ?_
  refine then_n ?_
  refine wp_seq ?_
  refine wp_seq ?_
  refine wp_reg (by kernel_rfl) ?_
  refine ar_fa tab_ok rfl rfl rfl tb101 rfl rfl rfl rfl rfl ?_
  refine ar_ld tab_ok rfl rfl rfl tb99 rfl rfl rfl rfl rfl ?_
  refine ar_len tab_ok rfl rfl tb99 rfl len_map rfl rfl ?_
  refine ar_move rfl rfl rfl rfl ?_
  refine ar_nil ?_
  refine then_n ?_
  refine wp_block ?_
  refine wp_le (le_nilb (bid := 7) (id := 950) (e := 70) (sz := 1) (j := 2) rfl rfl rfl (by decide)) ?_
  refine wp_loop (α := Nat) (fun j => mk [(4, .ptr 4 0), (5, .ptr 12 0), (6, .v (.fn (.func 144) [] [])), (7, .ptr 7 0), (22, .v (slUU t.ins)), (23, .v (.int .i64 (t.ins.length : Nat))), (24, .v (.int .i64 (j : Nat)))] [(4, .box [.v (.int .i64 0), .nils, .nils]), (7, .box [.v (.int .i64 t.bad), .v (slU (fillR m t.ini)), .own 951]), (951, .row 70 1 ((fillRows (m.drop (manyT t.ini)) (t.ins.take j)).map encUs)), (12, .box [.v (slB ((m.drop (manyT t.ini)).drop (manyR (t.ins.take j))))])] 0) (fun j => j ≤ t.ins.length) (fun j => t.ins.length - j) 0 (Nat.zero_le _) (le_ren [(951, 950)] ⟨rfl, rfl, rfl, rfl, rfl, rfl, rfl, trivial⟩ ⟨rfl, rfl, rfl, (box_eq rfl (by simp [manyR, renL, D.ren])), trivial⟩ rfl rfl rfl rfl rfl) ?_
  rintro j hinv
  have hnl := hz.nl
  refine wp_seq ?_
  refine wp_reg (by kernel_rfl) ?_
  refine ar_lss_s rfl rfl rfl rfl rfl (fun h25 => ?_) (fun h25 => ?_)
  · refine ar_nil ?_
    refine then_n ?_
    refine wp_seq ?_
    refine wp_condT rfl ?_
    refine wp_skip ?_
    refine then_n ?_
    refine wp_seq ?_
    refine wp_block ?_
    refine wp_seq ?_
    refine wp_reg (by kernel_rfl) ?_
    refine ar_ia tab_ok rfl rfl rfl tb99 rfl tb70 (by omega) (map_get (n := j) (by omega)) rfl rfl rfl ?_
    refine ar_ld_ref tab_ok rfl rfl tb70 rfl rfl rfl rfl ?_
    refine ar_assign rfl rfl rfl rfl ?_
    refine ar_nil ?_
    refine then_n ?_
    refine wp_draw (L := [([7], []), ([7], []), ([], []), ([], []), ([], []), ([12], [12]), ([], []), ([35, 951], [35, 951]), ([7], []), ([7, 35], [7])]) (by kernel_rfl) mixed (by kernel_rfl) ?_
    refine ar_fa tab_ok rfl rfl rfl tb101 rfl rfl rfl rfl rfl ?_
    refine ar_ld tab_ok rfl rfl rfl tb99 rfl rfl rfl rfl rfl ?_
    refine ar_move rfl rfl rfl rfl ?_
    refine ar_move rfl rfl rfl rfl ?_
    refine ar_move rfl rfl rfl rfl ?_
    refine ar_callM 12 (pm_144 ((m.drop (manyT t.ini)).drop (manyR (t.ins.take j))) (t.ins.getD j default) (by have := hz.rl _ (getD_mem (xs := t.ins) (n := j) (by omega)); omega) (by simp; omega)) rfl rfl rfl rfl rfl rfl rfl rfl rfl rfl rfl rfl ?_
    refine ar_bs [] tab_ok rfl tb99 rfl tb70 rfl trivial rfl rfl rfl rfl rfl rfl rfl rfl ?_
    refine ar_app 35 [] tab_ok rfl tb99 rfl tb99 rfl tb70 rfl rfl rfl rfl ⟨rfl, rfl, trivial⟩ rfl (elOk.cons rfl rfl elOk.nil) app_one (by have := hz.nl; constructor <;> simp [fillRows_len] <;> omega) rfl rfl rfl ?_
    refine ar_fa tab_ok rfl rfl rfl tb101 rfl rfl rfl rfl rfl ?_
    refine ar_st [(35, _)] tab_ok rfl tb99 rfl rfl rfl ⟨rfl, trivial⟩ rfl rfl rfl rfl rfl rfl rfl rfl ?_
    refine ar_nil ?_
    refine inblk_n ?_
    refine then_n ?_
    refine wp_reg (by kernel_rfl) ?_
    refine ar_addi rfl rfl rfl rfl (by omega) (by omega) rfl rfl ?_
    refine ar_move rfl rfl rfl rfl ?_
    refine ar_nil ?_
    exact loop_n (j + 1) (by omega) (by omega) (le_ren [(951, 35)] ⟨rfl, rfl, rfl, rfl, rfl, rfl, rfl, trivial⟩ ⟨rfl, rfl, (row_eq rfl (by rw [take_snoc (by omega), fillRows_snoc] <;> simp)), (box_eq rfl (by rw [take_snoc (n := j) (by omega), manyR_snoc, ← List.drop_drop]; rfl)), trivial⟩ rfl rfl rfl rfl rfl)
  · refine ar_nil ?_
    refine then_n ?_
    refine wp_seq ?_
    refine wp_condF rfl ?_
    refine wp_exit ?_
    refine then_x (loop_x (inblk_e ?_))
    refine then_n ?_
    refine wp_seq ?_
    refine wp_reg (by kernel_rfl) ?_
    refine ar_lda tab_ok rfl rfl rfl tb101 rfl rfl rfl rfl rfl rfl ?_
    refine ar_st [(951, _)] tab_ok rfl tb101 rfl rfl rfl ⟨rfl, trivial⟩ rfl rfl rfl rfl rfl rfl rfl rfl ?_
    refine ar_nil ?_
    refine then_n ?_
    refine wp_ret ?_
    refine ret_post rfl rfl ?_
    have hi : j = t.ins.length := by omega
    subst hi
    rw [List.take_length]; rfl

theorem pc_114 (l : List Int) (m : List Bool) (n : Nat) (hl : l.length ≤ 1000000) (hm : m.length ≤ 9223372036854775807) (hn0 : n ≤ 10000000000000) : PCall Try.prog 114 [slU l, slB m, .int .i64 (n : Nat)] (slU (fillR (m.drop n) l)) := by
  refine pc_of tab_ok (f := 114) (fn := Try.f114) (N := 46) (rs := [.tmp 6]) (by kernel_rfl) rfl (by kernel_rfl) rfl rfl [(0, .v (slU l)), (1, .v (slB m)), (2, .v (.int .i64 (n : Nat)))] ⟨rfl, rfl, rfl, trivial⟩ rfl rfl ?_
  intro B
  refine wp_seq ?_
  refine wp_reg (by kernel_rfl) ?_
  refine ar_assign rfl rfl rfl rfl ?_
  refine ar_nil ?_
  refine then_n ?_
  refine wp_seq ?_
  refine wp_reg (by kernel_rfl) ?_
  refine ar_bs_own (es := ([] : List Int).map encU) 9 [] tab_ok rfl tb70 rfl tb72 rfl rfl ⟨rfl, trivial⟩ rfl rfl rfl rfl rfl rfl rfl rfl rfl ?_
  refine ar_move rfl rfl rfl rfl ?_
  refine ar_app 11 [] tab_ok rfl tb70 rfl tb70 rfl tb72 rfl rfl rfl rfl ⟨rfl, rfl, trivial⟩ rfl (el_72 _) app_map (by constructor <;> simp <;> omega) rfl rfl rfl ?_
  refine ar_assign rfl rfl rfl rfl ?_
  refine ar_nil ?_
  refine then_n ?_
  refine wp_seq ?_
  refine wp_seq ?_
  refine wp_reg (by kernel_rfl) ?_
  refine ar_assign rfl rfl rfl rfl ?_
  refine ar_nil ?_
  refine then_n ?_
  refine wp_block ?_
  refine wp_loop (α := Nat) (fun j => mk [(1, .v (slB m)), (2, .v (.int .i64 (n + manyT (l.take j) : Nat))), (7, .own 11), (8, .v (.int .i64 (j : Nat)))] [(11, .row 72 1 ((fillR (m.drop n) (l.take j) ++ l.drop j).map encU))] 0) (fun j => j ≤ l.length) (fun j => l.length - j) 0 (Nat.zero_le _) (le_to ⟨rfl, (int_eq rfl (by simp [manyT])), rfl, rfl, trivial⟩ ⟨(row_eq rfl (by simp [fillR])), trivial⟩ rfl rfl rfl rfl) ?_
  rintro j hinv
  have hlr : (fillR (m.drop n) (l.take j) ++ l.drop j).length = l.length := by simp only [List.length_append, fillR_len, List.length_take, List.length_drop]; omega
  have hn := fun h => many_next (l := l) (j := j) h
  have hml := manyT_le (l.take j)
  have hml2 : (l.take j).length ≤ l.length := by rw [List.length_take]; omega
  have hdl : ((m.drop n).drop (manyT (l.take j))).length = m.length - n - manyT (l.take j) := by rw [List.length_drop, List.length_drop]
  have hdg : ∀ h : n + manyT (l.take j) < m.length, m.getD (n + manyT (l.take j)) default = ((m.drop n).drop (manyT (l.take j))).getD 0 default := fun h => by rw [List.drop_drop, List.getD_eq_getElem?_getD, List.getD_eq_getElem?_getD, List.getElem?_drop]; rfl
  refine wp_seq ?_
  refine wp_seq ?_
  refine wp_reg (by kernel_rfl) ?_
  refine ar_move rfl rfl rfl rfl ?_
  refine ar_move rfl rfl rfl rfl ?_
  refine ar_len_own tab_ok rfl rfl rfl tb70 rfl (show _ = (l.length : Int) by simp only [List.length_map, hlr]) rfl rfl rfl ?_
  refine ar_lss_s rfl rfl rfl rfl rfl (fun h15 => ?_) (fun h15 => ?_)
  · refine ar_nil ?_
    refine then_n ?_
    refine wp_condT rfl ?_
    refine wp_skip ?_
    refine then_n ?_
    refine wp_seq ?_
    refine wp_block ?_
    refine wp_seq ?_
    refine wp_seq ?_
    refine wp_reg (by kernel_rfl) ?_
    refine ar_move rfl rfl rfl rfl ?_
    refine ar_move rfl rfl rfl rfl ?_
    refine ar_ia_own tab_ok rfl rfl rfl rfl tb70 rfl tb72 rfl (by omega) (by simp only [List.length_map, hlr]; omega) rfl rfl rfl rfl ?_
    refine ar_ld_eptr tab_ok rfl rfl rfl tb72 rfl (fill_elem (by omega)) rfl rfl rfl ?_
    refine ar_neq_s rfl rfl rfl rfl rfl (fun h22 => ?_) (fun h22 => ?_)
    · refine ar_nil ?_
      refine then_n ?_
      refine wp_condT rfl ?_
      refine wp_exit ?_
      refine then_x (inblk_e ?_)
      refine then_n ?_
      refine wp_reg (by kernel_rfl) ?_
      refine ar_move rfl rfl rfl rfl ?_
      refine ar_addi rfl rfl rfl rfl (by omega) (by omega) rfl rfl ?_
      refine ar_assign rfl rfl rfl rfl ?_
      refine ar_nil ?_
      exact loop_n (j + 1) (by omega) (by omega) (le_to ⟨rfl, (int_eq rfl (by rw [hn (by omega)]; split <;> omega)), rfl, rfl, trivial⟩ ⟨(row_eq rfl (by first | exact congrArg (List.map encU) (fill_same (by omega) (.inl h22)) | exact congrArg (List.map encU) (fill_same (by omega) (.inr (List.eq_nil_of_length_eq_zero (by omega)))) | (exact congrArg (List.map encU) (fill_turn (by omega) (Decidable.not_not.1 h22) (by omega) (by rw [← hdg (by omega)]; first | (rw [h31]; rfl)))))), trivial⟩ rfl rfl rfl rfl)
    · refine ar_nil ?_
      refine then_n ?_
      refine wp_condF rfl ?_
      refine wp_skip ?_
      refine then_n ?_
      refine wp_seq ?_
      refine wp_seq ?_
      refine wp_reg (by kernel_rfl) ?_
      refine ar_move rfl rfl rfl rfl ?_
      refine ar_move rfl rfl rfl rfl ?_
      refine ar_len tab_ok rfl rfl tb28 rfl len_map rfl rfl ?_
      refine ar_lss_s rfl rfl rfl rfl rfl (fun h26 => ?_) (fun h26 => ?_)
      · refine ar_move rfl rfl rfl rfl ?_
        refine ar_move rfl rfl rfl rfl ?_
        refine ar_move rfl rfl rfl rfl ?_
        refine ar_ia tab_ok rfl rfl rfl tb28 rfl tb4 (by omega) (map_get (n := n + manyT (l.take j)) (by omega)) rfl rfl rfl ?_
        refine ar_ld_ref tab_ok rfl rfl tb4 rfl rfl rfl rfl ?_
        refine ar_split (fun h31 => ?_) (fun h31 => ?_)
        · refine ar_pickT rfl rfl rfl rfl rfl ?_
          refine ar_nil ?_
          refine then_n ?_
          refine wp_condT rfl ?_
          refine wp_reg (by kernel_rfl) ?_
          refine ar_move rfl rfl rfl rfl ?_
          refine ar_move rfl rfl rfl rfl ?_
          refine ar_ia_own tab_ok rfl rfl rfl rfl tb70 rfl tb72 rfl (by omega) (by simp only [List.length_map, hlr]; omega) rfl rfl rfl rfl ?_
          refine ar_st_e tab_ok rfl tb72 rfl rfl rfl rfl rfl (by simp only [List.length_map, hlr]; show j < _; omega) set_map rfl rfl rfl ?_
          refine ar_nil ?_
          refine then_n ?_
          refine wp_reg (by kernel_rfl) ?_
          refine ar_move rfl rfl rfl rfl ?_
          refine ar_addi rfl rfl rfl rfl (by omega) (by omega) rfl rfl ?_
          refine ar_assign rfl rfl rfl rfl ?_
          refine ar_nil ?_
          refine inblk_n ?_
          refine then_n ?_
          refine wp_reg (by kernel_rfl) ?_
          refine ar_move rfl rfl rfl rfl ?_
          refine ar_addi rfl rfl rfl rfl (by omega) (by omega) rfl rfl ?_
          refine ar_assign rfl rfl rfl rfl ?_
          refine ar_nil ?_
          exact loop_n (j + 1) (by omega) (by omega) (le_to ⟨rfl, (int_eq rfl (by rw [hn (by omega)]; split <;> omega)), rfl, rfl, trivial⟩ ⟨(row_eq rfl (by first | exact congrArg (List.map encU) (fill_same (by omega) (.inl h22)) | exact congrArg (List.map encU) (fill_same (by omega) (.inr (List.eq_nil_of_length_eq_zero (by omega)))) | (exact congrArg (List.map encU) (fill_turn (by omega) (Decidable.not_not.1 h22) (by omega) (by rw [← hdg (by omega)]; first | (rw [h31]; rfl)))))), trivial⟩ rfl rfl rfl rfl)
        · refine ar_pickT rfl rfl rfl rfl rfl ?_
          refine ar_nil ?_
          refine then_n ?_
          refine wp_condF rfl ?_
          refine wp_seq ?_
          refine wp_reg (by kernel_rfl) ?_
          refine ar_move rfl rfl rfl rfl ?_
          refine ar_move rfl rfl rfl rfl ?_
          refine ar_len tab_ok rfl rfl tb28 rfl len_map rfl rfl ?_
          refine ar_lss rfl rfl rfl (decide_eq_true (by omega)) rfl rfl ?_
          refine ar_nil ?_
          refine then_n ?_
          refine wp_condT rfl ?_
          refine wp_reg (by kernel_rfl) ?_
          refine ar_move rfl rfl rfl rfl ?_
          refine ar_move rfl rfl rfl rfl ?_
          refine ar_ia_own tab_ok rfl rfl rfl rfl tb70 rfl tb72 rfl (by omega) (by simp only [List.length_map, hlr]; omega) rfl rfl rfl rfl ?_
          refine ar_st_e tab_ok rfl tb72 rfl rfl rfl rfl rfl (by simp only [List.length_map, hlr]; show j < _; omega) set_map rfl rfl rfl ?_
          refine ar_nil ?_
          refine then_n ?_
          refine wp_reg (by kernel_rfl) ?_
          refine ar_move rfl rfl rfl rfl ?_
          refine ar_addi rfl rfl rfl rfl (by omega) (by omega) rfl rfl ?_
          refine ar_assign rfl rfl rfl rfl ?_
          refine ar_nil ?_
          refine inblk_n ?_
          refine then_n ?_
          refine wp_reg (by kernel_rfl) ?_
          refine ar_move rfl rfl rfl rfl ?_
          refine ar_addi rfl rfl rfl rfl (by omega) (by omega) rfl rfl ?_
          refine ar_assign rfl rfl rfl rfl ?_
          refine ar_nil ?_
          exact loop_n (j + 1) (by omega) (by omega) (le_to ⟨rfl, (int_eq rfl (by rw [hn (by omega)]; split <;> omega)), rfl, rfl, trivial⟩ ⟨(row_eq rfl (by first | exact congrArg (List.map encU) (fill_same (by omega) (.inl h22)) | exact congrArg (List.map encU) (fill_same (by omega) (.inr (List.eq_nil_of_length_eq_zero (by omega)))) | (exact congrArg (List.map encU) (fill_turn (by omega) (Decidable.not_not.1 h22) (by omega) (by rw [← hdg (by omega)]; first | (rw [h31]; rfl)))))), trivial⟩ rfl rfl rfl rfl)
      · refine ar_move rfl rfl rfl rfl ?_
        refine ar_skip rfl rfl ?_
        refine ar_skip rfl rfl ?_
        refine ar_skip rfl rfl ?_
        refine ar_skip rfl rfl ?_
        refine ar_pickF rfl rfl rfl rfl rfl ?_
        refine ar_nil ?_
        refine then_n ?_
        refine wp_condF rfl ?_
        refine wp_seq ?_
        refine wp_reg (by kernel_rfl) ?_
        refine ar_move rfl rfl rfl rfl ?_
        refine ar_move rfl rfl rfl rfl ?_
        refine ar_len tab_ok rfl rfl tb28 rfl len_map rfl rfl ?_
        refine ar_lss rfl rfl rfl (decide_eq_false (by omega)) rfl rfl ?_
        refine ar_nil ?_
        refine then_n ?_
        refine wp_condF rfl ?_
        refine wp_skip ?_
        refine then_n ?_
        refine wp_reg (by kernel_rfl) ?_
        refine ar_move rfl rfl rfl rfl ?_
        refine ar_addi rfl rfl rfl rfl (by omega) (by omega) rfl rfl ?_
        refine ar_assign rfl rfl rfl rfl ?_
        refine ar_nil ?_
        refine inblk_n ?_
        refine then_n ?_
        refine wp_reg (by kernel_rfl) ?_
        refine ar_move rfl rfl rfl rfl ?_
        refine ar_addi rfl rfl rfl rfl (by omega) (by omega) rfl rfl ?_
        refine ar_assign rfl rfl rfl rfl ?_
        refine ar_nil ?_
        exact loop_n (j + 1) (by omega) (by omega) (le_to ⟨rfl, (int_eq rfl (by rw [hn (by omega)]; split <;> omega)), rfl, rfl, trivial⟩ ⟨(row_eq rfl (by first | exact congrArg (List.map encU) (fill_same (by omega) (.inl h22)) | exact congrArg (List.map encU) (fill_same (by omega) (.inr (List.eq_nil_of_length_eq_zero (by omega)))) | (exact congrArg (List.map encU) (fill_turn (by omega) (Decidable.not_not.1 h22) (by omega) (by rw [← hdg (by omega)]; first | (rw [h31]; rfl)))))), trivial⟩ rfl rfl rfl rfl)
  · refine ar_nil ?_
    refine then_n ?_
    refine wp_condF rfl ?_
    refine wp_exit ?_
    refine then_x (loop_x (inblk_e ?_))
    refine then_n ?_
    refine wp_seq ?_
    refine wp_reg (by kernel_rfl) ?_
    refine ar_move rfl rfl rfl rfl ?_
    refine ar_assign rfl rfl rfl rfl ?_
    refine ar_nil ?_
    refine then_n ?_
    refine wp_ret ?_
    refine ret_post rfl rfl ?_
    have hi : j = l.length := by omega
    subst hi
    rw [List.take_length, List.drop_eq_nil_of_le (Nat.le_refl _), List.append_nil]

theorem pc_74 (t : Trace) (m : List Bool) (hz : SzT t) (hm : m.length ≤ 9223372036854775807) : PCall Try.prog 74 [trV t, slB m] (trV (fillT t m)) := by
  refine pc_of tab_ok (f := 74) (fn := Try.f74) (N := 47) (rs := [.cell 4 101]) (by kernel_rfl) rfl (by kernel_rfl) rfl rfl [(0, .v (trV t)), (1, .v (slB m))] ⟨rfl, rfl, trivial⟩ rfl rfl ?_
  intro B
  refine wp_seq ?_
  refine wp_reg (by kernel_rfl) ?_
  refine ar_box 2 [] rfl rfl rfl ⟨rfl, trivial⟩ rfl rfl rfl ?_
  refine ar_alloc (id := 4) tab_ok rfl rfl tb101 rfl rfl rfl rfl ?_
  refine ar_nil ?_
  refine then_n ?_
  refine wp_seq ?_
  refine wp_draw (L := [([2], []), ([2], []), ([2], []), ([2], []), ([], []), ([], []), ([], []), ([5], [5]), ([5], [5])]) (by kernel_rfl) mixed (by kernel_rfl) ?_
  refine ar_fa tab_ok rfl rfl rfl tb101 rfl rfl rfl rfl rfl ?_
  refine ar_ld tab_ok rfl rfl rfl tb3 rfl rfl rfl rfl rfl ?_
  refine ar_fa tab_ok rfl rfl rfl tb101 rfl rfl rfl rfl rfl ?_
  refine ar_ld tab_ok rfl rfl rfl tb70 rfl rfl rfl rfl rfl ?_
  refine ar_move rfl rfl rfl rfl ?_
  refine ar_call [] (pc_114 t.ini m 0 hz.il hm (by decide)) rfl rfl rfl rfl rfl rfl trivial (.inl rfl) rfl rfl rfl ?_
  refine ar_build [] tab_ok rfl tb101 rfl rfl trivial rfl rfl rfl rfl rfl rfl ?_
  refine ar_alloc (id := 5) tab_ok rfl rfl tb101 rfl rfl rfl rfl ?_
  refine ar_st [] tab_ok rfl tb101 rfl rfl rfl trivial rfl rfl rfl rfl rfl rfl rfl rfl ?_
  refine ar_nil ?_
  refine then_n ?_
  refine wp_seq ?_
  refine wp_reg (by kernel_rfl) ?_
  refine ar_fa tab_ok rfl rfl rfl tb101 rfl rfl rfl rfl rfl ?_
  refine ar_ld tab_ok rfl rfl rfl tb70 rfl rfl rfl rfl rfl ?_
  refine ar_call [] (pc_115 t.ini hz.il) rfl rfl rfl rfl rfl rfl trivial (.inl rfl) rfl rfl rfl ?_
  refine ar_assign rfl rfl rfl rfl ?_
  refine ar_nil ?_
  refine then_n ?_
  refine wp_seq ?_
  refine wp_seq ?_
  refine wp_reg (by kernel_rfl) ?_
  refine ar_assign rfl rfl rfl rfl ?_
  refine ar_nil ?_
  refine then_n ?_
  refine wp_block ?_
  refine wp_le (le_nilb (bid := 5) (id := 950) (e := 70) (sz := 1) (j := 2) rfl rfl rfl (by decide)) ?_
  refine wp_loop (α := Nat) (fun j => mk [(1, .v (slB m)), (2, .ptr 2 0), (4, .ptr 4 0), (5, .ptr 5 0), (6, .v (.int .i64 (manyT t.ini + manyR (t.ins.take j) : Nat))), (7, .v (.int .i64 (j : Nat)))] [(2, .box ((encT t).map .v)), (4, .box [.v (.int .i64 0), .nils, .nils]), (5, .box [.v (.int .i64 t.bad), .v (slU (fillR m t.ini)), .own 951]), (951, .row 70 1 ((fillRows (m.drop (manyT t.ini)) (t.ins.take j)).map encUs))] 0) (fun j => j ≤ t.ins.length) (fun j => t.ins.length - j) 0 (Nat.zero_le _) (le_ren [(951, 950)] ⟨rfl, rfl, rfl, rfl, (int_eq rfl (by simp [manyR])), rfl, trivial⟩ ⟨rfl, rfl, rfl, rfl, trivial⟩ rfl rfl rfl rfl rfl) ?_
  rintro j hinv
  have hnl := hz.nl
  have hmr := manyR_take (rs := t.ins) (by omega) hz.rl j
  have hmi := manyT_le t.ini
  have hil := hz.il
  have hmj := manyT_le (t.ins.getD j default)
  have hrj := fun h => hz.rl (t.ins.getD j default) (getD_mem (n := j) h)
  refine wp_seq ?_
  refine wp_seq ?_
  refine wp_reg (by kernel_rfl) ?_
  refine ar_move rfl rfl rfl rfl ?_
  refine ar_fa tab_ok rfl rfl rfl tb101 rfl rfl rfl rfl rfl ?_
  refine ar_ld tab_ok rfl rfl rfl tb99 rfl rfl rfl rfl rfl ?_
  refine ar_len tab_ok rfl rfl tb99 rfl len_map rfl rfl ?_
  refine ar_lss_s rfl rfl rfl rfl rfl (fun h22 => ?_) (fun h22 => ?_)
  · refine ar_nil ?_
    refine then_n ?_
    refine wp_condT rfl ?_
    refine wp_skip ?_
    refine then_n ?_
    refine wp_seq ?_
    refine wp_block ?_
    refine wp_seq ?_
    refine wp_draw (L := [([5], []), ([5], []), ([2], []), ([2], []), ([], []), ([], []), ([], []), ([], []), ([], []), ([], []), ([], []), ([36, 951], [36, 951]), ([5], []), ([5, 36], [5])]) (by kernel_rfl) mixed (by kernel_rfl) ?_
    refine ar_fa tab_ok rfl rfl rfl tb101 rfl rfl rfl rfl rfl ?_
    refine ar_ld tab_ok rfl rfl rfl tb99 rfl rfl rfl rfl rfl ?_
    refine ar_fa tab_ok rfl rfl rfl tb101 rfl rfl rfl rfl rfl ?_
    refine ar_ld tab_ok rfl rfl rfl tb99 rfl rfl rfl rfl rfl ?_
    refine ar_move rfl rfl rfl rfl ?_
    refine ar_ia tab_ok rfl rfl rfl tb99 rfl tb70 (by omega) (map_get (n := j) (by omega)) rfl rfl rfl ?_
    refine ar_ld_ref tab_ok rfl rfl tb70 rfl rfl rfl rfl ?_
    refine ar_move rfl rfl rfl rfl ?_
    refine ar_move rfl rfl rfl rfl ?_
    refine ar_call [] (pc_114 (t.ins.getD j default) m (manyT t.ini + manyR (t.ins.take j)) (hrj (by omega)) hm (by omega)) rfl rfl rfl rfl rfl rfl trivial (.inl rfl) rfl rfl rfl ?_
    refine ar_bs [] tab_ok rfl tb99 rfl tb70 rfl trivial rfl rfl rfl rfl rfl rfl rfl rfl ?_
    refine ar_app 36 [] tab_ok rfl tb99 rfl tb99 rfl tb70 rfl rfl rfl rfl ⟨rfl, rfl, trivial⟩ rfl (elOk.cons rfl rfl elOk.nil) app_one (by constructor <;> simp [fillRows_len] <;> omega) rfl rfl rfl ?_
    refine ar_fa tab_ok rfl rfl rfl tb101 rfl rfl rfl rfl rfl ?_
    refine ar_st [(36, _)] tab_ok rfl tb99 rfl rfl rfl ⟨rfl, trivial⟩ rfl rfl rfl rfl rfl rfl rfl rfl ?_
    refine ar_nil ?_
    refine then_n ?_
    have hrj2 := hrj (by omega)
    refine wp_reg (by kernel_rfl) ?_
    refine ar_move rfl rfl rfl rfl ?_
    refine ar_fa tab_ok rfl rfl rfl tb101 rfl rfl rfl rfl rfl ?_
    refine ar_ld tab_ok rfl rfl rfl tb99 rfl rfl rfl rfl rfl ?_
    refine ar_move rfl rfl rfl rfl ?_
    refine ar_ia tab_ok rfl rfl rfl tb99 rfl tb70 (by omega) (map_get (n := j) (by omega)) rfl rfl rfl ?_
    refine ar_ld_ref tab_ok rfl rfl tb70 rfl rfl rfl rfl ?_
    refine ar_call [] (pc_115 (t.ins.getD j default) (hrj (by omega))) rfl rfl rfl rfl rfl rfl trivial (.inl rfl) rfl rfl rfl ?_
    refine ar_addi rfl rfl rfl rfl (by omega) (by omega) rfl rfl ?_
    refine ar_assign rfl rfl rfl rfl ?_
    refine ar_nil ?_
    refine inblk_n ?_
    refine then_n ?_
    refine wp_reg (by kernel_rfl) ?_
    refine ar_move rfl rfl rfl rfl ?_
    refine ar_addi rfl rfl rfl rfl (by omega) (by omega) rfl rfl ?_
    refine ar_assign rfl rfl rfl rfl ?_
    refine ar_nil ?_
    exact loop_n (j + 1) (by omega) (by omega) (le_ren [(951, 36)] ⟨rfl, rfl, rfl, rfl, (int_eq rfl (by rw [take_snoc (n := j) (by omega), manyR_snoc]; omega)), rfl, trivial⟩ ⟨rfl, rfl, rfl, (row_eq rfl (by rw [take_snoc (by omega), fillRows_snoc, List.drop_drop] <;> simp)), trivial⟩ rfl rfl rfl rfl rfl)
  · refine ar_nil ?_
    refine then_n ?_
    refine wp_condF rfl ?_
    refine wp_exit ?_
    refine then_x (loop_x (inblk_e ?_))
    refine then_n ?_
    refine wp_seq ?_
    refine wp_reg (by kernel_rfl) ?_
    refine ar_lda tab_ok rfl rfl rfl tb101 rfl rfl rfl rfl rfl rfl ?_
    refine ar_st [(951, _)] tab_ok rfl tb101 rfl rfl rfl ⟨rfl, trivial⟩ rfl rfl rfl rfl rfl rfl rfl rfl ?_
    refine ar_nil ?_
    refine then_n ?_
    refine wp_ret ?_
    refine ret_post rfl rfl ?_
    have hi : j = t.ins.length := by omega
    subst hi
    rw [List.take_length]; rfl

def flagsT (l : List Int) : List Bool := l.map fun x => decide (x = 1)

theorem pc_124 (ls : List Int) (hl : ls.length ≤ 1000000) : PCall Try.prog 124 [slU ls] (slB (flagsT ls)) := by
  refine pc_of tab_ok (f := 124) (fn := Try.f124) (N := 23) (rs := [.tmp 2]) (by kernel_rfl) rfl (by kernel_rfl) rfl rfl [(0, .v (slU ls))] ⟨rfl, trivial⟩ rfl rfl ?_
  intro B
  refine wp_seq ?_
  refine wp_reg (by kernel_rfl) ?_
  refine ar_assign rfl rfl rfl rfl ?_
  refine ar_nil ?_
  refine then_n ?_
  refine wp_seq ?_
  refine wp_reg (by kernel_rfl) ?_
  refine ar_move rfl rfl rfl rfl ?_
  refine ar_len tab_ok rfl rfl tb70 rfl len_map rfl rfl ?_
  refine ar_make (es := (List.replicate ls.length false).map encB) 8 (el0 := [.bool false]) tab_ok rfl tb28 rfl tb4 rfl rfl rfl rfl rfl ⟨by omega, by omega, by omega, by simp; omega⟩ (by simp) rfl rfl rfl rfl ?_
  refine ar_assign rfl rfl rfl rfl ?_
  refine ar_nil ?_
  refine then_n ?_
  refine wp_seq ?_
  refine wp_seq ?_
  refine wp_reg (by kernel_rfl) ?_
  refine ar_move rfl rfl rfl rfl ?_
  refine ar_len tab_ok rfl rfl tb70 rfl len_map rfl rfl ?_
  refine ar_move rfl rfl rfl rfl ?_
  refine ar_nil ?_
  refine then_n ?_
  refine wp_block ?_
  refine wp_loop (α := Nat) (fun j => mk [(3, .own 8), (9, .v (slU ls)), (10, .v (.int .i64 (ls.length : Nat))), (11, .v (.int .i64 (j : Nat)))] [(8, .row 4 1 (((ls.take j).map (fun x => decide (x = 1)) ++ List.replicate (ls.length - j) false).map encB))] 0) (fun j => j ≤ ls.length) (fun j => ls.length - j) 0 (Nat.zero_le _) (le_to ⟨rfl, rfl, rfl, rfl, trivial⟩ ⟨(row_eq rfl (by simp)), trivial⟩ rfl rfl rfl rfl) ?_
  rintro j hinv
  refine wp_seq ?_
  refine wp_reg (by kernel_rfl) ?_
  refine ar_lss_s rfl rfl rfl rfl rfl (fun h12 => ?_) (fun h12 => ?_)
  · refine ar_nil ?_
    refine then_n ?_
    refine wp_seq ?_
    refine wp_condT rfl ?_
    refine wp_skip ?_
    refine then_n ?_
    refine wp_seq ?_
    refine wp_block ?_
    refine wp_seq ?_
    refine wp_reg (by kernel_rfl) ?_
    refine ar_move rfl rfl rfl rfl ?_
    refine ar_ia tab_ok rfl rfl rfl tb70 rfl tb72 (by omega) (map_get (n := j) (by omega)) rfl rfl rfl ?_
    refine ar_ld_ref tab_ok rfl rfl tb72 rfl rfl rfl rfl ?_
    refine ar_assign rfl rfl rfl rfl ?_
    refine ar_assign rfl rfl rfl rfl ?_
    refine ar_nil ?_
    refine then_n ?_
    refine wp_reg (by kernel_rfl) ?_
    refine ar_move rfl rfl rfl rfl ?_
    refine ar_move rfl rfl rfl rfl ?_
    refine ar_move rfl rfl rfl rfl ?_
    refine ar_eql rfl rfl rfl rfl rfl rfl ?_
    refine ar_ia_own tab_ok rfl rfl rfl rfl tb28 rfl tb4 rfl (by omega) (by simp; omega) rfl rfl rfl rfl ?_
    refine ar_st_e tab_ok rfl tb4 rfl rfl rfl rfl rfl (by simp; omega) set_map rfl rfl rfl ?_
    refine ar_nil ?_
    refine inblk_n ?_
    refine then_n ?_
    refine wp_reg (by kernel_rfl) ?_
    refine ar_addi rfl rfl rfl rfl (by omega) (by omega) rfl rfl ?_
    refine ar_move rfl rfl rfl rfl ?_
    refine ar_nil ?_
    exact loop_n (j + 1) (by omega) (by omega) (le_to ⟨rfl, rfl, rfl, rfl, trivial⟩ ⟨(row_eq rfl (by exact congrArg _ (fill_step (fun x => decide (x = 1)) ls j (by omega)))), trivial⟩ rfl rfl rfl rfl)
  · refine ar_nil ?_
    refine then_n ?_
    refine wp_seq ?_
    refine wp_condF rfl ?_
    refine wp_exit ?_
    refine then_x (loop_x (inblk_e ?_))
    refine then_n ?_
    refine wp_seq ?_
    refine wp_reg (by kernel_rfl) ?_
    refine ar_move rfl rfl rfl rfl ?_
    refine ar_assign rfl rfl rfl rfl ?_
    refine ar_nil ?_
    refine then_n ?_
    refine wp_ret ?_
    refine ret_post rfl rfl ?_
    have hi : j = ls.length := by omega
    subst hi
    simp [flagsT]

theorem pc_119 (ls : List Int) (hl : ls.length ≤ 1000000) : PCall Try.prog 119 [slU ls] (slB (flagsT ls)) := by
  refine pc_of tab_ok (f := 119) (fn := Try.f119) (N := 20) (rs := [.tmp 2]) (by kernel_rfl) rfl (by kernel_rfl) rfl rfl [(0, .v (slU ls))] ⟨rfl, trivial⟩ rfl rfl ?_
  intro B
  refine wp_seq ?_
  refine wp_reg (by kernel_rfl) ?_
  refine ar_assign rfl rfl rfl rfl ?_
  refine ar_nil ?_
  refine then_n ?_
  refine wp_seq ?_
  refine wp_reg (by kernel_rfl) ?_
  refine ar_assign rfl rfl rfl rfl ?_
  refine ar_nil ?_
  refine then_n ?_
  refine wp_seq ?_
  refine wp_seq ?_
  refine wp_reg (by kernel_rfl) ?_
  refine ar_assign rfl rfl rfl rfl ?_
  refine ar_nil ?_
  refine then_n ?_
  refine wp_block ?_
  refine wp_le (le_nil (t := 3) (id := 900) (e := 4) (sz := 1) rfl rfl (by decide)) ?_
  refine wp_loop (α := Nat) (fun j => mk [(0, .v (slU ls)), (3, .own 901), (4, .v (.int .i64 (j : Nat)))] [(901, .row 4 1 ((flagsT (ls.take j)).map encB))] 0) (fun j => j ≤ ls.length) (fun j => ls.length - j) 0 (Nat.zero_le _) (le_ren [(901, 900)] ⟨rfl, rfl, rfl, trivial⟩ ⟨rfl, trivial⟩ rfl rfl rfl rfl rfl) ?_
  rintro j hinv
  refine wp_seq ?_
  refine wp_seq ?_
  refine wp_reg (by kernel_rfl) ?_
  refine ar_move rfl rfl rfl rfl ?_
  refine ar_move rfl rfl rfl rfl ?_
  refine ar_len tab_ok rfl rfl tb70 rfl len_map rfl rfl ?_
  refine ar_lss_s rfl rfl rfl rfl rfl (fun h8 => ?_) (fun h8 => ?_)
  · refine ar_nil ?_
    refine then_n ?_
    refine wp_condT rfl ?_
    refine wp_skip ?_
    refine then_n ?_
    refine wp_seq ?_
    refine wp_block ?_
    refine wp_reg (by kernel_rfl) ?_
    refine ar_move rfl rfl rfl rfl ?_
    refine ar_move rfl rfl rfl rfl ?_
    refine ar_move rfl rfl rfl rfl ?_
    refine ar_ia tab_ok rfl rfl rfl tb70 rfl tb72 (by omega) (map_get (n := j) (by omega)) rfl rfl rfl ?_
    refine ar_ld_ref tab_ok rfl rfl tb72 rfl rfl rfl rfl ?_
    refine ar_eql rfl rfl rfl rfl rfl rfl ?_
    refine ar_bs [] tab_ok rfl tb28 rfl tb4 rfl trivial rfl rfl rfl rfl rfl rfl rfl rfl ?_
    refine ar_app 18 [] tab_ok rfl tb28 rfl tb28 rfl tb4 rfl rfl rfl rfl ⟨rfl, rfl, trivial⟩ rfl (elOk.cons rfl rfl elOk.nil) app_one (by constructor <;> simp [flagsT] <;> omega) rfl rfl rfl ?_
    refine ar_assign rfl rfl rfl rfl ?_
    refine ar_nil ?_
    refine inblk_n ?_
    refine then_n ?_
    refine wp_reg (by kernel_rfl) ?_
    refine ar_move rfl rfl rfl rfl ?_
    refine ar_addi rfl rfl rfl rfl (by omega) (by omega) rfl rfl ?_
    refine ar_assign rfl rfl rfl rfl ?_
    refine ar_nil ?_
    exact loop_n (j + 1) (by omega) (by omega) (le_ren [(901, 18)] ⟨rfl, rfl, rfl, trivial⟩ ⟨(row_eq rfl (by rw [take_snoc (by omega)]; simp [flagsT])), trivial⟩ rfl rfl rfl rfl rfl)
  · refine ar_nil ?_
    refine then_n ?_
    refine wp_condF rfl ?_
    refine wp_exit ?_
    refine then_x (loop_x (inblk_e ?_))
    refine then_n ?_
    refine wp_seq ?_
    refine wp_reg (by kernel_rfl) ?_
    refine ar_move rfl rfl rfl rfl ?_
    refine ar_assign rfl rfl rfl rfl ?_
    refine ar_nil ?_
    refine then_n ?_
    refine wp_ret ?_
    refine ret_post rfl rfl ?_
    have hi : j = ls.length := by omega
    subst hi
    rw [List.take_length]

theorem pce_143 (xs : List Bool) (v : Bool) (hl : xs.length ≤ 9223372036854775807) : PCallE Try.prog 143 [slB xs, .bool v] (fun r => ∃ n : Int, r = .int .i64 n ∧ decide (n ≥ 0) = xs.any (fun b => v == b)) := by
  refine pce_of tab_ok (f := 143) (fn := Try.f143) (N := 19) (rs := [.tmp 4]) (by kernel_rfl) rfl (by kernel_rfl) rfl rfl [(0, .v (slB xs)), (1, .v (.bool v))] ⟨rfl, rfl, trivial⟩ rfl rfl ?_
  intro B
  refine wp_seq ?_
  refine wp_reg (by kernel_rfl) ?_
  refine ar_assign rfl rfl rfl rfl ?_
  refine ar_nil ?_
  refine then_n ?_
  refine wp_seq ?_
  refine wp_seq ?_
  refine wp_reg (by kernel_rfl) ?_
  refine ar_move rfl rfl rfl rfl ?_
  refine ar_len tab_ok rfl rfl tb28 rfl len_map rfl rfl ?_
  refine ar_move rfl rfl rfl rfl ?_
  refine ar_nil ?_
  refine then_n ?_
  refine wp_block ?_
  refine wp_loop (α := Nat) (fun j => mk [(0, .v (slB xs)), (1, .v (.bool v)), (7, .v (.int .i64 (xs.length : Nat))), (8, .v (.int .i64 (j : Nat)))] [] 0) (fun j => j ≤ xs.length ∧ ∀ q, q < j → (v == xs.getD q default) = false) (fun j => xs.length - j) 0 ⟨Nat.zero_le _, fun q h => absurd h (Nat.not_lt_zero q)⟩ (le_to ⟨rfl, rfl, rfl, rfl, trivial⟩ trivial rfl rfl rfl rfl) ?_
  rintro j ⟨hj1, hj2⟩
  refine wp_seq ?_
  refine wp_reg (by kernel_rfl) ?_
  refine ar_lss_s rfl rfl rfl rfl rfl (fun h9 => ?_) (fun h9 => ?_)
  · refine ar_nil ?_
    refine then_n ?_
    refine wp_seq ?_
    refine wp_condT rfl ?_
    refine wp_skip ?_
    refine then_n ?_
    refine wp_seq ?_
    refine wp_block ?_
    refine wp_seq ?_
    refine wp_reg (by kernel_rfl) ?_
    refine ar_move rfl rfl rfl rfl ?_
    refine ar_assign rfl rfl rfl rfl ?_
    refine ar_nil ?_
    refine then_n ?_
    refine wp_seq ?_
    refine wp_reg (by kernel_rfl) ?_
    refine ar_move rfl rfl rfl rfl ?_
    refine ar_move rfl rfl rfl rfl ?_
    refine ar_move rfl rfl rfl rfl ?_
    refine ar_ia tab_ok rfl rfl rfl tb28 rfl tb4 (by omega) (map_get (n := j) (by omega)) rfl rfl rfl ?_
    refine ar_ld_ref tab_ok rfl rfl tb4 rfl rfl rfl rfl ?_
    refine ar_beql tab_ok rfl rfl rfl tb4 rfl rfl rfl rfl ?_
    refine ar_split (fun h16 => ?_) (fun h16 => ?_)
    · refine ar_nil ?_
      refine then_n ?_
      refine wp_condT rfl ?_
      refine wp_seq ?_
      refine wp_reg (by kernel_rfl) ?_
      refine ar_move rfl rfl rfl rfl ?_
      refine ar_assign rfl rfl rfl rfl ?_
      refine ar_nil ?_
      refine then_n ?_
      refine wp_ret ?_
      refine inblk_r (then_r (loop_r (inblk_r (then_r (ret_postE rfl rfl ?_)))))
      exact ⟨_, rfl, by rw [any_of (p := fun b => v == b) (j := j) (by omega) h16]; simp⟩
    · refine ar_nil ?_
      refine then_n ?_
      refine wp_condF rfl ?_
      refine wp_skip ?_
      refine inblk_n ?_
      refine then_n ?_
      refine wp_reg (by kernel_rfl) ?_
      refine ar_addi rfl rfl rfl rfl (by omega) (by omega) rfl rfl ?_
      refine ar_move rfl rfl rfl rfl ?_
      refine ar_nil ?_
      exact loop_n (j + 1) ⟨by omega, fun q hq => (Nat.lt_succ_iff_lt_or_eq.1 hq).elim (hj2 q) (fun e => e ▸ h16)⟩ (by omega) (le_to ⟨rfl, rfl, rfl, rfl, trivial⟩ trivial rfl rfl rfl rfl)
  · refine ar_nil ?_
    refine then_n ?_
    refine wp_seq ?_
    refine wp_condF rfl ?_
    refine wp_exit ?_
    refine then_x (loop_x (inblk_e ?_))
    refine then_n ?_
    refine wp_seq ?_
    refine wp_reg (by kernel_rfl) ?_
    refine ar_assign rfl rfl rfl rfl ?_
    refine ar_nil ?_
    refine then_n ?_
    refine wp_ret ?_
    refine ret_postE rfl rfl ?_
    exact ⟨_, rfl, by rw [any_no (p := fun b => v == b) (fun q hq => hj2 q (by omega))]; rfl⟩

theorem pc_125 (xs : List Bool) (v : Bool) (hl : xs.length ≤ 9223372036854775807) : PCall Try.prog 125 [slB xs, .bool v] (.bool (xs.any (fun b => v == b))) := by
  refine pc_of tab_ok (f := 125) (fn := Try.f125) (N := 9) (rs := [.tmp 4]) (by kernel_rfl) rfl (by kernel_rfl) rfl rfl [(0, .v (slB xs)), (1, .v (.bool v))] ⟨rfl, rfl, trivial⟩ rfl rfl ?_
  intro B
  refine wp_seq ?_
  refine wp_reg (by kernel_rfl) ?_
  refine ar_assign rfl rfl rfl rfl ?_
  refine ar_nil ?_
  refine then_n ?_
  refine wp_seq ?_
  refine wp_reg (by kernel_rfl) ?_
  refine ar_move rfl rfl rfl rfl ?_
  refine ar_move rfl rfl rfl rfl ?_
  refine ar_callE [] (pce_143 xs v hl) rfl rfl rfl rfl rfl rfl trivial (.inl rfl) rfl rfl rfl ?_
  rintro _ ⟨n, rfl, hn⟩
  refine ar_geq (z := xs.any (fun b => v == b)) rfl rfl rfl hn rfl rfl ?_
  refine ar_assign rfl rfl rfl rfl ?_
  refine ar_nil ?_
  refine then_n ?_
  refine wp_ret ?_
  refine ret_post rfl rfl ?_
  rfl

end Go.Vd
