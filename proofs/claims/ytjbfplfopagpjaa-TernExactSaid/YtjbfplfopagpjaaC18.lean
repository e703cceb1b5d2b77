/- TernBelow, TernBelows: as the program tells them. -/
import Derived.Test.YtjbfplfopagpjaaC17
namespace Go.Vd
open Go.Proofs

theorem pairs_append {α β : Type} {p : α → β → Bool} : ∀ {xs : List α} {ys : List β} {xs' : List α} {ys' : List β}, pairs p xs ys = true → pairs p xs' ys' = true → pairs p (xs ++ xs') (ys ++ ys') = true
  | [], [], _, _, _, h => h
  | x :: xs, y :: ys, _, _, h, h' => by
    simp only [pairs, Bool.and_eq_true] at h
    simp only [List.cons_append, pairs, Bool.and_eq_true]
    exact ⟨h.1, pairs_append h.2 h'⟩
  | [], _ :: _, _, _, h, _ => by simp [pairs] at h
  | _ :: _, [], _, _, h, _ => by simp [pairs] at h
theorem pairs_same {α β : Type} {p : α → β → Bool} : ∀ {xs : List α} {ys : List β}, pairs p xs ys = true → xs.length = ys.length
  | [], [], _ => rfl
  | x :: xs, y :: ys, h => by
    simp only [pairs, Bool.and_eq_true] at h
    simp [pairs_same h.2]
  | [], _ :: _, h => by simp [pairs] at h
  | _ :: _, [], h => by simp [pairs] at h
theorem pairs_map {α β γ : Type} {p : α → β → Bool} {f : γ → α} {g : γ → β} : ∀ {ls : List γ}, (∀ l, l ∈ ls → p (f l) (g l) = true) → pairs p (ls.map f) (ls.map g) = true
  | [], _ => rfl
  | l :: ls, h => by
    simp only [List.map_cons, pairs, Bool.and_eq_true]
    exact ⟨h l List.mem_cons_self, pairs_map fun x hx => h x (List.mem_cons_of_mem _ hx)⟩
theorem low_iff {x y : Int} : lowT x y = true ↔ x = y ∨ y = 2 := by simp [lowT]
theorem low_refl (x : Int) : lowT x x = true := low_iff.2 (.inl rfl)
theorem low_top (x : Int) : lowT x 2 = true := low_iff.2 (.inr rfl)
theorem low_trans {x y z : Int} (h : lowT x y = true) (h' : lowT y z = true) : lowT x z = true := by
  rw [low_iff] at *; omega
theorem low_not {x y : Int} (h : lowT x y = true) : lowT (notT x) (notT y) = true := by
  rcases low_iff.1 h with rfl | rfl
  · exact low_refl _
  · exact low_top _
theorem low_and {x x' y y' : Int} (h : lowT x x' = true) (h' : lowT y y' = true) : lowT (andT x y) (andT x' y') = true := by
  rw [low_iff] at *
  unfold andT
  rcases h with rfl | rfl <;> rcases h' with rfl | rfl <;> (repeat' split) <;> omega
theorem low_lit {v w : List Int} (h : pairs lowT v w = true) (l : Int) : lowT (litT v l) (litT w l) = true := by
  have hl := pairs_same h
  have hp := ((pairs_iff lowT v w).1 h).2
  unfold litT
  by_cases hc : 0 ≤ l ∧ l / 2 < v.length
  · have hc' : 0 ≤ l ∧ l / 2 < w.length := by omega
    have hj := hp (l / 2).toNat (by omega)
    rw [if_pos hc, if_pos hc']
    split
    · exact low_not hj
    · exact hj
  · have hc' : ¬ (0 ≤ l ∧ l / 2 < w.length) := by omega
    rw [if_neg hc, if_neg hc']; rfl
theorem low_vals : ∀ (gs : List Gate) {v w : List Int}, pairs lowT v w = true → pairs lowT (valsT v gs) (valsT w gs) = true
  | [], _, _, h => h
  | g :: gs, v, w, h => by
    simp only [valsT]
    refine low_vals gs (pairs_append h ?_)
    simp only [pairs, Bool.and_true]
    exact low_and (low_lit h _) (low_lit h _)
theorem low_step (a : Aig) {v w : List Int} (h : pairs lowT v w = true) :
    pairs lowT (stepTV a v).n (stepTV a w).n = true ∧ pairs lowT (stepTV a v).o (stepTV a w).o = true ∧ pairs lowT (stepTV a v).b (stepTV a w).b = true ∧ pairs lowT (stepTV a v).c (stepTV a w).c = true :=
  ⟨pairs_map fun l _ => low_lit h _, pairs_map fun l _ => low_lit h _, pairs_map fun l _ => low_lit h _, pairs_map fun l _ => low_lit h _⟩
theorem low_valsTV {a : Aig} {st st' inp inp' : List Int} (h : pairs lowT st st' = true) (h' : pairs lowT inp inp' = true) : pairs lowT (valsTV a st inp) (valsTV a st' inp') = true := by
  refine low_vals _ ?_
  simp only [pairs, Bool.and_eq_true]
  exact ⟨low_refl _, pairs_append h' h⟩
theorem stepT_low {a : Aig} {st st' inp inp' : List Int} (hs : shapeT a st inp) (hs' : shapeT a st' inp') (h : pairs lowT st st' = true) (h' : pairs lowT inp inp' = true) :
    pairs lowT (stepT a st inp).n (stepT a st' inp').n = true ∧ pairs lowT (stepT a st inp).o (stepT a st' inp').o = true ∧ pairs lowT (stepT a st inp).b (stepT a st' inp').b = true ∧ pairs lowT (stepT a st inp).c (stepT a st' inp').c = true := by
  rw [stepT_ok hs, stepT_ok hs']; exact low_step a (low_valsTV h h')
theorem valuesT_low {a : Aig} {st st' inp inp' : List Int} (hs : shapeT a st inp) (hs' : shapeT a st' inp') (h : pairs lowT st st' = true) (h' : pairs lowT inp inp' = true) : pairs lowT (valuesT a st inp).1 (valuesT a st' inp').1 = true := by
  rw [valuesT_ok hs, valuesT_ok hs']; exact low_valsTV h h'
theorem vt7 {a : Aig} {st inp : List Int} (h : (valuesT a st inp).2 ≠ 0) : (valuesT a st inp).2 = 7 := by
  by_cases hs : shapeT a st inp
  · rw [valuesT_ok hs] at h; exact absurd rfl h
  · rw [valuesT_bad hs]
theorem vt0 {a : Aig} {st inp : List Int} (h : ¬ (valuesT a st inp).2 ≠ 0) : shapeT a st inp := by
  by_cases hs : shapeT a st inp
  · exact hs
  · rw [valuesT_bad hs] at h; exact absurd (by decide) h
theorem stepT_e {a : Aig} {st inp : List Int} : (stepT a st inp).e = (valuesT a st inp).2 := by
  by_cases hs : shapeT a st inp
  · rw [valuesT_ok hs, stepT_ok hs]
  · rw [valuesT_bad hs, stepT_bad hs]
theorem pairs_refl : ∀ (x : List Int), pairs lowT x x = true
  | [] => rfl
  | x :: xs => by simp only [pairs, Bool.and_eq_true]; exact ⟨low_refl x, pairs_refl xs⟩
theorem pairs_trans : ∀ {x y z : List Int}, pairs lowT x y = true → pairs lowT y z = true → pairs lowT x z = true
  | [], [], _, _, h => h
  | x :: xs, y :: ys, [], _, h => by simp [pairs] at h
  | x :: xs, y :: ys, z :: zs, h, h' => by
    simp only [pairs, Bool.and_eq_true] at *
    exact ⟨low_trans h.1 h'.1, pairs_trans h.2 h'.2⟩
  | [], _ :: _, _, h, _ => by simp [pairs] at h
  | _ :: _, [], _, h, _ => by simp [pairs] at h
theorem pairs_anti : ∀ {x y : List Int}, pairs lowT x y = true → pairs lowT y x = true → x = y
  | [], [], _, _ => rfl
  | x :: xs, y :: ys, h, h' => by
    simp only [pairs, Bool.and_eq_true, low_iff] at h h'
    rw [pairs_anti h.2 h'.2, show x = y by omega]
  | [], _ :: _, h, _ => by simp [pairs] at h
  | _ :: _, [], h, _ => by simp [pairs] at h
theorem low_anti1 {x y : List Int} (h : belowT x y = true) : (belowT y x != decide (x = y)) = false := by
  by_cases he : x = y
  · subst he; rw [h]; simp
  · have : belowT y x = false := by
      cases hb : belowT y x with
      | false => rfl
      | true => exact absurd (pairs_anti h hb) he
    rw [this]; simp [he]
theorem low_anti0 {x y : List Int} (h : belowT x y = false) : (false != decide (x = y)) = false := by
  have he : ¬ x = y := fun he => by subst he; rw [show belowT x x = true from pairs_refl x] at h; cases h
  simp [he]
theorem low_all : ∀ (x : List Int), pairs lowT x (x.map fun _ => 2) = true
  | [] => rfl
  | x :: xs => by simp only [List.map_cons, pairs, Bool.and_eq_true]; exact ⟨low_top x, low_all xs⟩
theorem pairs_none : ∀ {x y : List Int}, (x.all fun a => decide (a ≠ 2)) = true → pairs lowT y x = true → x = y
  | [], [], _, _ => rfl
  | x :: xs, y :: ys, h, h' => by
    simp only [List.all_cons, Bool.and_eq_true, decide_eq_true_eq] at h
    simp only [pairs, Bool.and_eq_true, low_iff] at h'
    rw [pairs_none h.2 h'.2, show x = y by omega]
  | [], _ :: _, _, h => by simp [pairs] at h
  | _ :: _, [], _, h => by simp [pairs] at h
theorem low_none {x y : List Int} (h : (x.all fun a => decide (a ≠ 2)) = true) : (belowT y x == decide (x = y)) = true := by
  by_cases he : x = y
  · subst he; rw [show belowT x x = true from pairs_refl x]; simp
  · have : belowT y x = false := by
      cases hb : belowT y x with
      | false => rfl
      | true => exact absurd (pairs_none h hb) he
    rw [this]; simp [he]

abbrev enc2 (p : List Int × List Int) : List V := [slU p.1, slU p.2]

theorem pc_12 (a : Aig) (p q : List Int × List Int) (hf : Fit a) (hp1 : Nn p.1) (hp2 : Nn p.2) (hq1 : Nn q.1) (hq2 : Nn q.2) (lp1 : p.1.length ≤ 9223372036854775807) (lp2 : p.2.length ≤ 9223372036854775807) (lq1 : q.1.length ≤ 9223372036854775807) (lq2 : q.2.length ≤ 9223372036854775807) : PCall Try.prog 12 [aigV a, .agg (enc2 p), .agg (enc2 q)] (.bool true) := by
  refine pc_of tab_ok (f := 12) (fn := Try.f12) (N := 156) (rs := [.tmp 6]) (by kernel_rfl) rfl (by kernel_rfl) rfl rfl [(0, .v (aigV a)), (1, .v (.agg (enc2 p))), (2, .v (.agg (enc2 q)))] ⟨rfl, rfl, rfl, trivial⟩ rfl rfl ?_
  intro B
  refine wp_seq ?_
  refine wp_reg (by kernel_rfl) ?_
  refine ar_box 3 [] rfl rfl rfl ⟨rfl, trivial⟩ rfl rfl rfl ?_
  refine ar_box 4 [] rfl rfl rfl ⟨rfl, trivial⟩ rfl rfl rfl ?_
  refine ar_box 5 [] rfl rfl rfl ⟨rfl, trivial⟩ rfl rfl rfl ?_
  refine ar_assign rfl rfl rfl rfl ?_
  refine ar_nil ?_
  refine then_n ?_
  refine wp_seq ?_
  refine wp_reg (by kernel_rfl) ?_
  refine ar_call [] (pc_44) rfl rfl rfl rfl rfl rfl trivial (.inl rfl) rfl rfl rfl ?_
  refine ar_assign rfl rfl rfl rfl ?_
  refine ar_nil ?_
  refine then_n ?_
  refine wp_seq ?_
  refine wp_seq ?_
  refine wp_reg (by kernel_rfl) ?_
  refine ar_lda tab_ok rfl rfl rfl tb27 rfl rfl rfl rfl rfl rfl ?_
  refine ar_callE [] (pce_55 a hf) rfl rfl rfl rfl rfl rfl trivial (.inl rfl) rfl rfl rfl ?_
  rintro _ ⟨b21, rfl, hb21⟩
  refine ar_split (fun h21 => ?_) (fun h21 => ?_)
  · refine ar_not rfl rfl rfl rfl rfl ?_
    refine ar_move rfl rfl rfl rfl ?_
    refine ar_ia_arr tab_ok rfl rfl rfl rfl tb90 rfl tb70 (by omega) (by omega) rfl rfl rfl rfl ?_
    refine ar_ld tab_ok rfl rfl rfl tb70 rfl rfl rfl rfl rfl ?_
    refine ar_len tab_ok rfl rfl tb70 rfl len_map rfl rfl ?_
    refine ar_gtr_s rfl rfl rfl rfl rfl (fun h27 => ?_) (fun h27 => ?_)
    · refine ar_pickF rfl rfl rfl rfl rfl ?_
      refine ar_move rfl rfl rfl rfl ?_
      refine ar_skip rfl rfl ?_
      refine ar_skip rfl rfl ?_
      refine ar_skip rfl rfl ?_
      refine ar_skip rfl rfl ?_
      refine ar_pickT rfl rfl rfl rfl rfl ?_
      refine ar_move rfl rfl rfl rfl ?_
      refine ar_skip rfl rfl ?_
      refine ar_skip rfl rfl ?_
      refine ar_skip rfl rfl ?_
      refine ar_skip rfl rfl ?_
      refine ar_skip rfl rfl ?_
      refine ar_skip rfl rfl ?_
      refine ar_pickT rfl rfl rfl rfl rfl ?_
      refine ar_move rfl rfl rfl rfl ?_
      refine ar_skip rfl rfl ?_
      refine ar_skip rfl rfl ?_
      refine ar_skip rfl rfl ?_
      refine ar_skip rfl rfl ?_
      refine ar_skip rfl rfl ?_
      refine ar_skip rfl rfl ?_
      refine ar_pickT rfl rfl rfl rfl rfl ?_
      refine ar_nil ?_
      refine then_n ?_
      refine wp_condT rfl ?_
      refine wp_seq ?_
      refine wp_reg (by kernel_rfl) ?_
      refine ar_move rfl rfl rfl rfl ?_
      refine ar_assign rfl rfl rfl rfl ?_
      refine ar_nil ?_
      refine then_n ?_
      refine wp_ret ?_
      refine then_r (ret_post rfl rfl ?_)
      first | rfl | exact congrArg V.bool (stepT_low (vt0 h91) (vt0 h94) h40 h48).2.2.2
    · refine ar_pickF rfl rfl rfl rfl rfl ?_
      refine ar_move rfl rfl rfl rfl ?_
      refine ar_ia_arr tab_ok rfl rfl rfl rfl tb90 rfl tb70 (by omega) (by omega) rfl rfl rfl rfl ?_
      refine ar_ld tab_ok rfl rfl rfl tb70 rfl rfl rfl rfl rfl ?_
      refine ar_len tab_ok rfl rfl tb70 rfl len_map rfl rfl ?_
      refine ar_gtr_s rfl rfl rfl rfl rfl (fun h33 => ?_) (fun h33 => ?_)
      · refine ar_pickF rfl rfl rfl rfl rfl ?_
        refine ar_move rfl rfl rfl rfl ?_
        refine ar_skip rfl rfl ?_
        refine ar_skip rfl rfl ?_
        refine ar_skip rfl rfl ?_
        refine ar_skip rfl rfl ?_
        refine ar_skip rfl rfl ?_
        refine ar_skip rfl rfl ?_
        refine ar_pickT rfl rfl rfl rfl rfl ?_
        refine ar_move rfl rfl rfl rfl ?_
        refine ar_skip rfl rfl ?_
        refine ar_skip rfl rfl ?_
        refine ar_skip rfl rfl ?_
        refine ar_skip rfl rfl ?_
        refine ar_skip rfl rfl ?_
        refine ar_skip rfl rfl ?_
        refine ar_pickT rfl rfl rfl rfl rfl ?_
        refine ar_nil ?_
        refine then_n ?_
        refine wp_condT rfl ?_
        refine wp_seq ?_
        refine wp_reg (by kernel_rfl) ?_
        refine ar_move rfl rfl rfl rfl ?_
        refine ar_assign rfl rfl rfl rfl ?_
        refine ar_nil ?_
        refine then_n ?_
        refine wp_ret ?_
        refine then_r (ret_post rfl rfl ?_)
        first | rfl | exact congrArg V.bool (stepT_low (vt0 h91) (vt0 h94) h40 h48).2.2.2
      · refine ar_pickF rfl rfl rfl rfl rfl ?_
        refine ar_move rfl rfl rfl rfl ?_
        refine ar_ia_arr tab_ok rfl rfl rfl rfl tb90 rfl tb70 (by omega) (by omega) rfl rfl rfl rfl ?_
        refine ar_ld tab_ok rfl rfl rfl tb70 rfl rfl rfl rfl rfl ?_
        refine ar_ia_arr tab_ok rfl rfl rfl rfl tb90 rfl tb70 (by omega) (by omega) rfl rfl rfl rfl ?_
        refine ar_ld tab_ok rfl rfl rfl tb70 rfl rfl rfl rfl rfl ?_
        refine ar_call [] (pc_52 p.1 p.2 (by omega) (by omega)) rfl rfl rfl rfl rfl rfl trivial (.inl rfl) rfl rfl rfl ?_
        refine ar_split (fun h40 => ?_) (fun h40 => ?_)
        · refine ar_not rfl rfl rfl rfl rfl ?_
          refine ar_pickF rfl rfl rfl rfl rfl ?_
          refine ar_move rfl rfl rfl rfl ?_
          refine ar_ia_arr tab_ok rfl rfl rfl rfl tb90 rfl tb70 (by omega) (by omega) rfl rfl rfl rfl ?_
          refine ar_ld tab_ok rfl rfl rfl tb70 rfl rfl rfl rfl rfl ?_
          refine ar_ia_arr tab_ok rfl rfl rfl rfl tb90 rfl tb70 (by omega) (by omega) rfl rfl rfl rfl ?_
          refine ar_ld tab_ok rfl rfl rfl tb70 rfl rfl rfl rfl rfl ?_
          refine ar_call [] (pc_52 q.1 q.2 (by omega) (by omega)) rfl rfl rfl rfl rfl rfl trivial (.inl rfl) rfl rfl rfl ?_
          refine ar_split (fun h48 => ?_) (fun h48 => ?_)
          · refine ar_not rfl rfl rfl rfl rfl ?_
            refine ar_pickF rfl rfl rfl rfl rfl ?_
            refine ar_nil ?_
            refine then_n ?_
            refine wp_condF rfl ?_
            refine wp_skip ?_
            refine then_n ?_
            refine wp_seq ?_
            have hg := hb21 h21
            have hbd := hg.bd
            have hlp := pairs_same h40
            have hlq := pairs_same h48
            refine wp_reg (by kernel_rfl) ?_
            refine ar_lda tab_ok rfl rfl rfl tb27 rfl rfl rfl rfl rfl rfl ?_
            refine ar_ia_arr tab_ok rfl rfl rfl rfl tb90 rfl tb70 (by omega) (by omega) rfl rfl rfl rfl ?_
            refine ar_ld tab_ok rfl rfl rfl tb70 rfl rfl rfl rfl rfl ?_
            refine ar_ia_arr tab_ok rfl rfl rfl rfl tb90 rfl tb70 (by omega) (by omega) rfl rfl rfl rfl ?_
            refine ar_ld tab_ok rfl rfl rfl tb70 rfl rfl rfl rfl rfl ?_
            refine ar_call [] (pc_56 a p.1 q.1 hbd hp1 hq1 (by omega) (by omega)) rfl rfl rfl rfl rfl rfl trivial (.inl rfl) rfl rfl rfl ?_
            refine ar_move rfl rfl rfl rfl ?_
            refine ar_ext rfl rfl rfl rfl rfl ?_
            refine ar_ext rfl rfl rfl rfl rfl ?_
            refine ar_assign rfl rfl rfl rfl ?_
            refine ar_assign rfl rfl rfl rfl ?_
            refine ar_nil ?_
            refine then_n ?_
            refine wp_seq ?_
            refine wp_reg (by kernel_rfl) ?_
            refine ar_lda tab_ok rfl rfl rfl tb27 rfl rfl rfl rfl rfl rfl ?_
            refine ar_ia_arr tab_ok rfl rfl rfl rfl tb90 rfl tb70 (by omega) (by omega) rfl rfl rfl rfl ?_
            refine ar_ld tab_ok rfl rfl rfl tb70 rfl rfl rfl rfl rfl ?_
            refine ar_ia_arr tab_ok rfl rfl rfl rfl tb90 rfl tb70 (by omega) (by omega) rfl rfl rfl rfl ?_
            refine ar_ld tab_ok rfl rfl rfl tb70 rfl rfl rfl rfl rfl ?_
            refine ar_call [] (pc_56 a p.2 q.2 hbd hp2 hq2 (by omega) (by omega)) rfl rfl rfl rfl rfl rfl trivial (.inl rfl) rfl rfl rfl ?_
            refine ar_move rfl rfl rfl rfl ?_
            refine ar_ext rfl rfl rfl rfl rfl ?_
            refine ar_ext rfl rfl rfl rfl rfl ?_
            refine ar_assign rfl rfl rfl rfl ?_
            refine ar_assign rfl rfl rfl rfl ?_
            refine ar_nil ?_
            refine then_n ?_
            refine wp_seq ?_
            refine wp_reg (by kernel_rfl) ?_
            refine ar_lda tab_ok rfl rfl rfl tb27 rfl rfl rfl rfl rfl rfl ?_
            refine ar_ia_arr tab_ok rfl rfl rfl rfl tb90 rfl tb70 (by omega) (by omega) rfl rfl rfl rfl ?_
            refine ar_ld tab_ok rfl rfl rfl tb70 rfl rfl rfl rfl rfl ?_
            refine ar_ia_arr tab_ok rfl rfl rfl rfl tb90 rfl tb70 (by omega) (by omega) rfl rfl rfl rfl ?_
            refine ar_ld tab_ok rfl rfl rfl tb70 rfl rfl rfl rfl rfl ?_
            refine ar_call [] (pc_58 a p.1 q.1 hbd hp1 hq1 (by omega) (by omega)) rfl rfl rfl rfl rfl rfl trivial (.inl rfl) rfl rfl rfl ?_
            refine ar_move rfl rfl rfl rfl ?_
            refine ar_ext rfl rfl rfl rfl rfl ?_
            refine ar_ext rfl rfl rfl rfl rfl ?_
            refine ar_ext rfl rfl rfl rfl rfl ?_
            refine ar_alloc (id := 13) tab_ok rfl rfl tb83 rfl rfl rfl rfl ?_
            refine ar_assign rfl rfl rfl rfl ?_
            refine ar_st [] tab_ok rfl tb83 rfl rfl rfl trivial rfl rfl rfl rfl rfl rfl rfl rfl ?_
            refine ar_assign rfl rfl rfl rfl ?_
            refine ar_nil ?_
            refine then_n ?_
            refine wp_seq ?_
            refine wp_reg (by kernel_rfl) ?_
            refine ar_lda tab_ok rfl rfl rfl tb27 rfl rfl rfl rfl rfl rfl ?_
            refine ar_ia_arr tab_ok rfl rfl rfl rfl tb90 rfl tb70 (by omega) (by omega) rfl rfl rfl rfl ?_
            refine ar_ld tab_ok rfl rfl rfl tb70 rfl rfl rfl rfl rfl ?_
            refine ar_ia_arr tab_ok rfl rfl rfl rfl tb90 rfl tb70 (by omega) (by omega) rfl rfl rfl rfl ?_
            refine ar_ld tab_ok rfl rfl rfl tb70 rfl rfl rfl rfl rfl ?_
            refine ar_call [] (pc_58 a p.2 q.2 hbd hp2 hq2 (by omega) (by omega)) rfl rfl rfl rfl rfl rfl trivial (.inl rfl) rfl rfl rfl ?_
            refine ar_move rfl rfl rfl rfl ?_
            refine ar_ext rfl rfl rfl rfl rfl ?_
            refine ar_ext rfl rfl rfl rfl rfl ?_
            refine ar_ext rfl rfl rfl rfl rfl ?_
            refine ar_alloc (id := 16) tab_ok rfl rfl tb83 rfl rfl rfl rfl ?_
            refine ar_assign rfl rfl rfl rfl ?_
            refine ar_st [] tab_ok rfl tb83 rfl rfl rfl trivial rfl rfl rfl rfl rfl rfl rfl rfl ?_
            refine ar_assign rfl rfl rfl rfl ?_
            refine ar_nil ?_
            refine then_n ?_
            refine wp_seq ?_
            refine wp_seq ?_
            refine wp_reg (by kernel_rfl) ?_
            refine ar_move rfl rfl rfl rfl ?_
            refine ar_neq_s rfl rfl rfl rfl rfl (fun h91 => ?_) (fun h91 => ?_)
            · refine ar_move rfl rfl rfl rfl ?_
              refine ar_skip rfl rfl ?_
              refine ar_skip rfl rfl ?_
              refine ar_pickT rfl rfl rfl rfl rfl ?_
              refine ar_nil ?_
              refine then_n ?_
              refine wp_condT rfl ?_
              refine wp_seq ?_
              refine wp_reg (by kernel_rfl) ?_
              refine ar_move rfl rfl rfl rfl ?_
              refine ar_move rfl rfl rfl rfl ?_
              refine ar_move rfl rfl rfl rfl ?_
              refine ar_eql rfl rfl rfl (decide_eq_true (by exact vt7 h91)) rfl rfl ?_
              refine ar_move rfl rfl rfl rfl ?_
              refine ar_move rfl rfl rfl rfl ?_
              refine ar_move rfl rfl rfl rfl ?_
              refine ar_eql rfl rfl rfl (decide_eq_true (by exact stepT_e)) rfl rfl ?_
              refine ar_pickT rfl rfl rfl rfl rfl ?_
              refine ar_move rfl rfl rfl rfl ?_
              refine ar_skip rfl rfl ?_
              refine ar_skip rfl rfl ?_
              refine ar_skip rfl rfl ?_
              refine ar_skip rfl rfl ?_
              refine ar_skip rfl rfl ?_
              refine ar_skip rfl rfl ?_
              refine ar_skip rfl rfl ?_
              refine ar_pickT rfl rfl rfl rfl rfl ?_
              refine ar_pickT rfl rfl rfl rfl rfl ?_
              refine ar_assign rfl rfl rfl rfl ?_
              refine ar_nil ?_
              refine then_n ?_
              refine wp_ret ?_
              refine then_r (ret_post rfl rfl ?_)
              first | rfl | exact congrArg V.bool (stepT_low (vt0 h91) (vt0 h94) h40 h48).2.2.2
            · refine ar_move rfl rfl rfl rfl ?_
              refine ar_move rfl rfl rfl rfl ?_
              refine ar_neq_s rfl rfl rfl rfl rfl (fun h94 => ?_) (fun h94 => ?_)
              · refine ar_pickF rfl rfl rfl rfl rfl ?_
                refine ar_nil ?_
                refine then_n ?_
                refine wp_condT rfl ?_
                refine wp_seq ?_
                refine wp_reg (by kernel_rfl) ?_
                refine ar_move rfl rfl rfl rfl ?_
                refine ar_move rfl rfl rfl rfl ?_
                refine ar_move rfl rfl rfl rfl ?_
                refine ar_eql rfl rfl rfl (decide_eq_false (by omega)) rfl rfl ?_
                refine ar_move rfl rfl rfl rfl ?_
                refine ar_skip rfl rfl ?_
                refine ar_skip rfl rfl ?_
                refine ar_skip rfl rfl ?_
                refine ar_pickF rfl rfl rfl rfl rfl ?_
                refine ar_move rfl rfl rfl rfl ?_
                refine ar_move rfl rfl rfl rfl ?_
                refine ar_eql rfl rfl rfl (decide_eq_true (by exact vt7 h94)) rfl rfl ?_
                refine ar_move rfl rfl rfl rfl ?_
                refine ar_move rfl rfl rfl rfl ?_
                refine ar_move rfl rfl rfl rfl ?_
                refine ar_eql rfl rfl rfl (decide_eq_true (by exact stepT_e)) rfl rfl ?_
                refine ar_pickT rfl rfl rfl rfl rfl ?_
                refine ar_pickF rfl rfl rfl rfl rfl ?_
                refine ar_pickT rfl rfl rfl rfl rfl ?_
                refine ar_assign rfl rfl rfl rfl ?_
                refine ar_nil ?_
                refine then_n ?_
                refine wp_ret ?_
                refine then_r (ret_post rfl rfl ?_)
                first | rfl | exact congrArg V.bool (stepT_low (vt0 h91) (vt0 h94) h40 h48).2.2.2
              · refine ar_pickF rfl rfl rfl rfl rfl ?_
                refine ar_nil ?_
                refine then_n ?_
                refine wp_condF rfl ?_
                refine wp_skip ?_
                refine then_n ?_
                refine wp_seq ?_
                have hs1 := vt0 h91
                have hs2 := vt0 h94
                refine wp_reg (by kernel_rfl) ?_
                refine ar_ia_arr tab_ok rfl rfl rfl rfl tb83 rfl tb70 (by omega) (by omega) rfl rfl rfl rfl ?_
                refine ar_ld tab_ok rfl rfl rfl tb70 rfl rfl rfl rfl rfl ?_
                refine ar_ia_arr tab_ok rfl rfl rfl rfl tb83 rfl tb70 (by omega) (by omega) rfl rfl rfl rfl ?_
                refine ar_ld tab_ok rfl rfl rfl tb70 rfl rfl rfl rfl rfl ?_
                refine ar_call [] (pc_52 (stepT a p.1 q.1).o (stepT a p.2 q.2).o (by have := stepT_le (st := p.1) (inp := q.1) hbd; omega) (by have := stepT_le (st := p.2) (inp := q.2) hbd; omega)) rfl rfl rfl rfl rfl rfl trivial (.inl rfl) rfl rfl rfl ?_
                refine ar_to (d' := .v (.bool true)) (congrArg (fun b => D.v (V.bool b)) (stepT_low hs1 hs2 h40 h48).2.1) ?_
                refine ar_move rfl rfl rfl rfl ?_
                refine ar_ia_arr tab_ok rfl rfl rfl rfl tb83 rfl tb70 (by omega) (by omega) rfl rfl rfl rfl ?_
                refine ar_ld tab_ok rfl rfl rfl tb70 rfl rfl rfl rfl rfl ?_
                refine ar_ia_arr tab_ok rfl rfl rfl rfl tb83 rfl tb70 (by omega) (by omega) rfl rfl rfl rfl ?_
                refine ar_ld tab_ok rfl rfl rfl tb70 rfl rfl rfl rfl rfl ?_
                refine ar_call [] (pc_52 (stepT a p.1 q.1).b (stepT a p.2 q.2).b (by have := stepT_le (st := p.1) (inp := q.1) hbd; omega) (by have := stepT_le (st := p.2) (inp := q.2) hbd; omega)) rfl rfl rfl rfl rfl rfl trivial (.inl rfl) rfl rfl rfl ?_
                refine ar_to (d' := .v (.bool true)) (congrArg (fun b => D.v (V.bool b)) (stepT_low hs1 hs2 h40 h48).2.2.1) ?_
                refine ar_pickT rfl rfl rfl rfl rfl ?_
                refine ar_move rfl rfl rfl rfl ?_
                refine ar_ia_arr tab_ok rfl rfl rfl rfl tb83 rfl tb70 (by omega) (by omega) rfl rfl rfl rfl ?_
                refine ar_ld tab_ok rfl rfl rfl tb70 rfl rfl rfl rfl rfl ?_
                refine ar_ia_arr tab_ok rfl rfl rfl rfl tb83 rfl tb70 (by omega) (by omega) rfl rfl rfl rfl ?_
                refine ar_ld tab_ok rfl rfl rfl tb70 rfl rfl rfl rfl rfl ?_
                refine ar_call [] (pc_52 (stepT a p.1 q.1).c (stepT a p.2 q.2).c (by have := stepT_le (st := p.1) (inp := q.1) hbd; omega) (by have := stepT_le (st := p.2) (inp := q.2) hbd; omega)) rfl rfl rfl rfl rfl rfl trivial (.inl rfl) rfl rfl rfl ?_
                refine ar_pickT rfl rfl rfl rfl rfl ?_
                refine ar_assign rfl rfl rfl rfl ?_
                refine ar_nil ?_
                refine then_n ?_
                refine wp_seq ?_
                refine wp_reg (by kernel_rfl) ?_
                refine ar_move rfl rfl rfl rfl ?_
                refine ar_move rfl rfl rfl rfl ?_
                refine ar_move rfl rfl rfl rfl ?_
                refine ar_eql rfl rfl rfl (decide_eq_true (by rw [stepT_e]; omega)) rfl rfl ?_
                refine ar_pickT rfl rfl rfl rfl rfl ?_
                refine ar_move rfl rfl rfl rfl ?_
                refine ar_move rfl rfl rfl rfl ?_
                refine ar_eql rfl rfl rfl (decide_eq_true (by rw [stepT_e]; omega)) rfl rfl ?_
                refine ar_pickT rfl rfl rfl rfl rfl ?_
                refine ar_move rfl rfl rfl rfl ?_
                refine ar_move rfl rfl rfl rfl ?_
                refine ar_move rfl rfl rfl rfl ?_
                refine ar_call [] (pc_52 (valuesT a p.1 q.1).1 (valuesT a p.2 q.2).1 (by have := valuesT_le (st := p.1) (inp := q.1) hbd; omega) (by have := valuesT_le (st := p.2) (inp := q.2) hbd; omega)) rfl rfl rfl rfl rfl rfl trivial (.inl rfl) rfl rfl rfl ?_
                refine ar_to (d' := .v (.bool true)) (congrArg (fun b => D.v (V.bool b)) (valuesT_low hs1 hs2 h40 h48)) ?_
                refine ar_pickT rfl rfl rfl rfl rfl ?_
                refine ar_move rfl rfl rfl rfl ?_
                refine ar_move rfl rfl rfl rfl ?_
                refine ar_move rfl rfl rfl rfl ?_
                refine ar_call [] (pc_52 (stepT a p.1 q.1).n (stepT a p.2 q.2).n (by have := stepT_le (st := p.1) (inp := q.1) hbd; omega) (by have := stepT_le (st := p.2) (inp := q.2) hbd; omega)) rfl rfl rfl rfl rfl rfl trivial (.inl rfl) rfl rfl rfl ?_
                refine ar_to (d' := .v (.bool true)) (congrArg (fun b => D.v (V.bool b)) (stepT_low hs1 hs2 h40 h48).1) ?_
                refine ar_pickT rfl rfl rfl rfl rfl ?_
                refine ar_move rfl rfl rfl rfl ?_
                refine ar_move rfl rfl rfl rfl ?_
                refine ar_pickT rfl rfl rfl rfl rfl ?_
                refine ar_assign rfl rfl rfl rfl ?_
                refine ar_nil ?_
                refine then_n ?_
                refine wp_ret ?_
                refine ret_post rfl rfl ?_
                first | rfl | exact congrArg V.bool (stepT_low (vt0 h91) (vt0 h94) h40 h48).2.2.2
          · refine ar_not rfl rfl rfl rfl rfl ?_
            refine ar_pickF rfl rfl rfl rfl rfl ?_
            refine ar_nil ?_
            refine then_n ?_
            refine wp_condT rfl ?_
            refine wp_seq ?_
            refine wp_reg (by kernel_rfl) ?_
            refine ar_move rfl rfl rfl rfl ?_
            refine ar_assign rfl rfl rfl rfl ?_
            refine ar_nil ?_
            refine then_n ?_
            refine wp_ret ?_
            refine then_r (ret_post rfl rfl ?_)
            first | rfl | exact congrArg V.bool (stepT_low (vt0 h91) (vt0 h94) h40 h48).2.2.2
        · refine ar_not rfl rfl rfl rfl rfl ?_
          refine ar_pickF rfl rfl rfl rfl rfl ?_
          refine ar_move rfl rfl rfl rfl ?_
          refine ar_skip rfl rfl ?_
          refine ar_skip rfl rfl ?_
          refine ar_skip rfl rfl ?_
          refine ar_skip rfl rfl ?_
          refine ar_skip rfl rfl ?_
          refine ar_skip rfl rfl ?_
          refine ar_pickT rfl rfl rfl rfl rfl ?_
          refine ar_nil ?_
          refine then_n ?_
          refine wp_condT rfl ?_
          refine wp_seq ?_
          refine wp_reg (by kernel_rfl) ?_
          refine ar_move rfl rfl rfl rfl ?_
          refine ar_assign rfl rfl rfl rfl ?_
          refine ar_nil ?_
          refine then_n ?_
          refine wp_ret ?_
          refine then_r (ret_post rfl rfl ?_)
          first | rfl | exact congrArg V.bool (stepT_low (vt0 h91) (vt0 h94) h40 h48).2.2.2
  · refine ar_not rfl rfl rfl rfl rfl ?_
    refine ar_move rfl rfl rfl rfl ?_
    refine ar_skip rfl rfl ?_
    refine ar_skip rfl rfl ?_
    refine ar_skip rfl rfl ?_
    refine ar_skip rfl rfl ?_
    refine ar_pickT rfl rfl rfl rfl rfl ?_
    refine ar_move rfl rfl rfl rfl ?_
    refine ar_skip rfl rfl ?_
    refine ar_skip rfl rfl ?_
    refine ar_skip rfl rfl ?_
    refine ar_skip rfl rfl ?_
    refine ar_pickT rfl rfl rfl rfl rfl ?_
    refine ar_move rfl rfl rfl rfl ?_
    refine ar_skip rfl rfl ?_
    refine ar_skip rfl rfl ?_
    refine ar_skip rfl rfl ?_
    refine ar_skip rfl rfl ?_
    refine ar_skip rfl rfl ?_
    refine ar_skip rfl rfl ?_
    refine ar_pickT rfl rfl rfl rfl rfl ?_
    refine ar_move rfl rfl rfl rfl ?_
    refine ar_skip rfl rfl ?_
    refine ar_skip rfl rfl ?_
    refine ar_skip rfl rfl ?_
    refine ar_skip rfl rfl ?_
    refine ar_skip rfl rfl ?_
    refine ar_skip rfl rfl ?_
    refine ar_pickT rfl rfl rfl rfl rfl ?_
    refine ar_nil ?_
    refine then_n ?_
    refine wp_condT rfl ?_
    refine wp_seq ?_
    refine wp_reg (by kernel_rfl) ?_
    refine ar_move rfl rfl rfl rfl ?_
    refine ar_assign rfl rfl rfl rfl ?_
    refine ar_nil ?_
    refine then_n ?_
    refine wp_ret ?_
    refine then_r (ret_post rfl rfl ?_)
    first | rfl | exact congrArg V.bool (stepT_low (vt0 h91) (vt0 h94) h40 h48).2.2.2

theorem pc_14 (x y z : List Int) (hx0 : Nn x) (lx0 : x.length ≤ 9223372036854775807) (hy0 : Nn y) (ly0 : y.length ≤ 9223372036854775807) (hz0 : Nn z) (lz0 : z.length ≤ 9223372036854775807) : PCall Try.prog 14 [slU x, slU y, slU z] (.bool true) := by
  refine pc_of tab_ok (f := 14) (fn := Try.f14) (N := 122) (rs := [.tmp 6]) (by kernel_rfl) rfl (by kernel_rfl) rfl rfl [(0, .v (slU x)), (1, .v (slU y)), (2, .v (slU z))] ⟨rfl, rfl, rfl, trivial⟩ rfl rfl ?_
  intro B
  refine wp_seq ?_
  refine wp_reg (by kernel_rfl) ?_
  refine ar_assign rfl rfl rfl rfl ?_
  refine ar_nil ?_
  refine then_n ?_
  refine wp_seq ?_
  refine wp_reg (by kernel_rfl) ?_
  refine ar_call [] (pc_44) rfl rfl rfl rfl rfl rfl trivial (.inl rfl) rfl rfl rfl ?_
  refine ar_assign rfl rfl rfl rfl ?_
  refine ar_nil ?_
  refine then_n ?_
  refine wp_seq ?_
  refine wp_seq ?_
  refine wp_reg (by kernel_rfl) ?_
  refine ar_move rfl rfl rfl rfl ?_
  refine ar_len tab_ok rfl rfl tb70 rfl len_map rfl rfl ?_
  refine ar_gtr_s rfl rfl rfl rfl rfl (fun h15 => ?_) (fun h15 => ?_)
  · refine ar_move rfl rfl rfl rfl ?_
    refine ar_skip rfl rfl ?_
    refine ar_skip rfl rfl ?_
    refine ar_skip rfl rfl ?_
    refine ar_pickT rfl rfl rfl rfl rfl ?_
    refine ar_move rfl rfl rfl rfl ?_
    refine ar_skip rfl rfl ?_
    refine ar_skip rfl rfl ?_
    refine ar_skip rfl rfl ?_
    refine ar_pickT rfl rfl rfl rfl rfl ?_
    refine ar_move rfl rfl rfl rfl ?_
    refine ar_skip rfl rfl ?_
    refine ar_skip rfl rfl ?_
    refine ar_skip rfl rfl ?_
    refine ar_pickT rfl rfl rfl rfl rfl ?_
    refine ar_move rfl rfl rfl rfl ?_
    refine ar_skip rfl rfl ?_
    refine ar_skip rfl rfl ?_
    refine ar_skip rfl rfl ?_
    refine ar_pickT rfl rfl rfl rfl rfl ?_
    refine ar_move rfl rfl rfl rfl ?_
    refine ar_skip rfl rfl ?_
    refine ar_skip rfl rfl ?_
    refine ar_skip rfl rfl ?_
    refine ar_pickT rfl rfl rfl rfl rfl ?_
    refine ar_nil ?_
    refine then_n ?_
    refine wp_condT rfl ?_
    refine wp_seq ?_
    refine wp_reg (by kernel_rfl) ?_
    refine ar_move rfl rfl rfl rfl ?_
    refine ar_assign rfl rfl rfl rfl ?_
    refine ar_nil ?_
    refine then_n ?_
    refine wp_ret ?_
    refine then_r (ret_post rfl rfl ?_)
    rfl
  · refine ar_move rfl rfl rfl rfl ?_
    refine ar_move rfl rfl rfl rfl ?_
    refine ar_len tab_ok rfl rfl tb70 rfl len_map rfl rfl ?_
    refine ar_gtr_s rfl rfl rfl rfl rfl (fun h19 => ?_) (fun h19 => ?_)
    · refine ar_pickF rfl rfl rfl rfl rfl ?_
      refine ar_move rfl rfl rfl rfl ?_
      refine ar_skip rfl rfl ?_
      refine ar_skip rfl rfl ?_
      refine ar_skip rfl rfl ?_
      refine ar_pickT rfl rfl rfl rfl rfl ?_
      refine ar_move rfl rfl rfl rfl ?_
      refine ar_skip rfl rfl ?_
      refine ar_skip rfl rfl ?_
      refine ar_skip rfl rfl ?_
      refine ar_pickT rfl rfl rfl rfl rfl ?_
      refine ar_move rfl rfl rfl rfl ?_
      refine ar_skip rfl rfl ?_
      refine ar_skip rfl rfl ?_
      refine ar_skip rfl rfl ?_
      refine ar_pickT rfl rfl rfl rfl rfl ?_
      refine ar_move rfl rfl rfl rfl ?_
      refine ar_skip rfl rfl ?_
      refine ar_skip rfl rfl ?_
      refine ar_skip rfl rfl ?_
      refine ar_pickT rfl rfl rfl rfl rfl ?_
      refine ar_nil ?_
      refine then_n ?_
      refine wp_condT rfl ?_
      refine wp_seq ?_
      refine wp_reg (by kernel_rfl) ?_
      refine ar_move rfl rfl rfl rfl ?_
      refine ar_assign rfl rfl rfl rfl ?_
      refine ar_nil ?_
      refine then_n ?_
      refine wp_ret ?_
      refine then_r (ret_post rfl rfl ?_)
      rfl
    · refine ar_pickF rfl rfl rfl rfl rfl ?_
      refine ar_move rfl rfl rfl rfl ?_
      refine ar_move rfl rfl rfl rfl ?_
      refine ar_len tab_ok rfl rfl tb70 rfl len_map rfl rfl ?_
      refine ar_gtr_s rfl rfl rfl rfl rfl (fun h24 => ?_) (fun h24 => ?_)
      · refine ar_pickF rfl rfl rfl rfl rfl ?_
        refine ar_move rfl rfl rfl rfl ?_
        refine ar_skip rfl rfl ?_
        refine ar_skip rfl rfl ?_
        refine ar_skip rfl rfl ?_
        refine ar_pickT rfl rfl rfl rfl rfl ?_
        refine ar_move rfl rfl rfl rfl ?_
        refine ar_skip rfl rfl ?_
        refine ar_skip rfl rfl ?_
        refine ar_skip rfl rfl ?_
        refine ar_pickT rfl rfl rfl rfl rfl ?_
        refine ar_move rfl rfl rfl rfl ?_
        refine ar_skip rfl rfl ?_
        refine ar_skip rfl rfl ?_
        refine ar_skip rfl rfl ?_
        refine ar_pickT rfl rfl rfl rfl rfl ?_
        refine ar_nil ?_
        refine then_n ?_
        refine wp_condT rfl ?_
        refine wp_seq ?_
        refine wp_reg (by kernel_rfl) ?_
        refine ar_move rfl rfl rfl rfl ?_
        refine ar_assign rfl rfl rfl rfl ?_
        refine ar_nil ?_
        refine then_n ?_
        refine wp_ret ?_
        refine then_r (ret_post rfl rfl ?_)
        rfl
      · refine ar_pickF rfl rfl rfl rfl rfl ?_
        refine ar_move rfl rfl rfl rfl ?_
        refine ar_move rfl rfl rfl rfl ?_
        refine ar_call [] (pc_46 x (by omega)) rfl rfl rfl rfl rfl rfl trivial (.inl rfl) rfl rfl rfl ?_
        refine ar_split (fun h28 => ?_) (fun h28 => ?_)
        · refine ar_not rfl rfl rfl rfl rfl ?_
          refine ar_pickF rfl rfl rfl rfl rfl ?_
          refine ar_move rfl rfl rfl rfl ?_
          refine ar_move rfl rfl rfl rfl ?_
          refine ar_call [] (pc_46 y (by omega)) rfl rfl rfl rfl rfl rfl trivial (.inl rfl) rfl rfl rfl ?_
          refine ar_split (fun h33 => ?_) (fun h33 => ?_)
          · refine ar_not rfl rfl rfl rfl rfl ?_
            refine ar_pickF rfl rfl rfl rfl rfl ?_
            refine ar_move rfl rfl rfl rfl ?_
            refine ar_move rfl rfl rfl rfl ?_
            refine ar_call [] (pc_46 z (by omega)) rfl rfl rfl rfl rfl rfl trivial (.inl rfl) rfl rfl rfl ?_
            refine ar_split (fun h38 => ?_) (fun h38 => ?_)
            · refine ar_not rfl rfl rfl rfl rfl ?_
              refine ar_pickF rfl rfl rfl rfl rfl ?_
              refine ar_nil ?_
              refine then_n ?_
              refine wp_condF rfl ?_
              refine wp_skip ?_
              refine then_n ?_
              refine wp_seq ?_
              refine wp_reg (by kernel_rfl) ?_
              refine ar_move rfl rfl rfl rfl ?_
              refine ar_len tab_ok rfl rfl tb70 rfl len_map rfl rfl ?_
              refine ar_make 44 (el0 := [.int .u8 0]) tab_ok rfl tb70 rfl tb72 rfl rfl rfl rfl rfl ⟨by omega, by omega, by omega, by simp; omega⟩ rfl rfl rfl rfl rfl ?_
              refine ar_assign rfl rfl rfl rfl ?_
              refine ar_nil ?_
              refine then_n ?_
              refine wp_seq ?_
              refine wp_reg (by kernel_rfl) ?_
              refine ar_assign rfl rfl rfl rfl ?_
              refine ar_nil ?_
              refine then_n ?_
              refine wp_seq ?_
              refine wp_seq ?_
              refine wp_reg (by kernel_rfl) ?_
              refine ar_assign rfl rfl rfl rfl ?_
              refine ar_nil ?_
              refine then_n ?_
              refine wp_block ?_
              refine wp_loop (α := Nat) (fun j => mk [(0, .v (slU x)), (1, .v (slU y)), (2, .v (slU z)), (7, .v (.bool true)), (8, .own 44), (9, .v (.bool ((x.take j).all fun a => decide (a ≠ 2)))), (10, .v (.int .i64 (j : Nat)))] [(44, .row 72 1 (((x.take j).map (fun _ => (2 : Int)) ++ List.replicate (x.length - j) 0).map encU))] 0) (fun j => j ≤ x.length) (fun j => x.length - j) 0 (Nat.zero_le _) (le_to ⟨rfl, rfl, rfl, rfl, rfl, (bool_eq rfl (by simp)), rfl, trivial⟩ ⟨(row_eq rfl (by simp)), trivial⟩ rfl rfl rfl rfl) ?_
              rintro j hinv
              refine wp_seq ?_
              refine wp_seq ?_
              refine wp_reg (by kernel_rfl) ?_
              refine ar_move rfl rfl rfl rfl ?_
              refine ar_move rfl rfl rfl rfl ?_
              refine ar_len tab_ok rfl rfl tb70 rfl len_map rfl rfl ?_
              refine ar_lss_s rfl rfl rfl rfl rfl (fun h48 => ?_) (fun h48 => ?_)
              · refine ar_nil ?_
                refine then_n ?_
                refine wp_condT rfl ?_
                refine wp_skip ?_
                refine then_n ?_
                refine wp_seq ?_
                refine wp_block ?_
                refine wp_seq ?_
                refine wp_reg (by kernel_rfl) ?_
                refine ar_move rfl rfl rfl rfl ?_
                refine ar_move rfl rfl rfl rfl ?_
                refine ar_ia_own tab_ok rfl rfl rfl rfl tb70 rfl tb72 rfl (by omega) (by simp; omega) rfl rfl rfl rfl ?_
                refine ar_st_e tab_ok rfl tb72 rfl rfl rfl rfl rfl (by simp; omega) set_map rfl rfl rfl ?_
                refine ar_nil ?_
                refine then_n ?_
                refine wp_reg (by kernel_rfl) ?_
                refine ar_move rfl rfl rfl rfl ?_
                refine ar_split (fun h54 => ?_) (fun h54 => ?_)
                · refine ar_move rfl rfl rfl rfl ?_
                  refine ar_move rfl rfl rfl rfl ?_
                  refine ar_move rfl rfl rfl rfl ?_
                  refine ar_ia tab_ok rfl rfl rfl tb70 rfl tb72 (by omega) (map_get (n := j) (by omega)) rfl rfl rfl ?_
                  refine ar_ld_ref tab_ok rfl rfl tb72 rfl rfl rfl rfl ?_
                  refine ar_neq_s rfl rfl rfl rfl rfl (fun h60 => ?_) (fun h60 => ?_)
                  · refine ar_pickT rfl rfl rfl rfl rfl ?_
                    refine ar_assign rfl rfl rfl rfl ?_
                    refine ar_nil ?_
                    refine inblk_n ?_
                    refine then_n ?_
                    refine wp_reg (by kernel_rfl) ?_
                    refine ar_move rfl rfl rfl rfl ?_
                    refine ar_addi rfl rfl rfl rfl (by omega) (by omega) rfl rfl ?_
                    refine ar_assign rfl rfl rfl rfl ?_
                    refine ar_nil ?_
                    exact loop_n (j + 1) (by omega) (by omega) (le_to ⟨rfl, rfl, rfl, rfl, rfl, (bool_eq rfl (by rw [take_snoc (by omega), List.all_append, h54]; simp only [List.all_cons, List.all_nil, Bool.and_true, Bool.true_and, Bool.false_and] <;> first | rfl | exact (decide_eq_true h60).symm | exact (decide_eq_false h60).symm)), rfl, trivial⟩ ⟨(row_eq rfl (by exact congrArg (List.map encU) (fillU_step (fun _ => (2 : Int)) x j (by omega)))), trivial⟩ rfl rfl rfl rfl)
                  · refine ar_pickT rfl rfl rfl rfl rfl ?_
                    refine ar_assign rfl rfl rfl rfl ?_
                    refine ar_nil ?_
                    refine inblk_n ?_
                    refine then_n ?_
                    refine wp_reg (by kernel_rfl) ?_
                    refine ar_move rfl rfl rfl rfl ?_
                    refine ar_addi rfl rfl rfl rfl (by omega) (by omega) rfl rfl ?_
                    refine ar_assign rfl rfl rfl rfl ?_
                    refine ar_nil ?_
                    exact loop_n (j + 1) (by omega) (by omega) (le_to ⟨rfl, rfl, rfl, rfl, rfl, (bool_eq rfl (by rw [take_snoc (by omega), List.all_append, h54]; simp only [List.all_cons, List.all_nil, Bool.and_true, Bool.true_and, Bool.false_and] <;> first | rfl | exact (decide_eq_true h60).symm | exact (decide_eq_false h60).symm)), rfl, trivial⟩ ⟨(row_eq rfl (by exact congrArg (List.map encU) (fillU_step (fun _ => (2 : Int)) x j (by omega)))), trivial⟩ rfl rfl rfl rfl)
                · refine ar_move rfl rfl rfl rfl ?_
                  refine ar_skip rfl rfl ?_
                  refine ar_skip rfl rfl ?_
                  refine ar_skip rfl rfl ?_
                  refine ar_skip rfl rfl ?_
                  refine ar_skip rfl rfl ?_
                  refine ar_pickF rfl rfl rfl rfl rfl ?_
                  refine ar_assign rfl rfl rfl rfl ?_
                  refine ar_nil ?_
                  refine inblk_n ?_
                  refine then_n ?_
                  refine wp_reg (by kernel_rfl) ?_
                  refine ar_move rfl rfl rfl rfl ?_
                  refine ar_addi rfl rfl rfl rfl (by omega) (by omega) rfl rfl ?_
                  refine ar_assign rfl rfl rfl rfl ?_
                  refine ar_nil ?_
                  exact loop_n (j + 1) (by omega) (by omega) (le_to ⟨rfl, rfl, rfl, rfl, rfl, (bool_eq rfl (by rw [take_snoc (by omega), List.all_append, h54]; simp only [List.all_cons, List.all_nil, Bool.and_true, Bool.true_and, Bool.false_and] <;> first | rfl | exact (decide_eq_true h60).symm | exact (decide_eq_false h60).symm)), rfl, trivial⟩ ⟨(row_eq rfl (by exact congrArg (List.map encU) (fillU_step (fun _ => (2 : Int)) x j (by omega)))), trivial⟩ rfl rfl rfl rfl)
              · refine ar_nil ?_
                refine then_n ?_
                refine wp_condF rfl ?_
                refine wp_exit ?_
                refine then_x (loop_x (inblk_e ?_))
                refine then_n ?_
                refine wp_seq ?_
                have hj : j = x.length := by omega
                subst hj
                have htx := triL_of h28 hx0
                refine wp_reg (by kernel_rfl) ?_
                refine ar_move rfl rfl rfl rfl ?_
                refine ar_move rfl rfl rfl rfl ?_
                refine ar_call [] (pc_51 x y (by omega) (by omega)) rfl rfl rfl rfl rfl rfl trivial (.inl rfl) rfl rfl rfl ?_
                refine ar_split (fun h64 => ?_) (fun h64 => ?_)
                · refine ar_assign rfl rfl rfl rfl ?_
                  refine ar_nil ?_
                  refine then_n ?_
                  refine wp_seq ?_
                  refine wp_seq ?_
                  refine wp_reg (by kernel_rfl) ?_
                  refine ar_move rfl rfl rfl rfl ?_
                  refine ar_move rfl rfl rfl rfl ?_
                  refine ar_call [] (pc_51 x x (by omega) (by omega)) rfl rfl rfl rfl rfl rfl trivial (.inl rfl) rfl rfl rfl ?_
                  refine ar_to (d' := .v (.bool true)) (congrArg (fun b => D.v (V.bool b)) (pairs_refl x)) ?_
                  refine ar_not rfl rfl rfl rfl rfl ?_
                  refine ar_move rfl rfl rfl rfl ?_
                  refine ar_move rfl rfl rfl rfl ?_
                  refine ar_move rfl rfl rfl rfl ?_
                  refine ar_move rfl rfl rfl rfl ?_
                  refine ar_move rfl rfl rfl rfl ?_
                  refine ar_call [] (pc_51 y z (by omega) (by omega)) rfl rfl rfl rfl rfl rfl trivial (.inl rfl) rfl rfl rfl ?_
                  refine ar_split (fun h74 => ?_) (fun h74 => ?_)
                  · refine ar_pickT rfl rfl rfl rfl rfl ?_
                    refine ar_move rfl rfl rfl rfl ?_
                    refine ar_move rfl rfl rfl rfl ?_
                    refine ar_move rfl rfl rfl rfl ?_
                    refine ar_call [] (pc_51 x z (by omega) (by omega)) rfl rfl rfl rfl rfl rfl trivial (.inl rfl) rfl rfl rfl ?_
                    refine ar_to (d' := .v (.bool true)) (congrArg (fun b => D.v (V.bool b)) (pairs_trans h64 h74)) ?_
                    refine ar_not rfl rfl rfl rfl rfl ?_
                    refine ar_pickT rfl rfl rfl rfl rfl ?_
                    refine ar_pickF rfl rfl rfl rfl rfl ?_
                    refine ar_move rfl rfl rfl rfl ?_
                    refine ar_move rfl rfl rfl rfl ?_
                    refine ar_move rfl rfl rfl rfl ?_
                    refine ar_move rfl rfl rfl rfl ?_
                    refine ar_move rfl rfl rfl rfl ?_
                    refine ar_call [] (pc_51 y x (by omega) (by omega)) rfl rfl rfl rfl rfl rfl trivial (.inl rfl) rfl rfl rfl ?_
                    refine ar_pickT rfl rfl rfl rfl rfl ?_
                    refine ar_move rfl rfl rfl rfl ?_
                    refine ar_move rfl rfl rfl rfl ?_
                    refine ar_call [] (pc_60 x y (by omega) (by omega)) rfl rfl rfl rfl rfl rfl trivial (.inl rfl) rfl rfl rfl ?_
                    refine ar_bneq tab_ok rfl rfl rfl tb4 rfl rfl rfl rfl ?_
                    refine ar_to (d' := .v (.bool false)) (congrArg (fun b => D.v (V.bool b)) (low_anti1 h64)) ?_
                    refine ar_pickF rfl rfl rfl rfl rfl ?_
                    refine ar_nil ?_
                    refine then_n ?_
                    refine wp_condF rfl ?_
                    refine wp_skip ?_
                    refine then_n ?_
                    refine wp_seq ?_
                    refine wp_reg (by kernel_rfl) ?_
                    refine ar_move rfl rfl rfl rfl ?_
                    refine ar_move rfl rfl rfl rfl ?_
                    refine ar_move rfl rfl rfl rfl ?_
                    refine ar_move rfl rfl rfl rfl ?_
                    refine ar_call [(44, _)] (pc_51 x (x.map fun _ => (2 : Int)) (by omega) (by simp; omega)) rfl rfl rfl rfl rfl (by simp) ⟨rfl, trivial⟩ (.inr rfl) rfl rfl rfl ?_
                    refine ar_to (d' := .v (.bool true)) (congrArg (fun b => D.v (V.bool b)) (low_all x)) ?_
                    refine ar_pickT rfl rfl rfl rfl rfl ?_
                    refine ar_move rfl rfl rfl rfl ?_
                    refine ar_move rfl rfl rfl rfl ?_
                    refine ar_split (fun h102 => ?_) (fun h102 => ?_)
                    · refine ar_not rfl rfl rfl rfl rfl ?_
                      refine ar_move rfl rfl rfl rfl ?_
                      refine ar_move rfl rfl rfl rfl ?_
                      refine ar_move rfl rfl rfl rfl ?_
                      refine ar_call [] (pc_51 y x (by omega) (by omega)) rfl rfl rfl rfl rfl rfl trivial (.inl rfl) rfl rfl rfl ?_
                      refine ar_move rfl rfl rfl rfl ?_
                      refine ar_move rfl rfl rfl rfl ?_
                      refine ar_call [] (pc_60 x y (by omega) (by omega)) rfl rfl rfl rfl rfl rfl trivial (.inl rfl) rfl rfl rfl ?_
                      refine ar_beql tab_ok rfl rfl rfl tb4 rfl rfl rfl rfl ?_
                      refine ar_to (d' := .v (.bool true)) (congrArg (fun b => D.v (V.bool b)) (low_none (by rw [List.take_length] at h102; exact h102))) ?_
                      refine ar_pickF rfl rfl rfl rfl rfl ?_
                      refine ar_pickT rfl rfl rfl rfl rfl ?_
                      refine ar_move rfl rfl rfl rfl ?_
                      refine ar_move rfl rfl rfl rfl ?_
                      refine ar_call [] (pc_53 x (by omega) htx) rfl rfl rfl rfl rfl rfl trivial (.inl rfl) rfl rfl rfl ?_
                      refine ar_len_str tab_ok rfl rfl tb9 rfl rfl rfl ?_
                      refine ar_move rfl rfl rfl rfl ?_
                      refine ar_len tab_ok rfl rfl tb70 rfl len_map rfl rfl ?_
                      refine ar_eql rfl rfl rfl (decide_eq_true (by simp [textT_size])) rfl rfl ?_
                      refine ar_pickT rfl rfl rfl rfl rfl ?_
                      refine ar_assign rfl rfl rfl rfl ?_
                      refine ar_nil ?_
                      refine then_n ?_
                      refine wp_ret ?_
                      refine ret_post rfl rfl ?_
                      rfl
                    · refine ar_not rfl rfl rfl rfl rfl ?_
                      refine ar_move rfl rfl rfl rfl ?_
                      refine ar_skip rfl rfl ?_
                      refine ar_skip rfl rfl ?_
                      refine ar_skip rfl rfl ?_
                      refine ar_skip rfl rfl ?_
                      refine ar_skip rfl rfl ?_
                      refine ar_skip rfl rfl ?_
                      refine ar_skip rfl rfl ?_
                      refine ar_pickT rfl rfl rfl rfl rfl ?_
                      refine ar_pickT rfl rfl rfl rfl rfl ?_
                      refine ar_move rfl rfl rfl rfl ?_
                      refine ar_move rfl rfl rfl rfl ?_
                      refine ar_call [] (pc_53 x (by omega) htx) rfl rfl rfl rfl rfl rfl trivial (.inl rfl) rfl rfl rfl ?_
                      refine ar_len_str tab_ok rfl rfl tb9 rfl rfl rfl ?_
                      refine ar_move rfl rfl rfl rfl ?_
                      refine ar_len tab_ok rfl rfl tb70 rfl len_map rfl rfl ?_
                      refine ar_eql rfl rfl rfl (decide_eq_true (by simp [textT_size])) rfl rfl ?_
                      refine ar_pickT rfl rfl rfl rfl rfl ?_
                      refine ar_assign rfl rfl rfl rfl ?_
                      refine ar_nil ?_
                      refine then_n ?_
                      refine wp_ret ?_
                      refine ret_post rfl rfl ?_
                      rfl
                  · refine ar_pickT rfl rfl rfl rfl rfl ?_
                    refine ar_move rfl rfl rfl rfl ?_
                    refine ar_skip rfl rfl ?_
                    refine ar_skip rfl rfl ?_
                    refine ar_skip rfl rfl ?_
                    refine ar_skip rfl rfl ?_
                    refine ar_pickF rfl rfl rfl rfl rfl ?_
                    refine ar_pickF rfl rfl rfl rfl rfl ?_
                    refine ar_move rfl rfl rfl rfl ?_
                    refine ar_move rfl rfl rfl rfl ?_
                    refine ar_move rfl rfl rfl rfl ?_
                    refine ar_move rfl rfl rfl rfl ?_
                    refine ar_move rfl rfl rfl rfl ?_
                    refine ar_call [] (pc_51 y x (by omega) (by omega)) rfl rfl rfl rfl rfl rfl trivial (.inl rfl) rfl rfl rfl ?_
                    refine ar_pickT rfl rfl rfl rfl rfl ?_
                    refine ar_move rfl rfl rfl rfl ?_
                    refine ar_move rfl rfl rfl rfl ?_
                    refine ar_call [] (pc_60 x y (by omega) (by omega)) rfl rfl rfl rfl rfl rfl trivial (.inl rfl) rfl rfl rfl ?_
                    refine ar_bneq tab_ok rfl rfl rfl tb4 rfl rfl rfl rfl ?_
                    refine ar_to (d' := .v (.bool false)) (congrArg (fun b => D.v (V.bool b)) (low_anti1 h64)) ?_
                    refine ar_pickF rfl rfl rfl rfl rfl ?_
                    refine ar_nil ?_
                    refine then_n ?_
                    refine wp_condF rfl ?_
                    refine wp_skip ?_
                    refine then_n ?_
                    refine wp_seq ?_
                    refine wp_reg (by kernel_rfl) ?_
                    refine ar_move rfl rfl rfl rfl ?_
                    refine ar_move rfl rfl rfl rfl ?_
                    refine ar_move rfl rfl rfl rfl ?_
                    refine ar_move rfl rfl rfl rfl ?_
                    refine ar_call [(44, _)] (pc_51 x (x.map fun _ => (2 : Int)) (by omega) (by simp; omega)) rfl rfl rfl rfl rfl (by simp) ⟨rfl, trivial⟩ (.inr rfl) rfl rfl rfl ?_
                    refine ar_to (d' := .v (.bool true)) (congrArg (fun b => D.v (V.bool b)) (low_all x)) ?_
                    refine ar_pickT rfl rfl rfl rfl rfl ?_
                    refine ar_move rfl rfl rfl rfl ?_
                    refine ar_move rfl rfl rfl rfl ?_
                    refine ar_split (fun h102 => ?_) (fun h102 => ?_)
                    · refine ar_not rfl rfl rfl rfl rfl ?_
                      refine ar_move rfl rfl rfl rfl ?_
                      refine ar_move rfl rfl rfl rfl ?_
                      refine ar_move rfl rfl rfl rfl ?_
                      refine ar_call [] (pc_51 y x (by omega) (by omega)) rfl rfl rfl rfl rfl rfl trivial (.inl rfl) rfl rfl rfl ?_
                      refine ar_move rfl rfl rfl rfl ?_
                      refine ar_move rfl rfl rfl rfl ?_
                      refine ar_call [] (pc_60 x y (by omega) (by omega)) rfl rfl rfl rfl rfl rfl trivial (.inl rfl) rfl rfl rfl ?_
                      refine ar_beql tab_ok rfl rfl rfl tb4 rfl rfl rfl rfl ?_
                      refine ar_to (d' := .v (.bool true)) (congrArg (fun b => D.v (V.bool b)) (low_none (by rw [List.take_length] at h102; exact h102))) ?_
                      refine ar_pickF rfl rfl rfl rfl rfl ?_
                      refine ar_pickT rfl rfl rfl rfl rfl ?_
                      refine ar_move rfl rfl rfl rfl ?_
                      refine ar_move rfl rfl rfl rfl ?_
                      refine ar_call [] (pc_53 x (by omega) htx) rfl rfl rfl rfl rfl rfl trivial (.inl rfl) rfl rfl rfl ?_
                      refine ar_len_str tab_ok rfl rfl tb9 rfl rfl rfl ?_
                      refine ar_move rfl rfl rfl rfl ?_
                      refine ar_len tab_ok rfl rfl tb70 rfl len_map rfl rfl ?_
                      refine ar_eql rfl rfl rfl (decide_eq_true (by simp [textT_size])) rfl rfl ?_
                      refine ar_pickT rfl rfl rfl rfl rfl ?_
                      refine ar_assign rfl rfl rfl rfl ?_
                      refine ar_nil ?_
                      refine then_n ?_
                      refine wp_ret ?_
                      refine ret_post rfl rfl ?_
                      rfl
                    · refine ar_not rfl rfl rfl rfl rfl ?_
                      refine ar_move rfl rfl rfl rfl ?_
                      refine ar_skip rfl rfl ?_
                      refine ar_skip rfl rfl ?_
                      refine ar_skip rfl rfl ?_
                      refine ar_skip rfl rfl ?_
                      refine ar_skip rfl rfl ?_
                      refine ar_skip rfl rfl ?_
                      refine ar_skip rfl rfl ?_
                      refine ar_pickT rfl rfl rfl rfl rfl ?_
                      refine ar_pickT rfl rfl rfl rfl rfl ?_
                      refine ar_move rfl rfl rfl rfl ?_
                      refine ar_move rfl rfl rfl rfl ?_
                      refine ar_call [] (pc_53 x (by omega) htx) rfl rfl rfl rfl rfl rfl trivial (.inl rfl) rfl rfl rfl ?_
                      refine ar_len_str tab_ok rfl rfl tb9 rfl rfl rfl ?_
                      refine ar_move rfl rfl rfl rfl ?_
                      refine ar_len tab_ok rfl rfl tb70 rfl len_map rfl rfl ?_
                      refine ar_eql rfl rfl rfl (decide_eq_true (by simp [textT_size])) rfl rfl ?_
                      refine ar_pickT rfl rfl rfl rfl rfl ?_
                      refine ar_assign rfl rfl rfl rfl ?_
                      refine ar_nil ?_
                      refine then_n ?_
                      refine wp_ret ?_
                      refine ret_post rfl rfl ?_
                      rfl
                · refine ar_assign rfl rfl rfl rfl ?_
                  refine ar_nil ?_
                  refine then_n ?_
                  refine wp_seq ?_
                  refine wp_seq ?_
                  refine wp_reg (by kernel_rfl) ?_
                  refine ar_move rfl rfl rfl rfl ?_
                  refine ar_move rfl rfl rfl rfl ?_
                  refine ar_call [] (pc_51 x x (by omega) (by omega)) rfl rfl rfl rfl rfl rfl trivial (.inl rfl) rfl rfl rfl ?_
                  refine ar_to (d' := .v (.bool true)) (congrArg (fun b => D.v (V.bool b)) (pairs_refl x)) ?_
                  refine ar_not rfl rfl rfl rfl rfl ?_
                  refine ar_move rfl rfl rfl rfl ?_
                  refine ar_move rfl rfl rfl rfl ?_
                  refine ar_move rfl rfl rfl rfl ?_
                  refine ar_skip rfl rfl ?_
                  refine ar_skip rfl rfl ?_
                  refine ar_skip rfl rfl ?_
                  refine ar_pickF rfl rfl rfl rfl rfl ?_
                  refine ar_move rfl rfl rfl rfl ?_
                  refine ar_skip rfl rfl ?_
                  refine ar_skip rfl rfl ?_
                  refine ar_skip rfl rfl ?_
                  refine ar_skip rfl rfl ?_
                  refine ar_pickF rfl rfl rfl rfl rfl ?_
                  refine ar_pickF rfl rfl rfl rfl rfl ?_
                  refine ar_move rfl rfl rfl rfl ?_
                  refine ar_move rfl rfl rfl rfl ?_
                  refine ar_move rfl rfl rfl rfl ?_
                  refine ar_skip rfl rfl ?_
                  refine ar_skip rfl rfl ?_
                  refine ar_skip rfl rfl ?_
                  refine ar_pickF rfl rfl rfl rfl rfl ?_
                  refine ar_move rfl rfl rfl rfl ?_
                  refine ar_move rfl rfl rfl rfl ?_
                  refine ar_call [] (pc_60 x y (by omega) (by omega)) rfl rfl rfl rfl rfl rfl trivial (.inl rfl) rfl rfl rfl ?_
                  refine ar_bneq tab_ok rfl rfl rfl tb4 rfl rfl rfl rfl ?_
                  refine ar_to (d' := .v (.bool false)) (congrArg (fun b => D.v (V.bool b)) (low_anti0 h64)) ?_
                  refine ar_pickF rfl rfl rfl rfl rfl ?_
                  refine ar_nil ?_
                  refine then_n ?_
                  refine wp_condF rfl ?_
                  refine wp_skip ?_
                  refine then_n ?_
                  refine wp_seq ?_
                  refine wp_reg (by kernel_rfl) ?_
                  refine ar_move rfl rfl rfl rfl ?_
                  refine ar_move rfl rfl rfl rfl ?_
                  refine ar_move rfl rfl rfl rfl ?_
                  refine ar_move rfl rfl rfl rfl ?_
                  refine ar_call [(44, _)] (pc_51 x (x.map fun _ => (2 : Int)) (by omega) (by simp; omega)) rfl rfl rfl rfl rfl (by simp) ⟨rfl, trivial⟩ (.inr rfl) rfl rfl rfl ?_
                  refine ar_to (d' := .v (.bool true)) (congrArg (fun b => D.v (V.bool b)) (low_all x)) ?_
                  refine ar_pickT rfl rfl rfl rfl rfl ?_
                  refine ar_move rfl rfl rfl rfl ?_
                  refine ar_move rfl rfl rfl rfl ?_
                  refine ar_split (fun h102 => ?_) (fun h102 => ?_)
                  · refine ar_not rfl rfl rfl rfl rfl ?_
                    refine ar_move rfl rfl rfl rfl ?_
                    refine ar_move rfl rfl rfl rfl ?_
                    refine ar_move rfl rfl rfl rfl ?_
                    refine ar_call [] (pc_51 y x (by omega) (by omega)) rfl rfl rfl rfl rfl rfl trivial (.inl rfl) rfl rfl rfl ?_
                    refine ar_move rfl rfl rfl rfl ?_
                    refine ar_move rfl rfl rfl rfl ?_
                    refine ar_call [] (pc_60 x y (by omega) (by omega)) rfl rfl rfl rfl rfl rfl trivial (.inl rfl) rfl rfl rfl ?_
                    refine ar_beql tab_ok rfl rfl rfl tb4 rfl rfl rfl rfl ?_
                    refine ar_to (d' := .v (.bool true)) (congrArg (fun b => D.v (V.bool b)) (low_none (by rw [List.take_length] at h102; exact h102))) ?_
                    refine ar_pickF rfl rfl rfl rfl rfl ?_
                    refine ar_pickT rfl rfl rfl rfl rfl ?_
                    refine ar_move rfl rfl rfl rfl ?_
                    refine ar_move rfl rfl rfl rfl ?_
                    refine ar_call [] (pc_53 x (by omega) htx) rfl rfl rfl rfl rfl rfl trivial (.inl rfl) rfl rfl rfl ?_
                    refine ar_len_str tab_ok rfl rfl tb9 rfl rfl rfl ?_
                    refine ar_move rfl rfl rfl rfl ?_
                    refine ar_len tab_ok rfl rfl tb70 rfl len_map rfl rfl ?_
                    refine ar_eql rfl rfl rfl (decide_eq_true (by simp [textT_size])) rfl rfl ?_
                    refine ar_pickT rfl rfl rfl rfl rfl ?_
                    refine ar_assign rfl rfl rfl rfl ?_
                    refine ar_nil ?_
                    refine then_n ?_
                    refine wp_ret ?_
                    refine ret_post rfl rfl ?_
                    rfl
                  · refine ar_not rfl rfl rfl rfl rfl ?_
                    refine ar_move rfl rfl rfl rfl ?_
                    refine ar_skip rfl rfl ?_
                    refine ar_skip rfl rfl ?_
                    refine ar_skip rfl rfl ?_
                    refine ar_skip rfl rfl ?_
                    refine ar_skip rfl rfl ?_
                    refine ar_skip rfl rfl ?_
                    refine ar_skip rfl rfl ?_
                    refine ar_pickT rfl rfl rfl rfl rfl ?_
                    refine ar_pickT rfl rfl rfl rfl rfl ?_
                    refine ar_move rfl rfl rfl rfl ?_
                    refine ar_move rfl rfl rfl rfl ?_
                    refine ar_call [] (pc_53 x (by omega) htx) rfl rfl rfl rfl rfl rfl trivial (.inl rfl) rfl rfl rfl ?_
                    refine ar_len_str tab_ok rfl rfl tb9 rfl rfl rfl ?_
                    refine ar_move rfl rfl rfl rfl ?_
                    refine ar_len tab_ok rfl rfl tb70 rfl len_map rfl rfl ?_
                    refine ar_eql rfl rfl rfl (decide_eq_true (by simp [textT_size])) rfl rfl ?_
                    refine ar_pickT rfl rfl rfl rfl rfl ?_
                    refine ar_assign rfl rfl rfl rfl ?_
                    refine ar_nil ?_
                    refine then_n ?_
                    refine wp_ret ?_
                    refine ret_post rfl rfl ?_
                    rfl
            · refine ar_not rfl rfl rfl rfl rfl ?_
              refine ar_pickF rfl rfl rfl rfl rfl ?_
              refine ar_nil ?_
              refine then_n ?_
              refine wp_condT rfl ?_
              refine wp_seq ?_
              refine wp_reg (by kernel_rfl) ?_
              refine ar_move rfl rfl rfl rfl ?_
              refine ar_assign rfl rfl rfl rfl ?_
              refine ar_nil ?_
              refine then_n ?_
              refine wp_ret ?_
              refine then_r (ret_post rfl rfl ?_)
              rfl
          · refine ar_not rfl rfl rfl rfl rfl ?_
            refine ar_pickF rfl rfl rfl rfl rfl ?_
            refine ar_move rfl rfl rfl rfl ?_
            refine ar_skip rfl rfl ?_
            refine ar_skip rfl rfl ?_
            refine ar_skip rfl rfl ?_
            refine ar_pickT rfl rfl rfl rfl rfl ?_
            refine ar_nil ?_
            refine then_n ?_
            refine wp_condT rfl ?_
            refine wp_seq ?_
            refine wp_reg (by kernel_rfl) ?_
            refine ar_move rfl rfl rfl rfl ?_
            refine ar_assign rfl rfl rfl rfl ?_
            refine ar_nil ?_
            refine then_n ?_
            refine wp_ret ?_
            refine then_r (ret_post rfl rfl ?_)
            rfl
        · refine ar_not rfl rfl rfl rfl rfl ?_
          refine ar_pickF rfl rfl rfl rfl rfl ?_
          refine ar_move rfl rfl rfl rfl ?_
          refine ar_skip rfl rfl ?_
          refine ar_skip rfl rfl ?_
          refine ar_skip rfl rfl ?_
          refine ar_pickT rfl rfl rfl rfl rfl ?_
          refine ar_move rfl rfl rfl rfl ?_
          refine ar_skip rfl rfl ?_
          refine ar_skip rfl rfl ?_
          refine ar_skip rfl rfl ?_
          refine ar_pickT rfl rfl rfl rfl rfl ?_
          refine ar_nil ?_
          refine then_n ?_
          refine wp_condT rfl ?_
          refine wp_seq ?_
          refine wp_reg (by kernel_rfl) ?_
          refine ar_move rfl rfl rfl rfl ?_
          refine ar_assign rfl rfl rfl rfl ?_
          refine ar_nil ?_
          refine then_n ?_
          refine wp_ret ?_
          refine then_r (ret_post rfl rfl ?_)
          rfl

end Go.Vd
