/- TernExact, TernTwo: as the program tells them. -/
import Derived.Test.YtjbfplfopagpjaaC18
namespace Go.Vd
open Go.Proofs

theorem ofB_and (x y : Bool) : andT (ofB x) (ofB y) = ofB (x && y) := by cases x <;> cases y <;> rfl
theorem ofB_ne (x : Bool) : ofB x ≠ 2 := by cases x <;> decide
theorem getD_mapf {α β : Type} [Inhabited α] [Inhabited β] (f : α → β) {xs : List α} {j : Nat} (h : j < xs.length) : (xs.map f).getD j default = f (xs.getD j default) := by
  rw [List.getD_eq_getElem?_getD, List.getD_eq_getElem?_getD, List.getElem?_map, List.getElem?_eq_getElem h]; rfl
theorem lit_two {v : List Bool} {l : Int} (h0 : 0 ≤ l) (h : l < 2 * v.length) : litT (v.map ofB) l = ofB (litv v l) := by
  have hl : l / 2 < v.length := by omega
  have hg : (v.map ofB).getD (l / 2).toNat default = ofB (v.getD (l / 2).toNat default) := getD_mapf ofB (by omega)
  rw [litv_in h0 hl]
  by_cases h1 : l % 2 = 1
  · rw [litT_odd h0 (by simpa using hl) h1, hg]
    show notT (ofB (v.getD _ false)) = _
    cases v.getD (l / 2).toNat false <;> simp [h1] <;> rfl
  · rw [litT_even h0 (by simpa using hl) h1, hg]
    show ofB (v.getD _ false) = _
    cases v.getD (l / 2).toNat false <;> simp [h1]
theorem vals_two : ∀ (gs : List Gate) (v : List Bool), (∀ j, j < gs.length → 0 ≤ (gs.getD j default).a ∧ (gs.getD j default).a < 2 * (v.length + j) ∧ 0 ≤ (gs.getD j default).b ∧ (gs.getD j default).b < 2 * (v.length + j)) →
    valsT (v.map ofB) gs = (valsOf v gs).map ofB
  | [], _, _ => rfl
  | g :: gs, v, h => by
    obtain ⟨h1, h2, h3, h4⟩ := h 0 (by simp)
    simp only [List.getD_cons_zero, Int.natCast_zero, Int.add_zero] at h1 h2 h3 h4
    simp only [valsT, valsOf]
    rw [lit_two h1 (by simpa using h2), lit_two h3 (by simpa using h4), ofB_and]
    have := vals_two gs (v ++ [litv v g.a && litv v g.b]) (fun j hj => by
      have := h (j + 1) (by simpa using hj)
      simp only [List.getD_cons_succ] at this
      simp only [List.length_append, List.length_cons, List.length_nil]
      omega)
    rw [← this]; simp
theorem good_two {a : Aig} (hg : Good a) {st inp : List Bool} (hs : st.length = a.l.length) (hi : (inp.length : Int) = a.i) : valsTV a (st.map ofB) (inp.map ofB) = (valsV a st inp).map ofB := by
  have := vals_two a.g (false :: (inp ++ st)) (fun j hj => by
    have hgr := hg.right.g j hj
    obtain ⟨r1, r2, r3⟩ := hgr
    simp only [List.length_cons, List.length_append]
    omega)
  rw [← this]; simp [ofB]
theorem lits_two {a : Aig} (hg : Good a) {st inp : List Bool} (hs : st.length = a.l.length) (hi : (inp.length : Int) = a.i) {l : Int} (h0 : 0 ≤ l) (h1 : l ≤ 2 * varsS a + 1) : litT ((valsV a st inp).map ofB) l = ofB (litv (valsV a st inp) l) := by
  refine lit_two h0 ?_
  have : (valsV a st inp).length = 1 + inp.length + st.length + a.g.length := by
    show (valsOf (false :: (inp ++ st)) a.g).length = _
    rw [valsOf_len]; simp; omega
  have hv : varsS a = a.i + a.l.length + a.g.length := rfl
  omega
theorem step_two {a : Aig} (hg : Good a) {st inp : List Bool} (hs : st.length = a.l.length) (hi : (inp.length : Int) = a.i) :
    stepTV a (valsTV a (st.map ofB) (inp.map ofB)) = ⟨(stepOk a st inp).n.map ofB, (stepOk a st inp).o.map ofB, (stepOk a st inp).b.map ofB, (stepOk a st inp).c.map ofB, 0⟩ := by
  rw [good_two hg hs hi]
  have ho : ∀ {ls : List Int}, (∀ x, x ∈ ls → x ∈ a.outs ∨ x ∈ a.bad ∨ x ∈ a.con) → ls.map (litT ((valsV a st inp).map ofB)) = (ls.map (litv (valsV a st inp))).map ofB := fun {ls} h => by
    rw [List.map_map]
    exact List.map_congr_left fun l hl => by have := hg.lit (h l hl); exact lits_two hg hs hi this.1 this.2
  have hn : (a.l.map fun l => litT ((valsV a st inp).map ofB) l.next) = (a.l.map fun l => litv (valsV a st inp) l.next).map ofB := by
    rw [List.map_map]
    refine List.map_congr_left fun l hl => ?_
    obtain ⟨j, hj, rfl⟩ := List.getElem_of_mem hl
    have := hg.right.l j hj
    rw [List.getD_eq_getElem?_getD, List.getElem?_eq_getElem hj] at this
    exact lits_two hg hs hi this.1 this.2.1
  simp only [stepTV, stepOk]
  rw [hn, ho fun x hx => .inl hx, ho fun x hx => .inr (.inl hx), ho fun x hx => .inr (.inr hx)]
theorem shape_two {a : Aig} {st inp : List Bool} : shapeT a (st.map ofB) (inp.map ofB) ↔ st.length = a.l.length ∧ (inp.length : Int) = a.i := by
  simp [shapeT, (ofL_tri st).isTri, (ofL_tri inp).isTri]
theorem values_two {a : Aig} (hg : Good a) (st inp : List Bool) : valuesT a (st.map ofB) (inp.map ofB) = ((valuesS a st inp).1.map ofB, (valuesS a st inp).2) := by
  by_cases h : st.length = a.l.length ∧ (inp.length : Int) = a.i
  · rw [valuesT_ok (shape_two.2 h), valuesS_ok h.1 h.2, good_two hg h.1 h.2]
  · rw [valuesT_bad (fun hh => h (shape_two.1 hh)), valuesS_bad h]; rfl
theorem stepT_two {a : Aig} (hg : Good a) (st inp : List Bool) : stepT a (st.map ofB) (inp.map ofB) = ⟨(stepS a st inp).n.map ofB, (stepS a st inp).o.map ofB, (stepS a st inp).b.map ofB, (stepS a st inp).c.map ofB, (stepS a st inp).e⟩ := by
  by_cases h : st.length = a.l.length ∧ (inp.length : Int) = a.i
  · rw [stepT_ok (shape_two.2 h), step_two hg h.1 h.2, stepS_is h]
  · rw [stepT_bad (fun hh => h (shape_two.1 hh)), stepS_not h]; rfl
theorem nnB (xs : List Bool) : Nn (xs.map ofB) := fun x hx => (ofL_tri xs x hx).1


theorem le3B {x y z : List Bool} {j : Nat} (hx : x.length ≤ 20000) (hy : y.length ≤ 20000) (hz : z.length ≤ 20000) : ([x, y, z].getD j default).length ≤ 1000000 := by
  rcases j with _ | _ | _ | j
  · simp; omega
  · simp; omega
  · simp; omega
  · simp [default]
theorem getD3 {x y z : List Bool} {j : Nat} (h : j < 3) : [x.map ofB, y.map ofB, z.map ofB].getD j default = ([x, y, z].getD j default).map ofB := by
  rcases j with _ | _ | _ | j
  · rfl
  · rfl
  · rfl
  · omega

theorem pc_16 (a : Aig) (st inp : List Bool) (hf : Fit a) : PCall Try.prog 16 [aigV a, slB st, slB inp] (.bool true) := by
  refine pc_of tab_ok (f := 16) (fn := Try.f16) (N := 104) (rs := [.tmp 6]) (by kernel_rfl) rfl (by kernel_rfl) rfl rfl [(0, .v (aigV a)), (1, .v (slB st)), (2, .v (slB inp))] ⟨rfl, rfl, rfl, trivial⟩ rfl rfl ?_
  intro B
  refine wp_seq ?_
  refine wp_reg (by kernel_rfl) ?_
  refine ar_box 3 [] rfl rfl rfl ⟨rfl, trivial⟩ rfl rfl rfl ?_
  refine ar_assign rfl rfl rfl rfl ?_
  refine ar_nil ?_
  refine then_n ?_
  refine wp_seq ?_
  refine wp_reg (by kernel_rfl) ?_
  refine ar_call [] (pc_44) rfl rfl rfl rfl rfl rfl trivial (.inl rfl) rfl rfl rfl ?_
  refine ar_assign rfl rfl rfl rfl ?_
  refine ar_nil ?_
  refine then_n ?_
  refine wp_seq ?_
  refine wp_seq ?_
  refine wp_reg (by kernel_rfl) ?_
  refine ar_lda tab_ok rfl rfl rfl tb27 rfl rfl rfl rfl rfl rfl ?_
  refine ar_callE [] (pce_55 a hf) rfl rfl rfl rfl rfl rfl trivial (.inl rfl) rfl rfl rfl ?_
  rintro _ ⟨b21, rfl, hb21⟩
  refine ar_split (fun h21 => ?_) (fun h21 => ?_)
  · refine ar_not rfl rfl rfl rfl rfl ?_
    refine ar_move rfl rfl rfl rfl ?_
    refine ar_move rfl rfl rfl rfl ?_
    refine ar_len tab_ok rfl rfl tb28 rfl len_map rfl rfl ?_
    refine ar_gtr_s rfl rfl rfl rfl rfl (fun h26 => ?_) (fun h26 => ?_)
    · refine ar_pickF rfl rfl rfl rfl rfl ?_
      refine ar_move rfl rfl rfl rfl ?_
      refine ar_skip rfl rfl ?_
      refine ar_skip rfl rfl ?_
      refine ar_skip rfl rfl ?_
      refine ar_pickT rfl rfl rfl rfl rfl ?_
      refine ar_nil ?_
      refine then_n ?_
      refine wp_condT rfl ?_
      refine wp_seq ?_
      refine wp_reg (by kernel_rfl) ?_
      refine ar_move rfl rfl rfl rfl ?_
      refine ar_assign rfl rfl rfl rfl ?_
      refine ar_nil ?_
      refine then_n ?_
      refine wp_ret ?_
      refine then_r (ret_post rfl rfl ?_)
      rfl
    · refine ar_pickF rfl rfl rfl rfl rfl ?_
      refine ar_move rfl rfl rfl rfl ?_
      refine ar_move rfl rfl rfl rfl ?_
      refine ar_len tab_ok rfl rfl tb28 rfl len_map rfl rfl ?_
      refine ar_gtr_s rfl rfl rfl rfl rfl (fun h31 => ?_) (fun h31 => ?_)
      · refine ar_pickF rfl rfl rfl rfl rfl ?_
        refine ar_nil ?_
        refine then_n ?_
        refine wp_condT rfl ?_
        refine wp_seq ?_
        refine wp_reg (by kernel_rfl) ?_
        refine ar_move rfl rfl rfl rfl ?_
        refine ar_assign rfl rfl rfl rfl ?_
        refine ar_nil ?_
        refine then_n ?_
        refine wp_ret ?_
        refine then_r (ret_post rfl rfl ?_)
        rfl
      · refine ar_pickF rfl rfl rfl rfl rfl ?_
        refine ar_nil ?_
        refine then_n ?_
        refine wp_condF rfl ?_
        refine wp_skip ?_
        refine then_n ?_
        refine wp_seq ?_
        have hg := hb21 h21
        have hbd := hg.bd
        have hv2 := values_two hg st inp
        have hs2 := stepT_two hg st inp
        refine wp_draw (L := [([3], []), ([], []), ([], []), ([], []), ([], []), ([], []), ([], []), ([], []), ([], []), ([], []), ([], [])]) (by kernel_rfl) mixed (by kernel_rfl) ?_
        refine ar_lda tab_ok rfl rfl rfl tb27 rfl rfl rfl rfl rfl rfl ?_
        refine ar_move rfl rfl rfl rfl ?_
        refine ar_call [] (pc_63 st (by omega)) rfl rfl rfl rfl rfl rfl trivial (.inl rfl) rfl rfl rfl ?_
        refine ar_move rfl rfl rfl rfl ?_
        refine ar_call [] (pc_63 inp (by omega)) rfl rfl rfl rfl rfl rfl trivial (.inl rfl) rfl rfl rfl ?_
        refine ar_call [] (pc_56 a (st.map ofB) (inp.map ofB) hbd (nnB st) (nnB inp) (by simp; omega) (by simp; omega)) rfl rfl rfl rfl rfl rfl trivial (.inl rfl) rfl rfl rfl ?_
        refine ar_move rfl rfl rfl rfl ?_
        refine ar_ext rfl rfl rfl rfl rfl ?_
        refine ar_ext rfl rfl rfl rfl rfl ?_
        refine ar_assign rfl rfl rfl rfl ?_
        refine ar_assign rfl rfl rfl rfl ?_
        refine ar_nil ?_
        refine then_n ?_
        refine wp_seq ?_
        refine wp_reg (by kernel_rfl) ?_
        refine ar_lda tab_ok rfl rfl rfl tb27 rfl rfl rfl rfl rfl rfl ?_
        refine ar_move rfl rfl rfl rfl ?_
        refine ar_move rfl rfl rfl rfl ?_
        refine ar_call [] (pc_32 a st inp hbd) rfl rfl rfl rfl rfl rfl trivial (.inl rfl) rfl rfl rfl ?_
        refine ar_move rfl rfl rfl rfl ?_
        refine ar_ext rfl rfl rfl rfl rfl ?_
        refine ar_ext rfl rfl rfl rfl rfl ?_
        refine ar_assign rfl rfl rfl rfl ?_
        refine ar_assign rfl rfl rfl rfl ?_
        refine ar_nil ?_
        refine then_n ?_
        refine wp_seq ?_
        refine wp_draw (L := [([3], []), ([], []), ([], []), ([], []), ([], []), ([], []), ([], []), ([], []), ([], []), ([], []), ([13], [13]), ([], []), ([13], [13]), ([], [])]) (by kernel_rfl) mixed (by kernel_rfl) ?_
        refine ar_lda tab_ok rfl rfl rfl tb27 rfl rfl rfl rfl rfl rfl ?_
        refine ar_move rfl rfl rfl rfl ?_
        refine ar_call [] (pc_63 st (by omega)) rfl rfl rfl rfl rfl rfl trivial (.inl rfl) rfl rfl rfl ?_
        refine ar_move rfl rfl rfl rfl ?_
        refine ar_call [] (pc_63 inp (by omega)) rfl rfl rfl rfl rfl rfl trivial (.inl rfl) rfl rfl rfl ?_
        refine ar_call [] (pc_58 a (st.map ofB) (inp.map ofB) hbd (nnB st) (nnB inp) (by simp; omega) (by simp; omega)) rfl rfl rfl rfl rfl rfl trivial (.inl rfl) rfl rfl rfl ?_
        refine ar_move rfl rfl rfl rfl ?_
        refine ar_ext rfl rfl rfl rfl rfl ?_
        refine ar_ext rfl rfl rfl rfl rfl ?_
        refine ar_ext rfl rfl rfl rfl rfl ?_
        refine ar_alloc (id := 13) tab_ok rfl rfl tb83 rfl rfl rfl rfl ?_
        refine ar_assign rfl rfl rfl rfl ?_
        refine ar_st [] tab_ok rfl tb83 rfl rfl rfl trivial rfl rfl rfl rfl rfl rfl rfl rfl ?_
        refine ar_assign rfl rfl rfl rfl ?_
        refine ar_nil ?_
        refine then_n ?_
        refine wp_seq ?_
        refine wp_reg (by kernel_rfl) ?_
        refine ar_lda tab_ok rfl rfl rfl tb27 rfl rfl rfl rfl rfl rfl ?_
        refine ar_move rfl rfl rfl rfl ?_
        refine ar_move rfl rfl rfl rfl ?_
        refine ar_call [] (pc_34 a st inp hbd) rfl rfl rfl rfl rfl rfl trivial (.inl rfl) rfl rfl rfl ?_
        refine ar_move rfl rfl rfl rfl ?_
        refine ar_ext rfl rfl rfl rfl rfl ?_
        refine ar_ext rfl rfl rfl rfl rfl ?_
        refine ar_ext rfl rfl rfl rfl rfl ?_
        refine ar_alloc (id := 16) tab_ok rfl rfl tb40 rfl rfl rfl rfl ?_
        refine ar_assign rfl rfl rfl rfl ?_
        refine ar_st [] tab_ok rfl tb40 rfl rfl rfl trivial rfl rfl rfl rfl rfl rfl rfl rfl ?_
        refine ar_assign rfl rfl rfl rfl ?_
        refine ar_nil ?_
        refine then_n ?_
        refine wp_seq ?_
        refine wp_seq ?_
        refine wp_reg (by kernel_rfl) ?_
        refine ar_move rfl rfl rfl rfl ?_
        refine ar_move rfl rfl rfl rfl ?_
        refine ar_neq rfl rfl rfl (decide_eq_false (by rw [hv2]; exact fun h => h rfl)) rfl rfl ?_
        refine ar_move rfl rfl rfl rfl ?_
        refine ar_move rfl rfl rfl rfl ?_
        refine ar_move rfl rfl rfl rfl ?_
        refine ar_neq rfl rfl rfl (decide_eq_false (by rw [hs2]; exact fun h => h rfl)) rfl rfl ?_
        refine ar_pickF rfl rfl rfl rfl rfl ?_
        refine ar_move rfl rfl rfl rfl ?_
        refine ar_move rfl rfl rfl rfl ?_
        refine ar_move rfl rfl rfl rfl ?_
        refine ar_call [] (pc_63 (valuesS a st inp).1 (by have := valuesS_le (st := st) (inp := inp) hbd; omega)) rfl rfl rfl rfl rfl rfl trivial (.inl rfl) rfl rfl rfl ?_
        refine ar_call [] (pc_60 _ _ (by have := valuesT_le (st := st.map ofB) (inp := inp.map ofB) hbd; omega) (by have := valuesS_le (st := st) (inp := inp) hbd; simp; omega)) rfl rfl rfl rfl rfl rfl trivial (.inl rfl) rfl rfl rfl ?_
        refine ar_to (d' := .v (.bool true)) (congrArg (fun b => D.v (V.bool b)) (decide_eq_true (by rw [hv2]))) ?_
        refine ar_not rfl rfl rfl rfl rfl ?_
        refine ar_pickF rfl rfl rfl rfl rfl ?_
        refine ar_move rfl rfl rfl rfl ?_
        refine ar_move rfl rfl rfl rfl ?_
        refine ar_move rfl rfl rfl rfl ?_
        refine ar_call [] (pc_63 (stepS a st inp).n (by have := stepS_le (st := st) (inp := inp) hbd; omega)) rfl rfl rfl rfl rfl rfl trivial (.inl rfl) rfl rfl rfl ?_
        refine ar_call [] (pc_60 _ _ (by have := stepT_le (st := st.map ofB) (inp := inp.map ofB) hbd; omega) (by have := stepS_le (st := st) (inp := inp) hbd; simp; omega)) rfl rfl rfl rfl rfl rfl trivial (.inl rfl) rfl rfl rfl ?_
        refine ar_to (d' := .v (.bool true)) (congrArg (fun b => D.v (V.bool b)) (decide_eq_true (by rw [hs2]))) ?_
        refine ar_not rfl rfl rfl rfl rfl ?_
        refine ar_pickF rfl rfl rfl rfl rfl ?_
        refine ar_nil ?_
        refine then_n ?_
        refine wp_condF rfl ?_
        refine wp_skip ?_
        refine then_n ?_
        refine wp_seq ?_
        refine wp_seq ?_
        refine wp_reg (by kernel_rfl) ?_
        refine ar_assign rfl rfl rfl rfl ?_
        refine ar_nil ?_
        refine then_n ?_
        refine wp_block ?_
        refine wp_loop (α := Nat) (fun j => mk [(7, .v (.bool true)), (13, .ptr 13 0), (16, .ptr 16 0), (18, .v (.int .i64 (j : Nat)))] [(13, .box [.v (slU (stepT a (st.map ofB) (inp.map ofB)).o), .v (slU (stepT a (st.map ofB) (inp.map ofB)).b), .v (slU (stepT a (st.map ofB) (inp.map ofB)).c)]), (16, .box [.v (slB (stepS a st inp).o), .v (slB (stepS a st inp).b), .v (slB (stepS a st inp).c)])] 0) (fun j => j ≤ 3) (fun j => 3 - j) 0 (by omega) (le_to ⟨rfl, rfl, rfl, rfl, trivial⟩ ⟨rfl, rfl, trivial⟩ rfl rfl rfl rfl) ?_
        rintro j hinv
        refine wp_seq ?_
        refine wp_seq ?_
        refine wp_reg (by kernel_rfl) ?_
        refine ar_move rfl rfl rfl rfl ?_
        refine ar_lss_s rfl rfl rfl rfl rfl (fun h91 => ?_) (fun h91 => ?_)
        · refine ar_nil ?_
          refine then_n ?_
          refine wp_condT rfl ?_
          refine wp_skip ?_
          refine then_n ?_
          refine wp_seq ?_
          refine wp_block ?_
          refine wp_seq ?_
          refine wp_draw (L := [([], []), ([13], []), ([13], []), ([], []), ([16], []), ([16], []), ([], []), ([], []), ([], [])]) (by kernel_rfl) mixed (by kernel_rfl) ?_
          refine ar_move rfl rfl rfl rfl ?_
          refine ar_ia_arr (j := j) tab_ok rfl rfl rfl rfl tb83 rfl tb70 (by omega) (by omega) (by simp) rfl rfl rfl ?_
          refine ar_ld tab_ok rfl rfl rfl tb70 rfl (get3U (by omega)) rfl rfl rfl ?_
          refine ar_move rfl rfl rfl rfl ?_
          refine ar_ia_arr (j := j) tab_ok rfl rfl rfl rfl tb40 rfl tb28 (by omega) (by omega) (by simp) rfl rfl rfl ?_
          refine ar_ld tab_ok rfl rfl rfl tb28 rfl (get3 (by omega)) rfl rfl rfl ?_
          refine ar_call [] (pc_63 _ (le3B (stepS_le hbd).2.1 (stepS_le hbd).2.2.1 (stepS_le hbd).2.2.2)) rfl rfl rfl rfl rfl rfl trivial (.inl rfl) rfl rfl rfl ?_
          refine ar_call [] (pc_60 _ _ (le3U (stepT_le hbd).2.1 (stepT_le hbd).2.2.1 (stepT_le hbd).2.2.2) (by have := le3B (j := j) (stepS_le (st := st) (inp := inp) hbd).2.1 (stepS_le (st := st) (inp := inp) hbd).2.2.1 (stepS_le (st := st) (inp := inp) hbd).2.2.2; simp at this ⊢; omega)) rfl rfl rfl rfl rfl rfl trivial (.inl rfl) rfl rfl rfl ?_
          refine ar_to (d' := .v (.bool true)) (congrArg (fun b => D.v (V.bool b)) (decide_eq_true (by rw [hs2]; exact getD3 (by omega)))) ?_
          refine ar_not rfl rfl rfl rfl rfl ?_
          refine ar_nil ?_
          refine then_n ?_
          refine wp_condF rfl ?_
          refine wp_skip ?_
          refine inblk_n ?_
          refine then_n ?_
          refine wp_reg (by kernel_rfl) ?_
          refine ar_move rfl rfl rfl rfl ?_
          refine ar_addi rfl rfl rfl rfl (by omega) (by omega) rfl rfl ?_
          refine ar_assign rfl rfl rfl rfl ?_
          refine ar_nil ?_
          exact loop_n (j + 1) (by omega) (by omega) (le_to ⟨rfl, rfl, rfl, rfl, trivial⟩ ⟨rfl, rfl, trivial⟩ rfl rfl rfl rfl)
        · refine ar_nil ?_
          refine then_n ?_
          refine wp_condF rfl ?_
          refine wp_exit ?_
          refine then_x (loop_x (inblk_e ?_))
          refine then_n ?_
          refine wp_seq ?_
          refine wp_reg (by kernel_rfl) ?_
          refine ar_move rfl rfl rfl rfl ?_
          refine ar_assign rfl rfl rfl rfl ?_
          refine ar_nil ?_
          refine then_n ?_
          refine wp_ret ?_
          refine ret_post rfl rfl ?_
          rfl
  · refine ar_not rfl rfl rfl rfl rfl ?_
    refine ar_move rfl rfl rfl rfl ?_
    refine ar_skip rfl rfl ?_
    refine ar_skip rfl rfl ?_
    refine ar_skip rfl rfl ?_
    refine ar_pickT rfl rfl rfl rfl rfl ?_
    refine ar_move rfl rfl rfl rfl ?_
    refine ar_skip rfl rfl ?_
    refine ar_skip rfl rfl ?_
    refine ar_skip rfl rfl ?_
    refine ar_pickT rfl rfl rfl rfl rfl ?_
    refine ar_nil ?_
    refine then_n ?_
    refine wp_condT rfl ?_
    refine wp_seq ?_
    refine wp_reg (by kernel_rfl) ?_
    refine ar_move rfl rfl rfl rfl ?_
    refine ar_assign rfl rfl rfl rfl ?_
    refine ar_nil ?_
    refine then_n ?_
    refine wp_ret ?_
    refine then_r (ret_post rfl rfl ?_)
    rfl


theorem set_low (xs : List Int) (n : Nat) (x : Int) : pairs lowT (xs.set n x) (xs.set n 2) = true := by
  refine pairs_of (by simp) fun j hj => ?_
  by_cases h : n = j
  · subst h
    have hj' : n < xs.length := by simpa using hj
    rw [List.getD_eq_getElem?_getD, List.getD_eq_getElem?_getD, List.getElem?_set_self hj', List.getElem?_set_self hj']
    exact low_top _
  · rw [List.getD_eq_getElem?_getD, List.getD_eq_getElem?_getD, List.getElem?_set_ne h, List.getElem?_set_ne h]
    exact low_refl _
theorem set_ofB (xs : List Bool) (n : Nat) (b : Bool) : (xs.map ofB).set n (ofB b) = (xs.set n b).map ofB := by rw [List.map_set]
theorem tri_set {xs : List Int} (h : TriL xs) (n : Nat) {x : Int} (hx : Tri x) : TriL (xs.set n x) := fun y hy => by
  rcases List.mem_or_eq_of_mem_set hy with hy | rfl
  · exact h y hy
  · exact hx
theorem pairs_get {v w : List Int} (h : pairs lowT v w = true) {j : Nat} (hj : j < w.length) (hn : w.getD j default ≠ 2) : v.getD j default = w.getD j default := by
  have hl := pairs_same h
  have := low_iff.1 (((pairs_iff lowT v w).1 h).2 j (by omega))
  omega
structure ExactP (a : Aig) (st inp : List Bool) (n : Nat) : Prop where
  s0 : shapeT a (st.map ofB) ((inp.map ofB).set n 0)
  s1 : shapeT a (st.map ofB) ((inp.map ofB).set n 1)
  s2 : shapeT a (st.map ofB) ((inp.map ofB).set n 2)
  l0 : pairs lowT (valsTV a (st.map ofB) ((inp.map ofB).set n 0)) (valsTV a (st.map ofB) ((inp.map ofB).set n 2)) = true
  l1 : pairs lowT (valsTV a (st.map ofB) ((inp.map ofB).set n 1)) (valsTV a (st.map ofB) ((inp.map ofB).set n 2)) = true
  n0 : ∀ j, j < (valsTV a (st.map ofB) ((inp.map ofB).set n 0)).length → (valsTV a (st.map ofB) ((inp.map ofB).set n 0)).getD j default ≠ 2
  n1 : ∀ j, j < (valsTV a (st.map ofB) ((inp.map ofB).set n 1)).length → (valsTV a (st.map ofB) ((inp.map ofB).set n 1)).getD j default ≠ 2
theorem exactP {a : Aig} (hg : Good a) {st inp : List Bool} (hs : st.length = a.l.length) (hi : (inp.length : Int) = a.i) (n : Nat) : ExactP a st inp n := by
  have sh : ∀ x, Tri x → shapeT a (st.map ofB) ((inp.map ofB).set n x) := fun x hx => ⟨⟨by simpa using hs, (ofL_tri st).isTri⟩, by simpa using hi, (tri_set (ofL_tri inp) n hx).isTri⟩
  have two : ∀ b : Bool, ∀ j, j < (valsTV a (st.map ofB) ((inp.map ofB).set n (ofB b))).length → (valsTV a (st.map ofB) ((inp.map ofB).set n (ofB b))).getD j default ≠ 2 := fun b j hj => by
    rw [set_ofB, good_two hg hs (by simpa using hi)] at hj ⊢
    rw [getD_mapf ofB (by simpa using hj)]
    exact ofB_ne _
  exact ⟨sh 0 tri0, sh 1 tri1, sh 2 tri2, low_valsTV (pairs_refl _) (set_low _ n 0), low_valsTV (pairs_refl _) (set_low _ n 1), two false, two true⟩
abbrev in15 (a : Aig) (st inp : List Bool) (n : Int) : List V := [.int .i64 a.i, slL a.l, slG a.g, slI a.outs, slI a.bad, slI a.con, slN a.names, slB st, slB inp, .int .i64 n]
theorem pc_56_ok (a : Aig) (st inp : List Int) (hb : Bd a) (h0 : Nn st) (h1 : Nn inp) (hl0 : st.length ≤ 9223372036854775807) (hl1 : inp.length ≤ 9223372036854775807) (h : shapeT a st inp) : PCall Try.prog 56 [aigV a, slU st, slU inp] (.tup [slU (valsTV a st inp), .int .i64 0]) := by
  have := pc_56 a st inp hb h0 h1 hl0 hl1
  rwa [valuesT_ok h] at this


theorem nnSet {xs : List Bool} {n : Nat} {x : Int} (hx : Tri x) : Nn ((xs.map ofB).set n x) := fun y hy => (tri_set (ofL_tri xs) n hx y hy).1

theorem pc_15 (a : Aig) (st inp : List Bool) (n : Int) (hf : Fit a) : PCall Try.prog 15 [.agg (in15 a st inp n)] (.bool true) := by
  refine pc_of tab_ok (f := 15) (fn := Try.f15) (N := 155) (rs := [.tmp 2]) (by kernel_rfl) rfl (by kernel_rfl) rfl rfl [(0, .v (.agg (in15 a st inp n)))] ⟨rfl, trivial⟩ rfl rfl ?_
  intro B
  refine wp_seq ?_
  refine wp_reg (by kernel_rfl) ?_
  refine ar_box 1 [] rfl rfl rfl ⟨rfl, trivial⟩ rfl rfl rfl ?_
  refine ar_assign rfl rfl rfl rfl ?_
  refine ar_nil ?_
  refine then_n ?_
  refine wp_seq ?_
  refine wp_reg (by kernel_rfl) ?_
  refine ar_fa tab_ok rfl rfl rfl tb95 rfl rfl rfl rfl rfl ?_
  refine ar_lda (d := .v (aigV a)) tab_ok rfl rfl rfl tb27 rfl rfl rfl rfl rfl rfl ?_
  refine ar_alloc (id := 3) tab_ok rfl rfl tb27 rfl rfl rfl rfl ?_
  refine ar_st [] tab_ok rfl tb27 rfl rfl rfl trivial rfl rfl rfl rfl rfl rfl rfl rfl ?_
  refine ar_nil ?_
  refine then_n ?_
  refine wp_seq ?_
  refine wp_reg (by kernel_rfl) ?_
  refine ar_fa tab_ok rfl rfl rfl tb95 rfl rfl rfl rfl rfl ?_
  refine ar_ld tab_ok rfl rfl rfl tb28 rfl rfl rfl rfl rfl ?_
  refine ar_assign rfl rfl rfl rfl ?_
  refine ar_nil ?_
  refine then_n ?_
  refine wp_seq ?_
  refine wp_reg (by kernel_rfl) ?_
  refine ar_fa tab_ok rfl rfl rfl tb95 rfl rfl rfl rfl rfl ?_
  refine ar_ld tab_ok rfl rfl rfl tb28 rfl rfl rfl rfl rfl ?_
  refine ar_assign rfl rfl rfl rfl ?_
  refine ar_nil ?_
  refine then_n ?_
  refine wp_seq ?_
  refine wp_reg (by kernel_rfl) ?_
  refine ar_fa tab_ok rfl rfl rfl tb95 rfl rfl rfl rfl rfl ?_
  refine ar_ld tab_ok rfl rfl rfl tb3 rfl rfl rfl rfl rfl ?_
  refine ar_assign rfl rfl rfl rfl ?_
  refine ar_nil ?_
  refine then_n ?_
  refine wp_seq ?_
  refine wp_reg (by kernel_rfl) ?_
  refine ar_call [] (pc_44) rfl rfl rfl rfl rfl rfl trivial (.inl rfl) rfl rfl rfl ?_
  refine ar_assign rfl rfl rfl rfl ?_
  refine ar_nil ?_
  refine then_n ?_
  refine wp_seq ?_
  refine wp_seq ?_
  refine wp_reg (by kernel_rfl) ?_
  refine ar_lda tab_ok rfl rfl rfl tb27 rfl rfl rfl rfl rfl rfl ?_
  refine ar_callE [] (pce_55 a hf) rfl rfl rfl rfl rfl rfl trivial (.inl rfl) rfl rfl rfl ?_
  rintro _ ⟨b26, rfl, hb26⟩
  refine ar_split (fun h26 => ?_) (fun h26 => ?_)
  · refine ar_not rfl rfl rfl rfl rfl ?_
    refine ar_move rfl rfl rfl rfl ?_
    refine ar_move rfl rfl rfl rfl ?_
    refine ar_len tab_ok rfl rfl tb28 rfl len_map rfl rfl ?_
    refine ar_fa tab_ok rfl rfl rfl tb27 rfl rfl rfl rfl rfl ?_
    refine ar_ld tab_ok rfl rfl rfl tb22 rfl rfl rfl rfl rfl ?_
    refine ar_len tab_ok rfl rfl tb22 rfl len_map rfl rfl ?_
    refine ar_neq_s rfl rfl rfl rfl rfl (fun h34 => ?_) (fun h34 => ?_)
    · refine ar_pickF rfl rfl rfl rfl rfl ?_
      refine ar_move rfl rfl rfl rfl ?_
      refine ar_skip rfl rfl ?_
      refine ar_skip rfl rfl ?_
      refine ar_skip rfl rfl ?_
      refine ar_skip rfl rfl ?_
      refine ar_skip rfl rfl ?_
      refine ar_pickT rfl rfl rfl rfl rfl ?_
      refine ar_move rfl rfl rfl rfl ?_
      refine ar_skip rfl rfl ?_
      refine ar_skip rfl rfl ?_
      refine ar_pickT rfl rfl rfl rfl rfl ?_
      refine ar_move rfl rfl rfl rfl ?_
      refine ar_skip rfl rfl ?_
      refine ar_skip rfl rfl ?_
      refine ar_skip rfl rfl ?_
      refine ar_skip rfl rfl ?_
      refine ar_pickT rfl rfl rfl rfl rfl ?_
      refine ar_nil ?_
      refine then_n ?_
      refine wp_condT rfl ?_
      refine wp_seq ?_
      refine wp_reg (by kernel_rfl) ?_
      refine ar_move rfl rfl rfl rfl ?_
      refine ar_assign rfl rfl rfl rfl ?_
      refine ar_nil ?_
      refine then_n ?_
      refine wp_ret ?_
      refine then_r (ret_post rfl rfl ?_)
      rfl
    · refine ar_pickF rfl rfl rfl rfl rfl ?_
      refine ar_move rfl rfl rfl rfl ?_
      refine ar_move rfl rfl rfl rfl ?_
      refine ar_len tab_ok rfl rfl tb28 rfl len_map rfl rfl ?_
      refine ar_fa tab_ok rfl rfl rfl tb27 rfl rfl rfl rfl rfl ?_
      refine ar_ld tab_ok rfl rfl rfl tb3 rfl rfl rfl rfl rfl ?_
      refine ar_neq_s rfl rfl rfl rfl rfl (fun h41 => ?_) (fun h41 => ?_)
      · refine ar_pickF rfl rfl rfl rfl rfl ?_
        refine ar_move rfl rfl rfl rfl ?_
        refine ar_skip rfl rfl ?_
        refine ar_skip rfl rfl ?_
        refine ar_pickT rfl rfl rfl rfl rfl ?_
        refine ar_move rfl rfl rfl rfl ?_
        refine ar_skip rfl rfl ?_
        refine ar_skip rfl rfl ?_
        refine ar_skip rfl rfl ?_
        refine ar_skip rfl rfl ?_
        refine ar_pickT rfl rfl rfl rfl rfl ?_
        refine ar_nil ?_
        refine then_n ?_
        refine wp_condT rfl ?_
        refine wp_seq ?_
        refine wp_reg (by kernel_rfl) ?_
        refine ar_move rfl rfl rfl rfl ?_
        refine ar_assign rfl rfl rfl rfl ?_
        refine ar_nil ?_
        refine then_n ?_
        refine wp_ret ?_
        refine then_r (ret_post rfl rfl ?_)
        rfl
      · refine ar_pickF rfl rfl rfl rfl rfl ?_
        refine ar_move rfl rfl rfl rfl ?_
        refine ar_move rfl rfl rfl rfl ?_
        refine ar_lss_s rfl rfl rfl rfl rfl (fun h45 => ?_) (fun h45 => ?_)
        · refine ar_pickF rfl rfl rfl rfl rfl ?_
          refine ar_move rfl rfl rfl rfl ?_
          refine ar_skip rfl rfl ?_
          refine ar_skip rfl rfl ?_
          refine ar_skip rfl rfl ?_
          refine ar_skip rfl rfl ?_
          refine ar_pickT rfl rfl rfl rfl rfl ?_
          refine ar_nil ?_
          refine then_n ?_
          refine wp_condT rfl ?_
          refine wp_seq ?_
          refine wp_reg (by kernel_rfl) ?_
          refine ar_move rfl rfl rfl rfl ?_
          refine ar_assign rfl rfl rfl rfl ?_
          refine ar_nil ?_
          refine then_n ?_
          refine wp_ret ?_
          refine then_r (ret_post rfl rfl ?_)
          rfl
        · refine ar_pickF rfl rfl rfl rfl rfl ?_
          refine ar_move rfl rfl rfl rfl ?_
          refine ar_move rfl rfl rfl rfl ?_
          refine ar_move rfl rfl rfl rfl ?_
          refine ar_len tab_ok rfl rfl tb28 rfl len_map rfl rfl ?_
          refine ar_geq_s rfl rfl rfl rfl rfl (fun h51 => ?_) (fun h51 => ?_)
          · refine ar_pickF rfl rfl rfl rfl rfl ?_
            refine ar_nil ?_
            refine then_n ?_
            refine wp_condT rfl ?_
            refine wp_seq ?_
            refine wp_reg (by kernel_rfl) ?_
            refine ar_move rfl rfl rfl rfl ?_
            refine ar_assign rfl rfl rfl rfl ?_
            refine ar_nil ?_
            refine then_n ?_
            refine wp_ret ?_
            refine then_r (ret_post rfl rfl ?_)
            rfl
          · refine ar_pickF rfl rfl rfl rfl rfl ?_
            refine ar_nil ?_
            refine then_n ?_
            refine wp_condF rfl ?_
            refine wp_skip ?_
            refine then_n ?_
            refine wp_seq ?_
            have hg := hb26 h26
            have hbd := hg.bd
            have hq1 := hbd.i1; have hq2 := hbd.l1
            have hE := exactP hg (st := st) (inp := inp) (by omega) (by omega) n.toNat
            have e0 := pairs_same hE.l0
            have e1 := pairs_same hE.l1
            have e2 : (valsTV a (st.map ofB) ((inp.map ofB).set n.toNat 2)).length ≤ 100000 := by show (valsT _ _).length ≤ _; rw [valsT_len]; have := hbd.g1; simp; omega
            refine wp_reg (by kernel_rfl) ?_
            refine ar_move rfl rfl rfl rfl ?_
            refine ar_call [] (pc_63 st (by omega)) rfl rfl rfl rfl rfl rfl trivial (.inl rfl) rfl rfl rfl ?_
            refine ar_assign rfl rfl rfl rfl ?_
            refine ar_nil ?_
            refine then_n ?_
            refine wp_seq ?_
            refine wp_draw (L := [([3], []), ([], []), ([], []), ([], []), ([], []), ([], []), ([], []), ([], []), ([], []), ([], []), ([], [])]) (by kernel_rfl) mixed (by kernel_rfl) ?_
            refine ar_lda tab_ok rfl rfl rfl tb27 rfl rfl rfl rfl rfl rfl ?_
            refine ar_move rfl rfl rfl rfl ?_
            refine ar_move rfl rfl rfl rfl ?_
            refine ar_move rfl rfl rfl rfl ?_
            refine ar_call [] (pc_64 inp n 2 (by omega) (by omega) (by omega)) rfl rfl rfl rfl rfl rfl trivial (.inl rfl) rfl rfl rfl ?_
            refine ar_call [] (pc_56_ok a (st.map ofB) ((inp.map ofB).set n.toNat 2) hbd (nnB st) (nnSet tri2) (by simp; omega) (by simp; omega) hE.s2) rfl rfl rfl rfl rfl rfl trivial (.inl rfl) rfl rfl rfl ?_
            refine ar_move rfl rfl rfl rfl ?_
            refine ar_ext rfl rfl rfl rfl rfl ?_
            refine ar_ext rfl rfl rfl rfl rfl ?_
            refine ar_assign rfl rfl rfl rfl ?_
            refine ar_assign rfl rfl rfl rfl ?_
            refine ar_nil ?_
            refine then_n ?_
            refine wp_seq ?_
            refine wp_draw (L := [([3], []), ([], []), ([], []), ([], []), ([], []), ([], []), ([], []), ([], []), ([], []), ([], []), ([], [])]) (by kernel_rfl) mixed (by kernel_rfl) ?_
            refine ar_lda tab_ok rfl rfl rfl tb27 rfl rfl rfl rfl rfl rfl ?_
            refine ar_move rfl rfl rfl rfl ?_
            refine ar_move rfl rfl rfl rfl ?_
            refine ar_move rfl rfl rfl rfl ?_
            refine ar_call [] (pc_64 inp n 0 (by omega) (by omega) (by omega)) rfl rfl rfl rfl rfl rfl trivial (.inl rfl) rfl rfl rfl ?_
            refine ar_call [] (pc_56_ok a (st.map ofB) ((inp.map ofB).set n.toNat 0) hbd (nnB st) (nnSet tri0) (by simp; omega) (by simp; omega) hE.s0) rfl rfl rfl rfl rfl rfl trivial (.inl rfl) rfl rfl rfl ?_
            refine ar_move rfl rfl rfl rfl ?_
            refine ar_ext rfl rfl rfl rfl rfl ?_
            refine ar_ext rfl rfl rfl rfl rfl ?_
            refine ar_assign rfl rfl rfl rfl ?_
            refine ar_assign rfl rfl rfl rfl ?_
            refine ar_nil ?_
            refine then_n ?_
            refine wp_seq ?_
            refine wp_draw (L := [([3], []), ([], []), ([], []), ([], []), ([], []), ([], []), ([], []), ([], []), ([], []), ([], []), ([], [])]) (by kernel_rfl) mixed (by kernel_rfl) ?_
            refine ar_lda tab_ok rfl rfl rfl tb27 rfl rfl rfl rfl rfl rfl ?_
            refine ar_move rfl rfl rfl rfl ?_
            refine ar_move rfl rfl rfl rfl ?_
            refine ar_move rfl rfl rfl rfl ?_
            refine ar_call [] (pc_64 inp n 1 (by omega) (by omega) (by omega)) rfl rfl rfl rfl rfl rfl trivial (.inl rfl) rfl rfl rfl ?_
            refine ar_call [] (pc_56_ok a (st.map ofB) ((inp.map ofB).set n.toNat 1) hbd (nnB st) (nnSet tri1) (by simp; omega) (by simp; omega) hE.s1) rfl rfl rfl rfl rfl rfl trivial (.inl rfl) rfl rfl rfl ?_
            refine ar_move rfl rfl rfl rfl ?_
            refine ar_ext rfl rfl rfl rfl rfl ?_
            refine ar_ext rfl rfl rfl rfl rfl ?_
            refine ar_assign rfl rfl rfl rfl ?_
            refine ar_assign rfl rfl rfl rfl ?_
            refine ar_nil ?_
            refine then_n ?_
            refine wp_seq ?_
            refine wp_seq ?_
            refine wp_reg (by kernel_rfl) ?_
            refine ar_move rfl rfl rfl rfl ?_
            refine ar_neq rfl rfl rfl (decide_eq_false (by exact fun h => h rfl)) rfl rfl ?_
            refine ar_move rfl rfl rfl rfl ?_
            refine ar_move rfl rfl rfl rfl ?_
            refine ar_neq rfl rfl rfl (decide_eq_false (by exact fun h => h rfl)) rfl rfl ?_
            refine ar_pickF rfl rfl rfl rfl rfl ?_
            refine ar_move rfl rfl rfl rfl ?_
            refine ar_move rfl rfl rfl rfl ?_
            refine ar_neq rfl rfl rfl (decide_eq_false (by exact fun h => h rfl)) rfl rfl ?_
            refine ar_pickF rfl rfl rfl rfl rfl ?_
            refine ar_move rfl rfl rfl rfl ?_
            refine ar_move rfl rfl rfl rfl ?_
            refine ar_len tab_ok rfl rfl tb70 rfl len_map rfl rfl ?_
            refine ar_move rfl rfl rfl rfl ?_
            refine ar_len tab_ok rfl rfl tb70 rfl len_map rfl rfl ?_
            refine ar_neq rfl rfl rfl (decide_eq_false (by omega)) rfl rfl ?_
            refine ar_pickF rfl rfl rfl rfl rfl ?_
            refine ar_move rfl rfl rfl rfl ?_
            refine ar_move rfl rfl rfl rfl ?_
            refine ar_len tab_ok rfl rfl tb70 rfl len_map rfl rfl ?_
            refine ar_move rfl rfl rfl rfl ?_
            refine ar_len tab_ok rfl rfl tb70 rfl len_map rfl rfl ?_
            refine ar_neq rfl rfl rfl (decide_eq_false (by omega)) rfl rfl ?_
            refine ar_pickF rfl rfl rfl rfl rfl ?_
            refine ar_nil ?_
            refine then_n ?_
            refine wp_condF rfl ?_
            refine wp_skip ?_
            refine then_n ?_
            refine wp_seq ?_
            refine wp_seq ?_
            refine wp_reg (by kernel_rfl) ?_
            refine ar_assign rfl rfl rfl rfl ?_
            refine ar_nil ?_
            refine then_n ?_
            refine wp_block ?_
            refine wp_loop (α := Nat) (fun j => mk [(7, .v (.bool true)), (9, .v (slU (valsTV a (st.map ofB) ((inp.map ofB).set n.toNat 2)))), (11, .v (slU (valsTV a (st.map ofB) ((inp.map ofB).set n.toNat 0)))), (13, .v (slU (valsTV a (st.map ofB) ((inp.map ofB).set n.toNat 1)))), (15, .v (.int .i64 (j : Nat)))] [] 0) (fun j => j ≤ (valsTV a (st.map ofB) ((inp.map ofB).set n.toNat 2)).length) (fun j => (valsTV a (st.map ofB) ((inp.map ofB).set n.toNat 2)).length - j) 0 (Nat.zero_le _) (le_to ⟨rfl, rfl, rfl, rfl, rfl, trivial⟩ trivial rfl rfl rfl rfl) ?_
            rintro j hinv
            refine wp_seq ?_
            refine wp_seq ?_
            refine wp_reg (by kernel_rfl) ?_
            refine ar_move rfl rfl rfl rfl ?_
            refine ar_move rfl rfl rfl rfl ?_
            refine ar_len tab_ok rfl rfl tb70 rfl len_map rfl rfl ?_
            refine ar_lss_s rfl rfl rfl rfl rfl (fun h110 => ?_) (fun h110 => ?_)
            · refine ar_nil ?_
              refine then_n ?_
              refine wp_condT rfl ?_
              refine wp_skip ?_
              refine then_n ?_
              refine wp_seq ?_
              refine wp_block ?_
              refine wp_seq ?_
              refine wp_draw (L := [([], []), ([], []), ([], []), ([], []), ([], []), ([], []), ([], []), ([], []), ([], []), ([], []), ([], []), ([], []), ([], []), ([], []), ([], []), ([], []), ([], []), ([], []), ([], []), ([], []), ([], []), ([], []), ([], []), ([], []), ([], []), ([], []), ([], []), ([], []), ([], []), ([], []), ([], []), ([], []), ([], []), ([], []), ([], []), ([], []), ([], []), ([], []), ([], []), ([], []), ([], [])]) (by kernel_rfl) mixed (by kernel_rfl) ?_
              refine ar_move rfl rfl rfl rfl ?_
              refine ar_move rfl rfl rfl rfl ?_
              refine ar_ia tab_ok rfl rfl rfl tb70 rfl tb72 (by omega) (map_get (n := j) (by omega)) rfl rfl rfl ?_
              refine ar_ld_ref tab_ok rfl rfl tb72 rfl rfl rfl rfl ?_
              refine ar_neq_s rfl rfl rfl rfl rfl (fun h117 => ?_) (fun h117 => ?_)
              · refine ar_move rfl rfl rfl rfl ?_
                refine ar_move rfl rfl rfl rfl ?_
                refine ar_move rfl rfl rfl rfl ?_
                refine ar_ia tab_ok rfl rfl rfl tb70 rfl tb72 (by omega) (map_get (n := j) (by omega)) rfl rfl rfl ?_
                refine ar_ld_ref tab_ok rfl rfl tb72 rfl rfl rfl rfl ?_
                refine ar_move rfl rfl rfl rfl ?_
                refine ar_move rfl rfl rfl rfl ?_
                refine ar_ia tab_ok rfl rfl rfl tb70 rfl tb72 (by omega) (map_get (n := j) (by omega)) rfl rfl rfl ?_
                refine ar_ld_ref tab_ok rfl rfl tb72 rfl rfl rfl rfl ?_
                refine ar_neq rfl rfl rfl (decide_eq_false (by exact fun h => h (pairs_get hE.l0 (by omega) h117))) rfl rfl ?_
                refine ar_move rfl rfl rfl rfl ?_
                refine ar_move rfl rfl rfl rfl ?_
                refine ar_move rfl rfl rfl rfl ?_
                refine ar_ia tab_ok rfl rfl rfl tb70 rfl tb72 (by omega) (map_get (n := j) (by omega)) rfl rfl rfl ?_
                refine ar_ld_ref tab_ok rfl rfl tb72 rfl rfl rfl rfl ?_
                refine ar_move rfl rfl rfl rfl ?_
                refine ar_move rfl rfl rfl rfl ?_
                refine ar_ia tab_ok rfl rfl rfl tb70 rfl tb72 (by omega) (map_get (n := j) (by omega)) rfl rfl rfl ?_
                refine ar_ld_ref tab_ok rfl rfl tb72 rfl rfl rfl rfl ?_
                refine ar_neq rfl rfl rfl (decide_eq_false (by exact fun h => h (pairs_get hE.l1 (by omega) h117))) rfl rfl ?_
                refine ar_pickF rfl rfl rfl rfl rfl ?_
                refine ar_pickT rfl rfl rfl rfl rfl ?_
                refine ar_move rfl rfl rfl rfl ?_
                refine ar_move rfl rfl rfl rfl ?_
                refine ar_move rfl rfl rfl rfl ?_
                refine ar_ia tab_ok rfl rfl rfl tb70 rfl tb72 (by omega) (map_get (n := j) (by omega)) rfl rfl rfl ?_
                refine ar_ld_ref tab_ok rfl rfl tb72 rfl rfl rfl rfl ?_
                refine ar_eql rfl rfl rfl (decide_eq_false (by exact hE.n0 j (by omega))) rfl rfl ?_
                refine ar_pickF rfl rfl rfl rfl rfl ?_
                refine ar_move rfl rfl rfl rfl ?_
                refine ar_move rfl rfl rfl rfl ?_
                refine ar_move rfl rfl rfl rfl ?_
                refine ar_ia tab_ok rfl rfl rfl tb70 rfl tb72 (by omega) (map_get (n := j) (by omega)) rfl rfl rfl ?_
                refine ar_ld_ref tab_ok rfl rfl tb72 rfl rfl rfl rfl ?_
                refine ar_eql rfl rfl rfl (decide_eq_false (by exact hE.n1 j (by omega))) rfl rfl ?_
                refine ar_pickF rfl rfl rfl rfl rfl ?_
                refine ar_nil ?_
                refine then_n ?_
                refine wp_condF rfl ?_
                refine wp_skip ?_
                refine inblk_n ?_
                refine then_n ?_
                refine wp_reg (by kernel_rfl) ?_
                refine ar_move rfl rfl rfl rfl ?_
                refine ar_addi rfl rfl rfl rfl (by omega) (by omega) rfl rfl ?_
                refine ar_assign rfl rfl rfl rfl ?_
                refine ar_nil ?_
                exact loop_n (j + 1) (by omega) (by omega) (le_to ⟨rfl, rfl, rfl, rfl, rfl, trivial⟩ trivial rfl rfl rfl rfl)
              · refine ar_move rfl rfl rfl rfl ?_
                refine ar_skip rfl rfl ?_
                refine ar_skip rfl rfl ?_
                refine ar_skip rfl rfl ?_
                refine ar_skip rfl rfl ?_
                refine ar_skip rfl rfl ?_
                refine ar_skip rfl rfl ?_
                refine ar_skip rfl rfl ?_
                refine ar_skip rfl rfl ?_
                refine ar_skip rfl rfl ?_
                refine ar_skip rfl rfl ?_
                refine ar_skip rfl rfl ?_
                refine ar_skip rfl rfl ?_
                refine ar_skip rfl rfl ?_
                refine ar_skip rfl rfl ?_
                refine ar_skip rfl rfl ?_
                refine ar_skip rfl rfl ?_
                refine ar_skip rfl rfl ?_
                refine ar_skip rfl rfl ?_
                refine ar_skip rfl rfl ?_
                refine ar_skip rfl rfl ?_
                refine ar_pickF rfl rfl rfl rfl rfl ?_
                refine ar_move rfl rfl rfl rfl ?_
                refine ar_move rfl rfl rfl rfl ?_
                refine ar_move rfl rfl rfl rfl ?_
                refine ar_ia tab_ok rfl rfl rfl tb70 rfl tb72 (by omega) (map_get (n := j) (by omega)) rfl rfl rfl ?_
                refine ar_ld_ref tab_ok rfl rfl tb72 rfl rfl rfl rfl ?_
                refine ar_eql rfl rfl rfl (decide_eq_false (by exact hE.n0 j (by omega))) rfl rfl ?_
                refine ar_pickF rfl rfl rfl rfl rfl ?_
                refine ar_move rfl rfl rfl rfl ?_
                refine ar_move rfl rfl rfl rfl ?_
                refine ar_move rfl rfl rfl rfl ?_
                refine ar_ia tab_ok rfl rfl rfl tb70 rfl tb72 (by omega) (map_get (n := j) (by omega)) rfl rfl rfl ?_
                refine ar_ld_ref tab_ok rfl rfl tb72 rfl rfl rfl rfl ?_
                refine ar_eql rfl rfl rfl (decide_eq_false (by exact hE.n1 j (by omega))) rfl rfl ?_
                refine ar_pickF rfl rfl rfl rfl rfl ?_
                refine ar_nil ?_
                refine then_n ?_
                refine wp_condF rfl ?_
                refine wp_skip ?_
                refine inblk_n ?_
                refine then_n ?_
                refine wp_reg (by kernel_rfl) ?_
                refine ar_move rfl rfl rfl rfl ?_
                refine ar_addi rfl rfl rfl rfl (by omega) (by omega) rfl rfl ?_
                refine ar_assign rfl rfl rfl rfl ?_
                refine ar_nil ?_
                exact loop_n (j + 1) (by omega) (by omega) (le_to ⟨rfl, rfl, rfl, rfl, rfl, trivial⟩ trivial rfl rfl rfl rfl)
            · refine ar_nil ?_
              refine then_n ?_
              refine wp_condF rfl ?_
              refine wp_exit ?_
              refine then_x (loop_x (inblk_e ?_))
              refine then_n ?_
              refine wp_seq ?_
              refine wp_reg (by kernel_rfl) ?_
              refine ar_move rfl rfl rfl rfl ?_
              refine ar_assign rfl rfl rfl rfl ?_
              refine ar_nil ?_
              refine then_n ?_
              refine wp_ret ?_
              refine ret_post rfl rfl ?_
              rfl
  · refine ar_not rfl rfl rfl rfl rfl ?_
    refine ar_move rfl rfl rfl rfl ?_
    refine ar_skip rfl rfl ?_
    refine ar_skip rfl rfl ?_
    refine ar_skip rfl rfl ?_
    refine ar_skip rfl rfl ?_
    refine ar_skip rfl rfl ?_
    refine ar_skip rfl rfl ?_
    refine ar_pickT rfl rfl rfl rfl rfl ?_
    refine ar_move rfl rfl rfl rfl ?_
    refine ar_skip rfl rfl ?_
    refine ar_skip rfl rfl ?_
    refine ar_skip rfl rfl ?_
    refine ar_skip rfl rfl ?_
    refine ar_skip rfl rfl ?_
    refine ar_pickT rfl rfl rfl rfl rfl ?_
    refine ar_move rfl rfl rfl rfl ?_
    refine ar_skip rfl rfl ?_
    refine ar_skip rfl rfl ?_
    refine ar_pickT rfl rfl rfl rfl rfl ?_
    refine ar_move rfl rfl rfl rfl ?_
    refine ar_skip rfl rfl ?_
    refine ar_skip rfl rfl ?_
    refine ar_skip rfl rfl ?_
    refine ar_skip rfl rfl ?_
    refine ar_pickT rfl rfl rfl rfl rfl ?_
    refine ar_nil ?_
    refine then_n ?_
    refine wp_condT rfl ?_
    refine wp_seq ?_
    refine wp_reg (by kernel_rfl) ?_
    refine ar_move rfl rfl rfl rfl ?_
    refine ar_assign rfl rfl rfl rfl ?_
    refine ar_nil ?_
    refine then_n ?_
    refine wp_ret ?_
    refine then_r (ret_post rfl rfl ?_)
    rfl

end Go.Vd
