/- Traces, replayed: frames, states, whether one is a witness: the program's functions and the document's. -/
import Derived.Test.YtjbfplfopagpjaaC21
namespace Go.Vd
open Go.Proofs

instance : Inhabited StepT := ⟨⟨[], [], [], [], 0⟩⟩
def frT (a : Aig) (s : List Int) : List (List Int) → List StepT
  | [] => []
  | r :: rs => stepT a s r :: frT a (stepT a s r).n rs
def endT (a : Aig) (s : List Int) : List (List Int) → List Int
  | [] => s
  | r :: rs => endT a (stepT a s r).n rs
theorem frT_len (a : Aig) : ∀ (ins : List (List Int)) (s : List Int), (frT a s ins).length = ins.length
  | [], _ => rfl
  | r :: rs, s => by simp [frT, frT_len a rs]
theorem endT_snoc (a : Aig) (r : List Int) : ∀ (xs : List (List Int)) (s : List Int), endT a s (xs ++ [r]) = (stepT a (endT a s xs) r).n
  | [], _ => rfl
  | x :: xs, s => by simp [endT, endT_snoc a r xs]
theorem frT_get (a : Aig) : ∀ (ins : List (List Int)) (s : List Int) (j : Nat), j < ins.length → (frT a s ins).getD j default = stepT a (endT a s (ins.take j)) (ins.getD j default)
  | [], _, _, h => by simp at h
  | r :: rs, s, 0, _ => rfl
  | r :: rs, s, j + 1, h => by
    have := frT_get a rs (stepT a s r).n j (by simpa using h)
    simpa [frT, endT] using this
theorem frT_snoc (a : Aig) (r : List Int) : ∀ (xs : List (List Int)) (s : List Int), frT a s (xs ++ [r]) = frT a s xs ++ [stepT a (endT a s xs) r]
  | [], _ => rfl
  | x :: xs, s => by simp [frT, endT, frT_snoc a r xs]
/-- A right trace of values. -/
structure Okt (a : Aig) (t : Trace) : Prop where
  r : RightT a t
  i : TriL t.ini
  n : ∀ r, r ∈ t.ins → TriL r
theorem okt_of {a : Aig} {t : Trace} (h : RightT a t) (h0 : Nn t.ini) (h1 : ∀ r, r ∈ t.ins → Nn r) : Okt a t := ⟨h, triL_of h.it h0, fun r hr => triL_of (h.rt r hr) (h1 r hr)⟩
theorem stepT_next {a : Aig} {s r : List Int} (hs : s.length = a.l.length) (ht : TriL s) (hr : (r.length : Int) = a.i) (hrt : TriL r) : shapeT a s r ∧ (stepT a s r).n.length = a.l.length ∧ TriL (stepT a s r).n := by
  have h : shapeT a s r := ⟨⟨hs, ht.isTri⟩, hr, hrt.isTri⟩
  refine ⟨h, ?_⟩
  rw [stepT_ok h]
  exact ⟨by simp, mapT_tri (valsT_tri (init_tri h (fun x hx => (ht x hx).1) (fun x hx => (hrt x hx).1)) _) _ _⟩
theorem endT_ok {a : Aig} : ∀ (ins : List (List Int)) (s : List Int), s.length = a.l.length → TriL s → (∀ r, r ∈ ins → (r.length : Int) = a.i ∧ TriL r) → (endT a s ins).length = a.l.length ∧ TriL (endT a s ins)
  | [], s, h, h', _ => ⟨h, h'⟩
  | r :: rs, s, h, h', hr => by
    have h1 := stepT_next h h' (hr r List.mem_cons_self).1 (hr r List.mem_cons_self).2
    exact endT_ok rs _ h1.2.1 h1.2.2 (fun x hx => hr x (List.mem_cons_of_mem _ hx))
theorem Okt.at {a : Aig} {t : Trace} (h : Okt a t) (j : Nat) : (endT a t.ini (t.ins.take j)).length = a.l.length ∧ TriL (endT a t.ini (t.ins.take j)) :=
  endT_ok _ _ h.r.il h.i (fun r hr => ⟨h.r.rl r (List.mem_of_mem_take hr), h.n r (List.mem_of_mem_take hr)⟩)
theorem Okt.row {a : Aig} {t : Trace} (h : Okt a t) {j : Nat} (hj : j < t.ins.length) : ((t.ins.getD j default).length : Int) = a.i ∧ TriL (t.ins.getD j default) := ⟨h.r.rl _ (getD_mem hj), h.n _ (getD_mem hj)⟩
theorem Okt.shape {a : Aig} {t : Trace} (h : Okt a t) {j : Nat} (hj : j < t.ins.length) : shapeT a (endT a t.ini (t.ins.take j)) (t.ins.getD j default) :=
  (stepT_next (h.at j).1 (h.at j).2 (h.row hj).1 (h.row hj).2).1
theorem TriL.nn {v : List Int} (h : TriL v) : Nn v := fun x hx => (h x hx).1
theorem step_lens {a : Aig} {s r : List Int} (h : shapeT a s r) : (stepT a s r).n.length = a.l.length ∧ (stepT a s r).o.length = a.outs.length ∧ (stepT a s r).b.length = a.bad.length ∧ (stepT a s r).c.length = a.con.length := by
  rw [stepT_ok h]; simp
def encFr (f : StepT) : List V := [.agg [slU f.n, slU f.o, slU f.b, slU f.c]]
theorem fr_enc (a : Aig) (s : List Int) (ins : List (List Int)) (j : Nat) (h : j < ins.length) : ((frT a s ins).map encFr)[j]? = some (encFr (stepT a (endT a s (ins.take j)) (ins.getD j default))) := by
  rw [← frT_get a ins s j h, map_get (by rw [frT_len]; exact h)]

theorem it_142 (a : Aig) (t : Trace) (hb : Bd a) (ho : Okt a t) : IterC Try.prog 142 [.ref (encT t), .ref (encA a)] ((frT a t.ini t.ins).map encFr) := by
  refine it_of (f := 142) (fn := Try.f142) (N := 35) (by kernel_rfl) rfl (by kernel_rfl) rfl rfl (fun l => [(0, .v (.fn (.yield l) [] [])), (1, .v (.ref (encT t))), (2, .v (.ref (encA a)))]) (fun _ => ⟨rfl, rfl, rfl, trivial⟩) rfl (fun _ => rfl) ?_
  intro 𝔅 l hy
  refine wp_seq ?_
  refine wp_reg (by kernel_rfl) ?_
  refine ar_fa_ref (cs' := [slU t.ini, slUU t.ins]) tab_ok rfl rfl tb101 rfl rfl rfl rfl ?_
  refine ar_ld_ref tab_ok rfl rfl tb70 rfl rfl rfl rfl ?_
  refine ar_assign rfl rfl rfl rfl ?_
  refine ar_nil ?_
  refine then_n ?_
  refine wp_seq ?_
  refine wp_reg (by kernel_rfl) ?_
  refine ar_fa_ref (cs' := [slUU t.ins]) tab_ok rfl rfl tb101 rfl rfl rfl rfl ?_
  refine ar_ld_ref tab_ok rfl rfl tb99 rfl rfl rfl rfl ?_
  refine ar_len tab_ok rfl rfl tb99 rfl len_map rfl rfl ?_
  refine ar_move rfl rfl rfl rfl ?_
  refine ar_nil ?_
  refine then_n ?_
  refine wp_block ?_
  refine wp_loop (α := Nat) (fun j => mk [(0, .v (.fn (.yield l) [] [])), (2, .v (.ref (encA a))), (4, .v (slU (endT a t.ini (t.ins.take j)))), (13, .v (slUU t.ins)), (14, .v (.int .i64 (t.ins.length : Nat))), (15, .v (.int .i64 (j : Nat)))] [] ⟨0, j + 1, []⟩) (fun j => j ≤ t.ins.length) (fun j => t.ins.length - j) 0 (Nat.zero_le _) (le_to ⟨rfl, rfl, rfl, rfl, rfl, rfl, trivial⟩ trivial rfl rfl rfl rfl) ?_
  rintro j hinv
  have hn1 := ho.r.n1
  have hat := ho.at j
  refine wp_seq ?_
  refine wp_reg (by kernel_rfl) ?_
  refine ar_lss_s rfl rfl rfl rfl rfl (fun h16 => ?_) (fun h16 => ?_)
  · refine ar_nil ?_
    refine then_n ?_
    refine wp_seq ?_
    refine wp_condT rfl ?_
    refine wp_skip ?_
    refine then_n ?_
    refine wp_seq ?_
    refine wp_block ?_
    refine wp_seq ?_
    refine wp_reg (by kernel_rfl) ?_
    refine ar_ia tab_ok rfl rfl rfl tb99 rfl tb70 (by omega) (map_get (n := j) (by omega)) rfl rfl rfl ?_
    refine ar_ld_ref tab_ok rfl rfl tb70 rfl rfl rfl rfl ?_
    refine ar_assign rfl rfl rfl rfl ?_
    refine ar_nil ?_
    refine then_n ?_
    refine wp_seq ?_
    refine wp_reg (by kernel_rfl) ?_
    refine ar_ld_refa (cs' := encA a) tab_ok rfl rfl tb27 rfl rfl rfl rfl rfl ?_
    refine ar_move rfl rfl rfl rfl ?_
    refine ar_move rfl rfl rfl rfl ?_
    refine ar_call [] (pc_58 a (endT a t.ini (t.ins.take j)) (t.ins.getD j default) hb hat.2.nn (ho.row (by omega)).2.nn (by have := hat.1; have := hb.l1; omega) (by have := (ho.row (j := j) (by omega)).1; have := hb.i1; omega)) rfl rfl rfl rfl rfl rfl trivial (.inl rfl) rfl rfl rfl ?_
    refine ar_move rfl rfl rfl rfl ?_
    refine ar_ext rfl rfl rfl rfl rfl ?_
    refine ar_ext rfl rfl rfl rfl rfl ?_
    refine ar_ext rfl rfl rfl rfl rfl ?_
    refine ar_alloc (id := 8) tab_ok rfl rfl tb83 rfl rfl rfl rfl ?_
    refine ar_assign rfl rfl rfl rfl ?_
    refine ar_st [] tab_ok rfl tb83 rfl rfl rfl trivial rfl rfl rfl rfl rfl rfl rfl rfl ?_
    refine ar_assign rfl rfl rfl rfl ?_
    refine ar_nil ?_
    refine then_n ?_
    refine wp_seq ?_
    refine wp_seq ?_
    refine wp_reg (by kernel_rfl) ?_
    refine ar_move rfl rfl rfl rfl ?_
    refine ar_move rfl rfl rfl rfl ?_
    refine ar_lda tab_ok rfl rfl rfl tb83 rfl rfl rfl rfl rfl rfl ?_
    refine ar_build [] tab_ok rfl tb167 rfl rfl trivial rfl rfl rfl rfl rfl rfl ?_
    refine ar_yield (j := j) hy (fr_enc a t.ini t.ins j (by omega)) rfl rfl rfl rfl rfl rfl rfl rfl rfl ?_ ?_
    · refine ar_not rfl rfl rfl rfl rfl ?_
      refine ar_nil ?_
      refine then_n ?_
      refine wp_condF rfl ?_
      refine wp_skip ?_
      refine then_n ?_
      refine wp_reg (by kernel_rfl) ?_
      refine ar_move rfl rfl rfl rfl ?_
      refine ar_assign rfl rfl rfl rfl ?_
      refine ar_nil ?_
      refine inblk_n ?_
      refine then_n ?_
      refine wp_reg (by kernel_rfl) ?_
      refine ar_addi rfl rfl rfl rfl (by omega) (by omega) rfl rfl ?_
      refine ar_move rfl rfl rfl rfl ?_
      refine ar_nil ?_
      exact loop_n (j + 1) (by omega) (by omega) (le_to ⟨rfl, rfl, (sl_eq rfl (by rw [take_snoc (by omega), endT_snoc])), rfl, rfl, rfl, trivial⟩ trivial rfl rfl rfl rfl)
    · refine ar_not rfl rfl rfl rfl rfl ?_
      refine ar_nil ?_
      refine then_n ?_
      refine wp_condT rfl ?_
      refine wp_ret ?_
      exact then_r (inblk_r (then_r (loop_r (inblk_r (⟨rfl, .inr rfl⟩)))))
  · refine ar_nil ?_
    refine then_n ?_
    refine wp_seq ?_
    refine wp_condF rfl ?_
    refine wp_exit ?_
    refine then_x (loop_x (inblk_e ?_))
    refine ⟨rfl, .inl ?_⟩
    show _ = ((frT a t.ini t.ins).map encFr).length + 1
    rw [List.length_map, frT_len]
    simp [mk]
    omega

theorem pc_122 (a : Aig) (t : Trace) : PCall Try.prog 122 [aigV a, trV t] (.fn (.func 142) [] [.ref (encT t), .ref (encA a)]) := by
  refine pc_of tab_ok (f := 122) (fn := Try.f122) (N := 6) (rs := [.tmp 4]) (by kernel_rfl) rfl (by kernel_rfl) rfl rfl [(0, .v (aigV a)), (1, .v (trV t))] ⟨rfl, rfl, trivial⟩ rfl rfl ?_
  intro B
  refine wp_seq ?_
  refine wp_reg (by kernel_rfl) ?_
  refine ar_box 2 [] rfl rfl rfl ⟨rfl, trivial⟩ rfl rfl rfl ?_
  refine ar_box 3 [] rfl rfl rfl ⟨rfl, trivial⟩ rfl rfl rfl ?_
  refine ar_any rfl rfl rfl ?_
  refine ar_nil ?_
  refine then_n ?_
  refine wp_seq ?_
  refine wp_reg (by kernel_rfl) ?_
  refine ar_mkf rfl rfl rfl rfl rfl rfl ?_
  refine ar_assign rfl rfl rfl rfl ?_
  refine ar_nil ?_
  refine then_n ?_
  refine wp_ret ?_
  refine ret_post rfl rfl ?_
  rfl


def statesT (a : Aig) (t : Trace) : List (List Int) × Int := if rightT a t then (t.ini :: (frT a t.ini t.ins).map StepT.n, 0) else ([], 7)
theorem statesT_ok {a : Aig} {t : Trace} (h : rightT a t = true) : statesT a t = (t.ini :: (frT a t.ini t.ins).map StepT.n, 0) := by simp only [statesT]; rw [if_pos h]
theorem statesT_bad {a : Aig} {t : Trace} (h : rightT a t = false) : statesT a t = ([], 7) := by simp only [statesT]; rw [if_neg (by rw [h]; exact Bool.false_ne_true)]
theorem fr_at {fs : List StepT} {k : Nat} {x : List V} (h : (fs.map encFr)[k]? = some x) : k < fs.length ∧ encFr (fs.getD k default) = x := by
  rw [List.getElem?_map, Option.map_eq_some_iff] at h
  obtain ⟨p, h1, rfl⟩ := h
  have hlt := (List.getElem?_eq_some_iff.1 h1).1
  refine ⟨hlt, ?_⟩
  rw [List.getD_eq_getElem?_getD, h1]; rfl

theorem pc_82 (a : Aig) (t : Trace) (hf : Fit a) (hb : Bd a) (hz : SzT t) (hn : Nn t.ini) (hn2 : ∀ r, r ∈ t.ins → Nn r) : PCall Try.prog 82 [aigV a, trV t] (.tup [slUU (statesT a t).1, .int .i64 (statesT a t).2]) := by
  refine pc_of tab_ok (f := 82) (fn := Try.f82) (N := 26) (rs := [.tmp 4, .tmp 5]) (by kernel_rfl) rfl (by kernel_rfl) rfl rfl [(0, .v (aigV a)), (1, .v (trV t))] ⟨rfl, rfl, trivial⟩ rfl rfl ?_
  intro B
  refine wp_seq ?_
  refine wp_reg (by kernel_rfl) ?_
  refine ar_box 2 [] rfl rfl rfl ⟨rfl, trivial⟩ rfl rfl rfl ?_
  refine ar_box 3 [] rfl rfl rfl ⟨rfl, trivial⟩ rfl rfl rfl ?_
  refine ar_assign rfl rfl rfl rfl ?_
  refine ar_assign rfl rfl rfl rfl ?_
  refine ar_nil ?_
  refine then_n ?_
  refine wp_seq ?_
  refine wp_seq ?_
  refine wp_reg (by kernel_rfl) ?_
  refine ar_lda tab_ok rfl rfl rfl tb27 rfl rfl rfl rfl rfl rfl ?_
  refine ar_lda tab_ok rfl rfl rfl tb101 rfl rfl rfl rfl rfl rfl ?_
  refine ar_call [] (pc_113 a t hf hn (by have := hz.il; omega) (by have := hz.nl; omega) (fun r hr => by have := hz.rl r hr; omega)) rfl rfl rfl rfl rfl rfl trivial (.inl rfl) rfl rfl rfl ?_
  refine ar_split (fun h10 => ?_) (fun h10 => ?_)
  · refine ar_not rfl rfl rfl rfl rfl ?_
    refine ar_nil ?_
    refine then_n ?_
    refine wp_condF rfl ?_
    refine wp_skip ?_
    refine then_n ?_
    refine wp_seq ?_
    have ho := okt_of (rightT_iff.1 h10) hn hn2
    refine wp_reg (by kernel_rfl) ?_
    refine ar_fa tab_ok rfl rfl rfl tb101 rfl rfl rfl rfl rfl ?_
    refine ar_ld tab_ok rfl rfl rfl tb70 rfl rfl rfl rfl rfl ?_
    refine ar_call [] (pc_121 t.ini (by have := hz.il; omega)) rfl rfl rfl rfl rfl rfl trivial (.inl rfl) rfl rfl rfl ?_
    refine ar_bs_own (es := [t.ini].map encUs) 15 [] tab_ok rfl tb99 rfl tb70 rfl rfl ⟨rfl, trivial⟩ rfl rfl rfl rfl rfl rfl rfl rfl rfl ?_
    refine ar_alloc (id := 6) tab_ok rfl rfl tb99 rfl rfl rfl rfl ?_
    refine ar_st [(15, _)] tab_ok rfl tb99 rfl rfl rfl ⟨rfl, trivial⟩ rfl rfl rfl rfl rfl rfl rfl rfl ?_
    refine ar_nil ?_
    refine then_n ?_
    refine wp_seq ?_
    refine wp_seq ?_
    refine wp_reg (by kernel_rfl) ?_
    refine ar_lda tab_ok rfl rfl rfl tb27 rfl rfl rfl rfl rfl rfl ?_
    refine ar_lda tab_ok rfl rfl rfl tb101 rfl rfl rfl rfl rfl rfl ?_
    refine ar_call [] (pc_122 a t) rfl rfl rfl rfl rfl rfl trivial (.inl rfl) rfl rfl rfl ?_
    refine ar_nil ?_
    refine then_n ?_
    refine wp_block ?_
    refine wp_range (α := List (List Int)) (it_142 a t hb ho) (fun x hx => by obtain ⟨p, _, rfl⟩ := List.mem_map.1 hx; rfl) [(2, .ptr 2 0), (3, .ptr 3 0), (6, .ptr 6 0), (18, .v (.fn (.func 142) [] [.ref (encT t), .ref (encA a)]))] [2, 3, 6] (fun acc => [(2, .box ((encA a).map .v)), (3, .box ((encT t).map .v)), (6, .box [.own 901]), (901, .row 70 1 (acc.map encUs))]) (fun k acc => k ≤ (frT a t.ini t.ins).length ∧ acc = t.ini :: ((frT a t.ini t.ins).take k).map StepT.n) [t.ini] 0 0 ⟨Nat.zero_le _, rfl⟩ (le_ren [(901, 15)] ⟨rfl, rfl, rfl, rfl, trivial⟩ ⟨rfl, rfl, rfl, rfl, trivial⟩ rfl rfl rfl rfl rfl) rfl rfl rfl (fun _ => rfl) ?_ ?_
    · rintro l β k x acc hx ⟨hk1, hk2⟩ 𝔅1
      obtain ⟨hk4, rfl⟩ := fr_at hx
      have hk5 := frT_len a t.ins t.ini
      have hk6 := ho.r.n1
      refine wp_reg (by kernel_rfl) ?_
      refine ar_alloc (id := 7) tab_ok rfl rfl tb167 rfl rfl rfl rfl ?_
      refine ar_st [] tab_ok rfl tb167 rfl rfl rfl trivial rfl rfl rfl rfl rfl rfl rfl rfl ?_
      refine ar_nil ?_
      refine assign_n rfl ?_
      intro 𝔅2
      refine wp_block ?_
      refine wp_reg (by kernel_rfl) ?_
      refine ar_ld tab_ok rfl rfl rfl tb99 rfl rfl rfl rfl rfl ?_
      refine ar_fa tab_ok rfl rfl rfl tb167 rfl rfl rfl rfl rfl ?_
      refine ar_ld tab_ok rfl rfl rfl tb70 rfl rfl rfl rfl rfl ?_
      refine ar_bs [] tab_ok rfl tb99 rfl tb70 rfl trivial rfl rfl rfl rfl rfl rfl rfl rfl ?_
      refine ar_app 24 [] tab_ok rfl tb99 rfl tb99 rfl tb70 rfl rfl rfl rfl ⟨rfl, rfl, trivial⟩ rfl (elOk.cons rfl rfl elOk.nil) (app_one (enc := encUs) (x := ((frT a t.ini t.ins).getD k default).n)) (by subst hk2; constructor <;> simp <;> omega) rfl rfl rfl ?_
      refine ar_st [(24, _)] tab_ok rfl tb99 rfl rfl rfl ⟨rfl, trivial⟩ rfl rfl rfl rfl rfl rfl rfl rfl ?_
      refine ar_nil ?_
      refine inblk_n ?_
      exact round_n _ ⟨hk4, by rw [hk2, take_snoc hk4, List.map_append, List.cons_append]; rfl⟩ (le_ren [(901, 24)] ⟨rfl, rfl, rfl, rfl, trivial⟩ ⟨rfl, rfl, rfl, rfl, trivial⟩ rfl rfl rfl rfl rfl)
    · rintro acc ⟨hk1, hk2⟩
      refine inblk_n ?_
      refine then_n ?_
      refine wp_seq ?_
      refine wp_reg (by kernel_rfl) ?_
      refine ar_ld tab_ok rfl rfl rfl tb99 rfl rfl rfl rfl rfl ?_
      refine ar_assign rfl rfl rfl rfl ?_
      refine ar_assign rfl rfl rfl rfl ?_
      refine ar_nil ?_
      refine then_n ?_
      refine wp_ret ?_
      refine ret_post rfl rfl ?_
      rw [statesT_ok h10, hk2, List.take_of_length_le (by simp)]
  · refine ar_not rfl rfl rfl rfl rfl ?_
    refine ar_nil ?_
    refine then_n ?_
    refine wp_condT rfl ?_
    refine wp_seq ?_
    refine wp_reg (by kernel_rfl) ?_
    refine ar_assign rfl rfl rfl rfl ?_
    refine ar_assign rfl rfl rfl rfl ?_
    refine ar_nil ?_
    refine then_n ?_
    refine wp_ret ?_
    refine then_r (ret_post rfl rfl ?_)
    rw [statesT_bad h10]; rfl


abbrev outT (a : Aig) (t : Trace) (j : Nat) : List (List Int) := t.ini :: ((frT a t.ini t.ins).take j).map StepT.n
theorem outT_len {a : Aig} {t : Trace} {j : Nat} (h : j ≤ t.ins.length) : (outT a t j).length = j + 1 := by
  have := frT_len a t.ins t.ini
  simp; omega
theorem take_snoc' {α : Type} [Inhabited α] {xs : List α} {n : Nat} (h : n < xs.length) : xs.take (n + 1) = xs.take n ++ [xs.getD n default] := take_snoc h
theorem outT_get {a : Aig} {t : Trace} : ∀ {j i : Nat}, j ≤ t.ins.length → i ≤ j → (outT a t j).getD i default = endT a t.ini (t.ins.take i)
  | j, 0, _, _ => by simp [endT]
  | j, i + 1, hj, hi => by
    have hl := frT_len a t.ins t.ini
    show ((((frT a t.ini t.ins).take j).map StepT.n).getD i default) = _
    have h1 : i < ((frT a t.ini t.ins).take j).length := by simp; omega
    rw [List.getD_eq_getElem?_getD, List.getElem?_map, List.getElem?_eq_getElem h1, List.getElem_take, take_snoc (by omega), endT_snoc, ← frT_get a t.ins t.ini i (by omega)]
    rw [List.getD_eq_getElem?_getD, List.getElem?_eq_getElem (by omega)]; rfl
theorem outT_snoc {a : Aig} {t : Trace} {j : Nat} (h : j < t.ins.length) : outT a t (j + 1) = outT a t j ++ [(stepT a (endT a t.ini (t.ins.take j)) (t.ins.getD j default)).n] := by
  have hl := frT_len a t.ins t.ini
  rw [← frT_get a t.ins t.ini j h]
  simp only [outT]
  rw [take_snoc (by omega)]; simp
theorem outT_all (a : Aig) (t : Trace) : outT a t t.ins.length = t.ini :: (frT a t.ini t.ins).map StepT.n := by
  simp only [outT]; rw [List.take_of_length_le (by rw [frT_len]; exact Nat.le_refl _)]

theorem pc_83 (a : Aig) (t : Trace) (hf : Fit a) (hg : Good a) (hz : SzT t) (hn : Nn t.ini) (hn2 : ∀ r, r ∈ t.ins → Nn r) : PCall Try.prog 83 [aigV a, trV t] (.tup [slUU (statesT a t).1, .int .i64 (statesT a t).2]) := by
  refine pc_of tab_ok (f := 83) (fn := Try.f83) (N := 47) (rs := [.tmp 4, .tmp 5]) (by kernel_rfl) rfl (by kernel_rfl) rfl rfl [(0, .v (aigV a)), (1, .v (trV t))] ⟨rfl, rfl, trivial⟩ rfl rfl ?_
  intro B
  have hb := hg.bd
  refine wp_seq ?_
  refine wp_reg (by kernel_rfl) ?_
  refine ar_box 2 [] rfl rfl rfl ⟨rfl, trivial⟩ rfl rfl rfl ?_
  refine ar_box 3 [] rfl rfl rfl ⟨rfl, trivial⟩ rfl rfl rfl ?_
  refine ar_assign rfl rfl rfl rfl ?_
  refine ar_assign rfl rfl rfl rfl ?_
  refine ar_nil ?_
  refine then_n ?_
  refine wp_seq ?_
  refine wp_reg (by kernel_rfl) ?_
  refine ar_lda tab_ok rfl rfl rfl tb27 rfl rfl rfl rfl rfl rfl ?_
  refine ar_lda tab_ok rfl rfl rfl tb101 rfl rfl rfl rfl rfl rfl ?_
  refine ar_call [] (pc_79 a t hf hn (by have := hz.il; omega) (by have := hz.nl; omega) (fun r hr => by have := hz.rl r hr; omega)) rfl rfl rfl rfl rfl rfl trivial (.inl rfl) rfl rfl rfl ?_
  refine ar_split (fun h14 => ?_) (fun h14 => ?_)
  · refine ar_assign rfl rfl rfl rfl ?_
    refine ar_nil ?_
    refine then_n ?_
    refine wp_seq ?_
    refine wp_seq ?_
    refine wp_reg (by kernel_rfl) ?_
    refine ar_move rfl rfl rfl rfl ?_
    refine ar_not rfl rfl rfl rfl rfl ?_
    refine ar_nil ?_
    refine then_n ?_
    refine wp_condF rfl ?_
    refine wp_skip ?_
    refine then_n ?_
    refine wp_seq ?_
    have ho := okt_of (rightT_iff.1 h14) hn hn2
    refine wp_reg (by kernel_rfl) ?_
    refine ar_fa tab_ok rfl rfl rfl tb101 rfl rfl rfl rfl rfl ?_
    refine ar_ld tab_ok rfl rfl rfl tb70 rfl rfl rfl rfl rfl ?_
    refine ar_bs_own (es := [t.ini].map encUs) 19 [] tab_ok rfl tb99 rfl tb70 rfl rfl ⟨rfl, trivial⟩ rfl rfl rfl rfl rfl rfl rfl rfl rfl ?_
    refine ar_assign rfl rfl rfl rfl ?_
    refine ar_nil ?_
    refine then_n ?_
    refine wp_seq ?_
    refine wp_seq ?_
    refine wp_reg (by kernel_rfl) ?_
    refine ar_assign rfl rfl rfl rfl ?_
    refine ar_nil ?_
    refine then_n ?_
    refine wp_block ?_
    refine wp_loop (α := Nat) (fun j => mk [(2, .ptr 2 0), (3, .ptr 3 0), (7, .own 901), (8, .v (.int .i64 (j : Nat)))] [(2, .box ((encA a).map .v)), (3, .box ((encT t).map .v)), (901, .row 70 1 ((outT a t j).map encUs))] 0) (fun j => j ≤ t.ins.length) (fun j => t.ins.length - j) 0 (Nat.zero_le _) (le_ren [(901, 19)] ⟨rfl, rfl, rfl, rfl, trivial⟩ ⟨rfl, rfl, rfl, trivial⟩ rfl rfl rfl rfl rfl) ?_
    rintro j hinv
    have hn1 := ho.r.n1
    have hat := ho.at j
    have hol := outT_len (a := a) (t := t) (j := j) hinv
    have hog := outT_get (a := a) (t := t) (j := j) (i := j) hinv (Nat.le_refl _)
    refine wp_seq ?_
    refine wp_seq ?_
    refine wp_reg (by kernel_rfl) ?_
    refine ar_move rfl rfl rfl rfl ?_
    refine ar_fa tab_ok rfl rfl rfl tb101 rfl rfl rfl rfl rfl ?_
    refine ar_ld tab_ok rfl rfl rfl tb99 rfl rfl rfl rfl rfl ?_
    refine ar_len tab_ok rfl rfl tb99 rfl len_map rfl rfl ?_
    refine ar_lss_s rfl rfl rfl rfl rfl (fun h24 => ?_) (fun h24 => ?_)
    · refine ar_nil ?_
      refine then_n ?_
      refine wp_condT rfl ?_
      refine wp_skip ?_
      refine then_n ?_
      refine wp_seq ?_
      refine wp_block ?_
      refine wp_seq ?_
      refine wp_draw (L := [([2], []), ([], []), ([], []), ([901], []), ([901], []), ([3], []), ([3], []), ([], []), ([], []), ([], []), ([], []), ([], []), ([], []), ([], []), ([], []), ([10], [10]), ([], []), ([10], [10]), ([], [])]) (by kernel_rfl) mixed (by kernel_rfl) ?_
      refine ar_lda tab_ok rfl rfl rfl tb27 rfl rfl rfl rfl rfl rfl ?_
      refine ar_move rfl rfl rfl rfl ?_
      refine ar_move rfl rfl rfl rfl ?_
      refine ar_ia_own tab_ok rfl rfl rfl rfl tb99 rfl tb70 rfl (by omega) (by simp only [List.length_map, hol]; omega) rfl rfl rfl rfl ?_
      refine ar_ld_eptr (y := slU (endT a t.ini (t.ins.take j))) tab_ok rfl rfl rfl tb70 rfl (by have := map_get (enc := encUs) (xs := outT a t j) (n := j) (by omega); rw [hog] at this; exact this) rfl rfl rfl ?_
      refine ar_fa tab_ok rfl rfl rfl tb101 rfl rfl rfl rfl rfl ?_
      refine ar_ld tab_ok rfl rfl rfl tb99 rfl rfl rfl rfl rfl ?_
      refine ar_move rfl rfl rfl rfl ?_
      refine ar_ia tab_ok rfl rfl rfl tb99 rfl tb70 (by omega) (map_get (n := j) (by omega)) rfl rfl rfl ?_
      refine ar_ld_ref tab_ok rfl rfl tb70 rfl rfl rfl rfl ?_
      refine ar_call [] (pc_59 a (endT a t.ini (t.ins.take j)) (t.ins.getD j default) hg (by have := hat.1; have := hb.l1; omega) (by have := (ho.row (j := j) (by omega)).1; have := hb.i1; omega)) rfl rfl rfl rfl rfl rfl trivial (.inl rfl) rfl rfl rfl ?_
      refine ar_move rfl rfl rfl rfl ?_
      refine ar_ext rfl rfl rfl rfl rfl ?_
      refine ar_ext rfl rfl rfl rfl rfl ?_
      refine ar_ext rfl rfl rfl rfl rfl ?_
      refine ar_alloc (id := 10) tab_ok rfl rfl tb83 rfl rfl rfl rfl ?_
      refine ar_assign rfl rfl rfl rfl ?_
      refine ar_st [] tab_ok rfl tb83 rfl rfl rfl trivial rfl rfl rfl rfl rfl rfl rfl rfl ?_
      refine ar_assign rfl rfl rfl rfl ?_
      refine ar_nil ?_
      refine then_n ?_
      refine wp_reg (by kernel_rfl) ?_
      refine ar_move rfl rfl rfl rfl ?_
      refine ar_move rfl rfl rfl rfl ?_
      refine ar_bs [] tab_ok rfl tb99 rfl tb70 rfl trivial rfl rfl rfl rfl rfl rfl rfl rfl ?_
      refine ar_app 45 [] tab_ok rfl tb99 rfl tb99 rfl tb70 rfl rfl rfl rfl ⟨rfl, rfl, trivial⟩ rfl (elOk.cons rfl rfl elOk.nil) app_one (by constructor <;> simp only [List.length_map, List.length_append, hol, List.length_cons, List.length_nil] <;> omega) rfl rfl rfl ?_
      refine ar_assign rfl rfl rfl rfl ?_
      refine ar_nil ?_
      refine inblk_n ?_
      refine then_n ?_
      refine wp_reg (by kernel_rfl) ?_
      refine ar_move rfl rfl rfl rfl ?_
      refine ar_addi rfl rfl rfl rfl (by omega) (by omega) rfl rfl ?_
      refine ar_assign rfl rfl rfl rfl ?_
      refine ar_nil ?_
      exact loop_n (j + 1) (by omega) (by omega) (le_ren [(901, 45)] ⟨rfl, rfl, rfl, rfl, trivial⟩ ⟨rfl, rfl, (row_eq rfl (by rw [outT_snoc (by omega)] <;> simp)), trivial⟩ rfl rfl rfl rfl rfl)
    · refine ar_nil ?_
      refine then_n ?_
      refine wp_condF rfl ?_
      refine wp_exit ?_
      refine then_x (loop_x (inblk_e ?_))
      refine then_n ?_
      refine wp_seq ?_
      refine wp_reg (by kernel_rfl) ?_
      refine ar_move rfl rfl rfl rfl ?_
      refine ar_assign rfl rfl rfl rfl ?_
      refine ar_assign rfl rfl rfl rfl ?_
      refine ar_nil ?_
      refine then_n ?_
      refine wp_ret ?_
      refine ret_post rfl rfl ?_
      have hi : j = t.ins.length := by omega
      subst hi
      rw [statesT_ok h14, outT_all]
  · refine ar_assign rfl rfl rfl rfl ?_
    refine ar_nil ?_
    refine then_n ?_
    refine wp_seq ?_
    refine wp_seq ?_
    refine wp_reg (by kernel_rfl) ?_
    refine ar_move rfl rfl rfl rfl ?_
    refine ar_not rfl rfl rfl rfl rfl ?_
    refine ar_nil ?_
    refine then_n ?_
    refine wp_condT rfl ?_
    refine wp_seq ?_
    refine wp_reg (by kernel_rfl) ?_
    refine ar_assign rfl rfl rfl rfl ?_
    refine ar_assign rfl rfl rfl rfl ?_
    refine ar_nil ?_
    refine then_n ?_
    refine wp_ret ?_
    refine then_r (ret_post rfl rfl ?_)
    rw [statesT_bad h14]; rfl


theorem pairs_eqR : ∀ {xs ys : List (List Int)}, pairs (fun a b : List Int => decide (a = b)) xs ys = decide (xs = ys)
  | [], [] => rfl
  | [], y :: ys => rfl
  | x :: xs, [] => rfl
  | x :: xs, y :: ys => by simp only [pairs, pairs_eqR, List.cons.injEq, Bool.decide_and]

theorem pc_84 (xs ys : List (List Int)) (hl : xs.length ≤ 9223372036854775807) (hx : ∀ r, r ∈ xs → r.length ≤ 9223372036854775807) (hy : ∀ r, r ∈ ys → r.length ≤ 9223372036854775807) : PCall Try.prog 84 [slUU xs, slUU ys] (.bool (decide (xs = ys))) := by
  refine pc_of tab_ok (f := 84) (fn := Try.f84) (N := 29) (rs := [.tmp 4]) (by kernel_rfl) rfl (by kernel_rfl) rfl rfl [(0, .v (slUU xs)), (1, .v (slUU ys))] ⟨rfl, rfl, trivial⟩ rfl rfl ?_
  intro B
  refine wp_seq ?_
  refine wp_reg (by kernel_rfl) ?_
  refine ar_assign rfl rfl rfl rfl ?_
  refine ar_nil ?_
  refine then_n ?_
  refine wp_seq ?_
  refine wp_seq ?_
  refine wp_reg (by kernel_rfl) ?_
  refine ar_move rfl rfl rfl rfl ?_
  refine ar_len tab_ok rfl rfl tb99 rfl len_map rfl rfl ?_
  refine ar_move rfl rfl rfl rfl ?_
  refine ar_len tab_ok rfl rfl tb99 rfl len_map rfl rfl ?_
  refine ar_neq_s rfl rfl rfl rfl rfl (fun h11 => ?_) (fun h11 => ?_)
  · refine ar_nil ?_
    refine then_n ?_
    refine wp_condT rfl ?_
    refine wp_seq ?_
    refine wp_reg (by kernel_rfl) ?_
    refine ar_assign rfl rfl rfl rfl ?_
    refine ar_nil ?_
    refine then_n ?_
    refine wp_ret ?_
    refine then_r (ret_post rfl rfl ?_)
    first | (rw [← pairs_eqR, pairs_len (by omega)]; done) | (rw [← pairs_eqR, pairs_at (j := j) (by omega) h26]; done) | (rw [← pairs_eqR, pairs_of (by omega) (fun q hq => hj2 q (by omega))]; done)
  · refine ar_nil ?_
    refine then_n ?_
    refine wp_condF rfl ?_
    refine wp_skip ?_
    refine then_n ?_
    refine wp_seq ?_
    refine wp_seq ?_
    refine wp_reg (by kernel_rfl) ?_
    refine ar_assign rfl rfl rfl rfl ?_
    refine ar_nil ?_
    refine then_n ?_
    refine wp_block ?_
    refine wp_loop (α := Nat) (fun j => mk [(0, .v (slUU xs)), (1, .v (slUU ys)), (5, .v (.int .i64 (j : Nat)))] [] 0) (fun j => j ≤ xs.length ∧ ∀ q, q < j → (fun a b : List Int => decide (a = b)) (xs.getD q default) (ys.getD q default) = true) (fun j => xs.length - j) 0 ⟨Nat.zero_le _, fun q h => absurd h (Nat.not_lt_zero q)⟩ (le_to ⟨rfl, rfl, rfl, trivial⟩ trivial rfl rfl rfl rfl) ?_
    rintro j ⟨hj1, hj2⟩
    refine wp_seq ?_
    refine wp_seq ?_
    refine wp_reg (by kernel_rfl) ?_
    refine ar_move rfl rfl rfl rfl ?_
    refine ar_move rfl rfl rfl rfl ?_
    refine ar_len tab_ok rfl rfl tb99 rfl len_map rfl rfl ?_
    refine ar_lss_s rfl rfl rfl rfl rfl (fun h15 => ?_) (fun h15 => ?_)
    · refine ar_nil ?_
      refine then_n ?_
      refine wp_condT rfl ?_
      refine wp_skip ?_
      refine then_n ?_
      refine wp_seq ?_
      refine wp_block ?_
      refine wp_seq ?_
      refine wp_draw (L := [([], []), ([], []), ([], []), ([], []), ([], []), ([], []), ([], []), ([], []), ([], []), ([], [])]) (by kernel_rfl) mixed (by kernel_rfl) ?_
      refine ar_move rfl rfl rfl rfl ?_
      refine ar_move rfl rfl rfl rfl ?_
      refine ar_ia tab_ok rfl rfl rfl tb99 rfl tb70 (by omega) (map_get (n := j) (by omega)) rfl rfl rfl ?_
      refine ar_ld_ref tab_ok rfl rfl tb70 rfl rfl rfl rfl ?_
      refine ar_move rfl rfl rfl rfl ?_
      refine ar_move rfl rfl rfl rfl ?_
      refine ar_ia tab_ok rfl rfl rfl tb99 rfl tb70 (by omega) (map_get (n := j) (by omega)) rfl rfl rfl ?_
      refine ar_ld_ref tab_ok rfl rfl tb70 rfl rfl rfl rfl ?_
      refine ar_call [] (pc_60 _ _ (hx _ (getD_mem (by omega))) (hy _ (getD_mem (by omega)))) rfl rfl rfl rfl rfl rfl trivial (.inl rfl) rfl rfl rfl ?_
      refine ar_split (fun h26 => ?_) (fun h26 => ?_)
      · refine ar_assign rfl rfl rfl rfl ?_
        refine ar_nil ?_
        refine then_n ?_
        refine wp_seq ?_
        refine wp_reg (by kernel_rfl) ?_
        refine ar_move rfl rfl rfl rfl ?_
        refine ar_not rfl rfl rfl rfl rfl ?_
        refine ar_nil ?_
        refine then_n ?_
        refine wp_condF rfl ?_
        refine wp_skip ?_
        refine inblk_n ?_
        refine then_n ?_
        refine wp_reg (by kernel_rfl) ?_
        refine ar_move rfl rfl rfl rfl ?_
        refine ar_addi rfl rfl rfl rfl (by omega) (by omega) rfl rfl ?_
        refine ar_assign rfl rfl rfl rfl ?_
        refine ar_nil ?_
        exact loop_n (j + 1) ⟨by omega, fun q hq => (Nat.lt_succ_iff_lt_or_eq.1 hq).elim (hj2 q) (fun e => e ▸ h26)⟩ (by omega) (le_to ⟨rfl, rfl, rfl, trivial⟩ trivial rfl rfl rfl rfl)
      · refine ar_assign rfl rfl rfl rfl ?_
        refine ar_nil ?_
        refine then_n ?_
        refine wp_seq ?_
        refine wp_reg (by kernel_rfl) ?_
        refine ar_move rfl rfl rfl rfl ?_
        refine ar_not rfl rfl rfl rfl rfl ?_
        refine ar_nil ?_
        refine then_n ?_
        refine wp_condT rfl ?_
        refine wp_seq ?_
        refine wp_reg (by kernel_rfl) ?_
        refine ar_assign rfl rfl rfl rfl ?_
        refine ar_nil ?_
        refine then_n ?_
        refine wp_ret ?_
        refine inblk_r (then_r (loop_r (inblk_r (then_r (ret_post rfl rfl ?_)))))
        first | (rw [← pairs_eqR, pairs_len (by omega)]; done) | (rw [← pairs_eqR, pairs_at (j := j) (by omega) h26]; done) | (rw [← pairs_eqR, pairs_of (by omega) (fun q hq => hj2 q (by omega))]; done)
    · refine ar_nil ?_
      refine then_n ?_
      refine wp_condF rfl ?_
      refine wp_exit ?_
      refine then_x (loop_x (inblk_e ?_))
      refine then_n ?_
      refine wp_seq ?_
      refine wp_reg (by kernel_rfl) ?_
      refine ar_assign rfl rfl rfl rfl ?_
      refine ar_nil ?_
      refine then_n ?_
      refine wp_ret ?_
      refine ret_post rfl rfl ?_
      first | (rw [← pairs_eqR, pairs_len (by omega)]; done) | (rw [← pairs_eqR, pairs_at (j := j) (by omega) h26]; done) | (rw [← pairs_eqR, pairs_of (by omega) (fun q hq => hj2 q (by omega))]; done)


def conT (f : StepT) : Bool := f.c.all fun x => decide (x = 1)
def ternGo (k : Nat) (bad : Int) : List StepT → Int
  | [] => bad
  | f :: fs => if conT f then ternGo k (f.b.getD k default) fs else 0
def ternaryT (a : Aig) (t : Trace) : Int := if rightT a t then (if ternGo t.bad.toNat 0 (frT a t.ini t.ins) = 1 then 0 else 8) else 7
theorem ternaryT_bad {a : Aig} {t : Trace} (h : rightT a t = false) : ternaryT a t = 7 := by simp only [ternaryT]; rw [if_neg (by rw [h]; exact Bool.false_ne_true)]
theorem ternaryT_0 {a : Aig} {t : Trace} (h : rightT a t = true) (h' : ternGo t.bad.toNat 0 (frT a t.ini t.ins) = 1) : ternaryT a t = 0 := by simp only [ternaryT]; rw [if_pos h, if_pos h']
theorem ternaryT_8 {a : Aig} {t : Trace} (h : rightT a t = true) (h' : ¬ ternGo t.bad.toNat 0 (frT a t.ini t.ins) = 1) : ternaryT a t = 8 := by simp only [ternaryT]; rw [if_pos h, if_neg h']
theorem conT_no {f : StepT} {i : Nat} (h : i < f.c.length) (h' : f.c.getD i default ≠ 1) : conT f = false := by
  simp only [conT]
  cases hb : (f.c.all fun x => decide (x = 1)) with
  | false => rfl
  | true =>
    have := List.all_eq_true.1 hb _ (getD_mem h)
    exact absurd (of_decide_eq_true this) h'
theorem conT_of {f : StepT} (h : ∀ q, q < f.c.length → f.c.getD q default = 1) : conT f = true := List.all_eq_true.2 fun x hx => by
  obtain ⟨q, hq, rfl⟩ := List.getElem_of_mem hx
  have := h q hq
  rw [List.getD_eq_getElem?_getD, List.getElem?_eq_getElem hq] at this
  exact decide_eq_true this
theorem ternGo_next {k j : Nat} {bad : Int} {fs : List StepT} (h : j < fs.length) (hc : conT (fs.getD j default) = true) : ternGo k bad (fs.drop j) = ternGo k ((fs.getD j default).b.getD k default) (fs.drop (j + 1)) := by
  rw [drop_cons h, ternGo, if_pos hc]
theorem ternGo_stop {k j : Nat} {bad : Int} {fs : List StepT} (h : j < fs.length) (hc : conT (fs.getD j default) = false) : ternGo k bad (fs.drop j) = 0 := by
  rw [drop_cons h, ternGo, if_neg (by rw [hc]; exact Bool.false_ne_true)]
theorem Okt.fb {a : Aig} {t : Trace} (h : Okt a t) {k : Nat} (hk : k < t.ins.length) : ((frT a t.ini t.ins).getD k default).b.length = a.bad.length ∧ ((frT a t.ini t.ins).getD k default).c.length = a.con.length := by
  rw [frT_get a t.ins t.ini k hk]
  have := step_lens (h.shape hk)
  exact ⟨this.2.2.1, this.2.2.2⟩

theorem pc_85 (a : Aig) (t : Trace) (hf : Fit a) (hb : Bd a) (hz : SzT t) (hn : Nn t.ini) (hn2 : ∀ r, r ∈ t.ins → Nn r) : PCall Try.prog 85 [aigV a, trV t] (.int .i64 (ternaryT a t)) := by
  refine pc_of tab_ok (f := 85) (fn := Try.f85) (N := 37) (rs := [.tmp 4]) (by kernel_rfl) rfl (by kernel_rfl) rfl rfl [(0, .v (aigV a)), (1, .v (trV t))] ⟨rfl, rfl, trivial⟩ rfl rfl ?_
  intro B
  refine wp_seq ?_
  refine wp_reg (by kernel_rfl) ?_
  refine ar_box 2 [] rfl rfl rfl ⟨rfl, trivial⟩ rfl rfl rfl ?_
  refine ar_box 3 [] rfl rfl rfl ⟨rfl, trivial⟩ rfl rfl rfl ?_
  refine ar_assign rfl rfl rfl rfl ?_
  refine ar_nil ?_
  refine then_n ?_
  refine wp_scope ?_
  refine wp_seq ?_
  refine wp_seq ?_
  refine wp_reg (by kernel_rfl) ?_
  refine ar_lda tab_ok rfl rfl rfl tb27 rfl rfl rfl rfl rfl rfl ?_
  refine ar_lda tab_ok rfl rfl rfl tb101 rfl rfl rfl rfl rfl rfl ?_
  refine ar_call [] (pc_113 a t hf hn (by have := hz.il; omega) (by have := hz.nl; omega) (fun r hr => by have := hz.rl r hr; omega)) rfl rfl rfl rfl rfl rfl trivial (.inl rfl) rfl rfl rfl ?_
  refine ar_split (fun h11 => ?_) (fun h11 => ?_)
  · refine ar_not rfl rfl rfl rfl rfl ?_
    refine ar_nil ?_
    refine then_n ?_
    refine wp_condF rfl ?_
    refine wp_skip ?_
    refine then_n ?_
    refine wp_seq ?_
    have ho := okt_of (rightT_iff.1 h11) hn hn2
    refine wp_reg (by kernel_rfl) ?_
    refine ar_alloc (id := 5) tab_ok rfl rfl tb72 rfl rfl rfl rfl ?_
    refine ar_st [] tab_ok rfl tb72 rfl rfl rfl trivial rfl rfl rfl rfl rfl rfl rfl rfl ?_
    refine ar_nil ?_
    refine then_n ?_
    refine wp_seq ?_
    refine wp_label ?_
    refine then_n ?_
    refine wp_seq ?_
    refine wp_seq ?_
    refine wp_reg (by kernel_rfl) ?_
    refine ar_lda tab_ok rfl rfl rfl tb27 rfl rfl rfl rfl rfl rfl ?_
    refine ar_lda tab_ok rfl rfl rfl tb101 rfl rfl rfl rfl rfl rfl ?_
    refine ar_call [] (pc_122 a t) rfl rfl rfl rfl rfl rfl trivial (.inl rfl) rfl rfl rfl ?_
    refine ar_nil ?_
    refine then_n ?_
    refine wp_block ?_
    refine wp_range (α := Int) (it_142 a t hb ho) (fun x hx => by obtain ⟨p, _, rfl⟩ := List.mem_map.1 hx; rfl) [(2, .ptr 2 0), (3, .ptr 3 0), (4, .v (.int .i64 0)), (5, .ptr 5 0), (15, .v (.fn (.func 142) [] [.ref (encT t), .ref (encA a)]))] [2, 3, 5] (fun y => [(2, .box ((encA a).map .v)), (3, .box ((encT t).map .v)), (5, .box [.v (.int .u8 y)])]) (fun k y => k ≤ (frT a t.ini t.ins).length ∧ ternGo t.bad.toNat 0 (frT a t.ini t.ins) = ternGo t.bad.toNat y ((frT a t.ini t.ins).drop k)) 0 0 0 ⟨Nat.zero_le _, rfl⟩ (le_to ⟨rfl, rfl, rfl, rfl, rfl, trivial⟩ ⟨rfl, rfl, rfl, trivial⟩ rfl rfl rfl rfl) rfl rfl rfl (fun _ => rfl) ?_ ?_
    · rintro l β k x y hx ⟨hk1, hk2⟩ 𝔅1
      obtain ⟨hk4, rfl⟩ := fr_at hx
      have hk5 := frT_len a t.ins t.ini
      have hk6 := ho.r.n1
      have hk7 := ho.fb (k := k) (by omega)
      have hk8 := ho.r.b0; have hk9 := ho.r.b1
      have hk10 := hb.c1
      refine wp_reg (by kernel_rfl) ?_
      refine ar_alloc (id := 6) tab_ok rfl rfl tb167 rfl rfl rfl rfl ?_
      refine ar_st [] tab_ok rfl tb167 rfl rfl rfl trivial rfl rfl rfl rfl rfl rfl rfl rfl ?_
      refine ar_nil ?_
      refine assign_n rfl ?_
      intro 𝔅2
      refine wp_block ?_
      refine wp_seq ?_
      refine wp_reg (by kernel_rfl) ?_
      refine ar_fa tab_ok rfl rfl rfl tb167 rfl rfl rfl rfl rfl ?_
      refine ar_ia_arr tab_ok rfl rfl rfl rfl tb83 rfl tb70 (by omega) (by omega) rfl rfl rfl rfl ?_
      refine ar_ld tab_ok rfl rfl rfl tb70 rfl rfl rfl rfl rfl ?_
      refine ar_fa tab_ok rfl rfl rfl tb101 rfl rfl rfl rfl rfl ?_
      refine ar_ld tab_ok rfl rfl rfl tb3 rfl rfl rfl rfl rfl ?_
      refine ar_ia tab_ok rfl rfl rfl tb70 rfl tb72 hk8 (map_get (n := t.bad.toNat) (by omega)) rfl rfl rfl ?_
      refine ar_ld_ref tab_ok rfl rfl tb72 rfl rfl rfl rfl ?_
      refine ar_st [] tab_ok rfl tb72 rfl rfl rfl trivial rfl rfl rfl rfl rfl rfl rfl rfl ?_
      refine ar_nil ?_
      refine then_n ?_
      refine wp_seq ?_
      refine wp_reg (by kernel_rfl) ?_
      refine ar_fa tab_ok rfl rfl rfl tb167 rfl rfl rfl rfl rfl ?_
      refine ar_ia_arr tab_ok rfl rfl rfl rfl tb83 rfl tb70 (by omega) (by omega) rfl rfl rfl rfl ?_
      refine ar_ld tab_ok rfl rfl rfl tb70 rfl rfl rfl rfl rfl ?_
      refine ar_len tab_ok rfl rfl tb70 rfl len_map rfl rfl ?_
      refine ar_move rfl rfl rfl rfl ?_
      refine ar_nil ?_
      refine then_n ?_
      refine wp_block ?_
      refine wp_loop (α := Nat) (fun i => mk [(2, .ptr 2 0), (3, .ptr 3 0), (4, .v (.int .i64 0)), (5, .ptr 5 0), (15, .v (.fn (.func 142) [] [.ref (encT t), .ref (encA a)])), (26, .v (slU ((frT a t.ini t.ins).getD k default).c)), (27, .v (.int .i64 (((frT a t.ini t.ins).getD k default).c.length : Nat))), (28, .v (.int .i64 (i : Nat)))] [(2, .box ((encA a).map .v)), (3, .box ((encT t).map .v)), (5, .box [.v (.int .u8 (((frT a t.ini t.ins).getD k default).b.getD t.bad.toNat default))])] ⟨0, 0, pinsOf [2, 3, 5] β⟩) (fun i => i ≤ ((frT a t.ini t.ins).getD k default).c.length ∧ ∀ q, q < i → ((frT a t.ini t.ins).getD k default).c.getD q default = 1) (fun i => ((frT a t.ini t.ins).getD k default).c.length - i) 0 ⟨Nat.zero_le _, fun q h => absurd h (Nat.not_lt_zero q)⟩ (le_to ⟨rfl, rfl, rfl, rfl, rfl, rfl, rfl, rfl, trivial⟩ ⟨rfl, rfl, rfl, trivial⟩ rfl rfl rfl rfl) ?_
      rintro i ⟨hq1, hq2⟩
      refine wp_seq ?_
      refine wp_reg (by kernel_rfl) ?_
      refine ar_lss_s rfl rfl rfl rfl rfl (fun h29 => ?_) (fun h29 => ?_)
      · refine ar_nil ?_
        refine then_n ?_
        refine wp_seq ?_
        refine wp_condT rfl ?_
        refine wp_skip ?_
        refine then_n ?_
        refine wp_seq ?_
        refine wp_block ?_
        refine wp_seq ?_
        refine wp_reg (by kernel_rfl) ?_
        refine ar_ia tab_ok rfl rfl rfl tb70 rfl tb72 (by omega) (map_get (n := i) (by omega)) rfl rfl rfl ?_
        refine ar_ld_ref tab_ok rfl rfl tb72 rfl rfl rfl rfl ?_
        refine ar_assign rfl rfl rfl rfl ?_
        refine ar_nil ?_
        refine then_n ?_
        refine wp_seq ?_
        refine wp_reg (by kernel_rfl) ?_
        refine ar_move rfl rfl rfl rfl ?_
        refine ar_neq_s rfl rfl rfl rfl rfl (fun h33 => ?_) (fun h33 => ?_)
        · refine ar_nil ?_
          refine then_n ?_
          refine wp_condT rfl ?_
          refine wp_seq ?_
          refine wp_reg (by kernel_rfl) ?_
          refine ar_st [] tab_ok rfl tb72 rfl rfl rfl trivial rfl rfl rfl rfl rfl rfl rfl rfl ?_
          refine ar_nil ?_
          refine then_n ?_
          refine wp_exit ?_
          refine inblk_x rfl (then_x (loop_x (inblk_x rfl (inblk_x rfl (round_x [(2, .box ((encA a).map .v)), (3, .box ((encT t).map .v)), (5, .box [.v (.int .u8 0)])] rfl (le_to ⟨rfl, rfl, rfl, rfl, rfl, trivial⟩ ⟨rfl, rfl, rfl, trivial⟩ rfl rfl rfl rfl) ?_)))))
          refine inblk_e ?_
          refine then_n ?_
          refine wp_seq ?_
          refine wp_seq ?_
          refine wp_reg (by kernel_rfl) ?_
          refine ar_ld tab_ok rfl rfl rfl tb72 rfl rfl rfl rfl rfl ?_
          refine ar_neq_s rfl rfl rfl rfl rfl (fun h36 => ?_) (fun h36 => ?_)
          · refine ar_nil ?_
            refine then_n ?_
            refine wp_condT rfl ?_
            refine wp_seq ?_
            refine wp_reg (by kernel_rfl) ?_
            refine ar_assign rfl rfl rfl rfl ?_
            refine ar_nil ?_
            refine then_n ?_
            refine wp_ret ?_
            refine then_r (nogo_r (ret_post rfl rfl ?_))
            first | (rw [ternaryT_bad h11]; done) | exact absurd (show (0 : Int) ≠ 1 by decide) h36 | (rw [ternaryT_8 h11 (by rw [hk2, ternGo_stop hk4 (conT_no (by omega) h33)]; decide)]; done) | (rw [ternaryT_8 h11 (by rw [hk2, List.drop_eq_nil_of_le (by rw [List.length_map]; exact Nat.le_refl _), ternGo]; exact h36)]; done) | (rw [ternaryT_0 h11 (by rw [hk2, List.drop_eq_nil_of_le (by rw [List.length_map]; exact Nat.le_refl _), ternGo]; exact Decidable.not_not.1 h36)]; done)
          · refine ar_nil ?_
            refine then_n ?_
            refine wp_condF rfl ?_
            refine wp_skip ?_
            refine then_n ?_
            refine wp_seq ?_
            refine wp_reg (by kernel_rfl) ?_
            refine ar_assign rfl rfl rfl rfl ?_
            refine ar_nil ?_
            refine then_n ?_
            refine wp_ret ?_
            refine nogo_r (ret_post rfl rfl ?_)
            first | (rw [ternaryT_bad h11]; done) | exact absurd (show (0 : Int) ≠ 1 by decide) h36 | (rw [ternaryT_8 h11 (by rw [hk2, ternGo_stop hk4 (conT_no (by omega) h33)]; decide)]; done) | (rw [ternaryT_8 h11 (by rw [hk2, List.drop_eq_nil_of_le (by rw [List.length_map]; exact Nat.le_refl _), ternGo]; exact h36)]; done) | (rw [ternaryT_0 h11 (by rw [hk2, List.drop_eq_nil_of_le (by rw [List.length_map]; exact Nat.le_refl _), ternGo]; exact Decidable.not_not.1 h36)]; done)
        · refine ar_nil ?_
          refine then_n ?_
          refine wp_condF rfl ?_
          refine wp_skip ?_
          refine inblk_n ?_
          refine then_n ?_
          refine wp_reg (by kernel_rfl) ?_
          refine ar_addi rfl rfl rfl rfl (by omega) (by omega) rfl rfl ?_
          refine ar_move rfl rfl rfl rfl ?_
          refine ar_nil ?_
          exact loop_n (i + 1) ⟨by omega, fun q hq => (Nat.lt_succ_iff_lt_or_eq.1 hq).elim (hq2 q) (fun e => e ▸ Decidable.not_not.1 h33)⟩ (by omega) (le_to ⟨rfl, rfl, rfl, rfl, rfl, rfl, rfl, rfl, trivial⟩ ⟨rfl, rfl, rfl, trivial⟩ rfl rfl rfl rfl)
      · refine ar_nil ?_
        refine then_n ?_
        refine wp_seq ?_
        refine wp_condF rfl ?_
        refine wp_exit ?_
        refine then_x (loop_x (inblk_e ?_))
        refine inblk_n ?_
        exact round_n (((frT a t.ini t.ins).getD k default).b.getD t.bad.toNat default) ⟨hk4, by rw [hk2, ternGo_next hk4 (conT_of (fun q hq => hq2 q (by omega)))]⟩ (le_to ⟨rfl, rfl, rfl, rfl, rfl, trivial⟩ ⟨rfl, rfl, rfl, trivial⟩ rfl rfl rfl rfl)
    · rintro y ⟨hk1, hk2⟩
      refine inblk_n ?_
      refine then_n ?_
      refine wp_seq ?_
      refine wp_seq ?_
      refine wp_reg (by kernel_rfl) ?_
      refine ar_ld tab_ok rfl rfl rfl tb72 rfl rfl rfl rfl rfl ?_
      refine ar_neq_s rfl rfl rfl rfl rfl (fun h36 => ?_) (fun h36 => ?_)
      · refine ar_nil ?_
        refine then_n ?_
        refine wp_condT rfl ?_
        refine wp_seq ?_
        refine wp_reg (by kernel_rfl) ?_
        refine ar_assign rfl rfl rfl rfl ?_
        refine ar_nil ?_
        refine then_n ?_
        refine wp_ret ?_
        refine then_r (nogo_r (ret_post rfl rfl ?_))
        first | (rw [ternaryT_bad h11]; done) | exact absurd (show (0 : Int) ≠ 1 by decide) h36 | (rw [ternaryT_8 h11 (by rw [hk2, ternGo_stop hk4 (conT_no (by omega) h33)]; decide)]; done) | (rw [ternaryT_8 h11 (by rw [hk2, List.drop_eq_nil_of_le (by rw [List.length_map]; exact Nat.le_refl _), ternGo]; exact h36)]; done) | (rw [ternaryT_0 h11 (by rw [hk2, List.drop_eq_nil_of_le (by rw [List.length_map]; exact Nat.le_refl _), ternGo]; exact Decidable.not_not.1 h36)]; done)
      · refine ar_nil ?_
        refine then_n ?_
        refine wp_condF rfl ?_
        refine wp_skip ?_
        refine then_n ?_
        refine wp_seq ?_
        refine wp_reg (by kernel_rfl) ?_
        refine ar_assign rfl rfl rfl rfl ?_
        refine ar_nil ?_
        refine then_n ?_
        refine wp_ret ?_
        refine nogo_r (ret_post rfl rfl ?_)
        first | (rw [ternaryT_bad h11]; done) | exact absurd (show (0 : Int) ≠ 1 by decide) h36 | (rw [ternaryT_8 h11 (by rw [hk2, ternGo_stop hk4 (conT_no (by omega) h33)]; decide)]; done) | (rw [ternaryT_8 h11 (by rw [hk2, List.drop_eq_nil_of_le (by rw [List.length_map]; exact Nat.le_refl _), ternGo]; exact h36)]; done) | (rw [ternaryT_0 h11 (by rw [hk2, List.drop_eq_nil_of_le (by rw [List.length_map]; exact Nat.le_refl _), ternGo]; exact Decidable.not_not.1 h36)]; done)
  · refine ar_not rfl rfl rfl rfl rfl ?_
    refine ar_nil ?_
    refine then_n ?_
    refine wp_condT rfl ?_
    refine wp_seq ?_
    refine wp_reg (by kernel_rfl) ?_
    refine ar_assign rfl rfl rfl rfl ?_
    refine ar_nil ?_
    refine then_n ?_
    refine wp_ret ?_
    refine then_r (nogo_r (ret_post rfl rfl ?_))
    first | (rw [ternaryT_bad h11]; done) | exact absurd (show (0 : Int) ≠ 1 by decide) h36 | (rw [ternaryT_8 h11 (by rw [hk2, ternGo_stop hk4 (conT_no (by omega) h33)]; decide)]; done) | (rw [ternaryT_8 h11 (by rw [hk2, List.drop_eq_nil_of_le (by rw [List.length_map]; exact Nat.le_refl _), ternGo]; exact h36)]; done) | (rw [ternaryT_0 h11 (by rw [hk2, List.drop_eq_nil_of_le (by rw [List.length_map]; exact Nat.le_refl _), ternGo]; exact Decidable.not_not.1 h36)]; done)

end Go.Vd
