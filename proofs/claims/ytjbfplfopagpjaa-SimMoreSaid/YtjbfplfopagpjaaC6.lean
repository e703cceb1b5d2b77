/- A state at first (the document's), a run: the program's, which ranges over its states, and the document's. -/
import Derived.Test.YtjbfplfopagpjaaC5
namespace Go.Vd
open Go.Proofs

def stGo (a : Aig) (s : List Bool) : List (List Bool) → List (List Bool × Int)
  | [] => []
  | r :: rs => ((stepS a s r).n, (stepS a s r).e) :: stGo a (stepS a s r).n rs
def stN (a : Aig) (s : List Bool) : List (List Bool) → List Bool
  | [] => s
  | r :: rs => stN a (stepS a s r).n rs
def stL (a : Aig) (fr : List Bool) (ins : List (List Bool)) : List (List Bool × Int) := ((startS a fr).1, (startS a fr).2) :: stGo a (startS a fr).1 ins
def encSt (p : List Bool × Int) : List V := [slB p.1, .int .i64 p.2]

theorem stGo_len (a : Aig) : ∀ (ins : List (List Bool)) (s : List Bool), (stGo a s ins).length = ins.length
  | [], _ => rfl
  | r :: rs, s => by simp [stGo, stGo_len a rs]
theorem stN_snoc (a : Aig) (r : List Bool) : ∀ (xs : List (List Bool)) (s : List Bool), stN a s (xs ++ [r]) = (stepS a (stN a s xs) r).n
  | [], _ => rfl
  | x :: xs, s => by simp [stN, stN_snoc a r xs]
theorem stGo_get (a : Aig) : ∀ (ins : List (List Bool)) (s : List Bool) (j : Nat), j < ins.length → (stGo a s ins)[j]? = some ((stepS a (stN a s (ins.take j)) (ins.getD j default)).n, (stepS a (stN a s (ins.take j)) (ins.getD j default)).e)
  | [], _, _, h => by simp at h
  | r :: rs, s, 0, _ => by simp [stGo, stN]
  | r :: rs, s, j + 1, h => by
    have := stGo_get a rs (stepS a s r).n j (by simpa using h)
    simpa [stGo, stN] using this
theorem st_get (a : Aig) (fr : List Bool) (ins : List (List Bool)) (j : Nat) (h : j < ins.length) : ((stL a fr ins).map encSt)[j + 1]? = some (encSt ((stepS a (stN a (startS a fr).1 (ins.take j)) (ins.getD j default)).n, (stepS a (stN a (startS a fr).1 (ins.take j)) (ins.getD j default)).e)) := by
  simp only [stL, List.map_cons, List.getElem?_cons_succ, List.getElem?_map, stGo_get a ins _ j h, Option.map_some]

theorem it_135 (a : Aig) (fr : List Bool) (ins : List (List Bool)) (hb : Bd a) (hl : ins.length ≤ 9223372036854775807) : IterC Try.prog 135 [.ref (encA a), .ref [slB fr], .ref [slBB ins]] ((stL a fr ins).map encSt) := by
  refine it_of (f := 135) (fn := Try.f135) (N := 40) (by kernel_rfl) rfl (by kernel_rfl) rfl rfl (fun l => [(0, .v (.fn (.yield l) [] [])), (1, .v (.ref (encA a))), (2, .v (.ref [slB fr])), (3, .v (.ref [slBB ins]))]) (fun _ => ⟨rfl, rfl, rfl, rfl, trivial⟩) rfl (fun _ => rfl) ?_
  intro 𝔅 l hy
  refine wp_seq ?_
  refine wp_reg (by kernel_rfl) ?_
  refine ar_ld_refa (cs' := encA a) tab_ok rfl rfl tb27 rfl rfl rfl rfl rfl ?_
  refine ar_ld_ref tab_ok rfl rfl tb28 rfl rfl rfl rfl ?_
  refine ar_call [] (pc_36 a fr hb) rfl rfl rfl rfl rfl rfl trivial (.inl rfl) rfl rfl rfl ?_
  refine ar_move rfl rfl rfl rfl ?_
  refine ar_ext rfl rfl rfl rfl rfl ?_
  refine ar_ext rfl rfl rfl rfl rfl ?_
  refine ar_assign rfl rfl rfl rfl ?_
  refine ar_assign rfl rfl rfl rfl ?_
  refine ar_nil ?_
  refine then_n ?_
  refine wp_seq ?_
  refine wp_seq ?_
  refine wp_reg (by kernel_rfl) ?_
  refine ar_move rfl rfl rfl rfl ?_
  refine ar_move rfl rfl rfl rfl ?_
  refine ar_move rfl rfl rfl rfl ?_
  refine ar_yield (j := 0) hy rfl rfl rfl rfl rfl rfl rfl rfl rfl rfl ?_ ?_
  · refine ar_not rfl rfl rfl rfl rfl ?_
    refine ar_nil ?_
    refine then_n ?_
    refine wp_condF rfl ?_
    refine wp_skip ?_
    refine then_n ?_
    refine wp_seq ?_
    refine wp_reg (by kernel_rfl) ?_
    refine ar_ld_ref tab_ok rfl rfl tb29 rfl rfl rfl rfl ?_
    refine ar_len tab_ok rfl rfl tb29 rfl len_map rfl rfl ?_
    refine ar_move rfl rfl rfl rfl ?_
    refine ar_nil ?_
    refine then_n ?_
    refine wp_block ?_
    refine wp_loop (α := Nat) (fun j => mk [(0, .v (.fn (.yield l) [] [])), (1, .v (.ref (encA a))), (5, .v (slB (stN a (startS a fr).1 (ins.take j)))), (20, .v (slBB ins)), (21, .v (.int .i64 (ins.length : Nat))), (22, .v (.int .i64 (j : Nat)))] [] ⟨0, j + 2, []⟩) (fun j => j ≤ ins.length) (fun j => ins.length - j) 0 (Nat.zero_le _) (le_to ⟨rfl, rfl, rfl, rfl, rfl, rfl, trivial⟩ trivial rfl rfl rfl rfl) ?_
    rintro j hinv
    refine wp_seq ?_
    refine wp_reg (by kernel_rfl) ?_
    refine ar_lss_s rfl rfl rfl rfl rfl (fun h23 => ?_) (fun h23 => ?_)
    · refine ar_nil ?_
      refine then_n ?_
      refine wp_seq ?_
      refine wp_condT rfl ?_
      refine wp_skip ?_
      refine then_n ?_
      refine wp_seq ?_
      refine wp_block ?_
      refine wp_seq ?_
      refine wp_reg (by kernel_rfl) ?_
      refine ar_ia tab_ok rfl rfl rfl tb29 rfl tb28 (by omega) (map_get (n := j) (by omega)) rfl rfl rfl ?_
      refine ar_ld_ref tab_ok rfl rfl tb28 rfl rfl rfl rfl ?_
      refine ar_assign rfl rfl rfl rfl ?_
      refine ar_nil ?_
      refine then_n ?_
      refine wp_seq ?_
      refine wp_reg (by kernel_rfl) ?_
      refine ar_ld_refa (cs' := encA a) tab_ok rfl rfl tb27 rfl rfl rfl rfl rfl ?_
      refine ar_move rfl rfl rfl rfl ?_
      refine ar_move rfl rfl rfl rfl ?_
      refine ar_call [] (pc_34 a (stN a (startS a fr).1 (ins.take j)) (ins.getD j default) hb) rfl rfl rfl rfl rfl rfl trivial (.inl rfl) rfl rfl rfl ?_
      refine ar_move rfl rfl rfl rfl ?_
      refine ar_ext rfl rfl rfl rfl rfl ?_
      refine ar_ext rfl rfl rfl rfl rfl ?_
      refine ar_ext rfl rfl rfl rfl rfl ?_
      refine ar_assign rfl rfl rfl rfl ?_
      refine ar_assign rfl rfl rfl rfl ?_
      refine ar_nil ?_
      refine then_n ?_
      refine wp_seq ?_
      refine wp_reg (by kernel_rfl) ?_
      refine ar_move rfl rfl rfl rfl ?_
      refine ar_move rfl rfl rfl rfl ?_
      refine ar_move rfl rfl rfl rfl ?_
      refine ar_yield (j := (j + 1)) hy (st_get a fr ins j (by omega)) rfl rfl rfl rfl rfl rfl rfl rfl rfl ?_ ?_
      · refine ar_not rfl rfl rfl rfl rfl ?_
        refine ar_nil ?_
        refine then_n ?_
        refine wp_condF rfl ?_
        refine wp_skip ?_
        refine inblk_n ?_
        refine then_n ?_
        refine wp_reg (by kernel_rfl) ?_
        refine ar_addi rfl rfl rfl rfl (by omega) (by omega) rfl rfl ?_
        refine ar_move rfl rfl rfl rfl ?_
        refine ar_nil ?_
        exact loop_n (j + 1) (by omega) (by omega) (le_to ⟨rfl, rfl, (sl_eq rfl (by rw [take_snoc (by omega), stN_snoc])), rfl, rfl, rfl, trivial⟩ trivial rfl rfl rfl rfl)
      · refine ar_not rfl rfl rfl rfl rfl ?_
        refine ar_nil ?_
        refine then_n ?_
        refine wp_condT rfl ?_
        refine wp_ret ?_
        exact inblk_r (then_r (loop_r (inblk_r (⟨rfl, .inr rfl⟩))))
    · refine ar_nil ?_
      refine then_n ?_
      refine wp_seq ?_
      refine wp_condF rfl ?_
      refine wp_exit ?_
      refine then_x (loop_x (inblk_e ?_))
      refine ⟨rfl, .inl ?_⟩
      show _ = ((stL a fr ins).map encSt).length + 1
      simp [stL, stGo_len, mk]
      omega
  · refine ar_not rfl rfl rfl rfl rfl ?_
    refine ar_nil ?_
    refine then_n ?_
    refine wp_condT rfl ?_
    refine wp_ret ?_
    exact then_r (⟨rfl, .inr rfl⟩)

theorem pc_100 (a : Aig) (fr : List Bool) (ins : List (List Bool)) : PCall Try.prog 100 [aigV a, slB fr, slBB ins] (.fn (.func 135) [] [.ref (encA a), .ref [slB fr], .ref [slBB ins]]) := by
  refine pc_of tab_ok (f := 100) (fn := Try.f100) (N := 8) (rs := [.tmp 6]) (by kernel_rfl) rfl (by kernel_rfl) rfl rfl [(0, .v (aigV a)), (1, .v (slB fr)), (2, .v (slBB ins))] ⟨rfl, rfl, rfl, trivial⟩ rfl rfl ?_
  intro B
  refine wp_seq ?_
  refine wp_reg (by kernel_rfl) ?_
  refine ar_box 3 [] rfl rfl rfl ⟨rfl, trivial⟩ rfl rfl rfl ?_
  refine ar_box 4 [] rfl rfl rfl ⟨rfl, trivial⟩ rfl rfl rfl ?_
  refine ar_box 5 [] rfl rfl rfl ⟨rfl, trivial⟩ rfl rfl rfl ?_
  refine ar_any rfl rfl rfl ?_
  refine ar_nil ?_
  refine then_n ?_
  refine wp_seq ?_
  refine wp_reg (by kernel_rfl) ?_
  refine ar_mkf rfl rfl rfl rfl rfl rfl ?_
  refine ar_assign rfl rfl rfl rfl ?_
  refine ar_nil ?_
  refine then_n ?_
  refine wp_ret ?_
  refine ret_post rfl rfl ?_
  rfl


/-- A run: the states so far, and from here on. -/
def runGo (a : Aig) (acc : List (List Bool)) (s : List Bool) : List (List Bool) → List (List Bool) × Int
  | [] => (acc, 0)
  | r :: rs => if (stepS a s r).e = 0 then runGo a (acc ++ [(stepS a s r).n]) (stepS a s r).n rs else ([], (stepS a s r).e)
def runS (a : Aig) (fr : List Bool) (ins : List (List Bool)) : List (List Bool) × Int :=
  if (startS a fr).2 = 0 then runGo a [(startS a fr).1] (startS a fr).1 ins else ([], (startS a fr).2)

/-- What comes of pairs of a state and what went wrong. -/
def foldSt (acc : List (List Bool)) : List (List Bool × Int) → List (List Bool) × Int
  | [] => (acc, 0)
  | p :: ps => if p.2 = 0 then foldSt (acc ++ [p.1]) ps else ([], p.2)
theorem foldSt_go (a : Aig) : ∀ (ins : List (List Bool)) (s : List Bool) (acc : List (List Bool)), foldSt acc (stGo a s ins) = runGo a acc s ins
  | [], _, _ => rfl
  | r :: rs, s, acc => by simp [stGo, foldSt, runGo, foldSt_go a rs]
theorem foldSt_run (a : Aig) (fr : List Bool) (ins : List (List Bool)) : foldSt [] (stL a fr ins) = runS a fr ins := by
  simp [stL, foldSt, runS, foldSt_go]
theorem foldSt_ok : ∀ (ps : List (List Bool × Int)) (acc : List (List Bool)) (k : Nat), (∀ j, j < k → (ps.getD j default).2 = 0) → k ≤ ps.length → foldSt acc ps = foldSt (acc ++ (ps.take k).map (·.1)) (ps.drop k)
  | _, acc, 0, _, _ => by simp
  | [], _, k + 1, _, h => by simp at h
  | p :: ps, acc, k + 1, h, hk => by
    have h0 := h 0 (by omega)
    simp only [List.getD_cons_zero] at h0
    rw [foldSt, if_pos h0, foldSt_ok ps (acc ++ [p.1]) k (fun j hj => by simpa using h (j + 1) (by omega)) (by simpa using hk)]
    simp


theorem st_at {ps : List (List Bool × Int)} {k : Nat} {x : List V} (h : (ps.map encSt)[k]? = some x) : k < ps.length ∧ encSt (ps.getD k default) = x := by
  rw [List.getElem?_map, Option.map_eq_some_iff] at h
  obtain ⟨p, h1, rfl⟩ := h
  have hlt := (List.getElem?_eq_some_iff.1 h1).1
  refine ⟨hlt, ?_⟩
  rw [List.getD_eq_getElem?_getD, h1]; rfl
theorem st_lim (a : Aig) (fr : List Bool) (ins : List (List Bool)) {k : Nat} (h : k < (stL a fr ins).length) (hl : ins.length ≤ 1000000) : k ≤ 1000000 := by
  simp [stL, stGo_len] at h; omega
theorem foldSt_bad {ps : List (List Bool × Int)} {k : Nat} (h : k < ps.length) (h0 : ∀ j, j < k → (ps.getD j default).2 = 0) (hb : (ps.getD k default).2 ≠ 0) : foldSt [] ps = ([], (ps.getD k default).2) := by
  rw [foldSt_ok ps [] k h0 (by omega), drop_cons h, foldSt, if_neg hb]
theorem foldSt_all {ps : List (List Bool × Int)} (h0 : ∀ j, j < ps.length → (ps.getD j default).2 = 0) : foldSt [] ps = ((ps.take ps.length).map (·.1), 0) := by
  rw [foldSt_ok ps [] ps.length h0 (Nat.le_refl _)]; simp [foldSt]

theorem pc_38 (a : Aig) (fr : List Bool) (ins : List (List Bool)) (hb : Bd a) (hl : ins.length ≤ 1000000) : PCall Try.prog 38 [aigV a, slB fr, slBB ins] (.tup [slBB (runS a fr ins).1, .int .i64 (runS a fr ins).2]) := by
  refine pc_of tab_ok (f := 38) (fn := Try.f38) (N := 25) (rs := [.cell 6 29, .cell 7 35]) (by kernel_rfl) rfl (by kernel_rfl) rfl rfl [(0, .v (aigV a)), (1, .v (slB fr)), (2, .v (slBB ins))] ⟨rfl, rfl, rfl, trivial⟩ rfl rfl ?_
  intro B
  refine wp_seq ?_
  refine wp_reg (by kernel_rfl) ?_
  refine ar_box 3 [] rfl rfl rfl ⟨rfl, trivial⟩ rfl rfl rfl ?_
  refine ar_alloc (id := 6) tab_ok rfl rfl tb29 rfl rfl rfl rfl ?_
  refine ar_alloc (id := 7) tab_ok rfl rfl tb35 rfl rfl rfl rfl ?_
  refine ar_nil ?_
  refine then_n ?_
  refine wp_seq ?_
  refine wp_reg (by kernel_rfl) ?_
  refine ar_alloc (id := 8) tab_ok rfl rfl tb29 rfl rfl rfl rfl ?_
  refine ar_nil ?_
  refine then_n ?_
  refine wp_seq ?_
  refine wp_seq ?_
  refine wp_reg (by kernel_rfl) ?_
  refine ar_lda tab_ok rfl rfl rfl tb27 rfl rfl rfl rfl rfl rfl ?_
  refine ar_move rfl rfl rfl rfl ?_
  refine ar_move rfl rfl rfl rfl ?_
  refine ar_call [] (pc_100 a fr ins) rfl rfl rfl rfl rfl rfl trivial (.inl rfl) rfl rfl rfl ?_
  refine ar_nil ?_
  refine then_n ?_
  refine wp_block ?_
  refine wp_le (le_nilb (bid := 8) (id := 900) (e := 28) (sz := 1) (j := 0) rfl rfl rfl (by decide)) ?_
  refine wp_range (α := List (List Bool)) (it_135 a fr ins hb (by omega)) (fun x hx => by obtain ⟨p, _, rfl⟩ := List.mem_map.1 hx; rfl) [(6, .ptr 6 0), (7, .ptr 7 0), (8, .ptr 8 0), (14, .v (.fn (.func 135) [] [.ref (encA a), .ref [slB fr], .ref [slBB ins]]))] [6, 7, 8] (fun acc => [(6, .box [.nils]), (7, .box [.v (.int .i64 0)]), (8, .box [.own 901]), (901, .row 28 1 (acc.map encBs))]) (fun k acc => k ≤ (stL a fr ins).length ∧ acc = ((stL a fr ins).take k).map (·.1) ∧ ∀ j, j < k → ((stL a fr ins).getD j default).2 = 0) [] 0 0 ⟨Nat.zero_le _, rfl, fun j hj => absurd hj (Nat.not_lt_zero j)⟩ (le_ren [(901, 900)] ⟨rfl, rfl, rfl, rfl, trivial⟩ ⟨rfl, rfl, rfl, rfl, trivial⟩ rfl rfl rfl rfl rfl) rfl rfl rfl (fun _ => rfl) ?_ ?_
  · rintro l β k x acc hx ⟨hk1, hk2, hk3⟩ 𝔅1
    obtain ⟨hk4, rfl⟩ := st_at hx
    have hk5 := st_lim a fr ins hk4 hl
    refine wp_seq ?_
    refine wp_reg (by kernel_rfl) ?_
    refine ar_assign rfl rfl rfl rfl ?_
    refine ar_nil ?_
    refine then_n ?_
    refine wp_reg (by kernel_rfl) ?_
    refine ar_assign rfl rfl rfl rfl ?_
    refine ar_nil ?_
    refine assign_n rfl ?_
    intro 𝔅2
    refine wp_block ?_
    refine wp_seq ?_
    refine wp_seq ?_
    refine wp_reg (by kernel_rfl) ?_
    refine ar_move rfl rfl rfl rfl ?_
    refine ar_neq_s rfl rfl rfl rfl rfl (fun h18 => ?_) (fun h18 => ?_)
    · refine ar_nil ?_
      refine then_n ?_
      refine wp_condT rfl ?_
      refine wp_seq ?_
      refine wp_reg (by kernel_rfl) ?_
      refine ar_move rfl rfl rfl rfl ?_
      refine ar_st [] tab_ok rfl tb29 rfl rfl rfl trivial rfl rfl rfl rfl rfl rfl rfl rfl ?_
      refine ar_st [] tab_ok rfl tb35 rfl rfl rfl trivial rfl rfl rfl rfl rfl rfl rfl rfl ?_
      refine ar_nil ?_
      refine then_n ?_
      refine wp_ret ?_
      refine then_r (inblk_r (round_r [(6, .box [.nils]), (7, .box [.v (.int .i64 ((stL a fr ins).getD k default).2)]), (8, .box [.own 901]), (901, .row 28 1 (acc.map encBs))] rfl (le_to ⟨rfl, rfl, rfl, rfl, trivial⟩ ⟨rfl, rfl, rfl, rfl, trivial⟩ rfl rfl rfl rfl) ?_))
      refine inblk_r (then_r (ret_post rfl rfl ?_))
      rw [← foldSt_run, foldSt_bad hk4 hk3 h18]; rfl
    · refine ar_nil ?_
      refine then_n ?_
      refine wp_condF rfl ?_
      refine wp_skip ?_
      refine then_n ?_
      refine wp_reg (by kernel_rfl) ?_
      refine ar_ld tab_ok rfl rfl rfl tb29 rfl rfl rfl rfl rfl ?_
      refine ar_move rfl rfl rfl rfl ?_
      refine ar_bs [] tab_ok rfl tb29 rfl tb28 rfl trivial rfl rfl rfl rfl rfl rfl rfl rfl ?_
      refine ar_app 23 [] tab_ok rfl tb29 rfl tb29 rfl tb28 rfl rfl rfl rfl ⟨rfl, rfl, trivial⟩ rfl (elOk.cons rfl rfl elOk.nil) app_one (by subst hk2; constructor <;> simp <;> omega) rfl rfl rfl ?_
      refine ar_st [(23, _)] tab_ok rfl tb29 rfl rfl rfl ⟨rfl, trivial⟩ rfl rfl rfl rfl rfl rfl rfl rfl ?_
      refine ar_nil ?_
      refine inblk_n ?_
      exact round_n _ ⟨hk4, by rw [hk2, take_snoc hk4, List.map_append]; rfl, fun j hj => (Nat.lt_succ_iff_lt_or_eq.1 hj).elim (hk3 j) (fun e => e ▸ (Decidable.not_not.1 h18))⟩ (le_ren [(901, 23)] ⟨rfl, rfl, rfl, rfl, trivial⟩ ⟨rfl, rfl, rfl, rfl, trivial⟩ rfl rfl rfl rfl rfl)
  · rintro acc ⟨hk1, hk2, hk3⟩
    refine inblk_n ?_
    refine then_n ?_
    refine wp_seq ?_
    refine wp_reg (by kernel_rfl) ?_
    refine ar_ld tab_ok rfl rfl rfl tb29 rfl rfl rfl rfl rfl ?_
    refine ar_st [(901, _)] tab_ok rfl tb29 rfl rfl rfl ⟨rfl, trivial⟩ rfl rfl rfl rfl rfl rfl rfl rfl ?_
    refine ar_st [] tab_ok rfl tb35 rfl rfl rfl trivial rfl rfl rfl rfl rfl rfl rfl rfl ?_
    refine ar_nil ?_
    refine then_n ?_
    refine wp_ret ?_
    refine ret_post rfl rfl ?_
    rw [← foldSt_run, foldSt_all (fun j hj => hk3 j (by simpa using hj)), hk2]; simp [stL, stGo_len]


theorem startR {a : Aig} (hg : Good a) {j : Nat} (hj : j < a.l.length) : (a.l.getD j default).reset = 0 ∨ (a.l.getD j default).reset = 1 ∨ 2 ≤ (a.l.getD j default).reset := by
  have := (hg.right.l j hj).2.2
  have := hg.right.i0
  omega

theorem pc_37 (a : Aig) (fr : List Bool) (hg : Good a) : PCall Try.prog 37 [aigV a, slB fr] (.tup [slB (startS a fr).1, .int .i64 (startS a fr).2]) := by
  refine pc_of tab_ok (f := 37) (fn := Try.f37) (N := 45) (rs := [.tmp 4, .tmp 5]) (by kernel_rfl) rfl (by kernel_rfl) rfl rfl [(0, .v (aigV a)), (1, .v (slB fr))] ⟨rfl, rfl, trivial⟩ rfl rfl ?_
  intro B
  have hb := hg.bd; have h0 := hb.i0; have h1 := hb.i1; have h2 := hb.l1; have h3 := hb.g1
  refine wp_seq ?_
  refine wp_reg (by kernel_rfl) ?_
  refine ar_box 2 [] rfl rfl rfl ⟨rfl, trivial⟩ rfl rfl rfl ?_
  refine ar_assign rfl rfl rfl rfl ?_
  refine ar_assign rfl rfl rfl rfl ?_
  refine ar_nil ?_
  refine then_n ?_
  refine wp_seq ?_
  refine wp_seq ?_
  refine wp_reg (by kernel_rfl) ?_
  refine ar_move rfl rfl rfl rfl ?_
  refine ar_len tab_ok rfl rfl tb28 rfl len_map rfl rfl ?_
  refine ar_fa tab_ok rfl rfl rfl tb27 rfl rfl rfl rfl rfl ?_
  refine ar_ld tab_ok rfl rfl rfl tb22 rfl rfl rfl rfl rfl ?_
  refine ar_len tab_ok rfl rfl tb22 rfl len_map rfl rfl ?_
  refine ar_neq_s rfl rfl rfl rfl rfl (fun h13 => ?_) (fun h13 => ?_)
  · refine ar_nil ?_
    refine then_n ?_
    refine wp_condT rfl ?_
    refine wp_seq ?_
    refine wp_reg (by kernel_rfl) ?_
    refine ar_assign rfl rfl rfl rfl ?_
    refine ar_assign rfl rfl rfl rfl ?_
    refine ar_nil ?_
    refine then_n ?_
    refine wp_ret ?_
    refine then_r (ret_post rfl rfl ?_)
    rw [startS_bad (by omega)]; rfl
  · refine ar_nil ?_
    refine then_n ?_
    refine wp_condF rfl ?_
    refine wp_skip ?_
    refine then_n ?_
    refine wp_seq ?_
    refine wp_reg (by kernel_rfl) ?_
    refine ar_assign rfl rfl rfl rfl ?_
    refine ar_nil ?_
    refine then_n ?_
    refine wp_seq ?_
    refine wp_seq ?_
    refine wp_reg (by kernel_rfl) ?_
    refine ar_assign rfl rfl rfl rfl ?_
    refine ar_nil ?_
    refine then_n ?_
    refine wp_block ?_
    refine wp_le (le_nil (t := 6) (id := 900) (e := 4) (sz := 1) rfl rfl (by decide)) ?_
    refine wp_loop (α := Nat) (fun j => mk [(1, .v (slB fr)), (2, .ptr 2 0), (6, .own 901), (7, .v (.int .i64 (j : Nat)))] [(2, .box ((encA a).map .v)), (901, .row 4 1 ((startF (a.l.take j) (fr.take j)).map encB))] 0) (fun j => j ≤ a.l.length) (fun j => a.l.length - j) 0 (Nat.zero_le _) (le_ren [(901, 900)] ⟨rfl, rfl, rfl, rfl, trivial⟩ ⟨rfl, rfl, trivial⟩ rfl rfl rfl rfl rfl) ?_
    rintro j hinv
    refine wp_seq ?_
    refine wp_seq ?_
    refine wp_reg (by kernel_rfl) ?_
    refine ar_move rfl rfl rfl rfl ?_
    refine ar_fa tab_ok rfl rfl rfl tb27 rfl rfl rfl rfl rfl ?_
    refine ar_ld tab_ok rfl rfl rfl tb22 rfl rfl rfl rfl rfl ?_
    refine ar_len tab_ok rfl rfl tb22 rfl len_map rfl rfl ?_
    refine ar_lss_s rfl rfl rfl rfl rfl (fun h18 => ?_) (fun h18 => ?_)
    · refine ar_nil ?_
      refine then_n ?_
      refine wp_condT rfl ?_
      refine wp_skip ?_
      refine then_n ?_
      refine wp_seq ?_
      refine wp_block ?_
      refine wp_seq ?_
      refine wp_reg (by kernel_rfl) ?_
      refine ar_fa tab_ok rfl rfl rfl tb27 rfl rfl rfl rfl rfl ?_
      refine ar_ld tab_ok rfl rfl rfl tb22 rfl rfl rfl rfl rfl ?_
      refine ar_move rfl rfl rfl rfl ?_
      refine ar_ia tab_ok rfl rfl rfl tb22 rfl tb63 (by omega) (map_get (n := j) (by omega)) rfl rfl rfl ?_
      refine ar_fa_ref tab_ok rfl rfl tb63 rfl rfl rfl rfl ?_
      refine ar_ld_ref tab_ok rfl rfl tb3 rfl rfl rfl rfl ?_
      refine ar_nil ?_
      refine then_n ?_
      refine wp_block ?_
      refine wp_seq ?_
      refine wp_reg (by kernel_rfl) ?_
      refine ar_eql_s rfl rfl rfl rfl rfl (fun h35 => ?_) (fun h35 => ?_)
      · refine ar_assign rfl rfl rfl rfl ?_
        refine ar_nil ?_
        refine then_n ?_
        refine wp_condT rfl ?_
        refine wp_reg (by kernel_rfl) ?_
        refine ar_move rfl rfl rfl rfl ?_
        refine ar_bs [] tab_ok rfl tb28 rfl tb4 rfl trivial rfl rfl rfl rfl rfl rfl rfl rfl ?_
        refine ar_app 38 [] tab_ok rfl tb28 rfl tb28 rfl tb4 rfl rfl rfl rfl ⟨rfl, rfl, trivial⟩ rfl (elOk.cons rfl rfl elOk.nil) app_one (by constructor <;> simp [startF] <;> omega) rfl rfl rfl ?_
        refine ar_assign rfl rfl rfl rfl ?_
        refine ar_nil ?_
        refine inblk_n ?_
        refine inblk_n ?_
        refine then_n ?_
        refine wp_reg (by kernel_rfl) ?_
        refine ar_move rfl rfl rfl rfl ?_
        refine ar_addi rfl rfl rfl rfl (by omega) (by omega) rfl rfl ?_
        refine ar_assign rfl rfl rfl rfl ?_
        refine ar_nil ?_
        exact loop_n (j + 1) (by omega) (by omega) (le_ren [(901, 38)] ⟨rfl, rfl, rfl, rfl, trivial⟩ ⟨rfl, (row_eq rfl (by rw [startF_snoc (by omega) (by omega)]; first | (rw [if_pos (show (a.l.getD j default).reset < 2 by omega), h35]; rfl) | (rw [if_pos (show (a.l.getD j default).reset < 2 by omega), h40]; rfl) | (have := startR hg (j := j) (by omega); rw [if_neg (show ¬ (a.l.getD j default).reset < 2 by omega)]))), trivial⟩ rfl rfl rfl rfl rfl)
      · refine ar_assign rfl rfl rfl rfl ?_
        refine ar_nil ?_
        refine then_n ?_
        refine wp_condF rfl ?_
        refine wp_seq ?_
        refine wp_reg (by kernel_rfl) ?_
        refine ar_eql_s rfl rfl rfl rfl rfl (fun h40 => ?_) (fun h40 => ?_)
        · refine ar_assign rfl rfl rfl rfl ?_
          refine ar_nil ?_
          refine then_n ?_
          refine wp_condT rfl ?_
          refine wp_reg (by kernel_rfl) ?_
          refine ar_move rfl rfl rfl rfl ?_
          refine ar_bs [] tab_ok rfl tb28 rfl tb4 rfl trivial rfl rfl rfl rfl rfl rfl rfl rfl ?_
          refine ar_app 43 [] tab_ok rfl tb28 rfl tb28 rfl tb4 rfl rfl rfl rfl ⟨rfl, rfl, trivial⟩ rfl (elOk.cons rfl rfl elOk.nil) app_one (by constructor <;> simp [startF] <;> omega) rfl rfl rfl ?_
          refine ar_assign rfl rfl rfl rfl ?_
          refine ar_nil ?_
          refine inblk_n ?_
          refine inblk_n ?_
          refine then_n ?_
          refine wp_reg (by kernel_rfl) ?_
          refine ar_move rfl rfl rfl rfl ?_
          refine ar_addi rfl rfl rfl rfl (by omega) (by omega) rfl rfl ?_
          refine ar_assign rfl rfl rfl rfl ?_
          refine ar_nil ?_
          exact loop_n (j + 1) (by omega) (by omega) (le_ren [(901, 43)] ⟨rfl, rfl, rfl, rfl, trivial⟩ ⟨rfl, (row_eq rfl (by rw [startF_snoc (by omega) (by omega)]; first | (rw [if_pos (show (a.l.getD j default).reset < 2 by omega), h35]; rfl) | (rw [if_pos (show (a.l.getD j default).reset < 2 by omega), h40]; rfl) | (have := startR hg (j := j) (by omega); rw [if_neg (show ¬ (a.l.getD j default).reset < 2 by omega)]))), trivial⟩ rfl rfl rfl rfl rfl)
        · refine ar_assign rfl rfl rfl rfl ?_
          refine ar_nil ?_
          refine then_n ?_
          refine wp_condF rfl ?_
          refine wp_reg (by kernel_rfl) ?_
          refine ar_move rfl rfl rfl rfl ?_
          refine ar_move rfl rfl rfl rfl ?_
          refine ar_move rfl rfl rfl rfl ?_
          refine ar_ia tab_ok rfl rfl rfl tb28 rfl tb4 (by omega) (map_get (n := j) (by omega)) rfl rfl rfl ?_
          refine ar_ld_ref tab_ok rfl rfl tb4 rfl rfl rfl rfl ?_
          refine ar_bs [] tab_ok rfl tb28 rfl tb4 rfl trivial rfl rfl rfl rfl rfl rfl rfl rfl ?_
          refine ar_app 33 [] tab_ok rfl tb28 rfl tb28 rfl tb4 rfl rfl rfl rfl ⟨rfl, rfl, trivial⟩ rfl (elOk.cons rfl rfl elOk.nil) app_one (by constructor <;> simp [startF] <;> omega) rfl rfl rfl ?_
          refine ar_assign rfl rfl rfl rfl ?_
          refine ar_nil ?_
          refine inblk_n ?_
          refine inblk_n ?_
          refine then_n ?_
          refine wp_reg (by kernel_rfl) ?_
          refine ar_move rfl rfl rfl rfl ?_
          refine ar_addi rfl rfl rfl rfl (by omega) (by omega) rfl rfl ?_
          refine ar_assign rfl rfl rfl rfl ?_
          refine ar_nil ?_
          exact loop_n (j + 1) (by omega) (by omega) (le_ren [(901, 33)] ⟨rfl, rfl, rfl, rfl, trivial⟩ ⟨rfl, (row_eq rfl (by rw [startF_snoc (by omega) (by omega)]; first | (rw [if_pos (show (a.l.getD j default).reset < 2 by omega), h35]; rfl) | (rw [if_pos (show (a.l.getD j default).reset < 2 by omega), h40]; rfl) | (have := startR hg (j := j) (by omega); rw [if_neg (show ¬ (a.l.getD j default).reset < 2 by omega)]))), trivial⟩ rfl rfl rfl rfl rfl)
    · refine ar_nil ?_
      refine then_n ?_
      refine wp_condF rfl ?_
      refine wp_exit ?_
      refine then_x (loop_x (inblk_e ?_))
      refine then_n ?_
      refine wp_seq ?_
      refine wp_reg (by kernel_rfl) ?_
      refine ar_move rfl rfl rfl rfl ?_
      refine ar_assign rfl rfl rfl rfl ?_
      refine ar_assign rfl rfl rfl rfl ?_
      refine ar_nil ?_
      refine then_n ?_
      refine wp_ret ?_
      refine ret_post rfl rfl ?_
      have hi : j = a.l.length := by omega
      subst hi
      rw [startS_ok (by omega), List.take_length, List.take_of_length_le (by omega)]

theorem pc_39 (a : Aig) (fr : List Bool) (ins : List (List Bool)) (hg : Good a) (hl : ins.length ≤ 1000000) : PCall Try.prog 39 [aigV a, slB fr, slBB ins] (.tup [slBB (runS a fr ins).1, .int .i64 (runS a fr ins).2]) := by
  refine pc_of tab_ok (f := 39) (fn := Try.f39) (N := 52) (rs := [.tmp 6, .tmp 7]) (by kernel_rfl) rfl (by kernel_rfl) rfl rfl [(0, .v (aigV a)), (1, .v (slB fr)), (2, .v (slBB ins))] ⟨rfl, rfl, rfl, trivial⟩ rfl rfl ?_
  intro B
  refine wp_seq ?_
  refine wp_reg (by kernel_rfl) ?_
  refine ar_box 3 [] rfl rfl rfl ⟨rfl, trivial⟩ rfl rfl rfl ?_
  refine ar_assign rfl rfl rfl rfl ?_
  refine ar_assign rfl rfl rfl rfl ?_
  refine ar_nil ?_
  refine then_n ?_
  refine wp_seq ?_
  refine wp_reg (by kernel_rfl) ?_
  refine ar_lda tab_ok rfl rfl rfl tb27 rfl rfl rfl rfl rfl rfl ?_
  refine ar_move rfl rfl rfl rfl ?_
  refine ar_call [] (pc_37 a fr hg) rfl rfl rfl rfl rfl rfl trivial (.inl rfl) rfl rfl rfl ?_
  refine ar_move rfl rfl rfl rfl ?_
  refine ar_ext rfl rfl rfl rfl rfl ?_
  refine ar_ext rfl rfl rfl rfl rfl ?_
  refine ar_assign rfl rfl rfl rfl ?_
  refine ar_assign rfl rfl rfl rfl ?_
  refine ar_nil ?_
  refine then_n ?_
  refine wp_seq ?_
  refine wp_seq ?_
  refine wp_reg (by kernel_rfl) ?_
  refine ar_move rfl rfl rfl rfl ?_
  refine ar_neq_s rfl rfl rfl rfl rfl (fun h22 => ?_) (fun h22 => ?_)
  · refine ar_nil ?_
    refine then_n ?_
    refine wp_condT rfl ?_
    refine wp_seq ?_
    refine wp_reg (by kernel_rfl) ?_
    refine ar_move rfl rfl rfl rfl ?_
    refine ar_assign rfl rfl rfl rfl ?_
    refine ar_assign rfl rfl rfl rfl ?_
    refine ar_nil ?_
    refine then_n ?_
    refine wp_ret ?_
    refine then_r (ret_post rfl rfl ?_)
    simp only [runS]; rw [if_neg h22]; rfl
  · refine ar_nil ?_
    refine then_n ?_
    refine wp_condF rfl ?_
    refine wp_skip ?_
    refine then_n ?_
    refine wp_seq ?_
    refine wp_reg (by kernel_rfl) ?_
    refine ar_move rfl rfl rfl rfl ?_
    refine ar_bs_own (es := [(startS a fr).1].map encBs) 25 [] tab_ok rfl tb29 rfl tb28 rfl rfl ⟨rfl, trivial⟩ rfl rfl rfl rfl rfl rfl rfl rfl rfl ?_
    refine ar_assign rfl rfl rfl rfl ?_
    refine ar_nil ?_
    refine then_n ?_
    refine wp_seq ?_
    refine wp_seq ?_
    refine wp_reg (by kernel_rfl) ?_
    refine ar_assign rfl rfl rfl rfl ?_
    refine ar_nil ?_
    refine then_n ?_
    refine wp_block ?_
    refine wp_loop (α := Nat × List Bool × List (List Bool)) (fun ⟨j, s, acc⟩ => mk [(2, .v (slBB ins)), (3, .ptr 3 0), (8, .v (slB s)), (10, .own 901), (11, .v (.int .i64 (j : Nat)))] [(3, .box ((encA a).map .v)), (901, .row 28 1 (acc.map encBs))] 0) (fun ⟨j, s, acc⟩ => j ≤ ins.length ∧ acc.length = j + 1 ∧ runGo a acc s (ins.drop j) = runS a fr ins) (fun ⟨j, s, acc⟩ => ins.length - j) ⟨0, (startS a fr).1, [(startS a fr).1]⟩ ⟨Nat.zero_le _, rfl, by simp only [runS]; rw [if_pos (Decidable.not_not.1 h22)]; rfl⟩ (le_ren [(901, 25)] ⟨rfl, rfl, rfl, rfl, rfl, trivial⟩ ⟨rfl, rfl, trivial⟩ rfl rfl rfl rfl rfl) ?_
    rintro ⟨j, s, acc⟩ ⟨hj1, hj2, hj3⟩
    refine wp_seq ?_
    refine wp_seq ?_
    refine wp_reg (by kernel_rfl) ?_
    refine ar_move rfl rfl rfl rfl ?_
    refine ar_move rfl rfl rfl rfl ?_
    refine ar_len tab_ok rfl rfl tb29 rfl len_map rfl rfl ?_
    refine ar_lss_s rfl rfl rfl rfl rfl (fun h29 => ?_) (fun h29 => ?_)
    · refine ar_nil ?_
      refine then_n ?_
      refine wp_condT rfl ?_
      refine wp_skip ?_
      refine then_n ?_
      refine wp_seq ?_
      refine wp_block ?_
      refine wp_seq ?_
      refine wp_draw (L := [([3], []), ([], []), ([], []), ([], []), ([], []), ([], []), ([], []), ([], []), ([], []), ([], []), ([], []), ([13], [13]), ([], []), ([13], [13]), ([], [])]) (by kernel_rfl) mixed (by kernel_rfl) ?_
      refine ar_lda tab_ok rfl rfl rfl tb27 rfl rfl rfl rfl rfl rfl ?_
      refine ar_move rfl rfl rfl rfl ?_
      refine ar_move rfl rfl rfl rfl ?_
      refine ar_move rfl rfl rfl rfl ?_
      refine ar_ia tab_ok rfl rfl rfl tb29 rfl tb28 (by omega) (map_get (n := j) (by omega)) rfl rfl rfl ?_
      refine ar_ld_ref tab_ok rfl rfl tb28 rfl rfl rfl rfl ?_
      refine ar_call [] (pc_35 a s (ins.getD j default) hg) rfl rfl rfl rfl rfl rfl trivial (.inl rfl) rfl rfl rfl ?_
      refine ar_move rfl rfl rfl rfl ?_
      refine ar_ext rfl rfl rfl rfl rfl ?_
      refine ar_ext rfl rfl rfl rfl rfl ?_
      refine ar_ext rfl rfl rfl rfl rfl ?_
      refine ar_alloc (id := 13) tab_ok rfl rfl tb40 rfl rfl rfl rfl ?_
      refine ar_assign rfl rfl rfl rfl ?_
      refine ar_st [] tab_ok rfl tb40 rfl rfl rfl trivial rfl rfl rfl rfl rfl rfl rfl rfl ?_
      refine ar_assign rfl rfl rfl rfl ?_
      refine ar_nil ?_
      refine then_n ?_
      refine wp_seq ?_
      refine wp_seq ?_
      refine wp_reg (by kernel_rfl) ?_
      refine ar_move rfl rfl rfl rfl ?_
      refine ar_neq_s rfl rfl rfl rfl rfl (fun h44 => ?_) (fun h44 => ?_)
      · refine ar_nil ?_
        refine then_n ?_
        refine wp_condT rfl ?_
        refine wp_seq ?_
        refine wp_reg (by kernel_rfl) ?_
        refine ar_move rfl rfl rfl rfl ?_
        refine ar_assign rfl rfl rfl rfl ?_
        refine ar_assign rfl rfl rfl rfl ?_
        refine ar_nil ?_
        refine then_n ?_
        refine wp_ret ?_
        refine then_r (inblk_r (then_r (loop_r (inblk_r (then_r (ret_post rfl rfl ?_))))))
        rw [← hj3, drop_cons (by omega : j < ins.length), runGo, if_neg h44]; rfl
      · refine ar_nil ?_
        refine then_n ?_
        refine wp_condF rfl ?_
        refine wp_skip ?_
        refine then_n ?_
        refine wp_seq ?_
        refine wp_reg (by kernel_rfl) ?_
        refine ar_move rfl rfl rfl rfl ?_
        refine ar_assign rfl rfl rfl rfl ?_
        refine ar_nil ?_
        refine then_n ?_
        refine wp_reg (by kernel_rfl) ?_
        refine ar_move rfl rfl rfl rfl ?_
        refine ar_move rfl rfl rfl rfl ?_
        refine ar_bs [] tab_ok rfl tb29 rfl tb28 rfl trivial rfl rfl rfl rfl rfl rfl rfl rfl ?_
        refine ar_app 50 [] tab_ok rfl tb29 rfl tb29 rfl tb28 rfl rfl rfl rfl ⟨rfl, rfl, trivial⟩ rfl (elOk.cons rfl rfl elOk.nil) app_one (by constructor <;> simp <;> omega) rfl rfl rfl ?_
        refine ar_assign rfl rfl rfl rfl ?_
        refine ar_nil ?_
        refine inblk_n ?_
        refine then_n ?_
        refine wp_reg (by kernel_rfl) ?_
        refine ar_move rfl rfl rfl rfl ?_
        refine ar_addi rfl rfl rfl rfl (by omega) (by omega) rfl rfl ?_
        refine ar_assign rfl rfl rfl rfl ?_
        refine ar_nil ?_
        exact loop_n ⟨j + 1, _, _⟩ ⟨by omega, by simp [hj2], by rw [← hj3, drop_cons (by omega : j < ins.length), runGo, if_pos (Decidable.not_not.1 h44)]⟩ (by show ins.length - (j + 1) < ins.length - j; omega) (le_ren [(901, 50)] ⟨rfl, rfl, rfl, rfl, rfl, trivial⟩ ⟨rfl, rfl, trivial⟩ rfl rfl rfl rfl rfl)
    · refine ar_nil ?_
      refine then_n ?_
      refine wp_condF rfl ?_
      refine wp_exit ?_
      refine then_x (loop_x (inblk_e ?_))
      refine then_n ?_
      refine wp_seq ?_
      refine wp_reg (by kernel_rfl) ?_
      refine ar_move rfl rfl rfl rfl ?_
      refine ar_assign rfl rfl rfl rfl ?_
      refine ar_assign rfl rfl rfl rfl ?_
      refine ar_nil ?_
      refine then_n ?_
      refine wp_ret ?_
      refine ret_post rfl rfl ?_
      rw [← hj3, List.drop_eq_nil_of_le (by omega)]; rfl

end Go.Vd
