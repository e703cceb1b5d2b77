/- Walks over data, merged (part 6): what the laws of this claim use. -/
import Derived.Test.YtgnbphnbdaphpaaGreatDoorMe
set_option linter.unusedSimpArgs false
set_option linter.unusedVariables false
namespace Go.Vd
open Go.Proofs Go.RowKit
abbrev ay (a : Aig) : Int := a.i + (a.l.length : Nat) + (a.g.length : Nat)
structure AigS (a : Aig) : Prop where
 i0 : 0 ≤ a.i
 v : a.i + (a.l.length : Nat) + (a.g.length : Nat) ≤ 1000000
 o : a.outs.length ≤ 1000000
 b : a.bad.length ≤ 1000000
 c : a.con.length ≤ 1000000
 g : ∀ k, k < a.g.length → 0 ≤ (a.g.getD k default).b ∧ (a.g.getD k default).b ≤ (a.g.getD k default).a ∧ (a.g.getD k default).a < 2 * (a.i + (a.l.length : Nat) + 1 + (k : Nat))
structure nR (a : Aig) : Prop where
 i0 : 0 ≤ a.i
 v : a.i + (a.l.length : Nat) + (a.g.length : Nat) ≤ 1000000
theorem AigS.z {a : Aig} (h : AigS a) : nR a := ⟨h.i0, h.v⟩
def kY (a : Aig) (v : Nat) (p : List Bool) : Bool := if a.i + (a.l.length : Nat) + 1 ≤ (v : Int) then (p.getD ((a.g.getD ((v : Int) - a.i - (a.l.length : Nat) - 1).toNat default).a / 2).toNat false || p.getD ((a.g.getD ((v : Int) - a.i - (a.l.length : Nat) - 1).toNat default).b / 2).toNat false) else decide (1 ≤ (v : Int) ∧ (v : Int) ≤ a.i)
def eV (a : Aig) : Nat → List Bool
 | 0 => []
 | v + 1 => eV a v ++ [kY a v (eV a v)]
theorem fF (a : Aig) : ∀ n, (eV a n).length = n
 | 0 => rfl
 | n + 1 => by simp [eV, fF a n]
def py (a : Aig) (l : Int) : Bool := (eV a (ay a + 1).toNat).getD (l / 2).toNat false
theorem jB {a : Aig} {j n : Nat} {x : Bool} (hj : j < n) (hx : kY a j (eV a j) = x) : (eV a j ++ List.replicate (n - j) false).set j x = eV a (j + 1) ++ List.replicate (n - (j + 1)) false := by
 have h1 := fF a j
 rw [List.set_append_right _ _ (by omega), h1, Nat.sub_self, show n - j = (n - (j + 1)) + 1 by omega, List.replicate_succ, List.set_cons_zero]
 show _ = (eV a j ++ [kY a j (eV a j)]) ++ _
 rw [hx, List.append_assoc]; rfl
theorem qw {a : Aig} {j n : Nat} (hj : j < n) (hx : kY a j (eV a j) = false) : eV a j ++ List.replicate (n - j) false = eV a (j + 1) ++ List.replicate (n - (j + 1)) false := by
 rw [← jB hj hx, List.set_append_right _ _ (by rw [fF]; omega), fF, Nat.sub_self, show n - j = (n - (j + 1)) + 1 by omega, List.replicate_succ, List.set_cons_zero]
theorem jE {α : Type} {l m : List α} {k : Nat} {d d' : α} (h : k < l.length) : (l ++ m).getD k d = l.getD k d' := by
 rw [List.getD_eq_getElem?_getD, List.getD_eq_getElem?_getD, List.getElem?_append_left h, List.getElem?_eq_getElem h]; rfl
theorem ya {x : Int} (h0 : 0 ≤ x) (h1 : x ≤ 1000000000) : IntKind.i64.wrap (x.tdiv 2) = x / 2 := by
 rw [Int.tdiv_eq_ediv_of_nonneg h0, IntKind.wrap_i64]; omega
theorem kn (a : Aig) (ha : nR a) : dn 94 [bq a] (.int .i64 (ay a)) := by
 refine bC ac (f := 94) (fn := Tryz.f94) (N := 13) (rs := [.tmp 2]) (by kernel_rfl) rfl (by kernel_rfl) rfl rfl [(0, .v (bq a))] ⟨rfl, aj⟩ rfl rfl ?_
 intro B
 have := ha.i0
 have := ha.v
 have hvA : ay a = a.i + (a.l.length : Nat) + (a.g.length : Nat) := rfl
 refine ag<|bE 1 [] J J J ⟨J, aj⟩ J J J<|af J<|ab<|ag<|ax aK J<|aC bm J<|ax aK J<|aC cR J<|aI ac J J cR J aB J J<|bh J (by omega) (by omega) J ?_
 refine ax aK J<|aC dg J<|aI ac J J dg J aB J J<|bh J (by omega) (by omega) J ?_
 refine af J<|ab<|am ?_
 refine an J J ?_
 rfl
theorem lQ (a : Aig) (ha : nR a) (k : Int) (h0 : 0 ≤ k) (h1 : k ≤ 2) : dn 203 [bq a, .int .i64 k] (.int .i64 (k * (ay a + 1))) := by
 refine bC ac (f := 203) (fn := Tryz.f203) (N := 10) (rs := [.tmp 4]) (by kernel_rfl) rfl (by kernel_rfl) rfl rfl [(0, .v (bq a)), (1, .v (.int .i64 k))] ⟨rfl, rfl, aj⟩ rfl rfl ?_
 intro B
 have := ha.i0
 have := ha.v
 have hvA : ay a = a.i + (a.l.length : Nat) + (a.g.length : Nat) := rfl
 have hk2 : 0 ≤ k * (ay a + 1) ∧ k * (ay a + 1) ≤ 2 * 1000001 := ⟨Int.mul_nonneg h0 (by omega), Int.mul_le_mul h1 (by omega) (by omega) (by omega)⟩
 refine ag<|bE 2 [] J J J ⟨J, aj⟩ J J J<|af J<|ab<|ag<|aa J<|a7 aK J<|ap [] (kn a ha) J J J J J J aj (.inl J) J J J<|bh J (by omega) (by omega) J ?_
 refine dA J J J J (by omega) (by omega) J J ?_
 refine af J<|ab<|am ?_
 refine an J J ?_
 rfl
theorem Ag (a : Aig) (ha : nR a) : dn 162 [bq a] (.agg [.int .i64 (1 * (ay a + 1)), .int .i64 (2 * (ay a + 1)), .int .i64 (1 * (ay a + 1))]) := by
 refine bC ac (f := 162) (fn := Tryz.f162) (N := 10) (rs := [.cell 2 296]) (by kernel_rfl) rfl (by kernel_rfl) rfl rfl [(0, .v (bq a))] ⟨rfl, aj⟩ rfl rfl ?_
 intro B
 refine ag<|bE 1 [] J J J ⟨J, aj⟩ J J J<|bl (id := 2) mj J<|ab<|ae<|aS (L := [([1], []), ([], []), ([1], []), ([], []), ([1], []), ([], []), ([], []), ([2], [2])]) (by kernel_rfl) mixed (by kernel_rfl)<|a7 aK J<|ap [] (lQ a ha 1 (by decide) (by decide)) J J J J J J aj (.inl J) J J J ?_
 refine a7 aK J<|ap [] (lQ a ha 2 (by decide) (by decide)) J J J J J J aj (.inl J) J J J ?_
 refine a7 aK J<|ap [] (lQ a ha 1 (by decide) (by decide)) J J J J J J aj (.inl J) J J J ?_
 refine ef [] ac J mj J bm J aj J J J J J J<|aR mj [] J aj J<|ab<|am ?_
 refine an J J ?_
 rfl
theorem de {α : Type} {xs : List (List α)} {j : Nat} : (xs.take j).flatten.length ≤ xs.flatten.length := by
 have h : xs.flatten = (xs.take j).flatten ++ (xs.drop j).flatten := by rw [← List.flatten_append, List.take_append_drop]
 rw [h, List.length_append]; omega
theorem qr {α : Type} {xs : List (List α)} {j : Nat} (h : j < xs.length) : (xs.take (j + 1)).flatten = (xs.take j).flatten ++ xs.getD j default := by
 rw [List.take_succ_eq_append_getElem h, List.flatten_append, List.flatten_singleton, List.getD_eq_getElem?_getD, List.getElem?_eq_getElem h]; rfl
theorem ey {α : Type} {xs : List (List α)} {j : Nat} (h : j < xs.length) : (xs.take (j + 1)).flatten.length = (xs.take j).flatten.length + (xs.getD j default).length := by rw [qr h, List.length_append]
theorem ou {α : Type} {xs : List (List α)} {j : Nat} (h : j < xs.length) : (((xs.take j).flatten.length : Nat) : Int) + ((xs.getD j default).length : Nat) = ((xs.take (j + 1)).flatten.length : Nat) := by rw [ey h]; simp
theorem oL {α β : Type} {f : α → β} {xs : List (List α)} {j : Nat} (h : j < xs.length) : ((xs.take j).flatten).map f ++ (xs.getD j default).map f = ((xs.take (j + 1)).flatten).map f := by rw [qr h, List.map_append]
theorem jW {α β : Type} {f : α → β} {xs : List (List α)} {j : Nat} (h : xs.length ≤ j) : ((xs.take j).flatten).map f = xs.flatten.map f := by rw [List.take_of_length_le h]
theorem Ft (xs : List (List Gate)) (hs : xs.flatten.length ≤ 1000000000) (hl : xs.length ≤ 1000000000) : PRow Tryz.prog 202 [.sl (xs.map fun x => [iH x])] 63 2 (xs.flatten.map nT) := by
 refine mJ ac (f := 202) (fn := Tryz.f202) (N := 36) (t := 2) (by kernel_rfl) rfl (by kernel_rfl) rfl rfl [(0, .v (.sl (xs.map fun x => [iH x])))] ⟨rfl, aj⟩ rfl rfl ?_
 intro B
 refine ag<|af J<|ab<|ag<|af J<|ab<|ae<|ag<|aa J<|aI ac J J sI J aB J J<|aa J ?_
 refine ab<|aw<|aZ (α := Nat) (fun j => mk [(0, .v (.sl (xs.map fun x => [iH x]))), (3, .v (.int .i64 ((xs.take j).flatten.length : Nat))), (9, .v (.sl (xs.map fun x => [iH x]))), (10, .v (.int .i64 xs.length)), (11, .v (.int .i64 j))] [] 0) (fun j => j ≤ xs.length) (fun j => xs.length - j) 0 (Nat.zero_le _) (aL ⟨J, J, J, J, J, aj⟩ aj J J J J) ?_
 intro j hj
 have hjs := de (xs := xs) (j := j)
 refine ag<|bj J (fun h12 => ?_) (fun h12 => ?_)
 ·refine ab<|ae<|ai J<|ao<|ak<|ae<|aw<|ag<|cj sI dg J (by omega) (bz (n := j) (by omega)) J ?_
  refine bu dg J<|af J<|ab<|ae ?_
  have hst := ey (xs := xs) (j := j) (by omega)
  have hjs2 := de (xs := xs) (j := j + 1)
  refine aF<|aa J<|aa J<|aI ac J J dg J aB J J<|bh J (by omega) (by omega) J ?_
  refine af J<|ab<|ag<|aa J<|iZ J J J (decide_eq_false (by omega)) J J ?_
  refine ab<|ah J<|ao<|aH<|ak<|aF<|bh J (by omega) (by omega) J ?_
  refine aa J<|ar ?_
  exact aT (j + 1) (by show j + 1 ≤ _; omega) (by show xs.length - (j + 1) < xs.length - j; omega) (aL ⟨rfl, (fJ rfl (by exact ou (by omega))), rfl, rfl, rfl, aj⟩ aj rfl rfl rfl rfl)
 ·refine ab<|ae<|ah J<|aO<|ba (a8 (aP ?_))
  refine ak<|ag<|aa J<|er [(0, .v (.sl (xs.map fun x => [iH x])))] [] (Eh (xs.take j).flatten.length (by omega)) J J J J aj J J J J aj ⟨J, aj⟩ J J J J J J J J ?_
  refine af J<|ab<|ae<|ag<|aa J<|aI ac J J sI J aB J J<|aa J<|ab<|aw<|aZ (α := Nat) (fun q => mk [(6, .own 600), (25, .v (.sl (xs.map fun x => [iH x]))), (26, .v (.int .i64 xs.length)), (27, .v (.int .i64 q))] [(600, .row 63 2 (((xs.take q).flatten).map nT))] 0) (fun q => q ≤ xs.length) (fun q => xs.length - q) 0 (Nat.zero_le _) (cd [(600, 900)] ⟨J, J, J, J, aj⟩ ⟨J, aj⟩ J J J J J) ?_
  intro q hq
  have hjs := de (xs := xs) (j := q)
  have hjs2 := de (xs := xs) (j := q + 1)
  refine ag<|bj J (fun h28 => ?_) (fun h28 => ?_)
  ·refine ab<|ae<|ai J<|ao<|ak<|ae<|aw<|ag<|cj sI dg J (by omega) (bz (n := q) (by omega)) J ?_
   refine bu dg J<|af J<|ab ?_
   have hst := ey (xs := xs) (j := q) (by omega)
   refine aF<|aa J<|aa J ?_
   refine cw 33 [] ac J dg J dg J dY J J J J ⟨J, J, aj⟩ J (Gh _) J ⟨by rw [List.length_append, List.length_map, List.length_map]; show _ * 16 ≤ 140737488355328; omega, by rw [List.length_append, List.length_map, List.length_map]; omega⟩ J J J ?_
   refine af J<|ar<|aH<|ak<|aF<|bh J (by omega) (by omega) J ?_
   refine aa J<|ar ?_
   exact aT (q + 1) (by show q + 1 ≤ _; omega) (by show xs.length - (q + 1) < xs.length - q; omega) (cd [(600, 33)] ⟨rfl, rfl, rfl, rfl, aj⟩ ⟨(dV rfl (by exact oL (by omega))), aj⟩ rfl rfl rfl rfl rfl)
  ·refine ab<|ae<|ah J<|aO<|ba (a8 (aP ?_))
   refine ak<|ag<|aa J<|af J<|ab<|am ?_
   refine ⟨.inl ⟨600, rfl, ?_⟩, rfl⟩
   exact congrArg (Blk.row 63 2) (jW (by omega))
theorem CX (xs : List (List Int)) (hs : xs.flatten.length ≤ 1000000000) (hl : xs.length ≤ 1000000000) : PRow Tryz.prog 95 [.sl (xs.map fun x => [cf x])] 3 1 (xs.flatten.map d7) := by
 refine mJ ac (f := 95) (fn := Tryz.f95) (N := 36) (t := 2) (by kernel_rfl) rfl (by kernel_rfl) rfl rfl [(0, .v (.sl (xs.map fun x => [cf x])))] ⟨rfl, aj⟩ rfl rfl ?_
 intro B
 refine ag<|af J<|ab<|ag<|af J<|ab<|ae<|ag<|aa J<|aI ac J J eC J aB J J<|aa J ?_
 refine ab<|aw<|aZ (α := Nat) (fun j => mk [(0, .v (.sl (xs.map fun x => [cf x]))), (3, .v (.int .i64 ((xs.take j).flatten.length : Nat))), (9, .v (.sl (xs.map fun x => [cf x]))), (10, .v (.int .i64 xs.length)), (11, .v (.int .i64 j))] [] 0) (fun j => j ≤ xs.length) (fun j => xs.length - j) 0 (Nat.zero_le _) (aL ⟨J, J, J, J, J, aj⟩ aj J J J J) ?_
 intro j hj
 have hjs := de (xs := xs) (j := j)
 refine ag<|bj J (fun h12 => ?_) (fun h12 => ?_)
 ·refine ab<|ae<|ai J<|ao<|ak<|ae<|aw<|ag<|cj eC br J (by omega) (bz (n := j) (by omega)) J ?_
  refine bu br J<|af J<|ab<|ae ?_
  have hst := ey (xs := xs) (j := j) (by omega)
  have hjs2 := de (xs := xs) (j := j + 1)
  refine aF<|aa J<|aa J<|aI ac J J br J aB J J<|bh J (by omega) (by omega) J ?_
  refine af J<|ab<|ag<|aa J<|iZ J J J (decide_eq_false (by omega)) J J ?_
  refine ab<|ah J<|ao<|aH<|ak<|aF<|bh J (by omega) (by omega) J ?_
  refine aa J<|ar ?_
  exact aT (j + 1) (by show j + 1 ≤ _; omega) (by show xs.length - (j + 1) < xs.length - j; omega) (aL ⟨rfl, (fJ rfl (by exact ou (by omega))), rfl, rfl, rfl, aj⟩ aj rfl rfl rfl rfl)
 ·refine ab<|ae<|ah J<|aO<|ba (a8 (aP ?_))
  refine ak<|ag<|aa J<|er [(0, .v (.sl (xs.map fun x => [cf x])))] [] (ES (xs.take j).flatten.length (by omega)) J J J J aj J J J J aj ⟨J, aj⟩ J J J J J J J J ?_
  refine af J<|ab<|ae<|ag<|aa J<|aI ac J J eC J aB J J<|aa J<|ab<|aw<|aZ (α := Nat) (fun q => mk [(6, .own 600), (25, .v (.sl (xs.map fun x => [cf x]))), (26, .v (.int .i64 xs.length)), (27, .v (.int .i64 q))] [(600, .row 3 1 (((xs.take q).flatten).map d7))] 0) (fun q => q ≤ xs.length) (fun q => xs.length - q) 0 (Nat.zero_le _) (cd [(600, 900)] ⟨J, J, J, J, aj⟩ ⟨J, aj⟩ J J J J J) ?_
  intro q hq
  have hjs := de (xs := xs) (j := q)
  have hjs2 := de (xs := xs) (j := q + 1)
  refine ag<|bj J (fun h28 => ?_) (fun h28 => ?_)
  ·refine ab<|ae<|ai J<|ao<|ak<|ae<|aw<|ag<|cj eC br J (by omega) (bz (n := q) (by omega)) J ?_
   refine bu br J<|af J<|ab ?_
   have hst := ey (xs := xs) (j := q) (by omega)
   refine aF<|aa J<|aa J ?_
   refine cw 33 [] ac J br J br J bm J J J J ⟨J, J, aj⟩ J (GP _) J ⟨by rw [List.length_append, List.length_map, List.length_map]; show _ * 8 ≤ 140737488355328; omega, by rw [List.length_append, List.length_map, List.length_map]; omega⟩ J J J ?_
   refine af J<|ar<|aH<|ak<|aF<|bh J (by omega) (by omega) J ?_
   refine aa J<|ar ?_
   exact aT (q + 1) (by show q + 1 ≤ _; omega) (by show xs.length - (q + 1) < xs.length - q; omega) (cd [(600, 33)] ⟨rfl, rfl, rfl, rfl, aj⟩ ⟨(dV rfl (by exact oL (by omega))), aj⟩ rfl rfl rfl rfl rfl)
  ·refine ab<|ae<|ah J<|aO<|ba (a8 (aP ?_))
   refine ak<|ag<|aa J<|af J<|ab<|am ?_
   refine ⟨.inl ⟨600, rfl, ?_⟩, rfl⟩
   exact congrArg (Blk.row 3 1) (jW (by omega))
theorem DQ (xs : List (List (List Int))) (hs : xs.flatten.length ≤ 1000000000) (hl : xs.length ≤ 1000000000) : PRow Tryz.prog 204 [.sl (xs.map fun x => [dS x])] 30 1 (xs.flatten.map dw) := by
 refine mJ ac (f := 204) (fn := Tryz.f204) (N := 36) (t := 2) (by kernel_rfl) rfl (by kernel_rfl) rfl rfl [(0, .v (.sl (xs.map fun x => [dS x])))] ⟨rfl, aj⟩ rfl rfl ?_
 intro B
 refine ag<|af J<|ab<|ag<|af J<|ab<|ae<|ag<|aa J<|aI ac J J oH J aB J J<|aa J ?_
 refine ab<|aw<|aZ (α := Nat) (fun j => mk [(0, .v (.sl (xs.map fun x => [dS x]))), (3, .v (.int .i64 ((xs.take j).flatten.length : Nat))), (9, .v (.sl (xs.map fun x => [dS x]))), (10, .v (.int .i64 xs.length)), (11, .v (.int .i64 j))] [] 0) (fun j => j ≤ xs.length) (fun j => xs.length - j) 0 (Nat.zero_le _) (aL ⟨J, J, J, J, J, aj⟩ aj J J J J) ?_
 intro j hj
 have hjs := de (xs := xs) (j := j)
 refine ag<|bj J (fun h12 => ?_) (fun h12 => ?_)
 ·refine ab<|ae<|ai J<|ao<|ak<|ae<|aw<|ag<|cj oH eC J (by omega) (bz (n := j) (by omega)) J ?_
  refine bu eC J<|af J<|ab<|ae ?_
  have hst := ey (xs := xs) (j := j) (by omega)
  have hjs2 := de (xs := xs) (j := j + 1)
  refine aF<|aa J<|aa J<|aI ac J J eC J aB J J<|bh J (by omega) (by omega) J ?_
  refine af J<|ab<|ag<|aa J<|iZ J J J (decide_eq_false (by omega)) J J ?_
  refine ab<|ah J<|ao<|aH<|ak<|aF<|bh J (by omega) (by omega) J ?_
  refine aa J<|ar ?_
  exact aT (j + 1) (by show j + 1 ≤ _; omega) (by show xs.length - (j + 1) < xs.length - j; omega) (aL ⟨rfl, (fJ rfl (by exact ou (by omega))), rfl, rfl, rfl, aj⟩ aj rfl rfl rfl rfl)
 ·refine ab<|ae<|ah J<|aO<|ba (a8 (aP ?_))
  refine ak<|ag<|aa J<|er [(0, .v (.sl (xs.map fun x => [dS x])))] [] (DI (xs.take j).flatten.length (by omega)) J J J J aj J J J J aj ⟨J, aj⟩ J J J J J J J J ?_
  refine af J<|ab<|ae<|ag<|aa J<|aI ac J J oH J aB J J<|aa J<|ab<|aw<|aZ (α := Nat) (fun q => mk [(6, .own 600), (25, .v (.sl (xs.map fun x => [dS x]))), (26, .v (.int .i64 xs.length)), (27, .v (.int .i64 q))] [(600, .row 30 1 (((xs.take q).flatten).map dw))] 0) (fun q => q ≤ xs.length) (fun q => xs.length - q) 0 (Nat.zero_le _) (cd [(600, 900)] ⟨J, J, J, J, aj⟩ ⟨J, aj⟩ J J J J J) ?_
  intro q hq
  have hjs := de (xs := xs) (j := q)
  have hjs2 := de (xs := xs) (j := q + 1)
  refine ag<|bj J (fun h28 => ?_) (fun h28 => ?_)
  ·refine ab<|ae<|ai J<|ao<|ak<|ae<|aw<|ag<|cj oH eC J (by omega) (bz (n := q) (by omega)) J ?_
   refine bu eC J<|af J<|ab ?_
   have hst := ey (xs := xs) (j := q) (by omega)
   refine aF<|aa J<|aa J ?_
   refine cw 33 [] ac J eC J eC J br J J J J ⟨J, J, aj⟩ J (Ge _) J ⟨by rw [List.length_append, List.length_map, List.length_map]; show _ * 24 ≤ 140737488355328; omega, by rw [List.length_append, List.length_map, List.length_map]; omega⟩ J J J ?_
   refine af J<|ar<|aH<|ak<|aF<|bh J (by omega) (by omega) J ?_
   refine aa J<|ar ?_
   exact aT (q + 1) (by show q + 1 ≤ _; omega) (by show xs.length - (q + 1) < xs.length - q; omega) (cd [(600, 33)] ⟨rfl, rfl, rfl, rfl, aj⟩ ⟨(dV rfl (by exact oL (by omega))), aj⟩ rfl rfl rfl rfl rfl)
  ·refine ab<|ae<|ah J<|aO<|ba (a8 (aP ?_))
   refine ak<|ag<|aa J<|af J<|ab<|am ?_
   refine ⟨.inl ⟨600, rfl, ?_⟩, rfl⟩
   exact congrArg (Blk.row 30 1) (jW (by omega))
theorem vj (a : Aig) (c : gO) (h : a.g.length + c.g.length ≤ 1000000000) : dn 130 [bq a, dU c] (bq { a with g := a.g ++ c.g }) := by
 refine bC ac (f := 130) (fn := Tryz.f130) (N := 13) (rs := [.cell 4 33]) (by kernel_rfl) rfl (by kernel_rfl) rfl rfl [(0, .v (bq a)), (1, .v (dU c))] ⟨rfl, rfl, aj⟩ rfl rfl ?_
 intro B
 refine ag<|bE 2 [] J J J ⟨J, aj⟩ J J J<|bE 3 [] J J J ⟨J, aj⟩ J J J<|bl (id := 4) aK J<|ab<|ag<|ax aK J<|aC dg J<|ax ea J<|aC dg J<|bZ sI dg [] J aj J ?_
 refine ov 10 (Ft [a.g, c.g] (by simp; omega) (by simp)) J J J J J J J J J J ?_
 refine ax aK J<|gF [(10, _)] ac J dg J J J ⟨J, aj⟩ J J J J J J J J<|ab<|ae<|cg (bp (id := 10) J)<|cT [(2, .ptr 2 0), (4, .ptr 4 0)] [(2, .box [.v (.int .i64 a.i), .v (jL a.l), .v (.sl (([a.g, c.g].flatten).map nT)), .v (cf a.outs), .v (cf a.bad), .v (cf a.con), .v (up a.names)]), (4, .box [.v (.int .i64 0), .nils, .nils, .nils, .nils, .nils, .nils])] ⟨J, J, aj⟩ ⟨J, J, aj⟩ J J J J<|aF<|a7 aK J<|aR aK [] J aj J<|ab<|am ?_
 refine an J J ?_
 simp
theorem AA (a : Aig) (ha : AigS a) (l : Int) (h0 : 0 ≤ l) (h1 : l ≤ 2 * ay a + 1) : dn 161 [bq a, .int .i64 l] (.bool (py a l)) := by
 refine bC ac (f := 161) (fn := Tryz.f161) (N := 70) (rs := [.tmp 4]) (by kernel_rfl) rfl (by kernel_rfl) rfl rfl [(0, .v (bq a)), (1, .v (.int .i64 l))] ⟨rfl, rfl, aj⟩ rfl rfl ?_
 intro B
 have hi0 := ha.i0
 have hv0 := ha.v
 have hvA : ay a = a.i + (a.l.length : Nat) + (a.g.length : Nat) := rfl
 refine ag<|bE 2 [] J J J ⟨J, aj⟩ J J J<|af J<|ab<|ag<|a7 aK J<|ap [] (kn a ha.z) J J J J J J aj (.inl J) J J J<|bh J (by omega) (by omega) J ?_
 refine md 11 (el0 := [.bool false]) ac J km J pK J J J J J ⟨by omega, by omega, by omega, by simp; omega⟩ J J J J J ?_
 refine af J<|ab<|ae<|ag<|aa J<|dW ac J J J km J J J J J<|aa J<|ab<|aw ?_
 refine aZ (α := Nat) (fun j => mk [(1, .v (.int .i64 l)), (2, .ptr 2 0), (5, .own 11), (13, .v (.int .i64 ((ay a + 1).toNat : Nat))), (14, .v (.int .i64 j))] [(2, .box [.v (.int .i64 a.i), .v (jL a.l), .v (iH a.g), .v (cf a.outs), .v (cf a.bad), .v (cf a.con), .v (up a.names)]), (11, .row 4 1 ((eV a j ++ List.replicate ((ay a + 1).toNat - j) false).map sg))] 0) (fun j => j ≤ (ay a + 1).toNat) (fun j => (ay a + 1).toNat - j) 0 (Nat.zero_le _) (aL ⟨rfl, rfl, rfl, (fJ rfl (by simp)), rfl, aj⟩ ⟨rfl, (dV rfl (by simp [eV])), aj⟩ rfl rfl rfl rfl) ?_
 intro j hj
 have hl : (eV a j ++ List.replicate ((ay a + 1).toNat - j) false).length = (ay a + 1).toNat := by (rw [List.length_append, fF, List.length_replicate]; omega)
 refine ag<|bj J (fun h15 => ?_) (fun h15 => ?_)
 ·refine ab<|ae<|ai J<|ao<|ak<|ae<|aw<|ag<|aa J<|af J<|ab<|ae<|ae ?_
  refine aF<|aa J<|bY J J J J J (fun h18 => ?_) (fun h18 => ?_)
  ·refine aa J<|aa J<|ax aK J<|aC bm J<|kZ J J J J J (fun h23 => ?_) (fun h23 => ?_)
   ·refine aV J<|ab<|ai J<|aF<|aa J<|aa J ?_
    refine dG ac J J J J km J pK J (by omega) (by rw [List.length_map, hl]; omega) J J J J ?_
    refine jg ac J pK J J J J J (by rw [List.length_map, hl]; omega) jl J J J ?_
    refine ab<|ag<|aa J<|ax aK J<|aC bm J<|bX J J J J (by omega) (by omega) J J ?_
    refine ax aK J<|aC cR J<|aI ac J J cR J aB J J<|bX J J J J (by omega) (by omega) J J ?_
    refine bX J J J J (by omega) (by omega) J J ?_
    refine af J<|ab<|ag<|aa J<|jX J J J (decide_eq_false (by omega)) J J ?_
    refine ab<|ah J<|ao<|aH<|ak<|aF<|bh J (by omega) (by omega) J ?_
    refine aa J<|ar ?_
    exact aT (j + 1) (by show j + 1 ≤ _; omega) (by show (ay a + 1).toNat - (j + 1) < (ay a + 1).toNat - j; omega) (aL ⟨rfl, rfl, rfl, rfl, rfl, aj⟩ ⟨rfl, (dV rfl (congrArg (List.map sg) (by exact jB (by omega) (by unfold kY; rw [if_neg (by omega)]; exact decide_eq_true (by omega))))), aj⟩ rfl rfl rfl rfl)
   ·refine aV J<|ab<|ah J<|ao<|ak<|ag<|aa J<|ax aK J<|aC bm J<|bX J J J J (by omega) (by omega) J J ?_
    refine ax aK J<|aC cR J<|aI ac J J cR J aB J J<|bX J J J J (by omega) (by omega) J J ?_
    refine bX J J J J (by omega) (by omega) J J ?_
    refine af J<|ab<|ag<|aa J<|bY J J J J J (fun h38 => ?_) (fun h38 => ?_)
    ·refine ab<|ai J ?_
     have hkl : ((j : Int) - a.i - (a.l.length : Nat) - 1).toNat < a.g.length := by omega
     have hgg := ha.g ((j : Int) - a.i - (a.l.length : Nat) - 1).toNat hkl
     have hd1 : (eV a j ++ List.replicate ((ay a + 1).toNat - j) false).getD ((a.g.getD ((j : Int) - a.i - (a.l.length : Nat) - 1).toNat default).a / 2).toNat default = (eV a j).getD ((a.g.getD ((j : Int) - a.i - (a.l.length : Nat) - 1).toNat default).a / 2).toNat false := jE (by rw [fF]; omega)
     have hd2 : (eV a j ++ List.replicate ((ay a + 1).toNat - j) false).getD ((a.g.getD ((j : Int) - a.i - (a.l.length : Nat) - 1).toNat default).b / 2).toNat default = (eV a j).getD ((a.g.getD ((j : Int) - a.i - (a.l.length : Nat) - 1).toNat default).b / 2).toNat false := jE (by rw [fF]; omega)
     refine aF<|aa J<|aa J<|aa J<|ax aK J<|aC dg J<|aa J<|cj dg dY J (by omega) (bz (by omega)) J ?_
     refine bU ac J J dY J J J J<|bu bm J<|l8 J J J (by decide) (ya (by omega) (by omega)) J J ?_
     refine dG ac J J J J km J pK J (by omega) (by rw [List.length_map, hl]; omega) J J J J ?_
     refine gP ac J J J pK J (bz (by rw [hl]; omega)) J J J ?_
     refine bf (fun h50 => ?_) (fun h50 => ?_)
     ·refine aa J<|al J<|al J<|al J<|al J<|al J<|al J<|al J<|al J<|al J<|al J<|aV J ?_
      refine dG ac J J J J km J pK J (by omega) (by rw [List.length_map, hl]; omega) J J J J ?_
      refine jg ac J pK J J J J J (by rw [List.length_map, hl]; omega) jl J J J ?_
      refine ar<|aH<|ak<|aF<|bh J (by omega) (by omega) J ?_
      refine aa J<|ar ?_
      exact aT (j + 1) (by show j + 1 ≤ _; omega) (by show (ay a + 1).toNat - (j + 1) < (ay a + 1).toNat - j; omega) (aL ⟨rfl, rfl, rfl, rfl, rfl, aj⟩ ⟨rfl, (dV rfl (congrArg (List.map sg) (by exact jB (by omega) (by unfold kY; rw [if_pos (by omega), ← hd1, ← hd2]; simp_all)))), aj⟩ rfl rfl rfl rfl)
     ·refine aa J<|aa J<|ax aK J<|aC dg J<|aa J<|cj dg dY J (by omega) (bz (by omega)) J ?_
      refine bU ac J J dY J J J J<|bu bm J<|l8 J J J (by decide) (ya (by omega) (by omega)) J J ?_
      refine dG ac J J J J km J pK J (by omega) (by rw [List.length_map, hl]; omega) J J J J ?_
      refine gP ac J J J pK J (bz (by rw [hl]; omega)) J J J ?_
      refine aJ J ?_
      refine dG ac J J J J km J pK J (by omega) (by rw [List.length_map, hl]; omega) J J J J ?_
      refine jg ac J pK J J J J J (by rw [List.length_map, hl]; omega) jl J J J ?_
      refine ar<|aH<|ak<|aF<|bh J (by omega) (by omega) J ?_
      refine aa J<|ar ?_
      exact aT (j + 1) (by show j + 1 ≤ _; omega) (by show (ay a + 1).toNat - (j + 1) < (ay a + 1).toNat - j; omega) (aL ⟨rfl, rfl, rfl, rfl, rfl, aj⟩ ⟨rfl, (dV rfl (congrArg (List.map sg) (by exact jB (by omega) (by unfold kY; rw [if_pos (by omega), ← hd1, ← hd2]; simp_all)))), aj⟩ rfl rfl rfl rfl)
    ·refine ab<|ah J<|ao<|aH<|ak<|aF<|bh J (by omega) (by omega) J ?_
     refine aa J<|ar ?_
     exact aT (j + 1) (by show j + 1 ≤ _; omega) (by show (ay a + 1).toNat - (j + 1) < (ay a + 1).toNat - j; omega) (aL ⟨rfl, rfl, rfl, rfl, rfl, aj⟩ ⟨rfl, (dV rfl (congrArg (List.map sg) (by exact qw (by omega) (by unfold kY; rw [if_neg (by omega)]; exact decide_eq_false (by omega))))), aj⟩ rfl rfl rfl rfl)
  ·refine aa J<|al J<|al J<|al J<|al J<|aJ J<|ab<|ah J<|ao<|ak<|ag<|aa J<|ax aK J<|aC bm J ?_
   refine bX J J J J (by omega) (by omega) J J ?_
   refine ax aK J<|aC cR J<|aI ac J J cR J aB J J<|bX J J J J (by omega) (by omega) J J ?_
   refine bX J J J J (by omega) (by omega) J J ?_
   refine af J<|ab<|ag<|aa J<|bY J J J J J (fun h38 => ?_) (fun h38 => ?_)
   ·refine ab<|ai J ?_
    have hkl : ((j : Int) - a.i - (a.l.length : Nat) - 1).toNat < a.g.length := by omega
    have hgg := ha.g ((j : Int) - a.i - (a.l.length : Nat) - 1).toNat hkl
    have hd1 : (eV a j ++ List.replicate ((ay a + 1).toNat - j) false).getD ((a.g.getD ((j : Int) - a.i - (a.l.length : Nat) - 1).toNat default).a / 2).toNat default = (eV a j).getD ((a.g.getD ((j : Int) - a.i - (a.l.length : Nat) - 1).toNat default).a / 2).toNat false := jE (by rw [fF]; omega)
    have hd2 : (eV a j ++ List.replicate ((ay a + 1).toNat - j) false).getD ((a.g.getD ((j : Int) - a.i - (a.l.length : Nat) - 1).toNat default).b / 2).toNat default = (eV a j).getD ((a.g.getD ((j : Int) - a.i - (a.l.length : Nat) - 1).toNat default).b / 2).toNat false := jE (by rw [fF]; omega)
    refine aF<|aa J<|aa J<|aa J<|ax aK J<|aC dg J<|aa J<|cj dg dY J (by omega) (bz (by omega)) J ?_
    refine bU ac J J dY J J J J<|bu bm J<|l8 J J J (by decide) (ya (by omega) (by omega)) J J ?_
    refine dG ac J J J J km J pK J (by omega) (by rw [List.length_map, hl]; omega) J J J J ?_
    refine gP ac J J J pK J (bz (by rw [hl]; omega)) J J J ?_
    refine bf (fun h50 => ?_) (fun h50 => ?_)
    ·refine aa J<|al J<|al J<|al J<|al J<|al J<|al J<|al J<|al J<|al J<|al J<|aV J ?_
     refine dG ac J J J J km J pK J (by omega) (by rw [List.length_map, hl]; omega) J J J J ?_
     refine jg ac J pK J J J J J (by rw [List.length_map, hl]; omega) jl J J J ?_
     refine ar<|aH<|ak<|aF<|bh J (by omega) (by omega) J ?_
     refine aa J<|ar ?_
     exact aT (j + 1) (by show j + 1 ≤ _; omega) (by show (ay a + 1).toNat - (j + 1) < (ay a + 1).toNat - j; omega) (aL ⟨rfl, rfl, rfl, rfl, rfl, aj⟩ ⟨rfl, (dV rfl (congrArg (List.map sg) (by exact jB (by omega) (by unfold kY; rw [if_neg (by omega)]; exact decide_eq_true (by omega))))), aj⟩ rfl rfl rfl rfl)
    ·refine aa J<|aa J<|ax aK J<|aC dg J<|aa J<|cj dg dY J (by omega) (bz (by omega)) J ?_
     refine bU ac J J dY J J J J<|bu bm J<|l8 J J J (by decide) (ya (by omega) (by omega)) J J ?_
     refine dG ac J J J J km J pK J (by omega) (by rw [List.length_map, hl]; omega) J J J J ?_
     refine gP ac J J J pK J (bz (by rw [hl]; omega)) J J J ?_
     refine aJ J ?_
     refine dG ac J J J J km J pK J (by omega) (by rw [List.length_map, hl]; omega) J J J J ?_
     refine jg ac J pK J J J J J (by rw [List.length_map, hl]; omega) jl J J J ?_
     refine ar<|aH<|ak<|aF<|bh J (by omega) (by omega) J ?_
     refine aa J<|ar ?_
     exact aT (j + 1) (by show j + 1 ≤ _; omega) (by show (ay a + 1).toNat - (j + 1) < (ay a + 1).toNat - j; omega) (aL ⟨rfl, rfl, rfl, rfl, rfl, aj⟩ ⟨rfl, (dV rfl (congrArg (List.map sg) (by exact jB (by omega) (by unfold kY; rw [if_pos (by omega), ← hd1, ← hd2]; simp_all)))), aj⟩ rfl rfl rfl rfl)
   ·refine ab<|ah J<|ao<|aH<|ak<|aF<|bh J (by omega) (by omega) J ?_
    refine aa J<|ar ?_
    exact aT (j + 1) (by show j + 1 ≤ _; omega) (by show (ay a + 1).toNat - (j + 1) < (ay a + 1).toNat - j; omega) (aL ⟨rfl, rfl, rfl, rfl, rfl, aj⟩ ⟨rfl, (dV rfl (congrArg (List.map sg) (by exact qw (by omega) (by unfold kY; rw [if_neg (by omega)]; exact decide_eq_false (by omega))))), aj⟩ rfl rfl rfl rfl)
 ·refine ab<|ae<|ah J<|aO<|ba (a8 (aP ?_))
  refine ak<|ae ?_
  have hjn : j = (ay a + 1).toNat := by omega
  subst hjn
  refine aF<|aa J<|aa J<|l8 J J J (by decide) (ya h0 (by omega)) J J ?_
  refine dG ac J J J J km J pK J (by omega) (by rw [List.length_map, hl]; omega) J J J J ?_
  refine gP ac J J J pK J (bz (by rw [hl]; omega)) J J J ?_
  refine af J<|ab<|am ?_
  refine an J J ?_
  unfold py
  simp
end Go.Vd
namespace Go.Vd
open Go.Proofs Go.RowKit
theorem px {α : Type} {l m : List α} {k : Nat} {d : α} (h : l.length ≤ k) : (l ++ m).getD k d = m.getD (k - l.length) d := by
 rw [List.getD_eq_getElem?_getD, List.getD_eq_getElem?_getD, List.getElem?_append_right h]
theorem nY {b : List UInt8} {p : Nat} {most : Int} (h : (bK b p most).2.2 = 0) : ∃ v q, bK b p most = (v, q, 0) := ⟨(bK b p most).1, (bK b p most).2.1, by rw [← h]⟩
theorem nZ {b : List UInt8} {p : Nat} {most v : Int} {q : Nat} (hp : p ≤ b.length) (h : bK b p most = (v, q, 0)) : p ≤ q ∧ q ≤ b.length ∧ 0 ≤ v ∧ v ≤ 2147483647 ∧ v ≤ most := by
 have h1 := gv (most := most) hp
 have h2 := g7 b p most
 rw [h] at h1 h2
 exact ⟨h1.1, h1.2, h2.1, h2.2.1, h2.2.2.1 rfl⟩
theorem mU {b s : List UInt8} {p q : Nat} {most v : Int} (h : bK b p most = (v, q, 0)) (hw : eL b q s = true) : cG b p most s = some (v, q + s.length) := by
 unfold cG; rw [h]; simp [hw]
theorem mc {b s : List UInt8} {p : Nat} {most : Int} (h : ¬ (bK b p most).2.2 = 0) : cG b p most s = none := by
 unfold cG; rw [if_pos h]
theorem mW {b s : List UInt8} {p q : Nat} {most v : Int} (h : bK b p most = (v, q, 0)) (hw : ¬ eL b q s = true) : cG b p most s = none := by
 unfold cG; rw [h]; simp [hw]
theorem lr {b : List UInt8} {p : Nat} {most : Int} (h : p ≤ b.length) (hb : b.length ≤ 1000000000000) (hm : -1 ≤ most) (hm2 : most ≤ 1000000000000) {v : Int} {q : Nat} (he : bK b p most = (v, q, 0)) : dh Tryz.prog 160 [.ptr 900 0, .v (.fn (.func 76) [] []), .v (.int .i64 most)] [(900, RB b p)] (.ret (.v (.int .i64 v)) [(900, RB b q)]) := by
 have := nB (mv b p most h hb hm hm2) (by rw [he])
 rw [he] at this; exact this
theorem lc {b : List UInt8} {p : Nat} {most : Int} (h : p ≤ b.length) (hb : b.length ≤ 1000000000000) (hm : -1 ≤ most) (hm2 : most ≤ 1000000000000) (he : ¬ (bK b p most).2.2 = 0) : dh Tryz.prog 160 [.ptr 900 0, .v (.fn (.func 76) [] []), .v (.int .i64 most)] [(900, RB b p)] (.pan 189) :=
 nb (mv b p most h hb hm hm2) he
theorem ny {b : List UInt8} {p : Nat} {n : Int} (h : p ≤ b.length) (hb : b.length ≤ 1000000000000) (hn : 0 ≤ n) (hn2 : n ≤ 1000000000) {s : List ii} {q : Nat} (he : ec b n p = some (s, q)) : dh Tryz.prog 163 [.ptr 900 0, .v (.int .i64 n)] [(900, RB b p)] (.ret (.v (lu s)) [(900, RB b q)]) := by
 have := Ai b p n h hb hn hn2
 rw [he] at this; exact this
theorem nj {b : List UInt8} {p : Nat} {n : Int} (h : p ≤ b.length) (hb : b.length ≤ 1000000000000) (hn : 0 ≤ n) (hn2 : n ≤ 1000000000) (he : ec b n p = none) : dh Tryz.prog 163 [.ptr 900 0, .v (.int .i64 n)] [(900, RB b p)] (.pan 189) := by
 have := Ai b p n h hb hn hn2
 rw [he] at this; exact this
abbrev gro (a : Aig) (gs : List Gate) : Aig := { a with g := a.g ++ gs }
def Do (a : Aig) (b : List UInt8) (p : Nat) : Option (Int × Int × Nat) :=
 if eL b p [105, 110, 118, 32] then (cG b (p + 4) (20000 - ay a) [32]).bind fun x => (cG b x.2 (2 * (ay a + x.1) + 1) [10]).bind fun y => some (x.1, y.1, y.2) else none
def kd (b : List UInt8) (V : Int) : Nat → Nat → Nat → List Gate → Option (List Gate × Nat)
 | 0, _, p, gs => some (gs, p)
 | k + 1, j, p, gs => (cG b p (2 * (V + 1 + (j : Int)) - 1) [32]).bind fun x => (cG b x.2 x.1 [10]).bind fun y => kd b V k (j + 1) y.2 (gs ++ [⟨x.1, y.1⟩])
abbrev zP := (List ii × List ii × List ii) × Nat
def ym (b : List UInt8) (V : Int) (q : Nat) (p0 p1 : List ii) : Option zP := (ec b (1 * (V + 1)) q).bind fun x => some ((p0, p1, x.1), x.2)
def xW (b : List UInt8) (V : Int) (q : Nat) (p0 : List ii) : Option zP := (ec b (2 * (V + 1)) q).bind fun x => ym b V x.2 p0 x.1
def oQ (b : List UInt8) (V : Int) (q : Nat) : Option zP := (ec b (1 * (V + 1)) q).bind fun x => xW b V x.2 x.1
def FX (b : List UInt8) (V : Int) (q : Nat) (p0 p1 p2 : List ii) : Nat → Option zP
 | 0 => oQ b V q
 | 1 => xW b V q p0
 | 2 => ym b V q p0 p1
 | _ => some ((p0, p1, p2), q)
def zw (b : List UInt8) (inv : Int) (gs : List Gate) (r : zP) : Option (gO × Nat) := if r.2 < b.length then none else some (⟨gs, inv, r.1.1, r.1.2.1, r.1.2.2⟩, r.2)
def yL (a : Aig) (b : List UInt8) (inv : Int) (gs : List Gate) (q : Nat) : Option (gO × Nat) := if py (gro a gs) inv then none else (oQ b (ay (gro a gs)) q).bind (zw b inv gs)
def EQ (a : Aig) (b : List UInt8) (h : Int × Int × Nat) : Option (gO × Nat) := (kd b (ay a) h.1.toNat 0 h.2.2 []).bind fun g => yL a b h.2.1 g.1 g.2
def fk (a : Aig) (b : List UInt8) (p : Nat) : Option (gO × Nat) := (Do a b p).bind (EQ a b)
def G2 (b : List UInt8) (x : Option (gO × Nat)) : sq := match x with
 | some (c, q) => .ret (.v (dU c)) [(900, RB b q)]
 | none => .pan 189
def GOk (V : Int) (gs : List Gate) : Prop := ∀ k, k < gs.length → 0 ≤ (gs.getD k default).b ∧ (gs.getD k default).b ≤ (gs.getD k default).a ∧ (gs.getD k default).a < 2 * (V + 1 + (k : Nat))
theorem GOk.snoc {V : Int} {gs : List Gate} {x y : Int} (h : GOk V gs) (h0 : 0 ≤ y) (h1 : y ≤ x) (h2 : x < 2 * (V + 1 + (gs.length : Nat))) : GOk V (gs ++ [⟨x, y⟩]) := by
 intro k hk
 simp only [List.length_append, List.length_singleton] at hk
 by_cases hk' : k < gs.length
 ·rw [jE (d' := default) hk']; exact h k hk'
 ·have : k = gs.length := by omega
  subst this
  rw [px (Nat.le_refl _), Nat.sub_self]
  exact ⟨h0, h1, h2⟩
theorem AigS.gro {a : Aig} {gs : List Gate} (h : AigS a) (hg : GOk (ay a) gs) (hv : ay a + (gs.length : Nat) ≤ 1000000) : AigS (gro a gs) := by
 have hvA : ay a = a.i + (a.l.length : Nat) + (a.g.length : Nat) := rfl
 refine ⟨h.i0, ?_, h.o, h.b, h.c, fun k hk => ?_⟩
 ·show a.i + (a.l.length : Nat) + ((a.g ++ gs).length : Nat) ≤ _
  simp only [List.length_append]; omega
 ·simp only [List.length_append] at hk
  by_cases hk' : k < a.g.length
  ·show 0 ≤ ((a.g ++ gs).getD k default).b ∧ ((a.g ++ gs).getD k default).b ≤ ((a.g ++ gs).getD k default).a ∧ ((a.g ++ gs).getD k default).a < _
   rw [jE (d' := default) hk']; exact h.g k hk'
  ·show 0 ≤ ((a.g ++ gs).getD k default).b ∧ ((a.g ++ gs).getD k default).b ≤ ((a.g ++ gs).getD k default).a ∧ ((a.g ++ gs).getD k default).a < 2 * (a.i + (a.l.length : Nat) + 1 + (k : Nat))
   rw [px (by omega)]
   have := hg (k - a.g.length) (by omega)
   refine ⟨this.1, this.2.1, ?_⟩
   have h3 := this.2.2
   omega
theorem n8 {α β : Type} {x : Option α} {a : α} {f : α → Option β} (h : x = some a) : x.bind f = f a := by rw [h]; rfl
theorem eP {α β : Type} {x : Option α} {f : α → Option β} (h : x = none) : x.bind f = none := by rw [h]; rfl
set_option maxHeartbeats 40000000 in
theorem Dx (b : List UInt8) (p : Nat) (a : Aig) (ha : AigS a) (hv : ay a ≤ 20000) (h : p ≤ b.length) (hb : b.length ≤ 1000000000000) : dh Tryz.prog 89 [.ptr 900 0, .v (bq a)] [(900, .box [.v (cH b), .v (.int .i64 p)])] (G2 b (fk a b p)) := by
 refine cY ac (f := 89) (fn := Tryz.f89) (N := 109) (rs := [.cell 4 119]) (by kernel_rfl) rfl (by kernel_rfl) rfl rfl rfl ?_
 intro B β
 refine cT [(0, .ptr 900 0), (1, .v (bq a))] [(900, .box [.v (cH b), .v (.int .i64 p)])] ⟨J, J, aj⟩ ⟨J, aj⟩ J J J J ?_
 have hai := ha.i0
 have hav := ha.v
 have hvA : ay a = a.i + (a.l.length : Nat) + (a.g.length : Nat) := rfl
 refine ag<|bE 3 [] J J J ⟨J, aj⟩ J J J<|bl (id := 4) ea J<|ab<|ag<|bl (id := 5) ea J<|ab<|ae ?_
 by_cases hw0 : eL b p [105, 110, 118, 32] = true
 ·have hw0l : p + [105, 110, 118, 32].length ≤ b.length := c9 (by omega) hw0
  simp only [List.length_cons, List.length_nil] at hw0l
  refine aF<|aa J<|bn (fE b [105, 110, 118, 32] p (by omega) hb (by decide) hw0) J J J J J J J J J J J J ?_
  refine ab<|ae ?_
  by_cases hn1 : (bK b (p + 4) (20000 - ay a)).2.2 = 0
  ·obtain ⟨v1, q1, hn1x⟩ := nY hn1
   have hn1q := nZ (show (p + 4) ≤ b.length by omega) hn1x
   refine aF<|aa J<|a7 aK J<|ap [] (kn a ha.z) J J J J J J aj (.inl J) J J J<|bX J J J J (by omega) (by omega) J J ?_
   refine bn (lr (b := b) (p := (p + 4)) (most := (20000 - ay a)) (by omega) hb (by omega) (by omega) hn1x) J J J J J J J J J J J J ?_
   refine af J<|ab<|ae ?_
   by_cases hw1 : eL b q1 [32] = true
   ·have hw1l : q1 + [32].length ≤ b.length := c9 (by omega) hw1
    simp only [List.length_cons, List.length_nil] at hw1l
    have hm1 : cG b (p + 4) (20000 - ay a) [32] = some (v1, q1 + 1) := mU hn1x hw1
    refine aF<|aa J<|bn (fE b [32] q1 (by omega) hb (by decide) hw1) J J J J J J J J J J J J ?_
    refine ab<|ae<|aS (L := [([3], []), ([], []), ([], []), ([], []), ([], []), ([900], []), ([900], []), ([900], []), ([], []), ([], [])]) (by kernel_rfl) mixed (by kernel_rfl)<|a7 aK J<|ap [] (kn a ha.z) J J J J J J aj (.inl J) J J J<|aa J<|bh J (by omega) (by omega) J ?_
    refine aa J<|bJ J<|ax io J<|aC bm J<|af J<|af J<|ab<|ae ?_
    by_cases hn2 : (bK b (q1 + 1) (2 * (ay a + v1) + 1)).2.2 = 0
    ·obtain ⟨v2, q2, hn2x⟩ := nY hn2
     have hn2q := nZ (show (q1 + 1) ≤ b.length by omega) hn2x
     refine aF<|aa J<|aa J<|dA J J J J (by omega) (by omega) J J ?_
     refine bh J (by omega) (by omega) J ?_
     refine bn (lr (b := b) (p := (q1 + 1)) (most := (2 * (ay a + v1) + 1)) (by omega) hb (by omega) (by omega) hn2x) J J J J J J J J J J J J ?_
     refine ax ea J<|aR bm [] J aj J<|ab<|ae ?_
     by_cases hw2 : eL b q2 [10] = true
     ·have hw2l : q2 + [10].length ≤ b.length := c9 (by omega) hw2
      simp only [List.length_cons, List.length_nil] at hw2l
      have hm2 : cG b (q1 + 1) (2 * (ay a + v1) + 1) [10] = some (v2, q2 + 1) := mU hn2x hw2
      have hH : fk a b p = EQ a b (v1, v2, q2 + 1) := n8 (by unfold Do; rw [if_pos hw0, hm1]; show Option.bind (cG b (q1 + 1) (2 * (ay a + v1) + 1) [10]) _ = _; rw [hm2]; rfl)
      refine aF<|aa J<|bn (fE b [10] q2 (by omega) hb (by decide) hw2) J J J J J J J J J J J J ?_
      refine ab<|ae<|ag<|aa J<|aa J<|ab<|aw<|cg (fO (bid := 5) (id := 505) (e := 63) (sz := 2) (j := 0) J J J (by decide)) ?_
      refine aZ (α := Nat × Nat × List Gate) (fun ⟨j, q, gs⟩ => mk [(0, .ptr 900 0), (3, .ptr 3 0), (4, .ptr 4 0), (5, .ptr 5 0), (8, .v (.int .i64 (q1 + 1 : Nat))), (39, .v (.int .i64 v1)), (40, .v (.int .i64 j))] [(900, .box [.v (cH b), .v (.int .i64 q)]), (3, .box [.v (.int .i64 a.i), .v (jL a.l), .v (iH a.g), .v (cf a.outs), .v (cf a.bad), .v (cf a.con), .v (up a.names)]), (4, .box [.nils, .v (.int .i64 0), .nils, .nils, .nils]), (5, .box [.own 505, .v (.int .i64 v2), .nils, .nils, .nils]), (505, .row 63 2 (gs.map nT))] ⟨0, 0, [(900, β 900)]⟩) (fun ⟨j, q, gs⟩ => j ≤ v1.toNat ∧ kd b (ay a) (v1.toNat - j) j q gs = kd b (ay a) v1.toNat 0 (q2 + 1) [] ∧ q ≤ b.length ∧ gs.length = j ∧ GOk (ay a) gs) (fun ⟨j, q, gs⟩ => v1.toNat - j) ⟨0, q2 + 1, []⟩ ⟨Nat.zero_le _, rfl, by omega, rfl, fun k hk => by simp at hk⟩ (aL ⟨rfl, rfl, rfl, rfl, rfl, rfl, rfl, aj⟩ ⟨rfl, rfl, rfl, rfl, rfl, aj⟩ rfl rfl rfl rfl) ?_
      rintro ⟨j, q, gs⟩ ⟨hj1, hj2, hj3, hj4, hj5⟩
      refine ag<|bj J (fun h41 => ?_) (fun h41 => ?_)
      ·refine ab<|ae<|ai J<|ao<|ak<|ae<|aw<|ag<|aa J<|af J<|ab<|ag ?_
       refine bl (id := 10) dY J<|ab<|ae ?_
       by_cases hg1 : (bK b q (2 * (ay a + 1 + (j : Int)) - 1)).2.2 = 0
       ·obtain ⟨w1, r1, hg1x⟩ := nY hg1
        have hg1q := nZ (show q ≤ b.length by omega) hg1x
        refine aF<|aa J<|a7 aK J<|ap [] (kn a ha.z) J J J J J J aj (.inl J) J J J<|bh J (by omega) (by omega) J ?_
        refine aa J<|bh J (by omega) (by omega) J ?_
        refine dA J J J J (by omega) (by omega) J J ?_
        refine bX J J J J (by omega) (by omega) J J ?_
        refine bn (lr (b := b) (p := q) (most := (2 * (ay a + 1 + (j : Int)) - 1)) (by omega) hb (by omega) (by omega) hg1x) J J J J J J J J J J J J ?_
        refine ax dY J<|aR bm [] J aj J<|ab<|ae ?_
        by_cases hu1 : eL b r1 [32] = true
        ·have hu1l : r1 + [32].length ≤ b.length := c9 (by omega) hu1
         simp only [List.length_cons, List.length_nil] at hu1l
         have hk1 : cG b q (2 * (ay a + 1 + (j : Int)) - 1) [32] = some (w1, r1 + 1) := mU hg1x hu1
         refine aF<|aa J<|bn (fE b [32] r1 (by omega) hb (by decide) hu1) J J J J J J J J J J J J ?_
         refine ab<|ae ?_
         by_cases hg2 : (bK b (r1 + 1) w1).2.2 = 0
         ·obtain ⟨w2, r2, hg2x⟩ := nY hg2
          have hg2q := nZ (show (r1 + 1) ≤ b.length by omega) hg2x
          refine aF<|aa J<|ax dY J<|aC bm J<|bn (lr (b := b) (p := (r1 + 1)) (most := w1) (by omega) hb (by omega) (by omega) hg2x) J J J J J J J J J J J J ?_
          refine ax dY J<|aR bm [] J aj J<|ab<|ae ?_
          by_cases hu2 : eL b r2 [10] = true
          ·have hu2l : r2 + [10].length ≤ b.length := c9 (by omega) hu2
           simp only [List.length_cons, List.length_nil] at hu2l
           have hk2 : cG b (r1 + 1) w1 [10] = some (w2, r2 + 1) := mU hg2x hu2
           have hst : kd b (ay a) (v1.toNat - (j + 1)) (j + 1) (r2 + 1) (gs ++ [⟨w1, w2⟩]) = kd b (ay a) v1.toNat 0 (q2 + 1) [] := by (rw [← hj2, show v1.toNat - j = (v1.toNat - (j + 1)) + 1 by omega]; (conv => rhs; unfold kd); rw [hk1]; show _ = Option.bind (cG b (r1 + 1) w1 [10]) _; rw [hk2]; rfl)
           refine aF<|aa J<|bn (fE b [10] r2 (by omega) hb (by decide) hu2) J J J J J J J J J J J J ?_
           refine ab<|aF<|ax ea J<|aC dg J<|a7 dY J<|bZ (es := [Gate.mk w1 w2].map nT) dg dY [] J aj J ?_
           refine cw 66 [] ac J dg J dg J dY J J J J ⟨J, J, aj⟩ J (elOk.cons rfl rfl elOk.nil) cA (by constructor <;> simp <;> omega) J J J ?_
           refine ax ea J<|gF [(66, _)] ac J dg J J J ⟨J, aj⟩ J J J J J J J J<|ar<|aH<|ak<|aF<|bh J (by omega) (by omega) J ?_
           refine aa J<|ar ?_
           exact aT ⟨j + 1, r2 + 1, gs ++ [⟨w1, w2⟩]⟩ ⟨by show j + 1 ≤ _; omega, hst, by show r2 + 1 ≤ _; omega, by simp; omega, hj5.snoc (by omega) (by omega) (by rw [hj4]; omega)⟩ (by show v1.toNat - (j + 1) < v1.toNat - j; omega) (cd [(505, 66)] ⟨J, J, J, J, J, J, J, aj⟩ ⟨J, J, J, J, J, aj⟩ J J J J J)
          ·have hN : fk a b p = none := by (rw [hH]; exact eP (show kd b (ay a) v1.toNat 0 (q2 + 1) [] = none by (rw [← hj2, show v1.toNat - j = (v1.toNat - (j + 1)) + 1 by omega]; unfold kd; rw [hk1]; show Option.bind (cG b (r1 + 1) w1 [10]) _ = none; rw [mW hg2x hu2]; rfl)))
           refine bB 1 (by kernel_rfl) J<|aa J<|ar ?_
           refine cC [] [] (fB b [10] r2 (by omega) hb (by decide) hu2) J J J J ⟨J, aj⟩ J J J aj aj J J J J (fun ch hch => ?_)
           refine be (bx (be (dp (bx (be (bF hch J ?_))))))
           rw [hN]
           rfl
         ·have hN : fk a b p = none := by (rw [hH]; exact eP (show kd b (ay a) v1.toNat 0 (q2 + 1) [] = none by (rw [← hj2, show v1.toNat - j = (v1.toNat - (j + 1)) + 1 by omega]; unfold kd; rw [hk1]; show Option.bind (cG b (r1 + 1) w1 [10]) _ = none; rw [mc hg2]; rfl)))
          refine bB 3 (by kernel_rfl) J<|aa J<|ax dY J<|aC bm J<|ar ?_
          refine cC [] [] (lc (b := b) (p := (r1 + 1)) (most := w1) (by omega) hb (by omega) (by omega) hg2) J J J J ⟨J, aj⟩ J J J aj aj J J J J (fun ch hch => ?_)
          refine be (bx (be (dp (bx (be (bF hch J ?_))))))
          rw [hN]
          rfl
        ·have hN : fk a b p = none := by (rw [hH]; exact eP (show kd b (ay a) v1.toNat 0 (q2 + 1) [] = none by (rw [← hj2, show v1.toNat - j = (v1.toNat - (j + 1)) + 1 by omega]; unfold kd; rw [mW hg1x hu1]; rfl)))
         refine bB 1 (by kernel_rfl) J<|aa J<|ar ?_
         refine cC [] [] (fB b [32] r1 (by omega) hb (by decide) hu1) J J J J ⟨J, aj⟩ J J J aj aj J J J J (fun ch hch => ?_)
         refine be (bx (be (dp (bx (be (bF hch J ?_))))))
         rw [hN]
         rfl
       ·have hN : fk a b p = none := by (rw [hH]; exact eP (show kd b (ay a) v1.toNat 0 (q2 + 1) [] = none by (rw [← hj2, show v1.toNat - j = (v1.toNat - (j + 1)) + 1 by omega]; unfold kd; rw [mc hg1]; rfl)))
        refine bB 8 (by kernel_rfl) J<|aa J<|a7 aK J<|ap [] (kn a ha.z) J J J J J J aj (.inl J) J J J<|bh J (by omega) (by omega) J ?_
        refine aa J<|bh J (by omega) (by omega) J ?_
        refine dA J J J J (by omega) (by omega) J J ?_
        refine bX J J J J (by omega) (by omega) J J ?_
        refine ar ?_
        refine cC [] [] (lc (b := b) (p := q) (most := (2 * (ay a + 1 + (j : Int)) - 1)) (by omega) hb (by omega) (by omega) hg1) J J J J ⟨J, aj⟩ J J J aj aj J J J J (fun ch hch => ?_)
        refine be (bx (be (dp (bx (be (bF hch J ?_))))))
        rw [hN]
        rfl
      ·refine ab<|ae<|ah J<|aO<|ba (a8 (aP ?_))
       refine ak<|ae ?_
       have hjv : (j : Int) = v1 := by omega
       have hG : kd b (ay a) v1.toNat 0 (q2 + 1) [] = some (gs, q) := by (rw [← hj2, show v1.toNat - j = 0 by omega]; rfl)
       have hC1 : fk a b p = yL a b v2 gs q := by (rw [hH]; exact n8 hG)
       have hgS : AigS (gro a gs) := ha.gro hj5 (by omega)
       have hgv : ay (gro a gs) = ay a + (gs.length : Nat) := by (show a.i + (a.l.length : Nat) + ((a.g ++ gs).length : Nat) = _; simp only [List.length_append]; omega)
       refine cg (fO (bid := 5) (id := 702) (e := 174) (sz := 2) (j := 2) J J J (by decide)) ?_
       refine cg (fO (bid := 5) (id := 703) (e := 174) (sz := 2) (j := 3) J J J (by decide)) ?_
       refine cg (fO (bid := 5) (id := 704) (e := 174) (sz := 2) (j := 4) J J J (by decide)) ?_
       refine cg (bp (id := 505) J)<|cg (bp (id := 702) J)<|cg (bp (id := 703) J)<|cg (bp (id := 704) J)<|cT [(0, .ptr 900 0), (3, .ptr 3 0), (4, .ptr 4 0), (5, .ptr 5 0), (8, .v (.int .i64 (q1 + 1 : Nat)))] [(900, .box [.v (cH b), .v (.int .i64 q)]), (3, .box [.v (.int .i64 a.i), .v (jL a.l), .v (iH a.g), .v (cf a.outs), .v (cf a.bad), .v (cf a.con), .v (up a.names)]), (4, .box [.nils, .v (.int .i64 0), .nils, .nils, .nils]), (5, .box [.v (iH gs), .v (.int .i64 v2), .v (lu []), .v (lu []), .v (lu [])])] ⟨J, J, J, J, J, aj⟩ ⟨J, J, J, J, aj⟩ J J J J<|aF<|a7 aK J<|a7 ea J ?_
       refine ap [] (vj a ⟨gs, v2, [], [], []⟩ (by show a.g.length + gs.length ≤ _; omega)) J J J J J J aj (.inl rfl) J J J ?_
       refine bl (id := 11) aK J<|aR aK [] J aj J<|ab<|ae<|ag<|a7 aK J<|ax ea J<|aC bm J<|ap [] (AA (gro a gs) hgS v2 (by omega) (by omega)) J J J J J J aj (.inl J) J J J ?_
       refine bf (fun h75 => ?_) (fun h75 => ?_)
       ·refine ab<|ai J ?_
        have hN : fk a b p = none := by (rw [hC1]; unfold yL; rw [if_pos h75])
        refine bB 3 (by kernel_rfl) J<|aa J<|bD [] ac J kK J J aj J J J J J J<|gL ac (by decide) J J kK J J ?_
        refine ar ?_
        refine eH J J J ?_
        refine be (fx (by decide) rfl ?_)
        rw [hN]
        rfl
       ·refine ab<|ah J<|ao<|ak<|ae<|ae ?_
        have hC2 : fk a b p = (oQ b (ay (gro a gs)) q).bind (zw b v2 gs) := by (rw [hC1]; unfold yL; rw [if_neg (by simp [h75])])
        refine aF<|a7 aK J<|ap [] (Ag (gro a gs) hgS.z) J J J J J J aj (.inl J) J J J<|aa J<|ab<|aw ?_
        refine aZ (α := Nat × Nat × List ii × List ii × List ii) (fun ⟨i, qi, x0, x1, x2⟩ => mk [(0, .ptr 900 0), (4, .ptr 4 0), (5, .ptr 5 0), (80, .v (.agg [.int .i64 (1 * ((ay (gro a gs)) + 1)), .int .i64 (2 * ((ay (gro a gs)) + 1)), .int .i64 (1 * ((ay (gro a gs)) + 1))])), (81, .v (.int .i64 i))] [(900, .box [.v (cH b), .v (.int .i64 qi)]), (4, .box [.nils, .v (.int .i64 0), .nils, .nils, .nils]), (5, .box [.v (iH gs), .v (.int .i64 v2), .v (lu x0), .v (lu x1), .v (lu x2)])] ⟨0, 0, [(900, β 900)]⟩) (fun ⟨i, qi, x0, x1, x2⟩ => i ≤ 3 ∧ FX b (ay (gro a gs)) qi x0 x1 x2 i = oQ b (ay (gro a gs)) q ∧ qi ≤ b.length) (fun ⟨i, qi, x0, x1, x2⟩ => 3 - i) ⟨0, q, [], [], []⟩ ⟨by decide, rfl, hj3⟩ (aL ⟨rfl, rfl, rfl, rfl, rfl, aj⟩ ⟨rfl, rfl, rfl, aj⟩ rfl rfl rfl rfl) ?_
        rintro ⟨i, qi, x0, x1, x2⟩ ⟨hi1, hi2, hi3⟩
        refine ag<|bj J (fun h82 => ?_) (fun h82 => ?_)
        ·refine ab<|ae<|ai J<|ao<|ak<|ae<|aw<|ae ?_
         by_cases hc0 : ¬ i = 0
         ·by_cases hc1 : ¬ i = 1
          ·have hi2 : i = 2 := by omega
           subst hi2
           refine aF<|aa J<|gM ac J J J mj J bm J J (by decide) (by decide) J J J ?_
           refine af J<|af J<|ab ?_
           by_cases hp2 : (ec b (1 * ((ay (gro a gs)) + 1)) qi).isSome = true
           ·obtain ⟨⟨pn, qn⟩, hp22⟩ := Option.isSome_iff_exists.1 hp2
            have hpq := nz hi3 hp22
            have hst5 : some ((x0, x1, pn), qn) = oQ b (ay (gro a gs)) q := by (rw [← hi2]; show _ = ym b (ay (gro a gs)) qi x0 x1; unfold ym; rw [hp22]; rfl)
            refine aF<|aa J<|aa J<|aa J<|bn (ny (b := b) (p := qi) (n := (1 * ((ay (gro a gs)) + 1))) hi3 hb (by omega) (by omega) hp22) J J J J J J J J J J J J ?_
            refine ax ea J<|cI ac J J J J mF J eX (by decide) (by decide) J J J J ?_
            refine aR eX [] J aj J<|ar<|aH<|ak<|aF<|bh J (by omega) (by omega) J ?_
            refine aa J<|ar ?_
            exact aT ⟨3, qn, x0, x1, pn⟩ ⟨by decide, hst5, hpq.2⟩ (by show (3 - 3 : Nat) < 3 - 2; decide) (aL ⟨J, J, J, J, J, aj⟩ ⟨J, J, J, aj⟩ J J J J)
           ·have hp22 := ll hp2
            have hN : fk a b p = none := by (rw [hC2]; exact eP (by rw [← hi2]; exact eP hp22))
            refine bB 3 (by kernel_rfl) J<|aa J<|aa J<|aa J<|ar ?_
            refine cC [] [] (nj (b := b) (p := qi) (n := (1 * ((ay (gro a gs)) + 1))) hi3 hb (by omega) (by omega) hp22) J J J J ⟨J, aj⟩ J J J aj aj J J J J (fun ch hch => ?_)
            refine bx (be (dp (bx (be (bF hch J ?_)))))
            rw [hN]
            rfl
          ·have hi1 : i = 1 := Classical.not_not.1 hc1
           subst hi1
           refine aF<|aa J<|gM ac J J J mj J bm J J (by decide) (by decide) J J J ?_
           refine af J<|af J<|ab ?_
           by_cases hp1 : (ec b (2 * ((ay (gro a gs)) + 1)) qi).isSome = true
           ·obtain ⟨⟨pn, qn⟩, hp12⟩ := Option.isSome_iff_exists.1 hp1
            have hpq := nz hi3 hp12
            have hst5 : ym b (ay (gro a gs)) qn x0 pn = oQ b (ay (gro a gs)) q := by (rw [← hi2]; show _ = xW b (ay (gro a gs)) qi x0; unfold xW; rw [hp12]; rfl)
            refine aF<|aa J<|aa J<|aa J<|bn (ny (b := b) (p := qi) (n := (2 * ((ay (gro a gs)) + 1))) hi3 hb (by omega) (by omega) hp12) J J J J J J J J J J J J ?_
            refine ax ea J<|cI ac J J J J mF J eX (by decide) (by decide) J J J J ?_
            refine aR eX [] J aj J<|ar<|aH<|ak<|aF<|bh J (by omega) (by omega) J ?_
            refine aa J<|ar ?_
            exact aT ⟨2, qn, x0, pn, x2⟩ ⟨by decide, hst5, hpq.2⟩ (by show (3 - 2 : Nat) < 3 - 1; decide) (aL ⟨J, J, J, J, J, aj⟩ ⟨J, J, J, aj⟩ J J J J)
           ·have hp12 := ll hp1
            have hN : fk a b p = none := by (rw [hC2]; exact eP (by rw [← hi2]; exact eP hp12))
            refine bB 3 (by kernel_rfl) J<|aa J<|aa J<|aa J<|ar ?_
            refine cC [] [] (nj (b := b) (p := qi) (n := (2 * ((ay (gro a gs)) + 1))) hi3 hb (by omega) (by omega) hp12) J J J J ⟨J, aj⟩ J J J aj aj J J J J (fun ch hch => ?_)
            refine bx (be (dp (bx (be (bF hch J ?_)))))
            rw [hN]
            rfl
         ·have hi0 : i = 0 := Classical.not_not.1 hc0
          subst hi0
          refine aF<|aa J<|gM ac J J J mj J bm J J (by decide) (by decide) J J J ?_
          refine af J<|af J<|ab ?_
          by_cases hp0 : (ec b (1 * ((ay (gro a gs)) + 1)) qi).isSome = true
          ·obtain ⟨⟨pn, qn⟩, hp02⟩ := Option.isSome_iff_exists.1 hp0
           have hpq := nz hi3 hp02
           have hst5 : xW b (ay (gro a gs)) qn pn = oQ b (ay (gro a gs)) q := by (rw [← hi2]; show _ = oQ b (ay (gro a gs)) qi; unfold oQ; rw [hp02]; rfl)
           refine aF<|aa J<|aa J<|aa J<|bn (ny (b := b) (p := qi) (n := (1 * ((ay (gro a gs)) + 1))) hi3 hb (by omega) (by omega) hp02) J J J J J J J J J J J J ?_
           refine ax ea J<|cI ac J J J J mF J eX (by decide) (by decide) J J J J ?_
           refine aR eX [] J aj J<|ar<|aH<|ak<|aF<|bh J (by omega) (by omega) J ?_
           refine aa J<|ar ?_
           exact aT ⟨1, qn, pn, x1, x2⟩ ⟨by decide, hst5, hpq.2⟩ (by show (3 - 1 : Nat) < 3 - 0; decide) (aL ⟨J, J, J, J, J, aj⟩ ⟨J, J, J, aj⟩ J J J J)
          ·have hp02 := ll hp0
           have hN : fk a b p = none := by (rw [hC2]; exact eP (by rw [← hi2]; exact eP hp02))
           refine bB 3 (by kernel_rfl) J<|aa J<|aa J<|aa J<|ar ?_
           refine cC [] [] (nj (b := b) (p := qi) (n := (1 * ((ay (gro a gs)) + 1))) hi3 hb (by omega) (by omega) hp02) J J J J ⟨J, aj⟩ J J J aj aj J J J J (fun ch hch => ?_)
           refine bx (be (dp (bx (be (bF hch J ?_)))))
           rw [hN]
           rfl
        ·refine ab<|ae<|ah J<|aO<|ba (a8 (aP ?_))
         refine ak<|ae<|ae ?_
         have hi4 : i = 3 := by omega
         subst hi4
         have hR : oQ b (ay (gro a gs)) q = some ((x0, x1, x2), qi) := hi2.symm
         refine aS (L := [([], []), ([900], []), ([900], []), ([900], []), ([], []), ([900], []), ([900], []), ([900], []), ([], []), ([], [])]) (by kernel_rfl) mixed (by kernel_rfl)<|aa J<|bJ J<|ax io J<|aC bm J<|aa J<|bJ J<|ax io J<|aC bG J<|aI ac J J bG J aB J J<|bj J (fun h101 => ?_) (fun h101 => ?_)
         ·refine ab<|ai J ?_
          have hN : fk a b p = none := by (rw [hC2, n8 hR]; unfold zw; rw [if_pos (show qi < b.length by omega)])
          refine bB 6 (by kernel_rfl) J<|aa J<|bJ J<|ax io J<|aC bm J<|bD [] ac J kK J J aj J J J J J J<|gL ac (by decide) J J kK J J ?_
          refine ar ?_
          refine eH J J J ?_
          refine be (fx (by decide) rfl ?_)
          rw [hN]
          rfl
         ·refine ab<|ah J<|ao<|ak<|ae ?_
          have hS : fk a b p = some (⟨gs, v2, x0, x1, x2⟩, qi) := by (rw [hC2, n8 hR]; unfold zw; rw [if_neg (show ¬ qi < b.length by omega)])
          refine aF<|a7 ea J<|aR ea [] J aj J<|ab<|am ?_
          refine eo (L' := [(900, _)]) J (.inl rfl) ⟨J, aj⟩ J J J J ?_
          rw [hS]
          rfl
     ·have hN : fk a b p = none := eP (by unfold Do; rw [if_pos hw0, hm1]; show Option.bind (cG b (q1 + 1) (2 * (ay a + v1) + 1) [10]) _ = none; rw [mW hn2x hw2]; rfl)
      refine bB 1 (by kernel_rfl) J<|aa J<|ar ?_
      refine cC [] [] (fB b [10] q2 (by omega) hb (by decide) hw2) J J J J ⟨J, aj⟩ J J J aj aj J J J J (fun ch hch => ?_)
      refine be (bF hch J ?_)
      rw [hN]
      rfl
    ·have hN : fk a b p = none := eP (by unfold Do; rw [if_pos hw0, hm1]; show Option.bind (cG b (q1 + 1) (2 * (ay a + v1) + 1) [10]) _ = none; rw [mc hn2]; rfl)
     refine bB 4 (by kernel_rfl) J<|aa J<|aa J<|dA J J J J (by omega) (by omega) J J ?_
     refine bh J (by omega) (by omega) J ?_
     refine ar ?_
     refine cC [] [] (lc (b := b) (p := (q1 + 1)) (most := (2 * (ay a + v1) + 1)) (by omega) hb (by omega) (by omega) hn2) J J J J ⟨J, aj⟩ J J J aj aj J J J J (fun ch hch => ?_)
     refine be (bF hch J ?_)
     rw [hN]
     rfl
   ·have hN : fk a b p = none := eP (by unfold Do; rw [if_pos hw0, mW hn1x hw1]; rfl)
    refine bB 1 (by kernel_rfl) J<|aa J<|ar ?_
    refine cC [] [] (fB b [32] q1 (by omega) hb (by decide) hw1) J J J J ⟨J, aj⟩ J J J aj aj J J J J (fun ch hch => ?_)
    refine be (bF hch J ?_)
    rw [hN]
    rfl
  ·have hN : fk a b p = none := eP (by unfold Do; rw [if_pos hw0, mc hn1]; rfl)
   refine bB 4 (by kernel_rfl) J<|aa J<|a7 aK J<|ap [] (kn a ha.z) J J J J J J aj (.inl J) J J J<|bX J J J J (by omega) (by omega) J J ?_
   refine ar ?_
   refine cC [] [] (lc (b := b) (p := (p + 4)) (most := (20000 - ay a)) (by omega) hb (by omega) (by omega) hn1) J J J J ⟨J, aj⟩ J J J aj aj J J J J (fun ch hch => ?_)
   refine be (bF hch J ?_)
   rw [hN]
   rfl
 ·have hN : fk a b p = none := eP (by unfold Do; rw [if_neg hw0])
  refine bB 1 (by kernel_rfl) J<|aa J<|ar ?_
  refine cC [] [] (fB b [105, 110, 118, 32] p (by omega) hb (by decide) hw0) J J J J ⟨J, aj⟩ J J J aj aj J J J J (fun ch hch => ?_)
  refine be (bF hch J ?_)
  rw [hN]
  rfl
end Go.Vd
namespace Go.Vd
open Go.Proofs Go.RowKit
theorem wg (c : UInt8) : Lib.indexByte kinds5 c = dZ c := by
 have h : ∀ n : Fin 256, Lib.indexByte kinds5 (UInt8.ofNat n.val) = dZ (UInt8.ofNat n.val) := by decide +kernel
 have := h ⟨c.toNat, c.toNat_lt⟩
 simpa using this
theorem vT (c : UInt8) : dn 158 [.str (bs kinds5), .int .u8 c.toNat] (.int .i64 (dZ c)) := by
 refine ⟨cJ (fn := Tryz.f158) (by kernel_rfl) rfl (by kernel_rfl), fun w im us hG hp => ?_⟩
 obtain ⟨u, v, rfl, hu, hv⟩ := GL hp
 cases hu.str_inv; cases hv.int_inv
 refine (Tryz.strings_IndexByte (bs kinds5) (c.toNat : Nat) w).mono ?_
 rintro e w' ⟨rfl, rfl⟩
 have : ((c.toNat : Int)).toNat.toUInt8 = c := by simp
 rw [od, this, wg]
 exact ⟨_, rfl, Below.refl _ _, .int _ _⟩
theorem wt (a : Aig) (c : UInt8) : dn 210 [bq a, .int .u8 c.toNat] (.int .i64 (fp a (dZ c))) := by
 refine bC ac (f := 210) (fn := Tryz.f210) (N := 30) (rs := [.tmp 4]) (by kernel_rfl) rfl (by kernel_rfl) rfl rfl [(0, .v (bq a)), (1, .v (.int .u8 c.toNat))] ⟨rfl, rfl, aj⟩ rfl rfl ?_
 intro B
 refine ag<|bE 2 [] J J J ⟨J, aj⟩ J J J<|af J<|ab<|ae<|ag<|aa J<|ab<|aw<|ag<|bc J J J J J (fun h7 => ?_) (fun h7 => ?_)
 ·refine af J<|ab<|ai J<|ag<|ax aK J<|aC bm J<|af J<|ab<|am<|az (au (an J J ?_))
  unfold fp dZ
  rw [jz (c := c) (d := 105) h7]; rfl
 ·refine af J<|ab<|ah J<|ag<|bc J J J J J (fun h11 => ?_) (fun h11 => ?_)
  ·refine af J<|ab<|ai J<|ag<|ax aK J<|aC cR J<|aI ac J J cR J aB J J<|af J<|ab<|am<|az (au (an J J ?_))
   unfold fp dZ
   rw [jz (c := c) (d := 108) h11]; rfl
  ·refine af J<|ab<|ah J<|ag<|bc J J J J J (fun h16 => ?_) (fun h16 => ?_)
   ·refine af J<|ab<|ai J<|ag<|ax aK J<|aC br J<|aI ac J J br J aB J J<|af J<|ab<|am<|az (au (an J J ?_))
    unfold fp dZ
    rw [jz (c := c) (d := 111) h16]; rfl
   ·refine af J<|ab<|ah J<|ag<|bc J J J J J (fun h21 => ?_) (fun h21 => ?_)
    ·refine af J<|ab<|ai J<|ag<|ax aK J<|aC br J<|aI ac J J br J aB J J<|af J<|ab<|am<|az (au (an J J ?_))
     unfold fp dZ
     rw [jz (c := c) (d := 98) h21]; rfl
    ·refine af J<|ab<|ah J<|ag<|bc J J J J J (fun h26 => ?_) (fun h26 => ?_)
     ·refine af J<|ab<|ai J<|ag<|ax aK J<|aC br J<|aI ac J J br J aB J J<|af J<|ab<|am<|az (au (an J J ?_))
      unfold fp dZ
      rw [jz (c := c) (d := 99) h26]; rfl
     ·refine af J<|ab<|ah J<|ao<|aH<|ak<|ag<|af J<|ab<|am ?_
      refine an J J ?_
      unfold fp dZ
      rw [if_neg (c := c = 105) (fun e => h7 (by rw [e]; rfl)), if_neg (c := c = 108) (fun e => h11 (by rw [e]; rfl)), if_neg (c := c = 111) (fun e => h16 (by rw [e]; rfl)), if_neg (c := c = 98) (fun e => h21 (by rw [e]; rfl)), if_neg (c := c = 99) (fun e => h26 (by rw [e]; rfl))]; rfl
theorem yU (x y : ij) : dn 212 [.agg (ka x), .agg (ka y)] (.bool (na x y)) := by
 refine bC ac (f := 212) (fn := Tryz.f212) (N := 28) (rs := [.tmp 4]) (by kernel_rfl) rfl (by kernel_rfl) rfl rfl [(0, .v (.agg (ka x))), (1, .v (.agg (ka y)))] ⟨rfl, rfl, aj⟩ rfl rfl ?_
 intro B
 refine ag<|bE 2 [] J J J ⟨J, aj⟩ J J J<|bE 3 [] J J J ⟨J, aj⟩ J J J<|af J<|ab<|ae<|aS (L := [([2], []), ([2], []), ([], []), ([3], []), ([3], []), ([], []), ([], []), ([], [])]) (by kernel_rfl) mixed (by kernel_rfl)<|ax dC J<|aC eK J<|ap [] (vT x.kind) J J J J J J aj (.inl J) J J J<|ax dC J<|aC eK J<|ap [] (vT y.kind) J J J J J J aj (.inl J) J J J<|af J ?_
 refine af J<|ab<|ag<|aa J<|aa J<|bj J (fun h15 => ?_) (fun h15 => ?_)
 ·refine aa J<|al J<|al J<|al J<|al J<|al J<|al J<|al J<|al J<|al J<|al J<|aV J<|af J<|ab<|am ?_
  refine an J J ?_
  unfold na
  simp_all
 ·refine aa J<|aa J<|aa J<|bc J J J J J (fun h19 => ?_) (fun h19 => ?_)
  ·refine aa J<|ax dC J<|aC bm J<|ax dC J<|aC bm J<|iZ J J J J J J<|aV J<|aJ J<|af J<|ab<|am ?_
   refine an J J ?_
   unfold na
   simp_all
  ·refine aa J<|al J<|al J<|al J<|al J<|al J<|aJ J<|aJ J<|af J<|ab<|am ?_
   refine an J J ?_
   unfold na
   simp_all
end Go.Vd
namespace Go.Vd
open Go.Proofs Go.RowKit
theorem cP {α : Type} [Inhabited α] {xs : List α} {n : Nat} (h : n < xs.length) : xs.getD n default ∈ xs := by
 rw [List.getD_eq_getElem?_getD, List.getElem?_eq_getElem h]; exact List.getElem_mem h
theorem o9 {α : Type} [Inhabited α] {p : α → Bool} {xs : List α} {j : Nat} (hj : j < xs.length) (h : p (xs.getD j default) = true) : xs.any p = true :=
 List.any_eq_true.2 ⟨_, cP hj, h⟩
theorem pt {α : Type} [Inhabited α] {p : α → Bool} {xs : List α} (h : ∀ j, j < xs.length → p (xs.getD j default) = false) : xs.any p = false := by
 cases hb : xs.any p with
 | false => rfl
 | true =>
   obtain ⟨x, hx, hp⟩ := List.any_eq_true.1 hb
   obtain ⟨j, hj, rfl⟩ := List.getElem_of_mem hx
   have := h j hj
   rw [List.getD_eq_getElem?_getD, List.getElem?_eq_getElem hj] at this
   rw [Option.getD_some, hp] at this; cases this
theorem Ce (xs : List Int) (f : FuncId) (fi ca : List V) (p : Int → Bool) (hl : xs.length ≤ 9223372036854775807) (hc : ∀ x, x ∈ xs → PCall Tryz.prog f (fi ++ [.int .i64 x] ++ ca) (.bool (p x))) : kw 230 [cf xs, .fn (.func f) fi ca] (fun r => ∃ n : Int, r = .int .i64 n ∧ decide (n ≥ 0) = xs.any p) := by
 refine dJ ac (f := 230) (fn := Tryz.f230) (N := 19) (rs := [.tmp 4]) (by kernel_rfl) rfl (by kernel_rfl) rfl rfl [(0, .v (cf xs)), (1, .v (.fn (.func f) fi ca))] ⟨rfl, rfl, aj⟩ rfl rfl ?_
 intro B
 refine ag<|af J<|ab<|ae<|ag<|aa J<|aI ac J J br J aB J J<|aa J<|ab<|aw<|aZ (α := Nat) (fun j => mk [(0, .v (cf xs)), (1, .v (.fn (.func f) fi ca)), (7, .v (.int .i64 xs.length)), (8, .v (.int .i64 j))] [] 0) (fun j => j ≤ xs.length ∧ ∀ q, q < j → p (xs.getD q default) = false) (fun j => xs.length - j) 0 ⟨Nat.zero_le _, fun q h => absurd h (Nat.not_lt_zero q)⟩ (aL ⟨J, J, J, J, aj⟩ aj J J J J) ?_
 rintro j ⟨hj1, hj2⟩
 refine ag<|bj J (fun h9 => ?_) (fun h9 => ?_)
 ·refine ab<|ae<|ai J<|ao<|ak<|ae<|aw<|ag<|aa J<|af J<|ab<|ag ?_
  refine aa J<|aa J<|aa J<|cj br bm J (by omega) (bz (n := j) (by omega)) J ?_
  refine bu bm J<|ap [] (hc _ (cP (by omega))) J J J J J J aj (.inl J) J J J ?_
  refine bf (fun h16 => ?_) (fun h16 => ?_)
  ·refine ab<|ai J<|ag<|aa J<|af J<|ab<|am<|az (au (bR (az (au (aD J J ?_)))))
   exact ⟨_, rfl, by rw [o9 (by omega) h16]; simp⟩
  ·refine ab<|ah J<|ao<|aH<|ak<|aF<|bh J (by omega) (by omega) J ?_
   refine aa J<|ar ?_
   exact aT (j + 1) ⟨by omega, fun q hq => (Nat.lt_succ_iff_lt_or_eq.1 hq).elim (hj2 q) (fun e => e ▸ h16)⟩ (by omega) (aL ⟨J, J, J, J, aj⟩ aj J J J J)
 ·refine ab<|ae<|ah J<|aO<|ba (a8 (aP ?_))
  refine ak<|ag<|af J<|ab<|am ?_
  refine aD J J ?_
  exact ⟨_, rfl, by rw [pt (fun q hq => hj2 q (by omega))]; rfl⟩
theorem zS (xs : List Int) (f : FuncId) (fi ca : List V) (p : Int → Bool) (hl : xs.length ≤ 9223372036854775807) (hc : ∀ x, x ∈ xs → PCall Tryz.prog f (fi ++ [.int .i64 x] ++ ca) (.bool (p x))) : dn 165 [cf xs, .fn (.func f) fi ca] (.bool (xs.any p)) := by
 refine bC ac (f := 165) (fn := Tryz.f165) (N := 9) (rs := [.tmp 4]) (by kernel_rfl) rfl (by kernel_rfl) rfl rfl [(0, .v (cf xs)), (1, .v (.fn (.func f) fi ca))] ⟨rfl, rfl, aj⟩ rfl rfl ?_
 intro B
 refine ag<|af J<|ab<|ag<|aa J<|aa J<|dm [] (Ce xs f fi ca p hl hc) J J J J J J aj (.inl J) J J J ?_
 rintro _ ⟨n, rfl, hn⟩
 refine jX (z := xs.any p) J J J hn J J<|af J<|ab<|am ?_
 refine an J J ?_
 rfl
theorem B5 (xs : List (List Int)) (f : FuncId) (fi ca : List V) (p : (List Int) → Bool) (hl : xs.length ≤ 9223372036854775807) (hc : ∀ x, x ∈ xs → PCall Tryz.prog f (fi ++ [cf x] ++ ca) (.bool (p x))) : kw 234 [dS xs, .fn (.func f) fi ca] (fun r => ∃ n : Int, r = .int .i64 n ∧ decide (n ≥ 0) = xs.any p) := by
 refine dJ ac (f := 234) (fn := Tryz.f234) (N := 19) (rs := [.tmp 4]) (by kernel_rfl) rfl (by kernel_rfl) rfl rfl [(0, .v (dS xs)), (1, .v (.fn (.func f) fi ca))] ⟨rfl, rfl, aj⟩ rfl rfl ?_
 intro B
 refine ag<|af J<|ab<|ae<|ag<|aa J<|aI ac J J eC J aB J J<|aa J<|ab<|aw<|aZ (α := Nat) (fun j => mk [(0, .v (dS xs)), (1, .v (.fn (.func f) fi ca)), (7, .v (.int .i64 xs.length)), (8, .v (.int .i64 j))] [] 0) (fun j => j ≤ xs.length ∧ ∀ q, q < j → p (xs.getD q default) = false) (fun j => xs.length - j) 0 ⟨Nat.zero_le _, fun q h => absurd h (Nat.not_lt_zero q)⟩ (aL ⟨J, J, J, J, aj⟩ aj J J J J) ?_
 rintro j ⟨hj1, hj2⟩
 refine ag<|bj J (fun h9 => ?_) (fun h9 => ?_)
 ·refine ab<|ae<|ai J<|ao<|ak<|ae<|aw<|ag<|aa J<|af J<|ab<|ag ?_
  refine aa J<|aa J<|aa J<|cj eC br J (by omega) (bz (n := j) (by omega)) J ?_
  refine bu br J<|ap [] (hc _ (cP (by omega))) J J J J J J aj (.inl J) J J J ?_
  refine bf (fun h16 => ?_) (fun h16 => ?_)
  ·refine ab<|ai J<|ag<|aa J<|af J<|ab<|am<|az (au (bR (az (au (aD J J ?_)))))
   exact ⟨_, rfl, by rw [o9 (by omega) h16]; simp⟩
  ·refine ab<|ah J<|ao<|aH<|ak<|aF<|bh J (by omega) (by omega) J ?_
   refine aa J<|ar ?_
   exact aT (j + 1) ⟨by omega, fun q hq => (Nat.lt_succ_iff_lt_or_eq.1 hq).elim (hj2 q) (fun e => e ▸ h16)⟩ (by omega) (aL ⟨J, J, J, J, aj⟩ aj J J J J)
 ·refine ab<|ae<|ah J<|aO<|ba (a8 (aP ?_))
  refine ak<|ag<|af J<|ab<|am ?_
  refine aD J J ?_
  exact ⟨_, rfl, by rw [pt (fun q hq => hj2 q (by omega))]; rfl⟩
theorem D1 (xs : List (List Int)) (f : FuncId) (fi ca : List V) (p : (List Int) → Bool) (hl : xs.length ≤ 9223372036854775807) (hc : ∀ x, x ∈ xs → PCall Tryz.prog f (fi ++ [cf x] ++ ca) (.bool (p x))) : dn 173 [dS xs, .fn (.func f) fi ca] (.bool (xs.any p)) := by
 refine bC ac (f := 173) (fn := Tryz.f173) (N := 9) (rs := [.tmp 4]) (by kernel_rfl) rfl (by kernel_rfl) rfl rfl [(0, .v (dS xs)), (1, .v (.fn (.func f) fi ca))] ⟨rfl, rfl, aj⟩ rfl rfl ?_
 intro B
 refine ag<|af J<|ab<|ag<|aa J<|aa J<|dm [] (B5 xs f fi ca p hl hc) J J J J J J aj (.inl J) J J J ?_
 rintro _ ⟨n, rfl, hn⟩
 refine jX (z := xs.any p) J J J hn J J<|af J<|ab<|am ?_
 refine an J J ?_
 rfl
theorem BK (xs : List ii) (f : FuncId) (fi ca : List V) (p : ii → Bool) (hl : xs.length ≤ 9223372036854775807) (hc : ∀ x, x ∈ xs → PCall Tryz.prog f (fi ++ [.agg (nQ x)] ++ ca) (.bool (p x))) : kw 306 [lu xs, .fn (.func f) fi ca] (fun r => ∃ n : Int, r = .int .i64 n ∧ decide (n ≥ 0) = xs.any p) := by
 refine dJ ac (f := 306) (fn := Tryz.f306) (N := 19) (rs := [.tmp 4]) (by kernel_rfl) rfl (by kernel_rfl) rfl rfl [(0, .v (lu xs)), (1, .v (.fn (.func f) fi ca))] ⟨rfl, rfl, aj⟩ rfl rfl ?_
 intro B
 refine ag<|af J<|ab<|ae<|ag<|aa J<|aI ac J J eX J aB J J<|aa J<|ab<|aw<|aZ (α := Nat) (fun j => mk [(0, .v (lu xs)), (1, .v (.fn (.func f) fi ca)), (7, .v (.int .i64 xs.length)), (8, .v (.int .i64 j))] [] 0) (fun j => j ≤ xs.length ∧ ∀ q, q < j → p (xs.getD q default) = false) (fun j => xs.length - j) 0 ⟨Nat.zero_le _, fun q h => absurd h (Nat.not_lt_zero q)⟩ (aL ⟨J, J, J, J, aj⟩ aj J J J J) ?_
 rintro j ⟨hj1, hj2⟩
 refine ag<|bj J (fun h9 => ?_) (fun h9 => ?_)
 ·refine ab<|ae<|ai J<|ao<|ak<|ae<|aw<|ag<|aa J<|af J<|ab<|ag ?_
  refine aa J<|aa J<|aa J<|cj eX jK J (by omega) (bz (n := j) (by omega)) J ?_
  refine cZ ac J J jK J J J J J<|ap [] (hc _ (cP (by omega))) J J J J J J aj (.inl J) J J J ?_
  refine bf (fun h16 => ?_) (fun h16 => ?_)
  ·refine ab<|ai J<|ag<|aa J<|af J<|ab<|am<|az (au (bR (az (au (aD J J ?_)))))
   exact ⟨_, rfl, by rw [o9 (by omega) h16]; simp⟩
  ·refine ab<|ah J<|ao<|aH<|ak<|aF<|bh J (by omega) (by omega) J ?_
   refine aa J<|ar ?_
   exact aT (j + 1) ⟨by omega, fun q hq => (Nat.lt_succ_iff_lt_or_eq.1 hq).elim (hj2 q) (fun e => e ▸ h16)⟩ (by omega) (aL ⟨J, J, J, J, aj⟩ aj J J J J)
 ·refine ab<|ae<|ah J<|aO<|ba (a8 (aP ?_))
  refine ak<|ag<|af J<|ab<|am ?_
  refine aD J J ?_
  exact ⟨_, rfl, by rw [pt (fun q hq => hj2 q (by omega))]; rfl⟩
theorem ET (xs : List ii) (f : FuncId) (fi ca : List V) (p : ii → Bool) (hl : xs.length ≤ 9223372036854775807) (hc : ∀ x, x ∈ xs → PCall Tryz.prog f (fi ++ [.agg (nQ x)] ++ ca) (.bool (p x))) : dn 271 [lu xs, .fn (.func f) fi ca] (.bool (xs.any p)) := by
 refine bC ac (f := 271) (fn := Tryz.f271) (N := 9) (rs := [.tmp 4]) (by kernel_rfl) rfl (by kernel_rfl) rfl rfl [(0, .v (lu xs)), (1, .v (.fn (.func f) fi ca))] ⟨rfl, rfl, aj⟩ rfl rfl ?_
 intro B
 refine ag<|af J<|ab<|ag<|aa J<|aa J<|dm [] (BK xs f fi ca p hl hc) J J J J J J aj (.inl J) J J J ?_
 rintro _ ⟨n, rfl, hn⟩
 refine jX (z := xs.any p) J J J hn J J<|af J<|ab<|am ?_
 refine an J J ?_
 rfl
theorem BZ (xs : List Int) (f : FuncId) (fi ca : List V) (p : Int → Bool) (hl : xs.length ≤ 9223372036854775807) (hc : ∀ x, x ∈ xs → PCall Tryz.prog f (fi ++ [.int .u8 x] ++ ca) (.bool (p x))) : kw 238 [gH xs, .fn (.func f) fi ca] (fun r => ∃ n : Int, r = .int .i64 n ∧ decide (n ≥ 0) = xs.any p) := by
 refine dJ ac (f := 238) (fn := Tryz.f238) (N := 19) (rs := [.tmp 4]) (by kernel_rfl) rfl (by kernel_rfl) rfl rfl [(0, .v (gH xs)), (1, .v (.fn (.func f) fi ca))] ⟨rfl, rfl, aj⟩ rfl rfl ?_
 intro B
 refine ag<|af J<|ab<|ae<|ag<|aa J<|aI ac J J dd J aB J J<|aa J<|ab<|aw<|aZ (α := Nat) (fun j => mk [(0, .v (gH xs)), (1, .v (.fn (.func f) fi ca)), (7, .v (.int .i64 xs.length)), (8, .v (.int .i64 j))] [] 0) (fun j => j ≤ xs.length ∧ ∀ q, q < j → p (xs.getD q default) = false) (fun j => xs.length - j) 0 ⟨Nat.zero_le _, fun q h => absurd h (Nat.not_lt_zero q)⟩ (aL ⟨J, J, J, J, aj⟩ aj J J J J) ?_
 rintro j ⟨hj1, hj2⟩
 refine ag<|bj J (fun h9 => ?_) (fun h9 => ?_)
 ·refine ab<|ae<|ai J<|ao<|ak<|ae<|aw<|ag<|aa J<|af J<|ab<|ag ?_
  refine aa J<|aa J<|aa J<|cj dd ed J (by omega) (bz (n := j) (by omega)) J ?_
  refine bu ed J<|ap [] (hc _ (cP (by omega))) J J J J J J aj (.inl J) J J J ?_
  refine bf (fun h16 => ?_) (fun h16 => ?_)
  ·refine ab<|ai J<|ag<|aa J<|af J<|ab<|am<|az (au (bR (az (au (aD J J ?_)))))
   exact ⟨_, rfl, by rw [o9 (by omega) h16]; simp⟩
  ·refine ab<|ah J<|ao<|aH<|ak<|aF<|bh J (by omega) (by omega) J ?_
   refine aa J<|ar ?_
   exact aT (j + 1) ⟨by omega, fun q hq => (Nat.lt_succ_iff_lt_or_eq.1 hq).elim (hj2 q) (fun e => e ▸ h16)⟩ (by omega) (aL ⟨J, J, J, J, aj⟩ aj J J J J)
 ·refine ab<|ae<|ah J<|aO<|ba (a8 (aP ?_))
  refine ak<|ag<|af J<|ab<|am ?_
  refine aD J J ?_
  exact ⟨_, rfl, by rw [pt (fun q hq => hj2 q (by omega))]; rfl⟩
theorem Fr (xs : List Int) (f : FuncId) (fi ca : List V) (p : Int → Bool) (hl : xs.length ≤ 9223372036854775807) (hc : ∀ x, x ∈ xs → PCall Tryz.prog f (fi ++ [.int .u8 x] ++ ca) (.bool (p x))) : dn 181 [gH xs, .fn (.func f) fi ca] (.bool (xs.any p)) := by
 refine bC ac (f := 181) (fn := Tryz.f181) (N := 9) (rs := [.tmp 4]) (by kernel_rfl) rfl (by kernel_rfl) rfl rfl [(0, .v (gH xs)), (1, .v (.fn (.func f) fi ca))] ⟨rfl, rfl, aj⟩ rfl rfl ?_
 intro B
 refine ag<|af J<|ab<|ag<|aa J<|aa J<|dm [] (BZ xs f fi ca p hl hc) J J J J J J aj (.inl J) J J J ?_
 rintro _ ⟨n, rfl, hn⟩
 refine jX (z := xs.any p) J J J hn J J<|af J<|ab<|am ?_
 refine an J J ?_
 rfl
theorem Cc (xs : List (List Int)) (f : FuncId) (fi ca : List V) (p : (List Int) → Bool) (hl : xs.length ≤ 9223372036854775807) (hc : ∀ x, x ∈ xs → PCall Tryz.prog f (fi ++ [gH x] ++ ca) (.bool (p x))) : kw 183 [pm xs, .fn (.func f) fi ca] (fun r => ∃ n : Int, r = .int .i64 n ∧ decide (n ≥ 0) = xs.any p) := by
 refine dJ ac (f := 183) (fn := Tryz.f183) (N := 19) (rs := [.tmp 4]) (by kernel_rfl) rfl (by kernel_rfl) rfl rfl [(0, .v (pm xs)), (1, .v (.fn (.func f) fi ca))] ⟨rfl, rfl, aj⟩ rfl rfl ?_
 intro B
 refine ag<|af J<|ab<|ae<|ag<|aa J<|aI ac J J eB J aB J J<|aa J<|ab<|aw<|aZ (α := Nat) (fun j => mk [(0, .v (pm xs)), (1, .v (.fn (.func f) fi ca)), (7, .v (.int .i64 xs.length)), (8, .v (.int .i64 j))] [] 0) (fun j => j ≤ xs.length ∧ ∀ q, q < j → p (xs.getD q default) = false) (fun j => xs.length - j) 0 ⟨Nat.zero_le _, fun q h => absurd h (Nat.not_lt_zero q)⟩ (aL ⟨J, J, J, J, aj⟩ aj J J J J) ?_
 rintro j ⟨hj1, hj2⟩
 refine ag<|bj J (fun h9 => ?_) (fun h9 => ?_)
 ·refine ab<|ae<|ai J<|ao<|ak<|ae<|aw<|ag<|aa J<|af J<|ab<|ag ?_
  refine aa J<|aa J<|aa J<|cj eB dd J (by omega) (bz (n := j) (by omega)) J ?_
  refine bu dd J<|ap [] (hc _ (cP (by omega))) J J J J J J aj (.inl J) J J J ?_
  refine bf (fun h16 => ?_) (fun h16 => ?_)
  ·refine ab<|ai J<|ag<|aa J<|af J<|ab<|am<|az (au (bR (az (au (aD J J ?_)))))
   exact ⟨_, rfl, by rw [o9 (by omega) h16]; simp⟩
  ·refine ab<|ah J<|ao<|aH<|ak<|aF<|bh J (by omega) (by omega) J ?_
   refine aa J<|ar ?_
   exact aT (j + 1) ⟨by omega, fun q hq => (Nat.lt_succ_iff_lt_or_eq.1 hq).elim (hj2 q) (fun e => e ▸ h16)⟩ (by omega) (aL ⟨J, J, J, J, aj⟩ aj J J J J)
 ·refine ab<|ae<|ah J<|aO<|ba (a8 (aP ?_))
  refine ak<|ag<|af J<|ab<|am ?_
  refine aD J J ?_
  exact ⟨_, rfl, by rw [pt (fun q hq => hj2 q (by omega))]; rfl⟩
theorem DC (xs : List (List Int)) (f : FuncId) (fi ca : List V) (p : (List Int) → Bool) (hl : xs.length ≤ 9223372036854775807) (hc : ∀ x, x ∈ xs → PCall Tryz.prog f (fi ++ [gH x] ++ ca) (.bool (p x))) : dn 112 [pm xs, .fn (.func f) fi ca] (.bool (xs.any p)) := by
 refine bC ac (f := 112) (fn := Tryz.f112) (N := 9) (rs := [.tmp 4]) (by kernel_rfl) rfl (by kernel_rfl) rfl rfl [(0, .v (pm xs)), (1, .v (.fn (.func f) fi ca))] ⟨rfl, rfl, aj⟩ rfl rfl ?_
 intro B
 refine ag<|af J<|ab<|ag<|aa J<|aa J<|dm [] (Cc xs f fi ca p hl hc) J J J J J J aj (.inl J) J J J ?_
 rintro _ ⟨n, rfl, hn⟩
 refine jX (z := xs.any p) J J J hn J J<|af J<|ab<|am ?_
 refine an J J ?_
 rfl
def ph (n l : Int) : Bool := decide (l = 0) || decide (l > n) || decide (l < -n)
def yj (n : Int) (c : List Int) : Bool := decide (c.length > 1000) || c.any (ph n)
def iW (n : Int) (cs : List (List Int)) : Bool := decide (0 ≤ n ∧ n ≤ 100000 ∧ cs.length ≤ 20000) && !cs.any (yj n)
def i7 (n : Int) (p : List ii) : Bool := decide (0 ≤ n ∧ n ≤ 100000 ∧ p.length ≤ 20000) && !p.any (fun s => !iW n [s.c])
theorem E8 (f : xy) (l : Int) (h0 : -1000000000 ≤ f.n) (h1 : f.n ≤ 1000000000) : dn 171 [.int .i64 l, .ref (pQ f)] (.bool (ph f.n l)) := by
 refine bC ac (f := 171) (fn := Tryz.f171) (N := 19) (rs := [.tmp 3]) (by kernel_rfl) rfl (by kernel_rfl) rfl rfl [(0, .v (.int .i64 l)), (1, .v (.ref (pQ f)))] ⟨rfl, rfl, aj⟩ rfl rfl ?_
 intro B
 refine ag<|af J<|ab<|ag<|aa J<|bc J J J J J (fun h5 => ?_) (fun h5 => ?_)
 ·refine aa J<|al J<|al J<|al J<|al J<|aV J<|aa J<|al J<|al J<|al J<|al J<|al J<|aV J<|af J<|ab ?_
  refine am ?_
  refine an J J ?_
  unfold ph
  simp_all
  try omega
 ·refine aa J<|aa J<|bU ac J J eI J J J J<|bu bm J<|bW J J J J J (fun h10 => ?_) (fun h10 => ?_)
  ·refine aJ J<|aa J<|al J<|al J<|al J<|al J<|al J<|aV J<|af J<|ab<|am ?_
   refine an J J ?_
   unfold ph
   simp_all
   try omega
  ·refine aJ J<|aa J<|aa J<|bU ac J J eI J J J J<|bu bm J<|kA J J J (by omega) (by omega) J J ?_
   refine iZ J J J J J J<|aJ J<|af J<|ab<|am ?_
   refine an J J ?_
   unfold ph
   simp_all
   try omega
theorem DW (f : xy) (c : List Int) (h0 : -1000000000 ≤ f.n) (h1 : f.n ≤ 1000000000) (hl : c.length ≤ 9223372036854775807) : dn 172 [cf c, .ref [.fn (.func 171) [] [.ref (pQ f)]]] (.bool (yj f.n c)) := by
 refine bC ac (f := 172) (fn := Tryz.f172) (N := 12) (rs := [.tmp 3]) (by kernel_rfl) rfl (by kernel_rfl) rfl rfl [(0, .v (cf c)), (1, .v (.ref [.fn (.func 171) [] [.ref (pQ f)]]))] ⟨rfl, rfl, aj⟩ rfl rfl ?_
 intro B
 refine ag<|af J<|ab<|ag<|aa J<|aI ac J J br J aB J J<|bW J J J J J (fun h6 => ?_) (fun h6 => ?_)
 ·refine aa J<|al J<|al J<|al J<|aV J<|af J<|ab<|am ?_
  refine an J J ?_
  unfold yj
  simp_all
  try (first | (left; omega) | (intro hx; omega))
 ·refine aa J<|aa J<|bu zX J<|ap [] (zS c 171 [] [.ref (pQ f)] (ph f.n) hl (fun x _ => E8 f x h0 h1)) J J J J J J aj (.inl J) J J J<|aJ J<|af J<|ab<|am ?_
  refine an J J ?_
  unfold yj
  simp_all
  try (first | (left; omega) | (intro hx; omega))
theorem rq (f : xy) (h0 : -1000000000 ≤ f.n) (h1 : f.n ≤ 1000000000) (hl : f.c.length ≤ 1000000000000) (hl2 : ∀ c, c ∈ f.c → c.length ≤ 9223372036854775807) : dn 100 [vC f] (.bool (iW f.n f.c)) := by
 refine bC ac (f := 100) (fn := Tryz.f100) (N := 28) (rs := [.tmp 2]) (by kernel_rfl) rfl (by kernel_rfl) rfl rfl [(0, .v (vC f))] ⟨rfl, aj⟩ rfl rfl ?_
 intro B
 refine ag<|bE 1 [] J J J ⟨J, aj⟩ J J J<|af J<|ab<|ae<|cg (g9 (id := 1) J J)<|cT [(1, .v (.ref (pQ f)))] [] ⟨J, aj⟩ aj J J J J<|aF<|jP J J J J J J<|bl (id := 3) zX J<|aR zX [] J aj J<|ab<|ae ?_
 refine cg (g9 (id := 3) J J)<|cT [(1, .v (.ref (pQ f))), (3, .v (.ref [.fn (.func 171) [] [.ref (pQ f)]]))] [] ⟨J, J, aj⟩ aj J J J J<|aF<|jP J J J J J J<|af J<|ab<|ag<|bU ac J J eI J J J J<|bu bm J<|bY J J J J J (fun h9 => ?_) (fun h9 => ?_)
 ·refine aa J<|bU ac J J eI J J J J<|bu bm J<|kZ J J J J J (fun h13 => ?_) (fun h13 => ?_)
  ·refine aV J<|aa J<|bU ac J J eI J J J J<|bu eC J<|aI ac J J eC J aB J J<|kZ J J J J J (fun h19 => ?_) (fun h19 => ?_)
   ·refine aV J<|aa J<|bU ac J J eI J J J J<|bu eC J<|aa J<|ap [] (D1 f.c 172 [] [.ref [.fn (.func 171) [] [.ref (pQ f)]]] (yj f.n) (by omega) (fun x hx => DW f x h0 h1 (hl2 x hx))) J J J J J J aj (.inl J) J J J ?_
    refine bL J<|aV J<|af J<|ab<|am ?_
    refine an J J ?_
    unfold iW
    simp_all
    try omega
   ·refine aV J<|aa J<|al J<|al J<|al J<|al J<|al J<|aJ J<|af J<|ab<|am ?_
    refine an J J ?_
    unfold iW
    simp_all
    try omega
  ·refine aV J<|aa J<|al J<|al J<|al J<|al J<|aJ J<|aa J<|al J<|al J<|al J<|al J<|al J<|aJ J<|af J<|ar ?_
   refine ak<|am ?_
   refine an J J ?_
   unfold iW
   simp_all
   try omega
 ·refine aa J<|al J<|al J<|al J<|aJ J<|aa J<|al J<|al J<|al J<|al J<|aJ J<|aa J<|al J<|al J<|al J<|al J ?_
  refine al J<|aJ J<|af J<|ab<|am ?_
  refine an J J ?_
  unfold iW
  simp_all
  try omega
theorem Fh (s : ii) (n : Int) (h0 : -1000000000 ≤ n) (h1 : n ≤ 1000000000) (hl : s.c.length ≤ 9223372036854775807) : dn 270 [.agg (nQ s), .ref [.int .i64 n]] (.bool (!iW n [s.c])) := by
 refine bC ac (f := 270) (fn := Tryz.f270) (N := 11) (rs := [.tmp 3]) (by kernel_rfl) rfl (by kernel_rfl) rfl rfl [(0, .v (.agg (nQ s))), (1, .v (.ref [.int .i64 n]))] ⟨rfl, rfl, aj⟩ rfl rfl ?_
 intro B
 refine ag<|bE 2 [] J J J ⟨J, aj⟩ J J J<|af J<|ab<|ag<|bu bm J<|ax jK J<|aC br J<|bZ (es := [s.c].map dw) eC br [] J aj J<|bD [] ac J eI J J aj J J J J J J ?_
 refine ap [] (rq ⟨n, [s.c]⟩ h0 h1 (by simp) (by simp; exact hl)) J J J J J J aj (.inl rfl) J J J ?_
 refine bL J<|af J<|ab<|am ?_
 refine an J J ?_
 rfl
theorem vS (n : Int) (p : List ii) (h0 : -1000000000 ≤ n) (h1 : n ≤ 1000000000) (hl : p.length ≤ 1000000000000) (hl2 : ∀ s, s ∈ p → s.c.length ≤ 9223372036854775807) : dn 201 [.int .i64 n, lu p] (.bool (i7 n p)) := by
 refine bC ac (f := 201) (fn := Tryz.f201) (N := 24) (rs := [.tmp 4]) (by kernel_rfl) rfl (by kernel_rfl) rfl rfl [(0, .v (.int .i64 n)), (1, .v (lu p))] ⟨rfl, rfl, aj⟩ rfl rfl ?_
 intro B
 refine ag<|bE 2 [] J J J ⟨J, aj⟩ J J J<|af J<|ab<|ae<|cg (g9 (id := 2) J J)<|cT [(1, .v (lu p)), (2, .v (.ref [.int .i64 n]))] [] ⟨J, J, aj⟩ aj J J J J<|aF<|jP J J J J J J<|af J<|ab<|ag ?_
 refine bu bm J<|bY J J J J J (fun h8 => ?_) (fun h8 => ?_)
 ·refine aa J<|bu bm J<|kZ J J J J J (fun h11 => ?_) (fun h11 => ?_)
  ·refine aV J<|aa J<|aa J<|aI ac J J eX J aB J J<|kZ J J J J J (fun h16 => ?_) (fun h16 => ?_)
   ·refine aV J<|aa J<|aa J<|aa J<|ap [] (ET p 270 [] [.ref [.int .i64 n]] (fun s => !iW n [s.c]) (by omega) (fun x hx => Fh x n h0 h1 (hl2 x hx))) J J J J J J aj (.inl J) J J J ?_
    refine bL J<|aV J<|af J<|ab<|am ?_
    refine an J J ?_
    unfold i7
    simp_all
    try omega
   ·refine aV J<|aa J<|al J<|al J<|al J<|al J<|aJ J<|af J<|ab<|am ?_
    refine an J J ?_
    unfold i7
    simp_all
    try omega
  ·refine aV J<|aa J<|al J<|al J<|al J<|aJ J<|aa J<|al J<|al J<|al J<|al J<|aJ J<|af J<|ab<|am ?_
   refine an J J ?_
   unfold i7
   simp_all
   try omega
 ·refine aa J<|al J<|al J<|aJ J<|aa J<|al J<|al J<|al J<|aJ J<|aa J<|al J<|al J<|al J<|al J<|aJ J<|af J ?_
  refine ab<|am ?_
  refine an J J ?_
  unfold i7
  simp_all
  try omega
end Go.Vd
namespace Go.Vd
open Go.Proofs Go.RowKit
theorem El (x : Int) : dn 359 [.int .i64 x] (.bool (decide (x = 0))) := by
 refine bC ac (f := 359) (fn := Tryz.f359) (N := 5) (rs := [.tmp 2]) (by kernel_rfl) rfl (by kernel_rfl) rfl rfl [(0, .v (.int .i64 x))] ⟨rfl, aj⟩ rfl rfl ?_
 intro B
 refine ag<|af J<|ab<|ag<|aa J<|jr J J J J J J<|af J<|ab<|am ?_
 refine an J J ?_
 rfl
theorem zT (xs : List Int) (f : FuncId) (fi ca : List V) (p : Int → Bool) (hl : xs.length ≤ 9223372036854775807) (hc : ∀ x, x ∈ xs → PCall Tryz.prog f (fi ++ [.int .i64 x] ++ ca) (.bool (p x))) : kw 230 [cf xs, .fn (.func f) fi ca] (fun r => ∃ n : Int, r = .int .i64 n ∧ -1 ≤ n ∧ n < xs.length) := by
 refine dJ ac (f := 230) (fn := Tryz.f230) (N := 19) (rs := [.tmp 4]) (by kernel_rfl) rfl (by kernel_rfl) rfl rfl [(0, .v (cf xs)), (1, .v (.fn (.func f) fi ca))] ⟨rfl, rfl, aj⟩ rfl rfl ?_
 intro B
 refine ag<|af J<|ab<|ae<|ag<|aa J<|aI ac J J br J aB J J<|aa J<|ab<|aw<|aZ (α := Nat) (fun j => mk [(0, .v (cf xs)), (1, .v (.fn (.func f) fi ca)), (7, .v (.int .i64 xs.length)), (8, .v (.int .i64 j))] [] 0) (fun j => j ≤ xs.length) (fun j => xs.length - j) 0 (Nat.zero_le _) (aL ⟨J, J, J, J, aj⟩ aj J J J J) ?_
 intro j hj1
 refine ag<|bj J (fun h9 => ?_) (fun h9 => ?_)
 ·refine ab<|ae<|ai J<|ao<|ak<|ae<|aw<|ag<|aa J<|af J<|ab<|ag ?_
  refine aa J<|aa J<|aa J<|cj br bm J (by omega) (bz (n := j) (by omega)) J ?_
  refine bu bm J<|ap [] (hc _ (cP (by omega))) J J J J J J aj (.inl J) J J J ?_
  refine bf (fun h16 => ?_) (fun h16 => ?_)
  ·refine ab<|ai J<|ag<|aa J<|af J<|ab<|am<|az (au (bR (az (au (aD J J ?_)))))
   exact ⟨_, rfl, by omega, by omega⟩
  ·refine ab<|ah J<|ao<|aH<|ak<|aF<|bh J (by omega) (by omega) J ?_
   refine aa J<|ar ?_
   exact aT (j + 1) (by show j + 1 ≤ _; omega) (by show xs.length - (j + 1) < xs.length - j; omega) (aL ⟨J, J, J, J, aj⟩ aj J J J J)
 ·refine ab<|ae<|ah J<|aO<|ba (a8 (aP ?_))
  refine ak<|ag<|af J<|ab<|am ?_
  refine aD J J ?_
  exact ⟨_, rfl, by omega, by omega⟩
end Go.Vd
namespace Go.Vd
open Go.Proofs Go.RowKit
structure Only (fb : Nat) (w w' : World) : Prop where
 os : w'.os = w.os
 tape : w'.tape = w.tape
 output : w'.output = w.output
 size : w.heap.size ≤ w'.heap.size
 frame : ∀ b, b < w.heap.size → b ≠ fb → w'.heap[b]? = w.heap[b]?
theorem Only.refl (fb : Nat) (w : World) : Only fb w w := ⟨rfl, rfl, rfl, Nat.le_refl _, fun _ _ _ => rfl⟩
theorem Only.trans {fb : Nat} {w w' w'' : World} (h : Only fb w w') (h' : Only fb w' w'') : Only fb w w'' := ⟨h'.os.trans h.os, h'.tape.trans h.tape, h'.output.trans h.output, Nat.le_trans h.size h'.size, fun b hb hne => (h'.frame b (Nat.lt_of_lt_of_le hb h.size) hne).trans (h.frame b hb hne)⟩
theorem Only.set (fb i : Nat) (v : Value) (w : World) : Only fb w (w.setCell ⟨fb, i, none⟩ v) := ⟨rfl, rfl, rfl, by simp, fun b _ hne => heap_setCell_other _ _ _ _ hne⟩
def Fint (w : World) (fb m : Nat) : Prop := ∃ zs : List Int, zs.length = m ∧ w.heap[fb]? = some (.cells (zs.map (Value.int .i64)).toArray 3 (0, 0))
theorem Fint.cell {w : World} {fb m i : Nat} (h : Fint w fb m) (hi : i < m) : ∃ z, w.cell? ⟨fb, i, none⟩ = some (.int .i64 z) := by
 obtain ⟨zs, h1, h2⟩ := h
 exact ⟨zs.getD i 0, aY h2 (by simp [show i < zs.length by omega])⟩
theorem Fint.frozen {w : World} {fb m i : Nat} (h : Fint w fb m) : w.frozen? ⟨fb, i, none⟩ = false := by
 obtain ⟨zs, h1, h2⟩ := h
 exact bQ h2
theorem Fint.set {w : World} {fb m i : Nat} {z : Int} (h : Fint w fb m) : Fint (w.setCell ⟨fb, i, none⟩ (.int .i64 z)) fb m := by
 obtain ⟨zs, h1, h2⟩ := h
 refine ⟨zs.set i z, by simpa using h1, ?_⟩
 rw [heap_setCell_same w fb i _ 3 _ h2]
 congr 2
 apply Array.ext'
 simp [List.map_set]
theorem xA {w : World} {fb m i : Nat} (h : Fint w fb m) (hi : i ≤ m) (ty : TypeId) : ∃ w', (Builtin.clear_ #[30] ty #[.slice (some ⟨fb, i, none⟩) (m - i) (m - i)]).run Tryz.prog w = .ok (.tuple #[]) w' ∧ Only fb w w' := by
 obtain ⟨zs, h1, h2⟩ := h
 by_cases h0 : m - i = 0
 ·refine ⟨w, ?_, Only.refl ..⟩
  rw [h0]
  simp [Builtin.clear_, run_underlying DD]
 ·obtain ⟨k, hk⟩ : ∃ k, m - i = k + 1 := ⟨m - i - 1, by omega⟩
  have hz : (zeroValue 3).run Tryz.prog w = .ok (.int .i64 0) w := by kernel_rfl
  have hst := run_storeCells_at Tryz.prog fb i 3 (Builtin.zeroCells #[.int .i64 0] (m - i)).toList 0 _ w h2 (by simp [Builtin.zeroCells]; omega) (fun v hv => by
   have : v = .int .i64 0 := by
    simp [Builtin.zeroCells] at hv
    obtain ⟨a, _, hv⟩ := hv
    rw [show a % 1 = 0 from Nat.mod_one a] at hv
    exact hv.symm
   subst this; rfl)
  obtain ⟨row, hrow⟩ : ∃ row, (storeCells ⟨fb, i, none⟩ (Builtin.zeroCells #[.int .i64 0] (m - i)).toList).run Tryz.prog w = .ok () (w.setRow fb row) := ⟨_, hst⟩
  refine ⟨w.setRow fb row, ?_, ⟨rfl, rfl, rfl, by simp, fun b _ hne => setRow_other w fb b _ hne⟩⟩
  rw [hk] at hrow ⊢
  simp [Builtin.clear_, run_underlying DD, hz, Value.cells]
  rw [hrow]
  rfl
theorem Only.below {fb : Nat} {w w' : World} (h : Below w.heap.size w w') : Only fb w w' := ⟨h.os, h.tape, h.output, h.size, fun b hb _ => h.block b hb⟩
theorem Fint.below {w w' : World} {fb m : Nat} (h : Fint w fb m) (hb : Below w.heap.size w w') : Fint w' fb m := by
 obtain ⟨zs, h1, h2⟩ := h
 exact ⟨zs, h1, (hb.block fb (Array.getElem?_eq_some_iff.1 h2).1).trans h2⟩
set_option maxHeartbeats 4000000 in
set_option maxRecDepth 100000 in
theorem AZ (w : World) (fb m : Nat) (hG : Glob w) (hm : m ≤ 1000001) (h : Fint w fb m) : Calls Tryz.prog 358 #[.slice (some ⟨fb, 0, none⟩) m m, .func (.func 359) #[] #[]] w fun e w' => (∃ k, k ≤ m ∧ e = .returned (.slice (some ⟨fb, 0, none⟩) k m)) ∧ Only fb w w' := by
 have hI : Calls Tryz.prog 230 #[.slice (some ⟨fb, 0, none⟩) m m, .func (.func 359) #[] #[]] w fun e w' => ∃ n : Int, e = .returned (.int .i64 n) ∧ -1 ≤ n ∧ n < m ∧ Below w.heap.size w w' := by
  obtain ⟨zs, h1, h2⟩ := h
  have hb : fb < w.heap.size := (Array.getElem?_eq_some_iff.1 h2).1
  have hrep : RepV w (fun b => b = fb) (cf zs) (.slice (some ⟨fb, 0, none⟩) m m) := by
   have := RepV.sl (w := w) (im := fun b => b = fb) (zs.map d7) fb 0 1 m rfl hb (by simp; omega) (fun e he => by obtain ⟨_, _, rfl⟩ := List.mem_map.1 he; rfl) (fun i j hi hj => by
    have hi' : i < zs.length := by simpa using hi
    rw [cell_of_row w fb _ _ 3 (0, 0) h2]
    have : j = 0 := by omega
    subst this
    simp [hi']) (fun i j e v u he hv hu => by
    rw [List.getElem?_map] at he
    obtain ⟨z, hz, rfl⟩ := Option.map_eq_some_iff.1 he
    have hj : j = 0 := by
     have := (List.getElem?_eq_some_iff.1 hv).1
     simp at this; exact this
    subst hj
    have hz2 : v = V.int .i64 z := by simpa using hv.symm
    subst hz2
    rw [cell_of_row w fb _ _ 3 (0, 0) h2] at hu
    have : u = .int .i64 z := by
     simp at hu
     obtain ⟨z2, hu1, hu2⟩ := hu
     rw [hz] at hu1; cases hu1; exact hu2.symm
    subst this; exact .int _ _)
   simpa [h1] using this
  have hc := (zT zs 359 [] [] (fun x => decide (x = 0)) (by omega) (fun x _ => El x)).2 w (fun b => b = fb) #[.slice (some ⟨fb, 0, none⟩) m m, .func (.func 359) #[] #[]] hG ⟨rfl, fun i v u hv hu => by
   match i, hv, hu with
   | 0, rfl, rfl => exact hrep
   | 1, rfl, rfl => exact .fn _ [] [] #[] #[] rfl rfl (fun i v u h _ => by simp at h) (fun i v u h _ => by simp at h)⟩
  refine Calls.mono hc ?_
  rintro e w' ⟨r, u, ⟨n, rfl, h3, h4⟩, rfl, hbl, hr⟩
  cases hr.int_inv
  exact ⟨n, rfl, h3, by rw [h1] at h4; exact h4, hbl⟩
 go_enter Tryz.func358, Tryz.ntmps358
 go_wp2_with (go_at_call 230; refine hI.mono ?_; rintro e w1 ⟨i0, rfl, hi1, hi2, hB⟩)
 ·exact ⟨rfl, _, by simp [results, Tryz.results358, go_sem], ⟨m, Nat.le_refl _, rfl⟩, Only.below hB⟩
 ·rename_i hne K hK
  simp only [beq_eq_false_iff_ne, ne_eq] at hne
  obtain ⟨k0, rfl⟩ : ∃ k : Nat, i0 = (k : Int) := ⟨i0.toNat, by omega⟩
  have hF := h.below hB
  have hO : Only fb w w1 := Only.below hB
  clear h hB hI hG
  go_loopw [5, 6] (fun iv jv wr => ∃ (i j : Nat), iv = .int .i64 i ∧ jv = .int .i64 j ∧ i < j ∧ j ≤ m ∧ Fint wr fb m ∧ Only fb w wr) (fun _ jv _ => m - (RowKit.intOf jv).toNat)
  case atStart => exact ⟨k0, k0 + 1, rfl, by simp, by omega, by omega, hF, hO⟩
  case round =>
   clear hF hO
   obtain ⟨i, j, rfl, rfl, hij, hj, hF, hO⟩ := hrel
   by_cases hlt : j < m
   ·obtain ⟨z, hz⟩ := hF.cell hlt
    have fz := hF.frozen (i := i)
    obtain ⟨z', hz'⟩ := hF.cell (show i < m by omega)
    have hF' := hF.set (i := i) (z := z)
    have hO' := hO.trans (Only.set fb i (.int .i64 z) wr)
    clear hne hi1 hi2
    go_wp2
    ·exact ⟨⟨i + 1, j + 1, by simp, by simp, by omega, by omega, hF', hO'⟩, by simp [RowKit.intOf]; omega⟩
    ·exact ⟨⟨i, j + 1, rfl, by simp, by omega, by omega, hF, hO⟩, by simp [RowKit.intOf]; omega⟩
   ·obtain rfl : j = m := by omega
    obtain ⟨w4, hcl, hO4⟩ := xA hF (show i ≤ j by omega) 0
    have hO5 := hO.trans hO4
    go_wp2_with (at_builtin; refine wpList_clear rfl rfl hcl ?_)
    exact ⟨rfl, _, by simp [results, Tryz.results358, go_sem], ⟨i, by omega, rfl⟩, hO5⟩
end Go.Vd
namespace Go.Vd
open Go.Proofs Go.RowKit Go.MapKept
def Iz (w : World) (u : Value) (l : List (List Int)) : Prop := ∃ ad cc, u = .slice ad l.length cc ∧ ∀ i, i < l.length → ∃ b o cv, ad = some ⟨b, o, none⟩ ∧ l.length ≤ cc ∧ w.cell? ⟨b, o + i, none⟩ = some cv ∧ EU w cv (l.getD i [])
theorem jO {w : World} {im : Nat → Prop} {c : List Int} {u : Value} (h : RepV w im (cf c) u) : EU w u c := by
 generalize he : cf c = v at h
 cases h with
 | sl0 a cc =>
   have : c = [] := by simpa using he
   subst this
   exact ⟨a, cc, rfl, fun i hi => by simp at hi⟩
 | sl es b o sz cc hb hl hcap hs hc hv =>
   have he' : es = c.map d7 := by cases he; rfl
   subst he'
   refine ⟨some ⟨b, o, none⟩, cc, by simp, fun i hi => ?_⟩
   have hget : (c.map d7)[i]? = some (d7 (c.getD i 0)) := by
    rw [List.getElem?_map, List.getElem?_eq_getElem hi]; simp [hi]
   have hsz : sz = 1 := (hs _ (List.mem_of_getElem? hget)).symm
   subst hsz
   have h1 := hc i 0 (by simpa using hi) (by omega)
   obtain ⟨u, hu⟩ := Option.isSome_iff_exists.1 h1
   have h2 := (hv i 0 _ _ u hget rfl hu).int_inv
   subst h2
   exact ⟨b, o, rfl, by simpa using hcap, by simpa using hu⟩
 | _ => cases he
theorem gT {w w' : World} {im : Nat → Prop} {v : V} {u : Value} (h : RepV w im v u) (hb : Below w.heap.size w w') : RepV w' im v u := h.mono fun b h1 h2 => ⟨h1, hb.block b h2⟩
theorem GC (n : Nat) : madeCells (Value.int .i64 0).cells n = ((List.replicate n (0 : Int)).map (Value.int .i64)).toArray := by
 apply Array.ext (by simp [madeCells])
 intro i h1 h2
 have : i < n := by simpa [madeCells] using h1
 simp only [madeCells, Array.getElem_map, Array.getElem_range, List.getElem_toArray, List.getElem_map, List.getElem_replicate]
 have h1 : i % (Value.int IntKind.i64 0).cells.size = 0 := Nat.mod_one i
 rw [h1]; rfl
theorem DO : Tryz.prog.underlying 504 = some (.map 3 30) := by kernel_rfl
theorem u3 : Tryz.prog.underlying 3 = some (.int .i64) := by kernel_rfl
theorem IC (w : World) : (zeroValue 30).run Tryz.prog w = .ok (.slice none 0 0) w := by kernel_rfl
structure BP (n0 : Nat) (w0 : World) (wb fb mb n N K : Nat) (S : Nat → Prop) (w : World) : Prop where
 bel : Below n0 w0 w
 wbx : w.heap[wb]? = some (.cells #[.slice (some ⟨fb, 0, none⟩) (n + 1) (n + 1), .slice none 0 0, .bool false] 503 (0, 0))
 fbx : w.heap[fb]? = some (.cells ((List.replicate (n + 1) (0 : Int)).map (Value.int .i64)).toArray 3 (0, 0))
 mp : MapI S w mb K
 rw : RowsOf S (fun z => 0 ≤ z ∧ z < N) w
 sw : ¬ S wb
 sf : ¬ S fb
 wf : wb ≠ fb
 mw : mb ≠ wb
 mf : mb ≠ fb
 lo : n0 ≤ wb ∧ n0 ≤ fb ∧ n0 ≤ mb
 ls : ∀ b, S b → n0 ≤ b
theorem BP.sm {n0 : Nat} {w0 : World} {wb fb mb n N K : Nat} {S : Nat → Prop} {w : World} (h : BP n0 w0 wb fb mb n N K S w) : ¬ S mb := fun hs => by
 obtain ⟨_, arr, h1, _⟩ := h.rw mb hs
 obtain ⟨uM, clk, h2, _⟩ := h.mp
 rw [h1] at h2; cases h2
theorem BP.lt {n0 : Nat} {w0 : World} {wb fb mb n N K : Nat} {S : Nat → Prop} {w : World} (h : BP n0 w0 wb fb mb n N K S w) : wb < w.heap.size ∧ fb < w.heap.size ∧ mb < w.heap.size := by
 obtain ⟨uM, clk, h2, _⟩ := h.mp
 exact ⟨(Array.getElem?_eq_some_iff.1 h.wbx).1, (Array.getElem?_eq_some_iff.1 h.fbx).1, (Array.getElem?_eq_some_iff.1 h2).1⟩
set_option maxRecDepth 100000 in
theorem BP.step {n0 : Nat} {w0 : World} {wb fb mb n N K : Nat} {S : Nat → Prop} {w : World} (h : BP n0 w0 wb fb mb n N K S w) (x : Int) (i : Nat) (hi : i < N) (hK : K + 1 ≤ 1000000000000) :
 ∃ u q' w3 w4 S', (Instr.lookup 504 (.map (some mb)) (.int .i64 x) false).run Tryz.prog w = .ok u w ∧ (∀ ty, (Builtin.append_ #[30, 30] ty #[u, .slice (some ⟨w.heap.size, 0, none⟩) 1 1]).run Tryz.prog (w.alloc (.cells #[.int .i64 i] 3)) = .ok q' w3) ∧
   (Instr.mapUpdate 504 (.map (some mb)) (.int .i64 x) q').run Tryz.prog w3 = .ok () w4 ∧ BP n0 w0 wb fb mb n N (K + 1) S' w4 := by
 obtain ⟨u, k, hl, hk, hu⟩ := tJ DO u3 (IC w) h.mp x
 obtain ⟨ti, hti, htz, hts, htb⟩ := i3
 obtain ⟨l1, l2, l3⟩ := h.lt
 have ha : ∀ b, b < w.heap.size → (w.alloc (.cells #[.int .i64 i] 3)).heap[b]? = w.heap[b]? := fun b hb => Below.heap_alloc w _ b hb
 have hn := heap_alloc_new w (.cells #[.int .i64 i] 3)
 have hs : (w.alloc (.cells #[.int .i64 i] 3)).heap.size = w.heap.size + 1 := by simp
 have hbel : Below n0 w0 (w.alloc (.cells #[.int .i64 i] 3)) := h.bel.alloc (Nat.le_trans h.lo.1 (Nat.le_of_lt l1)) _
 generalize w.alloc (.cells #[.int .i64 i] 3) = w2 at ha hn hs hbel ⊢
 have hS2 : ∀ b, S b → w2.heap[b]? = w.heap[b]? := fun b hb => ha b (h.rw b hb).1
 have hu2 := hu.frame hS2
 obtain ⟨q', w3, S', hrun, hq, hr, G⟩ := FP (ty := 30) DD hti htz hts htb hu2 (h.rw.frame (by omega) hS2) (x := (i : Int)) ⟨by omega, by omega⟩ ⟨by omega, by omega⟩ (by omega) hn
 have hm2 : MapI S w2 mb K := h.mp.frame fun b hb => hb.elim (fun e => e ▸ ha mb l3) (hS2 b)
 have hm3 := (hm2.grew G h.sm (by omega)).mono (show K ≤ K + 1 by omega)
 obtain ⟨w4, hput, hm4, hoth, hsz, ho, ht, hou⟩ := BL (k := k + 1) DO u3 hm3 hr x hq (by omega)
 have hSm : ¬ S' mb := fun e => (G.new mb e).elim h.sm fun e => by omega
 refine ⟨u, q', w3, w4, S', hl, fun _ => hrun, hput, ⟨⟨ho.trans (G.os.trans hbel.os), ht.trans (G.tape.trans hbel.tape), hou.trans (G.output.trans hbel.output), by have := G.size; have := hbel.size; omega, fun b hb => ?_⟩, ?_, ?_, hm4, hr.frame (by omega) (fun b hb => hoth b fun e => hSm (e ▸ hb)), fun e => (G.new wb e).elim h.sw fun e => by omega, fun e => (G.new fb e).elim h.sf fun e => by omega, h.wf, h.mw, h.mf, h.lo, fun b hb => (G.new b hb).elim (h.ls b) fun e => by have := h.lo.1; omega⟩⟩
 ·have hbn : ¬ S b := fun e => by have := h.ls b e; omega
  rw [hoth b (fun e => by have := h.lo.2.2; omega), G.frame b (by have := h.lo.1; omega) hbn]
  exact hbel.block b hb
 ·rw [hoth wb h.mw.symm, G.frame wb (by omega) h.sw, ha wb l1]; exact h.wbx
 ·rw [hoth fb h.mf.symm, G.frame fb (by omega) h.sf, ha fb l2]; exact h.fbx
structure CP (Sat : (Nat → Bool) → Prop) (n0 : Nat) (w0 : World) (wb fb mb n N K : Nat) (SM SQ : Nat → Prop) (w : World) (fs : List Int) (qk : Nat) (cl : Bool) : Prop where
 bel : Below n0 w0 w
 W : Wk Sat wb fb n SQ w fs qk cl
 mp : MapI SM w mb K
 rw : RowsOf SM (fun z => 0 ≤ z ∧ z < N) w
 dj : ∀ b, SM b → ¬ SQ b
 sw : ¬ SM wb
 sf : ¬ SM fb
 mw : mb ≠ wb
 mf : mb ≠ fb
 mq : ¬ SQ mb
 lo : n0 ≤ wb ∧ n0 ≤ fb ∧ n0 ≤ mb
 lq : ∀ b, SQ b → n0 ≤ b
theorem CP.of {Sat : (Nat → Bool) → Prop} {n0 : Nat} {w0 : World} {wb fb mb n N K : Nat} {S : Nat → Prop} {w : World} (h : BP n0 w0 wb fb mb n N K S w) : CP Sat n0 w0 wb fb mb n N K S (fun _ => False) w (List.replicate (n + 1) 0) 0 false := by
 refine ⟨h.bel, ⟨⟨.slice none 0 0, h.wbx, .inl ⟨rfl, rfl⟩⟩, fun b hb => hb.elim, h.fbx, by simp, fun v hv => .inl (by rw [List.getD_eq_getElem?_getD, List.getElem?_replicate, if_pos hv]; rfl), (fun e => by cases e), h.wf, id, id, by simp⟩, h.mp, h.rw, fun _ _ => id, h.sw, h.sf, h.mw, h.mf, id, h.lo, fun b hb => hb.elim⟩
theorem CP.move {Sat : (Nat → Bool) → Prop} {n0 : Nat} {w0 : World} {wb fb mb n N K : Nat} {SM SQ SQ' : Nat → Prop} {w w' : World} {fs fs' : List Int} {qk qk' : Nat} {cl cl' : Bool} (C : CP Sat n0 w0 wb fb mb n N K SM SQ w fs qk cl) (W' : Wk Sat wb fb n SQ' w' fs' qk' cl') (M : Mv wb fb SQ SQ' w w') : CP Sat n0 w0 wb fb mb n N K SM SQ' w' fs' qk' cl' := by
 have hml : mb < w.heap.size := by obtain ⟨arr, clk, h1, _⟩ := C.mp; exact (Array.getElem?_eq_some_iff.1 h1).1
 have hSM : ∀ b, SM b → w'.heap[b]? = w.heap[b]? := fun b hb => M.frame b (C.rw b hb).1 (fun e => C.sw (e ▸ hb)) (fun e => C.sf (e ▸ hb)) (C.dj b hb)
 have hmb := M.frame mb hml C.mw C.mf C.mq
 have hwl : n0 ≤ w.heap.size := by have := C.lo.2.2; omega
 exact ⟨⟨M.os.trans C.bel.os, M.tape.trans C.bel.tape, M.output.trans C.bel.output, Nat.le_trans C.bel.size M.size, fun b hb => (M.frame b (by omega) (fun e => by have := C.lo.1; omega) (fun e => by have := C.lo.2.1; omega) (fun e => by have := C.lq b e; omega)).trans (C.bel.block b hb)⟩,
  W', C.mp.frame (fun b hb => hb.elim (fun e => e ▸ hmb) (hSM b)), C.rw.frame M.size hSM, fun b hb hq => (M.new b hq).elim (C.dj b hb) (fun e => by have := (C.rw b hb).1; omega), C.sw, C.sf, C.mw, C.mf, fun hq => (M.new mb hq).elim C.mq (fun e => by omega), C.lo, fun b hb => (M.new b hb).elim (C.lq b) (fun e => by omega)⟩
def G1 : Value → Bool
 | .int _ 0 => true
 | _ => false
def H8 (wb fb : Nat) (w : World) : Nat := 2 * (match w.heap[fb]? with
    | some (.cells arr _ _) => (arr.toList.filter G1).length
    | _ => 0) + (match w.cell? ⟨wb, 1, none⟩ with
    | some (.slice _ k _) => k
    | _ => 0)
theorem sb (fs : List Int) : ((fs.map (Value.int .i64)).filter G1).length = List.count 0 fs := by
 induction fs with
 | nil => rfl
 | cons x xs ih =>
   simp only [List.map_cons, List.filter_cons, List.count_cons]
   by_cases hx : x = 0
   ·subst hx; simp [G1, ih]
   ·have : G1 (.int .i64 x) = false := by
     unfold G1
     split
     ·rename_i h; cases h; exact absurd rfl hx
     ·rfl
    simp [this, hx, ih]
theorem wo {Sat : (Nat → Bool) → Prop} {wb fb n : Nat} {S : Nat → Prop} {w : World} {fs : List Int} {qk : Nat} {cl : Bool} (W : Wk Sat wb fb n S w fs qk cl) : H8 wb fb w = 2 * List.count 0 fs + qk := by
 obtain ⟨q, h1, h2⟩ := W.box
 obtain ⟨ad, c, rfl⟩ := h2.val
 have hc : w.cell? ⟨wb, 1, none⟩ = some (.slice ad qk c) := aY h1 rfl
 unfold H8
 rw [W.fcd, hc]
 simp [sb]
theorem Wk.pop {Sat : (Nat → Bool) → Prop} {wb fb n : Nat} {S : Nat → Prop} {w : World} {fs : List Int} {k : Nat} {cl : Bool} (W : Wk Sat wb fb n S w fs (k + 1) cl) :
 ∃ b o o' c x, ((c = 1 ∧ o' = o) ∨ (¬ c = 1 ∧ o' = o + 1)) ∧ w.heap[wb]? = some (.cells #[.slice (some ⟨fb, 0, none⟩) (n + 1) (n + 1), .slice (some ⟨b, o, none⟩) (k + 1) c, .bool cl] 503 (0, 0)) ∧ k + 1 ≤ c ∧ w.cell? ⟨b, o, none⟩ = some (.int .i64 x) ∧ Wk Sat wb fb n S (w.setCell ⟨wb, 1, none⟩ (.slice (some ⟨b, o', none⟩) k (c - 1))) fs k cl ∧ Mv wb fb S S w (w.setCell ⟨wb, 1, none⟩ (.slice (some ⟨b, o', none⟩) k (c - 1))) ∧ Mono fs fs (k + 1) k cl cl := by
 obtain ⟨q, hbox, hq⟩ := W.box
 obtain ⟨b, o, c, z, rfl, h1, h2, _⟩ := hq.get W.rows (i := 0) (by omega)
 rcases hq with ⟨h, _⟩ | ⟨b', o', c', arr, h, h3, h4, h5, h6⟩
 ·cases h
 ·cases h
  obtain ⟨o', ho', hoo⟩ : ∃ o', ((c = 1 ∧ o' = o) ∨ (¬ c = 1 ∧ o' = o + 1)) ∧ o' ≤ o + 1 := by
   by_cases hc : c = 1
   ·exact ⟨o, .inl ⟨hc, rfl⟩, by omega⟩
   ·exact ⟨o + 1, .inr ⟨hc, rfl⟩, Nat.le_refl _⟩
  have hs := heap_setCell_same w wb 1 _ 503 (.slice (some ⟨b, o', none⟩) k (c - 1)) hbox
  have ho : ∀ d, d ≠ wb → (w.setCell ⟨wb, 1, none⟩ (.slice (some ⟨b, o', none⟩) k (c - 1))).heap[d]? = w.heap[d]? := fun d hd => heap_setCell_other _ _ _ _ hd
  refine ⟨b, o, o', c, z, ho', hbox, h1, by simpa using h2, ⟨⟨_, hs, .inr ⟨b, o', c - 1, arr, rfl, by omega, h4, (ho b fun e => W.nw (e ▸ h4)).trans h5, by omega⟩⟩, W.rows.frame (by simp) fun d hd => ho d fun e => W.nw (e ▸ hd), (ho fb W.ne.symm).trans W.fcd, W.fl, W.fz, W.bad, W.ne, W.nw, W.nf, by have := W.qz; omega⟩, ⟨rfl, rfl, rfl, by simp, fun d _ hd _ _ => ho d hd, fun _ h => h, fun _ h => .inl h⟩, ⟨fun _ _ => rfl, id, by omega⟩⟩
def UnitP (l : List (List Int)) (fs : List Int) (cl : Bool) (j : Nat) : Prop := ∀ q, q < j → ∀ x, l.getD q [] = [x] → fs.getD x.natAbs 0 = x ∨ cl = true
theorem UnitP.mono {l : List (List Int)} {fs fs' : List Int} {qk qk' : Nat} {cl cl' : Bool} {j : Nat} (h : UnitP l fs cl j) (M : Mono fs fs' qk qk' cl cl') (h0 : ∀ c, c ∈ l → ∀ x, x ∈ c → x ≠ 0) (hj : j ≤ l.length) : UnitP l fs' cl' j := fun q hq x hx => by
 rcases h q hq x hx with h1 | h1
 ·have hx0 : x ≠ 0 := h0 (l.getD q []) (by rw [List.getD_eq_getElem?_getD, List.getElem?_eq_getElem (show q < l.length by omega)]; exact List.getElem_mem _) x (by rw [hx]; simp)
  exact .inl ((M.fd _ (by rw [h1]; exact hx0)).trans h1)
 ·exact .inr (M.cm h1)
end Go.Vd
namespace Go.Vd
open Go.Proofs Go.RowKit
abbrev wn (a : Aig) (ns : List ij) : Aig := { a with names := ns }
abbrev zy (ns : List ij) : ij := ns.getD ((ns.length : Int) - 1).toNat default
abbrev nM (b : List UInt8) (a : Aig) (p : Nat) (ns : List ij) : Int := fp (wn a ns) (dZ (b.getD p 0)) - 1
abbrev m7 (b : List UInt8) (p : Nat) (v : Int) (q : Nat) : ij := ⟨b.getD p 0, v, (dv b q).1⟩
def fm (b : List UInt8) (a : Aig) : Nat → Nat → List ij → Option (List ij × Nat)
 | 0, p, ns => some (ns, p)
 | k + 1, p, ns =>
   if p < b.length then
    if ns.length = 2000 then none
    else if dZ (b.getD p 0) < 0 then none
    else match cG b (p + 1) (nM b a p ns) [32] with
     | none => none
     | some (v, q) =>
       if (dv b q).2.2 ≠ 0 then none
       else if ¬ eL b (dv b q).2.1 [10] = true then none
       else if 0 < ns.length ∧ na (zy ns) (m7 b p v q) = false then none
       else fm b a k ((dv b q).2.1 + 1) (ns ++ [m7 b p v q])
   else some (ns, p)
theorem nJ {b : List UInt8} {a : Aig} {k p : Nat} {ns : List ij} (h : p < b.length) : fm b a (k + 1) p ns =
 if ns.length = 2000 then none
 else if dZ (b.getD p 0) < 0 then none
 else match cG b (p + 1) (nM b a p ns) [32] with
  | none => none
  | some (v, q) =>
    if (dv b q).2.2 ≠ 0 then none
    else if ¬ eL b (dv b q).2.1 [10] = true then none
    else if 0 < ns.length ∧ na (zy ns) (m7 b p v q) = false then none
    else fm b a k ((dv b q).2.1 + 1) (ns ++ [m7 b p v q]) := by
 show (if p < b.length then _ else _) = _
 rw [if_pos h]
theorem pJ {b : List UInt8} {a : Aig} {k p : Nat} {ns : List ij} (h : ¬ p < b.length) : fm b a k p ns = some (ns, p) := by
 cases k with
 | zero => rfl
 | succ k => unfold fm; rw [if_neg h]
def tK (b : List UInt8) (a : Aig) (x : Option (List ij × Nat)) : sq := match x with
 | some (ns, q) => .ret (.tup []) [(900, RB b q), (901, .box [.v (.int .i64 a.i), .v (jL a.l), .v (iH a.g), .v (cf a.outs), .v (cf a.bad), .v (cf a.con), .v (up ns)])]
 | none => .pan 147
theorem AP (b : List UInt8) (p : Nat) (a : Aig) (h : p ≤ b.length) (hb : b.length ≤ 1000000000000) (ha : pT a) : dh Tryz.prog 138 [.ptr 900 0, .ptr 901 0] [(900, .box [.v (cH b), .v (.int .i64 p)]), (901, .box [.v (.int .i64 a.i), .v (jL a.l), .v (iH a.g), .v (cf a.outs), .v (cf a.bad), .v (cf a.con), .nils])] (tK b a (fm b a (b.length - p) p [])) := by
 refine cY ac (f := 138) (fn := Tryz.f138) (N := 128) (rs := []) (by kernel_rfl) rfl (by kernel_rfl) rfl rfl rfl ?_
 intro B β
 refine cT [(0, .ptr 900 0), (1, .ptr 901 0)] [(900, .box [.v (cH b), .v (.int .i64 p)]), (901, .box [.v (.int .i64 a.i), .v (jL a.l), .v (iH a.g), .v (cf a.outs), .v (cf a.bad), .v (cf a.con), .nils])] ⟨J, J, aj⟩ ⟨J, J, aj⟩ J J J J<|aw<|cg (fO (bid := 901) (id := 7) (e := 88) (sz := 3) (j := 6) J J J (by decide)) ?_
 refine aZ (α := Nat × Nat × List ij) (fun ⟨k, q, ns⟩ => mk [(0, .ptr 900 0), (1, .ptr 901 0)] [(900, .box [.v (cH b), .v (.int .i64 q)]), (901, .box [.v (.int .i64 a.i), .v (jL a.l), .v (iH a.g), .v (cf a.outs), .v (cf a.bad), .v (cf a.con), .own 7]), (7, .row 88 3 (ns.map ka))] ⟨0, 0, [(900, β 900), (901, β 901)]⟩) (fun ⟨k, q, ns⟩ => fm b a k q ns = fm b a (b.length - p) p [] ∧ b.length ≤ q + k ∧ q ≤ b.length ∧ ns.length ≤ 2000) (fun ⟨k, q, ns⟩ => b.length - q) ⟨b.length - p, p, []⟩ ⟨rfl, by show _ ≤ p + (_ - p); omega, h, Nat.zero_le _⟩ (aL ⟨rfl, rfl, aj⟩ ⟨rfl, rfl, rfl, aj⟩ rfl rfl rfl rfl) ?_
 rintro ⟨k, q, ns⟩ ⟨hj1, hj2, hj3, hj4⟩
 refine ae<|ae<|aS (L := [([], []), ([900], []), ([900], []), ([900], []), ([], []), ([900], []), ([900], []), ([900], []), ([], []), ([], [])]) (by kernel_rfl) mixed (by kernel_rfl)<|aa J<|bJ J<|ax fW J<|aC bm J<|aa J<|bJ J<|ax fW J<|aC bG J<|aI ac J J bG J aB J J<|bj J (fun h19 => ?_) (fun h19 => ?_)
 ·refine ab<|ai J<|ao<|ak<|aw<|ae ?_
  have hlt : q < b.length := by omega
  have hm := xm (a := wn a ns) ⟨ha.i0, ha.i1, ha.l, ha.o, ha.b, ha.c⟩ (dZ (b.getD q 0))
  have hm2 : -1 ≤ nM b a q ns ∧ nM b a q ns ≤ 1000000 := by (unfold nM; omega)
  obtain ⟨k', rfl⟩ : ∃ k', k = k' + 1 := ⟨k - 1, by omega⟩
  have hun := nJ (a := a) (k := k') (ns := ns) hlt
  rw [hj1] at hun
  refine aF<|aa J<|bJ J<|ax fW J<|aC bm J<|af J<|ab<|ag<|aa J<|bJ J<|ax fW J<|aC bG J<|aa J<|cj bG eK J (by omega) (ek (n := q) hlt) J ?_
  refine bu eK J<|bD [] ac J dC J J aj J J J J J J<|bl (id := 5) dC J<|aR dC [] J aj J<|ab<|ae<|ag<|aa J<|bJ J<|ax aK J<|aC dK J<|dW ac J J J dK J aB J J J<|bc J J J J J (fun h37 => ?_) (fun h37 => ?_)
  ·refine ab<|ai J<|bB 3 (by kernel_rfl) J<|aa J<|bD [] ac J ie J J aj J J J J J J<|gL ac (by decide) J J ie J J ?_
   refine ar ?_
   refine eH J J J ?_
   refine be (bx (dp (bx (fx (by decide) rfl ?_))))
   rw [hun, if_pos (by omega)] <;> rfl
  ·refine ab<|ah J<|ao<|ak<|ae<|ag<|ax dC J<|aC eK J<|ap [] (vT (b.getD q 0)) J J J J J J aj (.inl J) J J J<|bj J (fun h44 => ?_) (fun h44 => ?_)
   ·refine ab<|ai J<|bB 3 (by kernel_rfl) J<|aa J<|bD [] ac J ie J J aj J J J J J J<|gL ac (by decide) J J ie J J ?_
    refine ar ?_
    refine eH J J J ?_
    refine be (bx (dp (bx (fx (by decide) rfl ?_))))
    rw [hun, if_neg (by omega), if_pos (by omega)] <;> rfl
   ·refine ab<|ah J<|ao<|ak<|ag<|aa J<|bJ J<|ax fW J<|aC bm J<|bh J (by omega) (by omega) J ?_
    refine bJ J<|ax fW J<|aR bm [] J aj J<|ab<|ae ?_
    by_cases hn : (cG b (q + 1) (nM b a q ns) [32]).isSome = true
    ·obtain ⟨⟨v, q2⟩, hn2⟩ := Option.isSome_iff_exists.1 hn
     have hq := eW hlt hn2
     have hng := th hq.2.1
     refine aS (L := [([], []), ([], []), ([901], []), ([901], []), ([5], []), ([5], []), ([7], []), ([], []), ([900], [900]), ([5], []), ([5], [5])]) (by kernel_rfl) mixed (by kernel_rfl)<|aa J<|aa J<|bJ J<|a7 aK J<|ax dC J<|aC eK J<|ap [(7, _)] (wt (wn a ns) (b.getD q 0)) J J J J J J ⟨J, aj⟩ (.inr J) J J J<|bX J J J J (by omega) (by omega) J J ?_
     refine bn (dP b [32] (q + 1) (nM b a q ns) hlt hb (by decide) (by omega) (by omega) hn2) J J J J J J J J J J J J ?_
     refine ax dC J<|aR bm [] J aj J<|ab<|ae<|aS (L := [([], []), ([900], []), ([900], []), ([900], []), ([], []), ([900], []), ([900], []), ([900], []), ([], []), ([], []), ([], []), ([], []), ([], []), ([], []), ([], []), ([], [])]) (by kernel_rfl) mixed (by kernel_rfl)<|aa J<|bJ J<|ax fW J<|aC bG J<|aa J<|bJ J<|ax fW J<|aC bm J<|ap [] (D6 b q2 hq.2.1 hb) J J J J J J aj (.inl J) J J J<|aa J ?_
     refine aW J<|aW J<|aW J<|af J<|af J<|af J<|ab<|ae<|ag<|aa J<|bt J J J J J (fun h79 => ?_) (fun h79 => ?_)
     ·refine ab<|ai J<|bB 7 (by kernel_rfl) J<|aa J<|bJ J<|ax fW J<|aC bm J<|aa J<|bD [] ac J ie J J aj J J J J J J<|gL ac (by decide) J J ie J J ?_
      refine ar ?_
      refine eH J J J ?_
      refine be (bx (dp (bx (fx h79 J ?_))))
      first
       | (rw [hun, if_pos (by omega)] <;> rfl)
       | (rw [hun, if_neg (by omega), if_pos (by omega)] <;> rfl)
       | (rw [hun, if_neg (by omega), if_neg (by omega), hn2]; first | rfl | (show tK _ _ (if _ then _ else _) = _; first
        | (rw [if_pos h79] <;> rfl)
        | (rw [if_neg h79, if_pos hw] <;> rfl)
        | (rw [if_neg h79, if_neg (fun h => h hw), if_pos ⟨by omega, by simpa using h112⟩] <;> rfl)))
     ·refine ab<|ah J<|ao<|ak<|ag<|aa J<|aa J<|aa J<|ax dC J<|aR fH [] J aj J<|bJ J<|ax fW J<|aR bm [] J aj J<|ar ?_
      refine ak<|ae ?_
      by_cases hw : eL b (dv b q2).2.1 [10] = true
      ·have hwl : (dv b q2).2.1 + 1 ≤ b.length := c9 hng.2 hw
       refine aF<|aa J<|bn (iK b [10] (dv b q2).2.1 hng.2 hb (by decide) hw) J J J J J J J J J J J J ?_
       refine ab<|ae<|ag<|aa J<|bJ J<|ax aK J<|aC dK J<|dW ac J J J dK J aB J J J<|af J<|ab<|ae<|aS (L := [([], []), ([], []), ([], []), ([], []), ([901], []), ([901], []), ([901], []), ([], []), ([], []), ([7], []), ([7], []), ([5], []), ([], []), ([], []), ([], [])]) (by kernel_rfl) mixed (by kernel_rfl)<|aa J ?_
       refine bW J J J J J (fun h101 => ?_) (fun h101 => ?_)
       ·refine aa J<|aa J<|bJ J<|ax aK J<|aC dK J<|aa J<|bX J J J J (by omega) (by omega) J J ?_
        refine wh ac J J J J dK J dC J (by omega) (by simp; omega) J J J J ?_
        refine sZ (n := ((ns.length : Int) - 1).toNat) ac J J J dC J J (bz (n := ((ns.length : Int) - 1).toNat) (by omega)) J J J J J ?_
        refine a7 dC J<|ap [] (yU (zy ns) (m7 b q v q2)) J J J J J J aj (.inl J) J J J<|bf (fun h112 => ?_) (fun h112 => ?_)
        ·refine bL J<|aV J<|ab<|ah J<|ao<|ak ?_
         have hstep : fm b a k' ((dv b q2).2.1 + 1) (ns ++ [m7 b q v q2]) = fm b a (b.length - p) p [] := by (rw [hun, if_neg (by omega), if_neg (by omega), hn2]; show _ = (if _ then _ else _); rw [if_neg (by omega), if_neg (fun h => h hw), if_neg (fun hh => by rw [h112] at hh; cases hh.2; done)])
         refine aS (L := [([], []), ([], []), ([901], []), ([901], []), ([901], []), ([5], []), ([], []), ([7, 125], [7, 125]), ([901], []), ([901], []), ([125, 901], [901])]) (by kernel_rfl) mixed (by kernel_rfl)<|aa J<|aa J<|bJ J<|ax aK J<|aC dK J<|a7 dC J<|bZ (es := [m7 b q v q2].map ka) dK dC [] J aj J ?_
         refine cw 125 [] ac J dK J dK J dC J J J J ⟨J, J, aj⟩ J (elOk.cons rfl rfl elOk.nil) cA (by constructor <;> simp <;> omega) J J J ?_
         refine bJ J<|ax aK J<|gF [(125, _)] ac J dK J J J ⟨J, aj⟩ J J J J J J J J<|ar<|aH ?_
         exact aT ⟨k', (dv b q2).2.1 + 1, ns ++ [m7 b q v q2]⟩ ⟨hstep, by show _ ≤ (dv b q2).2.1 + 1 + k'; omega, hwl, by simp; omega⟩ (by show b.length - ((dv b q2).2.1 + 1) < b.length - q; omega) (cd [(7, 125)] ⟨J, J, aj⟩ ⟨J, J, J, aj⟩ J J J J J)
        ·refine bL J<|aV J<|ab<|ai J<|bB 3 (by kernel_rfl) J<|aa J<|bD [] ac J ie J J aj J J J J J J<|gL ac (by decide) J J ie J J ?_
         refine ar ?_
         refine eH J J J ?_
         refine be (bx (dp (bx (fx (by decide) rfl ?_))))
         first
          | (rw [hun, if_pos (by omega)] <;> rfl)
          | (rw [hun, if_neg (by omega), if_pos (by omega)] <;> rfl)
          | (rw [hun, if_neg (by omega), if_neg (by omega), hn2]; first | rfl | (show tK _ _ (if _ then _ else _) = _; first
           | (rw [if_pos h79] <;> rfl)
           | (rw [if_neg h79, if_pos hw] <;> rfl)
           | (rw [if_neg h79, if_neg (fun h => h hw), if_pos ⟨by omega, by simpa using h112⟩] <;> rfl)))
       ·refine aa J<|al J<|al J<|al J<|al J<|al J<|al J<|al J<|al J<|al J<|al J<|al J<|aJ J<|ab<|ah J ?_
        refine ao<|ak ?_
        have hstep : fm b a k' ((dv b q2).2.1 + 1) (ns ++ [m7 b q v q2]) = fm b a (b.length - p) p [] := by (rw [hun, if_neg (by omega), if_neg (by omega), hn2]; show _ = (if _ then _ else _); rw [if_neg (by omega), if_neg (fun h => h hw), if_neg (fun hh => by omega)])
        refine aS (L := [([], []), ([], []), ([901], []), ([901], []), ([901], []), ([5], []), ([], []), ([7, 125], [7, 125]), ([901], []), ([901], []), ([125, 901], [901])]) (by kernel_rfl) mixed (by kernel_rfl)<|aa J<|aa J<|bJ J<|ax aK J<|aC dK J<|a7 dC J<|bZ (es := [m7 b q v q2].map ka) dK dC [] J aj J ?_
        refine cw 125 [] ac J dK J dK J dC J J J J ⟨J, J, aj⟩ J (elOk.cons rfl rfl elOk.nil) cA (by constructor <;> simp <;> omega) J J J ?_
        refine bJ J<|ax aK J<|gF [(125, _)] ac J dK J J J ⟨J, aj⟩ J J J J J J J J<|ar<|aH ?_
        exact aT ⟨k', (dv b q2).2.1 + 1, ns ++ [m7 b q v q2]⟩ ⟨hstep, by show _ ≤ (dv b q2).2.1 + 1 + k'; omega, hwl, by simp; omega⟩ (by show b.length - ((dv b q2).2.1 + 1) < b.length - q; omega) (cd [(7, 125)] ⟨J, J, aj⟩ ⟨J, J, J, aj⟩ J J J J J)
      ·refine bB 1 (by kernel_rfl) J<|aa J<|ar ?_
       refine cC [] [(901, .box [.v (.int .i64 a.i), .v (jL a.l), .v (iH a.g), .v (cf a.outs), .v (cf a.bad), .v (cf a.con), .own 7]), (7, .row 88 3 (ns.map ka))] (iP b [10] (dv b q2).2.1 hng.2 hb (by decide) hw) J J J J ⟨J, aj⟩ J J J ⟨J, J, aj⟩ aj J J J J (fun ch hch => ?_)
       refine be (bx (dp (bx (bF hch J ?_))))
       first
        | (rw [hun, if_pos (by omega)] <;> rfl)
        | (rw [hun, if_neg (by omega), if_pos (by omega)] <;> rfl)
        | (rw [hun, if_neg (by omega), if_neg (by omega), hn2]; first | rfl | (show tK _ _ (if _ then _ else _) = _; first
         | (rw [if_pos h79] <;> rfl)
         | (rw [if_neg h79, if_pos hw] <;> rfl)
         | (rw [if_neg h79, if_neg (fun h => h hw), if_pos ⟨by omega, by simpa using h112⟩] <;> rfl)))
    ·have hn2 := dD hn
     refine zf (L := [([], []), ([], []), ([901], []), ([901], []), ([5], []), ([5], []), ([7], []), ([], []), ([900], [900]), ([5], []), ([5], [5])]) 8 63 (by kernel_rfl) mixed (by kernel_rfl) J J ?_ (fun ch hch => ?_)
     ·refine aa J<|aa J<|bJ J<|a7 aK J<|ax dC J<|aC eK J<|ap [(7, _)] (wt (wn a ns) (b.getD q 0)) J J J J J J ⟨J, aj⟩ (.inr J) J J J<|bX J J J J (by omega) (by omega) J J ?_
      refine ar ?_
      refine EK (dO b [32] (q + 1) (nM b a q ns) hlt hb (by decide) (by omega) (by omega) hn2) rfl rfl rfl rfl ⟨rfl, aj⟩ rfl rfl rfl rfl ?_
      refine ax dC J<|aR bm [] J aj J<|ar ?_
      exact rfl
     ·refine be (bx (dp (bx (bF hch J ?_))))
      first
       | (rw [hun, if_pos (by omega)] <;> rfl)
       | (rw [hun, if_neg (by omega), if_pos (by omega)] <;> rfl)
       | (rw [hun, if_neg (by omega), if_neg (by omega), hn2]; first | rfl | (show tK _ _ (if _ then _ else _) = _; first
        | (rw [if_pos h79] <;> rfl)
        | (rw [if_neg h79, if_pos hw] <;> rfl)
        | (rw [if_neg h79, if_neg (fun h => h hw), if_pos ⟨by omega, by simpa using h112⟩] <;> rfl)))
 ·refine ab<|ah J<|cg (bp (id := 7) J)<|cT [(0, .ptr 900 0), (1, .ptr 901 0)] [(900, .box [.v (cH b), .v (.int .i64 q)]), (901, .box [.v (.int .i64 a.i), .v (jL a.l), .v (iH a.g), .v (cf a.outs), .v (cf a.bad), .v (cf a.con), .v (up ns)])] ⟨J, J, aj⟩ ⟨J, J, aj⟩ J J J J<|aO<|ba (a8 (aP ?_))
  refine me (L' := [(900, _), (901, _)]) rfl (fa rfl) ⟨rfl, rfl, aj⟩ rfl rfl rfl rfl ?_
  rw [← hj1, pJ (by omega)]
  rfl
end Go.Vd
namespace Go.Vd
open Go.Proofs Go.RowKit
def wM (b : List UInt8) (p : Nat) (s : List UInt8) : Option Nat := if eL b p s = true then some (p + s.length) else none
theorem wW {b : List UInt8} {p : Nat} {s : List UInt8} (h : eL b p s = true) : wM b p s = some (p + s.length) := if_pos h
theorem wJ {b : List UInt8} {p : Nat} {s : List UInt8} (h : ¬ eL b p s = true) : wM b p s = none := if_neg h
structure HeadM where
 most : Int
 i : Int
 l : Int
 o : Int
 g : Int
 d : Int
 c : Int
 q : Nat
abbrev HeadM.top (h : HeadM) : Int := 2 * (h.most + 1) - 1
def iQ (b : List UInt8) (p : Nat) : Option HeadM :=
 (wM b p [97, 97, 103, 32]).bind fun q0 => (cG b q0 20000 [32]).bind fun x1 => (cG b x1.2 20000 [32]).bind fun x2 => (cG b x2.2 20000 [32]).bind fun x3 => (cG b x3.2 2000 [32]).bind fun x4 => (cG b x4.2 20000 [32]).bind fun x5 => (cG b x5.2 2000 [32]).bind fun x6 => (cG b x6.2 2000 [10]).bind fun x7 =>
  if x1.1 ≠ x2.1 + x3.1 + x5.1 then none else some ⟨x1.1, x2.1, x3.1, x4.1, x5.1, x6.1, x7.1, x7.2⟩
def nx (b : List UInt8) : Nat → Nat → Nat → Option Nat
 | 0, _, q => some q
 | n + 1, j, q => (wM b q (cy (2 * ((j : Int) + 1)) ++ [10])).bind fun q2 => nx b n (j + 1) q2
def iz (b : List UInt8) (i most : Int) : Nat → Nat → Nat → List Latch → Option (List Latch × Nat)
 | 0, _, q, ls => some (ls, q)
 | n + 1, j, q, ls => (wM b q (cy (2 * (i + (j : Int) + 1)) ++ [32])).bind fun q1 => (cG b q1 most [32]).bind fun x => (cG b x.2 most [10]).bind fun y =>
   if y.1 > 1 ∧ y.1 ≠ 2 * (i + (j : Int) + 1) then none else iz b i most n (j + 1) y.2 (ls ++ [⟨x.1, y.1⟩])
def jb (b : List UInt8) (k : Int) : Nat → Nat → Nat → List Gate → Option (List Gate × Nat)
 | 0, _, q, gs => some (gs, q)
 | n + 1, j, q, gs => (wM b q (cy (2 * (k + (j : Int) + 1)) ++ [32])).bind fun q1 => (cG b q1 (2 * (k + (j : Int) + 1) - 1) [32]).bind fun x => (cG b x.2 x.1 [10]).bind fun y =>
   jb b k n (j + 1) y.2 (gs ++ [⟨x.1, y.1⟩])
section
variable {b : List UInt8} {i k most : Int} {n j q q1 r1 r2 : Nat} {v1 v2 : Int} {ls : List Latch} {gs : List Gate}
theorem xu (h : wM b q (cy (2 * ((j : Int) + 1)) ++ [10]) = some q1) : nx b (n + 1) j q = nx b n (j + 1) q1 := by
 show (wM _ _ _).bind _ = _; rw [h]; rfl
theorem yr (h : wM b q (cy (2 * ((j : Int) + 1)) ++ [10]) = none) : nx b (n + 1) j q = none := by
 show (wM _ _ _).bind _ = _; rw [h]; rfl
theorem Cx (h : wM b q (cy (2 * (i + (j : Int) + 1)) ++ [32]) = none) : iz b i most (n + 1) j q ls = none := by
 show (wM _ _ _).bind _ = _; rw [h]; rfl
theorem xk (h : wM b q (cy (2 * (i + (j : Int) + 1)) ++ [32]) = some q1) : iz b i most (n + 1) j q ls = (cG b q1 most [32]).bind fun x => (cG b x.2 most [10]).bind fun y =>
 if y.1 > 1 ∧ y.1 ≠ 2 * (i + (j : Int) + 1) then none else iz b i most n (j + 1) y.2 (ls ++ [⟨x.1, y.1⟩]) := by
 show (wM _ _ _).bind _ = _; rw [h]; rfl
theorem Bh (h : wM b q (cy (2 * (i + (j : Int) + 1)) ++ [32]) = some q1) (h1 : cG b q1 most [32] = none) : iz b i most (n + 1) j q ls = none := by
 rw [xk h, h1]; rfl
theorem xo (h : wM b q (cy (2 * (i + (j : Int) + 1)) ++ [32]) = some q1) (h1 : cG b q1 most [32] = some (v1, r1)) : iz b i most (n + 1) j q ls = (cG b r1 most [10]).bind fun y =>
 if y.1 > 1 ∧ y.1 ≠ 2 * (i + (j : Int) + 1) then none else iz b i most n (j + 1) y.2 (ls ++ [⟨v1, y.1⟩]) := by
 rw [xk h, h1]; rfl
theorem Cd (h : wM b q (cy (2 * (i + (j : Int) + 1)) ++ [32]) = some q1) (h1 : cG b q1 most [32] = some (v1, r1)) (h2 : cG b r1 most [10] = none) : iz b i most (n + 1) j q ls = none := by
 rw [xo h h1, h2]; rfl
theorem rS (h : wM b q (cy (2 * (i + (j : Int) + 1)) ++ [32]) = some q1) (h1 : cG b q1 most [32] = some (v1, r1)) (h2 : cG b r1 most [10] = some (v2, r2)) : iz b i most (n + 1) j q ls =
 if v2 > 1 ∧ v2 ≠ 2 * (i + (j : Int) + 1) then none else iz b i most n (j + 1) r2 (ls ++ [⟨v1, v2⟩]) := by
 rw [xo h h1, h2]; rfl
theorem Bw (h : wM b q (cy (2 * (k + (j : Int) + 1)) ++ [32]) = none) : jb b k (n + 1) j q gs = none := by
 show (wM _ _ _).bind _ = _; rw [h]; rfl
theorem xg (h : wM b q (cy (2 * (k + (j : Int) + 1)) ++ [32]) = some q1) : jb b k (n + 1) j q gs = (cG b q1 (2 * (k + (j : Int) + 1) - 1) [32]).bind fun x => (cG b x.2 x.1 [10]).bind fun y =>
 jb b k n (j + 1) y.2 (gs ++ [⟨x.1, y.1⟩]) := by
 show (wM _ _ _).bind _ = _; rw [h]; rfl
theorem By (h : wM b q (cy (2 * (k + (j : Int) + 1)) ++ [32]) = some q1) (h1 : cG b q1 (2 * (k + (j : Int) + 1) - 1) [32] = none) : jb b k (n + 1) j q gs = none := by
 rw [xg h, h1]; rfl
theorem wy (h : wM b q (cy (2 * (k + (j : Int) + 1)) ++ [32]) = some q1) (h1 : cG b q1 (2 * (k + (j : Int) + 1) - 1) [32] = some (v1, r1)) : jb b k (n + 1) j q gs = (cG b r1 v1 [10]).bind fun y =>
 jb b k n (j + 1) y.2 (gs ++ [⟨v1, y.1⟩]) := by
 rw [xg h, h1]; rfl
theorem Bi (h : wM b q (cy (2 * (k + (j : Int) + 1)) ++ [32]) = some q1) (h1 : cG b q1 (2 * (k + (j : Int) + 1) - 1) [32] = some (v1, r1)) (h2 : cG b r1 v1 [10] = none) : jb b k (n + 1) j q gs = none := by
 rw [wy h h1, h2]; rfl
theorem Bo (h : wM b q (cy (2 * (k + (j : Int) + 1)) ++ [32]) = some q1) (h1 : cG b q1 (2 * (k + (j : Int) + 1) - 1) [32] = some (v1, r1)) (h2 : cG b r1 v1 [10] = some (v2, r2)) : jb b k (n + 1) j q gs = jb b k n (j + 1) r2 (gs ++ [⟨v1, v2⟩]) := by
 rw [wy h h1, h2]; rfl
end
theorem mV {b : List UInt8} {most : Int} : ∀ {n p : Nat} {out l : List Int} {q : Nat}, p ≤ b.length → ge b most n p out = some (l, q) → q ≤ b.length ∧ l.length = out.length + n
 | 0, p, out, l, q, hp, h => by cases h; exact ⟨hp, rfl⟩
 | n + 1, p, out, l, q, hp, h => by
   unfold ge at h
   split at h
   ·rename_i v q' he
    have h1 := eW hp he
    have := mV h1.2.1 h
    simp only [List.length_append, List.length_cons, List.length_nil] at this
    exact ⟨this.1, by omega⟩
   ·cases h
def Ct (b : List UInt8) (h : HeadM) (ls : List Latch) (os bd cn : List Int) (gs : List Gate) (q : Nat) : Option (Aig × Nat) :=
 (fm b ⟨h.i, ls, gs, os, bd, cn, []⟩ (b.length - q) q []).bind fun x => some (⟨h.i, ls, gs, os, bd, cn, x.1⟩, x.2)
def EF (b : List UInt8) (h : HeadM) (ls : List Latch) (os bd cn : List Int) (q : Nat) : Option (Aig × Nat) :=
 (jb b (h.i + h.l) h.g.toNat 0 q []).bind fun x => Ct b h ls os bd cn x.1 x.2
def Ep (b : List UInt8) (h : HeadM) (ls : List Latch) (os bd : List Int) (q : Nat) : Option (Aig × Nat) :=
 (ge b h.top h.c.toNat q []).bind fun x => EF b h ls os bd x.1 x.2
def DF (b : List UInt8) (h : HeadM) (ls : List Latch) (os : List Int) (q : Nat) : Option (Aig × Nat) :=
 (ge b h.top h.d.toNat q []).bind fun x => Ep b h ls os x.1 x.2
def E6 (b : List UInt8) (h : HeadM) (ls : List Latch) (q : Nat) : Option (Aig × Nat) :=
 (ge b h.top h.o.toNat q []).bind fun x => DF b h ls x.1 x.2
def EL (b : List UInt8) (h : HeadM) (q : Nat) : Option (Aig × Nat) :=
 (iz b h.i h.top h.l.toNat 0 q []).bind fun x => E6 b h x.1 x.2
def D5 (b : List UInt8) (h : HeadM) : Option (Aig × Nat) := (nx b h.i.toNat 0 h.q).bind fun q => EL b h q
def cO (b : List UInt8) (p : Nat) : Option (Aig × Nat) := (iQ b p).bind fun h => D5 b h
theorem eO {α β : Type} {x : Option α} {a : α} {f : α → Option β} (h : x = some a) : x.bind f = f a := by rw [h]; rfl
theorem co {α β : Type} {x : Option α} {f : α → Option β} (h : x = none) : x.bind f = none := by rw [h]; rfl
theorem iF (b : List UInt8) (p : Nat) (n most : Int) (h : p ≤ b.length) (hb : b.length ≤ 1000000000000) (hn0 : n ≤ 1000000) (hm : -1 ≤ most) (hm2 : most ≤ 1000000000000) {l : List Int} {q : Nat} (he : ge b most n.toNat p [] = some (l, q)) : dh Tryz.prog 137 [.ptr 900 0, .v (.int .i64 n), .v (.int .i64 most)] [(900, RB b p)] (.ret (.v (cf l)) [(900, RB b q)]) := by
 have := AK b p n most h hb hn0 hm hm2
 rw [he] at this; exact this
theorem nt (b : List UInt8) (p : Nat) (n most : Int) (h : p ≤ b.length) (hb : b.length ≤ 1000000000000) (hn0 : n ≤ 1000000) (hm : -1 ≤ most) (hm2 : most ≤ 1000000000000) (he : ge b most n.toNat p [] = none) : dh Tryz.prog 137 [.ptr 900 0, .v (.int .i64 n), .v (.int .i64 most)] [(900, RB b p)] (.pan 147) := by
 have := AK b p n most h hb hn0 hm hm2
 rw [he] at this; exact this
abbrev AB (a : Aig) (x : D) : Blk := .box [.v (.int .i64 a.i), .v (jL a.l), .v (iH a.g), .v (cf a.outs), .v (cf a.bad), .v (cf a.con), x]
theorem xt (b : List UInt8) (p : Nat) (a : Aig) (h : p ≤ b.length) (hb : b.length ≤ 1000000000000) (ha : pT a) {l : List ij} {q : Nat} (he : fm b a (b.length - p) p [] = some (l, q)) : dh Tryz.prog 138 [.ptr 900 0, .ptr 901 0] [(900, RB b p), (901, AB a .nils)] (.ret (.tup []) [(900, RB b q), (901, AB a (.v (up l)))]) := by
 have := AP b p a h hb ha
 rw [he] at this; exact this
theorem xB (b : List UInt8) (p : Nat) (a : Aig) (h : p ≤ b.length) (hb : b.length ≤ 1000000000000) (ha : pT a) (he : fm b a (b.length - p) p [] = none) : dh Tryz.prog 138 [.ptr 900 0, .ptr 901 0] [(900, RB b p), (901, AB a .nils)] (.pan 147) := by
 have := AP b p a h hb ha
 rw [he] at this; exact this
def Ik (b : List UInt8) (x : Option (Aig × Nat)) : sq := match x with
 | some (a, q) => .ret (.v (bq a)) [(900, RB b q)]
 | none => .pan 147
theorem lM (n : Int) (h0 : 0 ≤ n) (h1 : n ≤ 1000000000) : dn 136 [.int .i64 n] (.int .i64 (2 * (n + 1))) := by
 refine bC ac (f := 136) (fn := Tryz.f136) (N := 6) (rs := [.tmp 2]) (by kernel_rfl) rfl (by kernel_rfl) rfl rfl [(0, .v (.int .i64 n))] ⟨rfl, aj⟩ rfl rfl ?_
 intro B
 refine ag<|af J<|ab<|ag<|aa J<|bh J (by omega) (by omega) J ?_
 refine dA J J J J (by omega) (by omega) J J ?_
 refine af J<|ab<|am ?_
 refine an J J ?_
 show V.int .i64 _ = _; first | rfl | (congr 1)
set_option maxHeartbeats 40000000 in
theorem CG (b : List UInt8) (p : Nat) (h : p ≤ b.length) (hb : b.length ≤ 1000000000000) : dh Tryz.prog 67 [.ptr 900 0] [(900, .box [.v (cH b), .v (.int .i64 p)])] (Ik b (cO b p)) := by
 refine cY ac (f := 67) (fn := Tryz.f67) (N := 171) (rs := [.cell 2 33]) (by kernel_rfl) rfl (by kernel_rfl) rfl rfl rfl ?_
 intro B β
 refine cT [(0, .ptr 900 0)] [(900, .box [.v (cH b), .v (.int .i64 p)])] ⟨J, aj⟩ ⟨J, aj⟩ J J J J<|ag<|bl (id := 2) aK J<|ab<|ae ?_
 by_cases hw0 : eL b p [97, 97, 103, 32] = true
 ·have hw0l : p + [97, 97, 103, 32].length ≤ b.length := c9 (by omega) hw0
  have hw0l' : p + 4 ≤ b.length := hw0l
  have hw0' : wM b p [97, 97, 103, 32] = some (p + 4) := wW hw0
  refine aF<|aa J<|bn (iK b [97, 97, 103, 32] p (by omega) hb (by decide) hw0) J J J J J J J J J J J J ?_
  refine ab<|ag<|aa J<|bJ J<|ax fW J<|aC bm J<|af J<|ab<|ae ?_
  by_cases hn1 : (cG b (p + 4) 20000 [32]).isSome = true
  ·obtain ⟨⟨vm, q1⟩, hn12⟩ := Option.isSome_iff_exists.1 hn1
   have hn1q := eW (show (p + 4) ≤ b.length by omega) hn12
   refine aF<|aa J<|bn (dP b [32] (p + 4) 20000 (by omega) hb (by decide) (by omega) (by omega) hn12) J J J J J J J J J J J J ?_
   refine af J<|ab<|ae ?_
   by_cases hn2 : (cG b q1 20000 [32]).isSome = true
   ·obtain ⟨⟨vi, q2⟩, hn22⟩ := Option.isSome_iff_exists.1 hn2
    have hn2q := eW (show q1 ≤ b.length by omega) hn22
    refine aF<|aa J<|bn (dP b [32] q1 20000 (by omega) hb (by decide) (by omega) (by omega) hn22) J J J J J J J J J J J J ?_
    refine bD [] ac J aK J J aj J J J J J J<|bl (id := 901) aK J<|aR aK [] J aj J<|ab<|ae ?_
    by_cases hn3 : (cG b q2 20000 [32]).isSome = true
    ·obtain ⟨⟨vl, q3⟩, hn32⟩ := Option.isSome_iff_exists.1 hn3
     have hn3q := eW (show q2 ≤ b.length by omega) hn32
     refine aF<|aa J<|bn (dP b [32] q2 20000 (by omega) hb (by decide) (by omega) (by omega) hn32) J J J J J J J J J J J J ?_
     refine af J<|ab<|ae ?_
     by_cases hn4 : (cG b q3 2000 [32]).isSome = true
     ·obtain ⟨⟨vo, q4⟩, hn42⟩ := Option.isSome_iff_exists.1 hn4
      have hn4q := eW (show q3 ≤ b.length by omega) hn42
      refine aF<|aa J<|bn (dP b [32] q3 2000 (by omega) hb (by decide) (by omega) (by omega) hn42) J J J J J J J J J J J J ?_
      refine af J<|ab<|ae ?_
      by_cases hn5 : (cG b q4 20000 [32]).isSome = true
      ·obtain ⟨⟨vg, q5⟩, hn52⟩ := Option.isSome_iff_exists.1 hn5
       have hn5q := eW (show q4 ≤ b.length by omega) hn52
       refine aF<|aa J<|bn (dP b [32] q4 20000 (by omega) hb (by decide) (by omega) (by omega) hn52) J J J J J J J J J J J J ?_
       refine af J<|ab<|ae ?_
       by_cases hn6 : (cG b q5 2000 [32]).isSome = true
       ·obtain ⟨⟨vb, q6⟩, hn62⟩ := Option.isSome_iff_exists.1 hn6
        have hn6q := eW (show q5 ≤ b.length by omega) hn62
        refine aF<|aa J<|bn (dP b [32] q5 2000 (by omega) hb (by decide) (by omega) (by omega) hn62) J J J J J J J J J J J J ?_
        refine af J<|ab<|ae ?_
        by_cases hn7 : (cG b q6 2000 [10]).isSome = true
        ·obtain ⟨⟨vc, q7⟩, hn72⟩ := Option.isSome_iff_exists.1 hn7
         have hn7q := eW (show q6 ≤ b.length by omega) hn72
         refine aF<|aa J<|bn (dP b [10] q6 2000 (by omega) hb (by decide) (by omega) (by omega) hn72) J J J J J J J J J J J J ?_
         refine af J<|ab<|ae<|ag<|aa J<|ax aK J<|aC bm J<|aa J<|bh J (by omega) (by omega) J ?_
         refine aa J<|bh J (by omega) (by omega) J ?_
         refine bt J J J J J (fun h48 => ?_) (fun h48 => ?_)
         ·refine ab<|ai J ?_
          have hmN : cO b p = none := co (by (simp only [iQ, hw0', hn12, hn22, hn32, hn42, hn52, hn62, hn72, Option.bind_some]; exact if_pos (by omega)))
          refine bB 3 (by kernel_rfl) J<|aa J<|bD [] ac J ie J J aj J J J J J J<|gL ac (by decide) J J ie J J ?_
          refine ar ?_
          refine eH J J J ?_
          refine be (fx (by decide) rfl ?_)
          rw [hmN]
          rfl
         ·refine ab<|ah J<|ao<|ak<|ae ?_
          have hm1 : cO b p = D5 b (HeadM.mk vm vi vl vo vg vb vc q7) := eO (by (simp only [iQ, hw0', hn12, hn22, hn32, hn42, hn52, hn62, hn72, Option.bind_some]; exact if_neg (by omega)))
          refine aF<|af J<|ab<|ag<|aa J<|aa J<|ap [] (lM vm (by omega) (by omega)) J J J J J J aj (.inl J) J J J ?_
          refine bX J J J J (by omega) (by omega) J J ?_
          refine af J<|ab<|ae<|ag<|ax aK J<|aC bm J<|aa J<|ab<|aw ?_
          refine aZ (α := Nat × Nat) (fun ⟨j, qa⟩ => mk [(0, .ptr 900 0), (2, .ptr 2 0), (5, .ptr 901 0), (6, .v (.int .i64 vl)), (7, .v (.int .i64 vo)), (8, .v (.int .i64 vg)), (9, .v (.int .i64 vb)), (10, .v (.int .i64 vc)), (11, .v (.fn (.func 136) [] [])), (12, .v (.int .i64 (2 * (vm + 1) - 1))), (57, .v (.int .i64 vi)), (58, .v (.int .i64 j))] [(900, .box [.v (cH b), .v (.int .i64 qa)]), (901, .box [.v (.int .i64 vi), .nils, .nils, .nils, .nils, .nils, .nils]), (2, .box [.v (.int .i64 0), .nils, .nils, .nils, .nils, .nils, .nils])] ⟨0, 0, [(900, β 900)]⟩) (fun ⟨j, qa⟩ => j ≤ vi.toNat ∧ nx b (vi.toNat - j) j qa = nx b vi.toNat 0 q7 ∧ qa ≤ b.length) (fun ⟨j, qa⟩ => vi.toNat - j) ⟨0, q7⟩ ⟨Nat.zero_le _, rfl, by omega⟩ (aL ⟨rfl, rfl, rfl, rfl, rfl, rfl, rfl, rfl, rfl, rfl, rfl, rfl, aj⟩ ⟨rfl, rfl, rfl, aj⟩ rfl rfl rfl rfl) ?_
          rintro ⟨j, qa⟩ ⟨hj1, hj2, hj3⟩
          refine ag<|bj J (fun h59 => ?_) (fun h59 => ?_)
          ·refine ab<|ae<|ai J<|ao<|ak<|ae<|aw<|ag<|aa J<|af J<|ab ?_
           by_cases hwa : eL b qa (cy (2 * ((j : Int) + 1)) ++ [10]) = true
           ·have hwal : qa + (cy (2 * ((j : Int) + 1)) ++ [10]).length ≤ b.length := c9 (by omega) hwa
            have hst : nx b (vi.toNat - (j + 1)) (j + 1) (qa + (cy (2 * ((j : Int) + 1)) ++ [10]).length) = nx b vi.toNat 0 q7 := by (rw [← hj2, show vi.toNat - j = (vi.toNat - (j + 1)) + 1 by omega]; exact (xu (wW hwa)).symm)
            refine aF<|aa J<|aa J<|aa J<|ap [] (lM (j : Int) (by omega) (by omega)) J J J J J J aj (.inl J) J J J ?_
            refine bZ (es := [2 * ((j : Int) + 1)].map d7) br bm [] J aj J<|ap [] (CN (2 * ((j : Int) + 1)) (by omega) (by omega)) J J J J J J aj (.inl J) J J J ?_
            refine bn (iK b (cy (2 * ((j : Int) + 1)) ++ [10]) qa (by omega) hb (gm (by omega) (by omega) _) hwa) J J J J J J J J J J J J ?_
            refine ar<|aH<|ak<|aF<|bh J (by omega) (by omega) J ?_
            refine aa J<|ar ?_
            exact aT ⟨j + 1, qa + (cy (2 * ((j : Int) + 1)) ++ [10]).length⟩ ⟨by show j + 1 ≤ _; omega, hst, hwal⟩ (by show vi.toNat - (j + 1) < vi.toNat - j; omega) (aL ⟨J, J, J, J, J, J, J, J, J, J, J, J, aj⟩ ⟨J, J, J, aj⟩ J J J J)
           ·have hmN : cO b p = none := by (rw [hm1]; exact co (show nx b vi.toNat 0 q7 = none by (rw [← hj2, show vi.toNat - j = (vi.toNat - (j + 1)) + 1 by omega]; exact yr (wJ hwa))))
            refine bB 6 (by kernel_rfl) J<|aa J<|aa J<|aa J<|ap [] (lM (j : Int) (by omega) (by omega)) J J J J J J aj (.inl J) J J J ?_
            refine bZ (es := [2 * ((j : Int) + 1)].map d7) br bm [] J aj J<|ap [] (CN (2 * ((j : Int) + 1)) (by omega) (by omega)) J J J J J J aj (.inl J) J J J ?_
            refine ar ?_
            refine cC [] [] (iP b (cy (2 * ((j : Int) + 1)) ++ [10]) qa (by omega) hb (gm (by omega) (by omega) _) hwa) J J J J ⟨J, aj⟩ J J J aj aj J J J J (fun ch hch => ?_)
            refine bx (be (dp (bx (be (bF hch J ?_)))))
            rw [hmN]
            rfl
          ·refine ab<|ae<|ah J<|aO<|ba (a8 (aP ?_))
           refine ak<|ae<|ae ?_
           have hI : nx b vi.toNat 0 q7 = some qa := by (rw [← hj2, show vi.toNat - j = 0 by omega]; rfl)
           have hm2 : cO b p = EL b (HeadM.mk vm vi vl vo vg vb vc q7) qa := by (rw [hm1]; exact eO hI)
           refine aF<|aa J<|aa J<|ab<|aw<|cg (fO (bid := 901) (id := 505) (e := 55) (sz := 2) (j := 1) J J J (by decide)) ?_
           refine aZ (α := Nat × Nat × List Latch) (fun ⟨j2, qb, ls⟩ => mk [(0, .ptr 900 0), (2, .ptr 2 0), (5, .ptr 901 0), (6, .v (.int .i64 vl)), (7, .v (.int .i64 vo)), (8, .v (.int .i64 vg)), (9, .v (.int .i64 vb)), (10, .v (.int .i64 vc)), (11, .v (.fn (.func 136) [] [])), (12, .v (.int .i64 (2 * (vm + 1) - 1))), (69, .v (.int .i64 vl)), (70, .v (.int .i64 j2))] [(900, .box [.v (cH b), .v (.int .i64 qb)]), (901, .box [.v (.int .i64 vi), .own 505, .nils, .nils, .nils, .nils, .nils]), (2, .box [.v (.int .i64 0), .nils, .nils, .nils, .nils, .nils, .nils]), (505, .row 55 2 (ls.map pL))] ⟨0, 0, [(900, β 900)]⟩) (fun ⟨j2, qb, ls⟩ => j2 ≤ vl.toNat ∧ iz b vi (2 * (vm + 1) - 1) (vl.toNat - j2) j2 qb ls = iz b vi (2 * (vm + 1) - 1) vl.toNat 0 qa [] ∧ qb ≤ b.length ∧ ls.length ≤ j2) (fun ⟨j2, qb, ls⟩ => vl.toNat - j2) ⟨0, qa, []⟩ ⟨Nat.zero_le _, J, hj3, Nat.le_refl _⟩ (aL ⟨J, J, J, J, J, J, J, J, J, J, J, J, aj⟩ ⟨J, J, J, J, aj⟩ J J J J) ?_
           rintro ⟨j2, qb, ls⟩ ⟨hk1, hk2, hk3, hk4⟩
           refine ag<|bj J (fun h71 => ?_) (fun h71 => ?_)
           ·refine ab<|ae<|ai J<|ao<|ak<|ae<|aw<|ag<|aa J<|af J<|ab<|ae ?_
            by_cases hwb : eL b qb (cy (2 * (vi + (j2 : Int) + 1)) ++ [32]) = true
            ·have hwbl : qb + (cy (2 * (vi + (j2 : Int) + 1)) ++ [32]).length ≤ b.length := c9 (by omega) hwb
             have hwb3 := wW hwb
             refine aF<|aa J<|aa J<|ax aK J<|aC bm J<|aa J<|bh J (by omega) (by omega) J ?_
             refine ap [] (lM (vi + (j2 : Int)) (by omega) (by omega)) J J J J J J aj (.inl J) J J J ?_
             refine ap [] (lL (2 * (vi + (j2 : Int) + 1)) (by omega) (by omega)) J J J J J J aj (.inl J) J J J ?_
             refine gx J J J (by have := fP (2 * (vi + (j2 : Int) + 1)) (by omega) (by omega); simp; omega) J J ?_
             refine bn (iK b (cy (2 * (vi + (j2 : Int) + 1)) ++ [32]) qb (by omega) hb (gm (by omega) (by omega) _) hwb) J J J J J J J J J J J J ?_
             refine ab<|ae ?_
             by_cases hl1 : (cG b (qb + (cy (2 * (vi + (j2 : Int) + 1)) ++ [32]).length) (2 * (vm + 1) - 1) [32]).isSome = true
             ·obtain ⟨⟨v1, r1⟩, hl12⟩ := Option.isSome_iff_exists.1 hl1
              have hl1q := eW (show (qb + (cy (2 * (vi + (j2 : Int) + 1)) ++ [32]).length) ≤ b.length by omega) hl12
              refine aF<|aa J<|aa J<|bn (dP b [32] (qb + (cy (2 * (vi + (j2 : Int) + 1)) ++ [32]).length) (2 * (vm + 1) - 1) (by omega) hb (by decide) (by omega) (by omega) hl12) J J J J J J J J J J J J ?_
              refine bD [] ac J c7 J J aj J J J J J J<|bl (id := 15) c7 J<|aR c7 [] J aj J<|ab<|ag<|aa J<|bJ J<|ax fW J<|aC bm J<|af J<|ab<|ae ?_
              by_cases hl2 : (cG b r1 (2 * (vm + 1) - 1) [10]).isSome = true
              ·obtain ⟨⟨v2, r2⟩, hl22⟩ := Option.isSome_iff_exists.1 hl2
               have hl2q := eW (show r1 ≤ b.length by omega) hl22
               refine aF<|aa J<|aa J<|bn (dP b [10] r1 (2 * (vm + 1) - 1) (by omega) hb (by decide) (by omega) (by omega) hl22) J J J J J J J J J J J J ?_
               refine ax c7 J<|aR bm [] J aj J<|ab<|ae<|ae<|aS (L := [([15], []), ([15], []), ([], []), ([], []), ([15], []), ([15], []), ([], []), ([901], []), ([901], []), ([], []), ([], []), ([], []), ([], []), ([], [])]) (by kernel_rfl) mixed (by kernel_rfl)<|ax c7 J<|aC bm J<|bW J J J J J (fun h97 => ?_) (fun h97 => ?_)
               ·refine aa J<|ax c7 J<|aC bm J<|aa J<|ax aK J<|aC bm J<|aa J<|bh J (by omega) (by omega) J ?_
                refine ap [] (lM (vi + (j2 : Int)) (by omega) (by omega)) J J J J J J aj (.inl J) J J J ?_
                refine bt J J J J J (fun h107 => ?_) (fun h107 => ?_)
                ·refine aV J<|ab<|ai J ?_
                 have hmN : cO b p = none := by (rw [hm2]; exact co (show iz b vi (2 * (vm + 1) - 1) vl.toNat 0 qa [] = none by (rw [← hk2, show vl.toNat - j2 = (vl.toNat - (j2 + 1)) + 1 by omega]; exact (rS hwb3 hl12 hl22).trans (if_pos ⟨by omega, by omega⟩))))
                 refine bB 3 (by kernel_rfl) J<|aa J<|bD [] ac J ie J J aj J J J J J J<|gL ac (by decide) J J ie J J ?_
                 refine ar ?_
                 refine eH J J J ?_
                 refine be (bx (be (dp (bx (be (fx (by decide) rfl ?_))))))
                 rw [hmN]
                 rfl
                ·refine aV J<|ab<|ah J<|ao<|ak ?_
                 have hst2 : iz b vi (2 * (vm + 1) - 1) (vl.toNat - (j2 + 1)) (j2 + 1) r2 (ls ++ [⟨v1, v2⟩]) = iz b vi (2 * (vm + 1) - 1) vl.toNat 0 qa [] := by (rw [← hk2, show vl.toNat - j2 = (vl.toNat - (j2 + 1)) + 1 by omega]; exact ((rS hwb3 hl12 hl22).trans (if_neg (fun hh => by omega))).symm)
                 refine aF<|ax aK J<|aC cR J<|a7 c7 J<|bZ (es := [Latch.mk v1 v2].map pL) cR c7 [] J aj J ?_
                 refine cw 116 [] ac J cR J cR J c7 J J J J ⟨J, J, aj⟩ J (elOk.cons rfl rfl elOk.nil) cA (by constructor <;> simp <;> omega) J J J ?_
                 refine ax aK J<|gF [(116, _)] ac J cR J J J ⟨J, aj⟩ J J J J J J J J<|ar<|aH<|ak<|aF<|bh J (by omega) (by omega) J ?_
                 refine aa J<|ar ?_
                 exact aT ⟨j2 + 1, r2, ls ++ [⟨v1, v2⟩]⟩ ⟨by show j2 + 1 ≤ _; omega, hst2, hl2q.2.1, by simp; omega⟩ (by show vl.toNat - (j2 + 1) < vl.toNat - j2; omega) (cd [(505, 116)] ⟨J, J, J, J, J, J, J, J, J, J, J, J, aj⟩ ⟨J, J, J, J, aj⟩ J J J J J)
               ·refine aa J<|al J<|al J<|al J<|al J<|al J<|al J<|al J<|al J<|al J<|aJ J<|ab<|ah J<|ao<|ak ?_
                have hst2 : iz b vi (2 * (vm + 1) - 1) (vl.toNat - (j2 + 1)) (j2 + 1) r2 (ls ++ [⟨v1, v2⟩]) = iz b vi (2 * (vm + 1) - 1) vl.toNat 0 qa [] := by (rw [← hk2, show vl.toNat - j2 = (vl.toNat - (j2 + 1)) + 1 by omega]; exact ((rS hwb3 hl12 hl22).trans (if_neg (fun hh => by omega))).symm)
                refine aF<|ax aK J<|aC cR J<|a7 c7 J<|bZ (es := [Latch.mk v1 v2].map pL) cR c7 [] J aj J ?_
                refine cw 116 [] ac J cR J cR J c7 J J J J ⟨J, J, aj⟩ J (elOk.cons rfl rfl elOk.nil) cA (by constructor <;> simp <;> omega) J J J ?_
                refine ax aK J<|gF [(116, _)] ac J cR J J J ⟨J, aj⟩ J J J J J J J J<|ar<|aH<|ak<|aF<|bh J (by omega) (by omega) J ?_
                refine aa J<|ar ?_
                exact aT ⟨j2 + 1, r2, ls ++ [⟨v1, v2⟩]⟩ ⟨by show j2 + 1 ≤ _; omega, hst2, hl2q.2.1, by simp; omega⟩ (by show vl.toNat - (j2 + 1) < vl.toNat - j2; omega) (cd [(505, 116)] ⟨J, J, J, J, J, J, J, J, J, J, J, J, aj⟩ ⟨J, J, J, J, aj⟩ J J J J J)
              ·have hl22 := dD hl2
               have hmN : cO b p = none := by (rw [hm2]; exact co (show iz b vi (2 * (vm + 1) - 1) vl.toNat 0 qa [] = none by (rw [← hk2, show vl.toNat - j2 = (vl.toNat - (j2 + 1)) + 1 by omega]; exact Cd hwb3 hl12 hl22)))
               refine bB 2 (by kernel_rfl) J<|aa J<|aa J<|ar ?_
               refine cC [] [] (dO b [10] r1 (2 * (vm + 1) - 1) (by omega) hb (by decide) (by omega) (by omega) hl22) J J J J ⟨J, aj⟩ J J J aj aj J J J J (fun ch hch => ?_)
               refine be (bx (be (dp (bx (be (bF hch J ?_))))))
               rw [hmN]
               rfl
             ·have hl12 := dD hl1
              have hmN : cO b p = none := by (rw [hm2]; exact co (show iz b vi (2 * (vm + 1) - 1) vl.toNat 0 qa [] = none by (rw [← hk2, show vl.toNat - j2 = (vl.toNat - (j2 + 1)) + 1 by omega]; exact Bh hwb3 hl12)))
              refine bB 2 (by kernel_rfl) J<|aa J<|aa J<|ar ?_
              refine cC [] [] (dO b [32] (qb + (cy (2 * (vi + (j2 : Int) + 1)) ++ [32]).length) (2 * (vm + 1) - 1) (by omega) hb (by decide) (by omega) (by omega) hl12) J J J J ⟨J, aj⟩ J J J aj aj J J J J (fun ch hch => ?_)
              refine be (bx (be (dp (bx (be (bF hch J ?_))))))
              rw [hmN]
              rfl
            ·have hmN : cO b p = none := by (rw [hm2]; exact co (show iz b vi (2 * (vm + 1) - 1) vl.toNat 0 qa [] = none by (rw [← hk2, show vl.toNat - j2 = (vl.toNat - (j2 + 1)) + 1 by omega]; exact Cx (wJ hwb))))
             refine bB 9 (by kernel_rfl) J<|aa J<|aa J<|ax aK J<|aC bm J<|aa J<|bh J (by omega) (by omega) J ?_
             refine ap [] (lM (vi + (j2 : Int)) (by omega) (by omega)) J J J J J J aj (.inl J) J J J ?_
             refine ap [] (lL (2 * (vi + (j2 : Int) + 1)) (by omega) (by omega)) J J J J J J aj (.inl J) J J J ?_
             refine gx J J J (by have := fP (2 * (vi + (j2 : Int) + 1)) (by omega) (by omega); simp; omega) J J ?_
             refine ar ?_
             refine cC [] [] (iP b (cy (2 * (vi + (j2 : Int) + 1)) ++ [32]) qb (by omega) hb (gm (by omega) (by omega) _) hwb) J J J J ⟨J, aj⟩ J J J aj aj J J J J (fun ch hch => ?_)
             refine be (bx (be (dp (bx (be (bF hch J ?_))))))
             rw [hmN]
             rfl
           ·refine ab<|ae<|ah J<|aO<|ba (a8 (aP ?_))
            refine ak<|ae ?_
            have hI2 : iz b vi (2 * (vm + 1) - 1) vl.toNat 0 qa [] = some (ls, qb) := by (rw [← hk2, show vl.toNat - j2 = 0 by omega]; rfl)
            have hm3 : cO b p = E6 b (HeadM.mk vm vi vl vo vg vb vc q7) ls qb := by (rw [hm2]; exact eO hI2)
            by_cases ht1 : (ge b (2 * (vm + 1) - 1) vo.toNat qb []).isSome = true
            ·obtain ⟨⟨os, t1⟩, ht12⟩ := Option.isSome_iff_exists.1 ht1
             have ht1q := mV (show qb ≤ b.length by omega) ht12
             have hm4 : cO b p = DF b (HeadM.mk vm vi vl vo vg vb vc q7) ls os t1 := by (rw [hm3]; exact eO ht12)
             by_cases ht2 : (ge b (2 * (vm + 1) - 1) vb.toNat t1 []).isSome = true
             ·obtain ⟨⟨bd, t2⟩, ht22⟩ := Option.isSome_iff_exists.1 ht2
              have ht2q := mV (show t1 ≤ b.length by omega) ht22
              have hm5 : cO b p = Ep b (HeadM.mk vm vi vl vo vg vb vc q7) ls os bd t2 := by (rw [hm4]; exact eO ht22)
              by_cases ht3 : (ge b (2 * (vm + 1) - 1) vc.toNat t2 []).isSome = true
              ·obtain ⟨⟨cn, t3⟩, ht32⟩ := Option.isSome_iff_exists.1 ht3
               have ht3q := mV (show t2 ≤ b.length by omega) ht32
               have hm6 : cO b p = EF b (HeadM.mk vm vi vl vo vg vb vc q7) ls os bd cn t3 := by (rw [hm5]; exact eO ht32)
               refine aF<|aa J<|aa J<|aa J<|bn (iF b qb vo (2 * (vm + 1) - 1) (by omega) hb (by omega) (by omega) (by omega) ht12) J J J J J J J J J J J J ?_
               refine aa J<|aa J<|aa J<|bn (iF b t1 vb (2 * (vm + 1) - 1) (by omega) hb (by omega) (by omega) (by omega) ht22) J J J J J J J J J J J J ?_
               refine aa J<|aa J<|aa J<|bn (iF b t2 vc (2 * (vm + 1) - 1) (by omega) hb (by omega) (by omega) (by omega) ht32) J J J J J J J J J J J J ?_
               refine ax aK J<|aR br [] J aj J<|ax aK J<|aR br [] J aj J<|ax aK J<|aR br [] J aj J<|ab<|ae<|ag<|aa J<|aa J<|ab<|aw ?_
               refine cg (fO (bid := 901) (id := 506) (e := 63) (sz := 2) (j := 2) J J J (by decide)) ?_
               refine aZ (α := Nat × Nat × List Gate) (fun ⟨j3, qd, gs⟩ => mk [(0, .ptr 900 0), (2, .ptr 2 0), (5, .ptr 901 0), (6, .v (.int .i64 vl)), (11, .v (.fn (.func 136) [] [])), (134, .v (.int .i64 vg)), (135, .v (.int .i64 j3))] [(900, .box [.v (cH b), .v (.int .i64 qd)]), (901, .box [.v (.int .i64 vi), .own 505, .own 506, .v (cf os), .v (cf bd), .v (cf cn), .nils]), (2, .box [.v (.int .i64 0), .nils, .nils, .nils, .nils, .nils, .nils]), (505, .row 55 2 (ls.map pL)), (506, .row 63 2 (gs.map nT))] ⟨0, 0, [(900, β 900)]⟩) (fun ⟨j3, qd, gs⟩ => j3 ≤ vg.toNat ∧ jb b (vi + vl) (vg.toNat - j3) j3 qd gs = jb b (vi + vl) vg.toNat 0 t3 [] ∧ qd ≤ b.length ∧ gs.length ≤ j3) (fun ⟨j3, qd, gs⟩ => vg.toNat - j3) ⟨0, t3, []⟩ ⟨Nat.zero_le _, J, ht3q.1, Nat.le_refl _⟩ (aL ⟨J, J, J, J, J, J, J, aj⟩ ⟨J, J, J, J, J, aj⟩ J J J J) ?_
               rintro ⟨j3, qd, gs⟩ ⟨hg1, hg2, hg3, hg4⟩
               refine ag<|bj J (fun h136 => ?_) (fun h136 => ?_)
               ·refine ab<|ae<|ai J<|ao<|ak<|ae<|aw<|ag<|aa J<|af J<|ab<|ag ?_
                refine aa J<|ax aK J<|aC bm J<|aa J<|bh J (by omega) (by omega) J ?_
                refine aa J<|bh J (by omega) (by omega) J ?_
                refine ap [] (lM (vi + vl + (j3 : Int)) (by omega) (by omega)) J J J J J J aj (.inl J) J J J ?_
                refine af J<|ab<|ae ?_
                by_cases hwd : eL b qd (cy (2 * (vi + vl + (j3 : Int) + 1)) ++ [32]) = true
                ·have hwdl : qd + (cy (2 * (vi + vl + (j3 : Int) + 1)) ++ [32]).length ≤ b.length := c9 (by omega) hwd
                 have hwd3 := wW hwd
                 refine aF<|aa J<|aa J<|ap [] (lL (2 * (vi + vl + (j3 : Int) + 1)) (by omega) (by omega)) J J J J J J aj (.inl J) J J J ?_
                 refine gx J J J (by have := fP (2 * (vi + vl + (j3 : Int) + 1)) (by omega) (by omega); simp; omega) J J ?_
                 refine bn (iK b (cy (2 * (vi + vl + (j3 : Int) + 1)) ++ [32]) qd (by omega) hb (gm (by omega) (by omega) _) hwd) J J J J J J J J J J J J ?_
                 refine ab<|ae ?_
                 by_cases hga : (cG b (qd + (cy (2 * (vi + vl + (j3 : Int) + 1)) ++ [32]).length) ((2 * (vi + vl + (j3 : Int) + 1)) - 1) [32]).isSome = true
                 ·obtain ⟨⟨w1, s1⟩, hga2⟩ := Option.isSome_iff_exists.1 hga
                  have hgaq := eW (show (qd + (cy (2 * (vi + vl + (j3 : Int) + 1)) ++ [32]).length) ≤ b.length by omega) hga2
                  refine aF<|aa J<|aa J<|bX J J J J (by omega) (by omega) J J ?_
                  refine bn (dP b [32] (qd + (cy (2 * (vi + vl + (j3 : Int) + 1)) ++ [32]).length) ((2 * (vi + vl + (j3 : Int) + 1)) - 1) (by omega) hb (by decide) (by omega) (by omega) hga2) J J J J J J J J J J J J ?_
                  refine bD [] ac J dY J J aj J J J J J J<|bl (id := 19) dY J<|aR dY [] J aj J<|ab<|ae ?_
                  by_cases hgb : (cG b s1 w1 [10]).isSome = true
                  ·obtain ⟨⟨w2, s2⟩, hgb2⟩ := Option.isSome_iff_exists.1 hgb
                   have hgbq := eW (show s1 ≤ b.length by omega) hgb2
                   have hst4 : jb b (vi + vl) (vg.toNat - (j3 + 1)) (j3 + 1) s2 (gs ++ [⟨w1, w2⟩]) = jb b (vi + vl) vg.toNat 0 t3 [] := by (rw [← hg2, show vg.toNat - j3 = (vg.toNat - (j3 + 1)) + 1 by omega]; exact (Bo hwd3 hga2 hgb2).symm)
                   refine aF<|aa J<|ax dY J<|aC bm J<|bn (dP b [10] s1 w1 (by omega) hb (by decide) (by omega) (by omega) hgb2) J J J J J J J J J J J J ?_
                   refine ax dY J<|aR bm [] J aj J<|ab<|aF<|ax aK J<|aC dg J<|a7 dY J<|bZ (es := [Gate.mk w1 w2].map nT) dg dY [] J aj J ?_
                   refine cw 165 [] ac J dg J dg J dY J J J J ⟨J, J, aj⟩ J (elOk.cons rfl rfl elOk.nil) cA (by constructor <;> simp <;> omega) J J J ?_
                   refine ax aK J<|gF [(165, _)] ac J dg J J J ⟨J, aj⟩ J J J J J J J J<|ar<|aH<|ak<|aF<|bh J (by omega) (by omega) J ?_
                   refine aa J<|ar ?_
                   exact aT ⟨j3 + 1, s2, gs ++ [⟨w1, w2⟩]⟩ ⟨by show j3 + 1 ≤ _; omega, hst4, hgbq.2.1, by simp; omega⟩ (by show vg.toNat - (j3 + 1) < vg.toNat - j3; omega) (cd [(506, 165)] ⟨J, J, J, J, J, J, J, aj⟩ ⟨J, J, J, J, J, aj⟩ J J J J J)
                  ·have hgb2 := dD hgb
                   have hmN : cO b p = none := by (rw [hm6]; exact co (show jb b (vi + vl) vg.toNat 0 t3 [] = none by (rw [← hg2, show vg.toNat - j3 = (vg.toNat - (j3 + 1)) + 1 by omega]; exact Bi hwd3 hga2 hgb2)))
                   refine bB 3 (by kernel_rfl) J<|aa J<|ax dY J<|aC bm J<|ar ?_
                   refine cC [] [] (dO b [10] s1 w1 (by omega) hb (by decide) (by omega) (by omega) hgb2) J J J J ⟨J, aj⟩ J J J aj aj J J J J (fun ch hch => ?_)
                   refine be (bx (be (dp (bx (be (bF hch J ?_))))))
                   rw [hmN]
                   rfl
                 ·have hga2 := dD hga
                  have hmN : cO b p = none := by (rw [hm6]; exact co (show jb b (vi + vl) vg.toNat 0 t3 [] = none by (rw [← hg2, show vg.toNat - j3 = (vg.toNat - (j3 + 1)) + 1 by omega]; exact By hwd3 hga2)))
                  refine bB 3 (by kernel_rfl) J<|aa J<|aa J<|bX J J J J (by omega) (by omega) J J ?_
                  refine ar ?_
                  refine cC [] [] (dO b [32] (qd + (cy (2 * (vi + vl + (j3 : Int) + 1)) ++ [32]).length) ((2 * (vi + vl + (j3 : Int) + 1)) - 1) (by omega) hb (by decide) (by omega) (by omega) hga2) J J J J ⟨J, aj⟩ J J J aj aj J J J J (fun ch hch => ?_)
                  refine be (bx (be (dp (bx (be (bF hch J ?_))))))
                  rw [hmN]
                  rfl
                ·have hmN : cO b p = none := by (rw [hm6]; exact co (show jb b (vi + vl) vg.toNat 0 t3 [] = none by (rw [← hg2, show vg.toNat - j3 = (vg.toNat - (j3 + 1)) + 1 by omega]; exact Bw (wJ hwd))))
                 refine bB 4 (by kernel_rfl) J<|aa J<|aa J<|ap [] (lL (2 * (vi + vl + (j3 : Int) + 1)) (by omega) (by omega)) J J J J J J aj (.inl J) J J J ?_
                 refine gx J J J (by have := fP (2 * (vi + vl + (j3 : Int) + 1)) (by omega) (by omega); simp; omega) J J ?_
                 refine ar ?_
                 refine cC [] [] (iP b (cy (2 * (vi + vl + (j3 : Int) + 1)) ++ [32]) qd (by omega) hb (gm (by omega) (by omega) _) hwd) J J J J ⟨J, aj⟩ J J J aj aj J J J J (fun ch hch => ?_)
                 refine be (bx (be (dp (bx (be (bF hch J ?_))))))
                 rw [hmN]
                 rfl
               ·refine ab<|ae<|ah J<|aO<|ba (a8 (aP ?_))
                refine ak<|ae ?_
                by_cases hnm : (fm b (Aig.mk vi ls gs os bd cn []) (b.length - qd) qd []).isSome = true
                ·obtain ⟨⟨nms, qn⟩, hnm2⟩ := Option.isSome_iff_exists.1 hnm
                 have hI4 : jb b (vi + vl) vg.toNat 0 t3 [] = some (gs, qd) := by (rw [← hg2, show vg.toNat - j3 = 0 by omega]; rfl)
                 have hm7 : cO b p = Ct b (HeadM.mk vm vi vl vo vg vb vc q7) ls os bd cn gs qd := by (rw [hm6]; exact eO hI4)
                 have hab : pT (Aig.mk vi ls gs os bd cn []) := ⟨by show 0 ≤ vi; omega, by show vi ≤ _; omega, by show ls.length ≤ _; omega, by show os.length ≤ _; (have := ht1q.2; simp at this; omega), by show bd.length ≤ _; (have := ht2q.2; simp at this; omega), by show cn.length ≤ _; (have := ht3q.2; simp at this; omega)⟩
                 have hmF : cO b p = some (⟨vi, ls, gs, os, bd, cn, nms⟩, qn) := by (rw [hm7]; exact eO hnm2)
                 refine cg (bp (id := 505) J)<|cg (bp (id := 506) J)<|cT [(0, .ptr 900 0), (2, .ptr 2 0), (5, .ptr 901 0)] [(900, .box [.v (cH b), .v (.int .i64 qd)]), (901, .box [.v (.int .i64 vi), .v (jL ls), .v (iH gs), .v (cf os), .v (cf bd), .v (cf cn), .nils]), (2, .box [.v (.int .i64 0), .nils, .nils, .nils, .nils, .nils, .nils])] ⟨J, J, J, aj⟩ ⟨J, J, J, aj⟩ J J J J<|aF<|aa J<|er [(2, .ptr 2 0), (5, .ptr 901 0)] [(2, .box [.v (.int .i64 0), .nils, .nils, .nils, .nils, .nils, .nils])] (xt b qd (Aig.mk vi ls gs os bd cn []) hg3 hb hab hnm2) J J J J ⟨J, J, aj⟩ J J J J ⟨J, aj⟩ ⟨J, J, aj⟩ J J J J J J J J<|ab<|ag<|a7 aK J<|aR aK [] J aj J<|ab<|am ?_
                 refine eo (L' := [(900, _)]) J (.inl rfl) ⟨J, aj⟩ J J J J ?_
                 rw [hmF]
                 rfl
                ·have hnm2 := dD hnm
                 have hI4 : jb b (vi + vl) vg.toNat 0 t3 [] = some (gs, qd) := by (rw [← hg2, show vg.toNat - j3 = 0 by omega]; rfl)
                 have hm7 : cO b p = Ct b (HeadM.mk vm vi vl vo vg vb vc q7) ls os bd cn gs qd := by (rw [hm6]; exact eO hI4)
                 have hab : pT (Aig.mk vi ls gs os bd cn []) := ⟨by show 0 ≤ vi; omega, by show vi ≤ _; omega, by show ls.length ≤ _; omega, by show os.length ≤ _; (have := ht1q.2; simp at this; omega), by show bd.length ≤ _; (have := ht2q.2; simp at this; omega), by show cn.length ≤ _; (have := ht3q.2; simp at this; omega)⟩
                 have hmN : cO b p = none := by (rw [hm7]; exact co hnm2)
                 refine cg (bp (id := 505) J)<|cg (bp (id := 506) J)<|cT [(0, .ptr 900 0), (2, .ptr 2 0), (5, .ptr 901 0)] [(900, .box [.v (cH b), .v (.int .i64 qd)]), (901, .box [.v (.int .i64 vi), .v (jL ls), .v (iH gs), .v (cf os), .v (cf bd), .v (cf cn), .nils]), (2, .box [.v (.int .i64 0), .nils, .nils, .nils, .nils, .nils, .nils])] ⟨J, J, J, aj⟩ ⟨J, J, J, aj⟩ J J J J<|bB 1 (by kernel_rfl) J<|aa J<|ar ?_
                 refine cC [] [] (xB b qd (Aig.mk vi ls gs os bd cn []) hg3 hb hab hnm2) J J J J ⟨J, J, aj⟩ J J J aj aj J J J J (fun ch hch => ?_)
                 refine be (bF hch J ?_)
                 rw [hmN]
                 rfl
              ·have ht32 := dD ht3
               have hmN : cO b p = none := by (rw [hm5]; exact co ht32)
               refine bB 11 (by kernel_rfl) J<|aa J<|aa J<|aa J<|bn (iF b qb vo (2 * (vm + 1) - 1) (by omega) hb (by omega) (by omega) (by omega) ht12) J J J J J J J J J J J J ?_
               refine aa J<|aa J<|aa J<|bn (iF b t1 vb (2 * (vm + 1) - 1) (by omega) hb (by omega) (by omega) (by omega) ht22) J J J J J J J J J J J J ?_
               refine aa J<|aa J<|aa J<|ar ?_
               refine cC [] [] (nt b t2 vc (2 * (vm + 1) - 1) (by omega) hb (by omega) (by omega) (by omega) ht32) J J J J ⟨J, aj⟩ J J J aj aj J J J J (fun ch hch => ?_)
               refine be (bF hch J ?_)
               rw [hmN]
               rfl
             ·have ht22 := dD ht2
              have hmN : cO b p = none := by (rw [hm4]; exact co ht22)
              refine bB 7 (by kernel_rfl) J<|aa J<|aa J<|aa J<|bn (iF b qb vo (2 * (vm + 1) - 1) (by omega) hb (by omega) (by omega) (by omega) ht12) J J J J J J J J J J J J ?_
              refine aa J<|aa J<|aa J<|ar ?_
              refine cC [] [] (nt b t1 vb (2 * (vm + 1) - 1) (by omega) hb (by omega) (by omega) (by omega) ht22) J J J J ⟨J, aj⟩ J J J aj aj J J J J (fun ch hch => ?_)
              refine be (bF hch J ?_)
              rw [hmN]
              rfl
            ·have ht12 := dD ht1
             have hmN : cO b p = none := by (rw [hm3]; exact co ht12)
             refine bB 3 (by kernel_rfl) J<|aa J<|aa J<|aa J<|ar ?_
             refine cC [] [] (nt b qb vo (2 * (vm + 1) - 1) (by omega) hb (by omega) (by omega) (by omega) ht12) J J J J ⟨J, aj⟩ J J J aj aj J J J J (fun ch hch => ?_)
             refine be (bF hch J ?_)
             rw [hmN]
             rfl
        ·have hn72 := dD hn7
         have hmN : cO b p = none := co (by simp only [iQ, hw0', hn12, hn22, hn32, hn42, hn52, hn62, hn72, Option.bind_some, Option.bind_none])
         refine bB 1 (by kernel_rfl) J<|aa J<|ar ?_
         refine cC [] [] (dO b [10] q6 2000 (by omega) hb (by decide) (by omega) (by omega) hn72) J J J J ⟨J, aj⟩ J J J aj aj J J J J (fun ch hch => ?_)
         refine be (bF hch J ?_)
         rw [hmN]
         rfl
       ·have hn62 := dD hn6
        have hmN : cO b p = none := co (by simp only [iQ, hw0', hn12, hn22, hn32, hn42, hn52, hn62, Option.bind_some, Option.bind_none])
        refine bB 1 (by kernel_rfl) J<|aa J<|ar ?_
        refine cC [] [] (dO b [32] q5 2000 (by omega) hb (by decide) (by omega) (by omega) hn62) J J J J ⟨J, aj⟩ J J J aj aj J J J J (fun ch hch => ?_)
        refine be (bF hch J ?_)
        rw [hmN]
        rfl
      ·have hn52 := dD hn5
       have hmN : cO b p = none := co (by simp only [iQ, hw0', hn12, hn22, hn32, hn42, hn52, Option.bind_some, Option.bind_none])
       refine bB 1 (by kernel_rfl) J<|aa J<|ar ?_
       refine cC [] [] (dO b [32] q4 20000 (by omega) hb (by decide) (by omega) (by omega) hn52) J J J J ⟨J, aj⟩ J J J aj aj J J J J (fun ch hch => ?_)
       refine be (bF hch J ?_)
       rw [hmN]
       rfl
     ·have hn42 := dD hn4
      have hmN : cO b p = none := co (by simp only [iQ, hw0', hn12, hn22, hn32, hn42, Option.bind_some, Option.bind_none])
      refine bB 1 (by kernel_rfl) J<|aa J<|ar ?_
      refine cC [] [] (dO b [32] q3 2000 (by omega) hb (by decide) (by omega) (by omega) hn42) J J J J ⟨J, aj⟩ J J J aj aj J J J J (fun ch hch => ?_)
      refine be (bF hch J ?_)
      rw [hmN]
      rfl
    ·have hn32 := dD hn3
     have hmN : cO b p = none := co (by simp only [iQ, hw0', hn12, hn22, hn32, Option.bind_some, Option.bind_none])
     refine bB 1 (by kernel_rfl) J<|aa J<|ar ?_
     refine cC [] [] (dO b [32] q2 20000 (by omega) hb (by decide) (by omega) (by omega) hn32) J J J J ⟨J, aj⟩ J J J aj aj J J J J (fun ch hch => ?_)
     refine be (bF hch J ?_)
     rw [hmN]
     rfl
   ·have hn22 := dD hn2
    have hmN : cO b p = none := co (by simp only [iQ, hw0', hn12, hn22, Option.bind_some, Option.bind_none])
    refine bB 1 (by kernel_rfl) J<|aa J<|ar ?_
    refine cC [] [] (dO b [32] q1 20000 (by omega) hb (by decide) (by omega) (by omega) hn22) J J J J ⟨J, aj⟩ J J J aj aj J J J J (fun ch hch => ?_)
    refine be (bF hch J ?_)
    rw [hmN]
    rfl
  ·have hn12 := dD hn1
   have hmN : cO b p = none := co (by simp only [iQ, hw0', hn12, Option.bind_some, Option.bind_none])
   refine bB 1 (by kernel_rfl) J<|aa J<|ar ?_
   refine cC [] [] (dO b [32] (p + 4) 20000 (by omega) hb (by decide) (by omega) (by omega) hn12) J J J J ⟨J, aj⟩ J J J aj aj J J J J (fun ch hch => ?_)
   refine be (bF hch J ?_)
   rw [hmN]
   rfl
 ·have hmN : cO b p = none := co (by simp only [iQ, wJ hw0, Option.bind_some, Option.bind_none])
  refine bB 1 (by kernel_rfl) J<|aa J<|ar ?_
  refine cC [] [] (iP b [97, 97, 103, 32] p (by omega) hb (by decide) hw0) J J J J ⟨J, aj⟩ J J J aj aj J J J J (fun ch hch => ?_)
  refine be (bF hch J ?_)
  rw [hmN]
  rfl
end Go.Vd
