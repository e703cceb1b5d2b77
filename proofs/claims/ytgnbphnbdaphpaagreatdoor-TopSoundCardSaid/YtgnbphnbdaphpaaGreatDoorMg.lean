/- Walks over data, merged (part 7): what the laws of this claim use. -/
import Derived.Deep.QuietTactic
import Derived.Deep.RegionWith
import Derived.Ground.SlgnProg
import Derived.Ground.SlsfProg
import Derived.Lib.RowBridge
import Derived.Lib.SortBridge
import Derived.Recover
import Derived.RegionTactic
import Derived.Shelf.SlGeneric
import Derived.Shelf.SlSortCmp.NoneTotal
import Derived.Shelf.SlicesE.Delete
import Derived.WalkKit
import Derived.Test.YtgnbphnbdaphpaaGreatDoorMf
set_option linter.unusedSimpArgs false
set_option linter.unusedVariables false
namespace Go.Vd
open Go.Proofs Go.RowKit
theorem CE {P : Program} {c : Code} {Q : Exit → Act → World → Prop} {a a' : Act} {w : World} (h : a = a') (hw : c.wp P Q a' w) : c.wp P Q a w := h ▸ hw
theorem rN (p q r : Addr) (w : World) :
 CallsD Tryz.prog 66 #[.pointer (some p), .pointer (some q), .pointer (some r)] .returning w fun e u' w' => e = .returned (.tuple #[]) ∧ u' = .returning ∧ w' = w := by
 refine callsD_of_wpS Tryz.func66 rfl fun c₀ cs hu => ?_
 apply wpS_seq
 apply wpS_region
 simp [wpOpsS, go_sem, recoverD, hu, Tryz.ntmps66, Exit.thenS]
 apply wpS_seq
 apply wpS_region
 simp [wpOpsS, go_sem, Exit.thenS]
 refine wpS_cond (t := false) (by simp [Act.eval, Array.replicate]) ?_
 simp only [Bool.false_eq_true, if_false]
 refine wpS_of_wp (_root_.Go.wp_skip ?_)
 cases c₀
 simp_all [bodyPostS, results, Tryz.results66]
theorem Ch (p q r : Nat) (x y pp ee : Int) (w : World) (hp : w.heap[p]? = some (.cells #[.int .i64 0, .slice none 0 0, .slice none 0 0, .slice none 0 0, .slice none 0 0, .slice none 0 0, .slice none 0 0] 33 (0, 0))) (hq : w.heap[q]? = some (.cells #[.int .i64 x] 3 (0, 0))) (hr : w.heap[r]? = some (.cells #[.int .i64 y] 43 (0, 0)))
 (hpq : p ≠ q) (hpr : p ≠ r) (hqr : q ≠ r) (w1 : World) (h1 : w1 = (((((((((w.setCell ⟨p, 0, none⟩ (.int .i64 0)).setCell ⟨p, 1, none⟩ (.slice none 0 0)).setCell ⟨p, 2, none⟩ (.slice none 0 0)).setCell ⟨p, 3, none⟩ (.slice none 0 0)).setCell ⟨p, 4, none⟩ (.slice none 0 0)).setCell ⟨p, 5, none⟩ (.slice none 0 0)).setCell ⟨p, 6, none⟩ (.slice none 0 0)).setCell ⟨q, 0, none⟩ (.int .i64 pp)).setCell ⟨r, 0, none⟩ (.int .i64 ee))) :
 w1.heap[p]? = some (.cells #[.int .i64 0, .slice none 0 0, .slice none 0 0, .slice none 0 0, .slice none 0 0, .slice none 0 0, .slice none 0 0] 33 (0, 0)) ∧ w1.heap[q]? = some (.cells #[.int .i64 pp] 3 (0, 0)) ∧ w1.heap[r]? = some (.cells #[.int .i64 ee] 43 (0, 0)) ∧ (∀ b, b ≠ p → b ≠ q → b ≠ r → w1.heap[b]? = w.heap[b]?) ∧ w1.heap.size = w.heap.size ∧ w1.os = w.os ∧ w1.tape = w.tape ∧ w1.output = w.output := by
 subst h1
 have k0 := heap_setCell_same w p 0 _ 33 (.int .i64 0) hp
 have k1 := heap_setCell_same (w.setCell ⟨p, 0, none⟩ (.int .i64 0)) p 1 _ 33 (.slice none 0 0) k0
 have k2 := heap_setCell_same ((w.setCell ⟨p, 0, none⟩ (.int .i64 0)).setCell ⟨p, 1, none⟩ (.slice none 0 0)) p 2 _ 33 (.slice none 0 0) k1
 have k3 := heap_setCell_same (((w.setCell ⟨p, 0, none⟩ (.int .i64 0)).setCell ⟨p, 1, none⟩ (.slice none 0 0)).setCell ⟨p, 2, none⟩ (.slice none 0 0)) p 3 _ 33 (.slice none 0 0) k2
 have k4 := heap_setCell_same ((((w.setCell ⟨p, 0, none⟩ (.int .i64 0)).setCell ⟨p, 1, none⟩ (.slice none 0 0)).setCell ⟨p, 2, none⟩ (.slice none 0 0)).setCell ⟨p, 3, none⟩ (.slice none 0 0)) p 4 _ 33 (.slice none 0 0) k3
 have k5 := heap_setCell_same (((((w.setCell ⟨p, 0, none⟩ (.int .i64 0)).setCell ⟨p, 1, none⟩ (.slice none 0 0)).setCell ⟨p, 2, none⟩ (.slice none 0 0)).setCell ⟨p, 3, none⟩ (.slice none 0 0)).setCell ⟨p, 4, none⟩ (.slice none 0 0)) p 5 _ 33 (.slice none 0 0) k4
 have k6 := heap_setCell_same ((((((w.setCell ⟨p, 0, none⟩ (.int .i64 0)).setCell ⟨p, 1, none⟩ (.slice none 0 0)).setCell ⟨p, 2, none⟩ (.slice none 0 0)).setCell ⟨p, 3, none⟩ (.slice none 0 0)).setCell ⟨p, 4, none⟩ (.slice none 0 0)).setCell ⟨p, 5, none⟩ (.slice none 0 0)) p 6 _ 33 (.slice none 0 0) k5
 have kq : (((((((w.setCell ⟨p, 0, none⟩ (.int .i64 0)).setCell ⟨p, 1, none⟩ (.slice none 0 0)).setCell ⟨p, 2, none⟩ (.slice none 0 0)).setCell ⟨p, 3, none⟩ (.slice none 0 0)).setCell ⟨p, 4, none⟩ (.slice none 0 0)).setCell ⟨p, 5, none⟩ (.slice none 0 0)).setCell ⟨p, 6, none⟩ (.slice none 0 0)).heap[q]? = some (.cells #[.int .i64 x] 3 (0, 0)) := by (repeat rw [heap_setCell_other _ _ _ _ (show q ≠ _ from fun h => hpq h.symm)]); exact hq
 have kq2 := heap_setCell_same (((((((w.setCell ⟨p, 0, none⟩ (.int .i64 0)).setCell ⟨p, 1, none⟩ (.slice none 0 0)).setCell ⟨p, 2, none⟩ (.slice none 0 0)).setCell ⟨p, 3, none⟩ (.slice none 0 0)).setCell ⟨p, 4, none⟩ (.slice none 0 0)).setCell ⟨p, 5, none⟩ (.slice none 0 0)).setCell ⟨p, 6, none⟩ (.slice none 0 0)) q 0 _ 3 (.int .i64 pp) kq
 have kr : ((((((((w.setCell ⟨p, 0, none⟩ (.int .i64 0)).setCell ⟨p, 1, none⟩ (.slice none 0 0)).setCell ⟨p, 2, none⟩ (.slice none 0 0)).setCell ⟨p, 3, none⟩ (.slice none 0 0)).setCell ⟨p, 4, none⟩ (.slice none 0 0)).setCell ⟨p, 5, none⟩ (.slice none 0 0)).setCell ⟨p, 6, none⟩ (.slice none 0 0)).setCell ⟨q, 0, none⟩ (.int .i64 pp)).heap[r]? = some (.cells #[.int .i64 y] 43 (0, 0)) := by (rw [heap_setCell_other _ _ _ _ (show r ≠ _ from fun h => hqr h.symm)]); (repeat rw [heap_setCell_other _ _ _ _ (show r ≠ _ from fun h => hpr h.symm)]); exact hr
 have kr2 := heap_setCell_same ((((((((w.setCell ⟨p, 0, none⟩ (.int .i64 0)).setCell ⟨p, 1, none⟩ (.slice none 0 0)).setCell ⟨p, 2, none⟩ (.slice none 0 0)).setCell ⟨p, 3, none⟩ (.slice none 0 0)).setCell ⟨p, 4, none⟩ (.slice none 0 0)).setCell ⟨p, 5, none⟩ (.slice none 0 0)).setCell ⟨p, 6, none⟩ (.slice none 0 0)).setCell ⟨q, 0, none⟩ (.int .i64 pp)) r 0 _ 43 (.int .i64 ee) kr
 refine ⟨?_, ?_, kr2, fun b b1 b2 b3 => ?_, by simp, by simp only [nL], by simp, by simp only [kS]⟩
 ·rw [heap_setCell_other _ _ _ _ (show p ≠ _ from hpr), heap_setCell_other _ _ _ _ (show p ≠ _ from hpq)]; exact k6
 ·rw [heap_setCell_other _ _ _ _ (show q ≠ _ from hqr)]; exact kq2
 ·rw [heap_setCell_other _ _ _ _ b3, heap_setCell_other _ _ _ _ b2]; (repeat rw [heap_setCell_other _ _ _ _ (show b ≠ _ from b1)])
theorem F5 {p q r : Nat} {A B C o : Obj} {w w1 : World} (h1 : p < w.heap.size) (h2 : q < w.heap.size) (h3 : r < w.heap.size)
 (h : w1.heap[p]? = some A ∧ w1.heap[q]? = some B ∧ w1.heap[r]? = some C ∧ (∀ b, b ≠ p → b ≠ q → b ≠ r → w1.heap[b]? = w.heap[b]?) ∧ w1.heap.size = w.heap.size ∧ w1.os = w.os ∧ w1.tape = w.tape ∧ w1.output = w.output) :
 (w1.alloc o).drew.heap[p]? = some A ∧ (w1.alloc o).drew.heap[q]? = some B ∧ (w1.alloc o).drew.heap[r]? = some C ∧ (∀ b, b < w.heap.size → ¬ b = p → ¬ b = q → ¬ b = r → (w1.alloc o).drew.heap[b]? = w.heap[b]?) ∧ w.heap.size ≤ (w1.alloc o).drew.heap.size ∧ (w1.alloc o).drew.os = w.os ∧ (w1.alloc o).drew.tape = w.tape ∧ (w1.alloc o).drew.output = w.output := by
 obtain ⟨a, b, c, d, e, f, g, i⟩ := h
 have ha : ∀ k, k < w.heap.size → (w1.alloc o).drew.heap[k]? = w1.heap[k]? := fun k hk => Below.heap_alloc w1 o k (by omega)
 refine ⟨(ha p h1).trans a, (ha q h2).trans b, (ha r h3).trans c, fun k hk x y z => (ha k hk).trans (d k x y z), ?_, f, g, i⟩
 show w.heap.size ≤ (w1.heap.push o).size
 simp; omega
set_option maxHeartbeats 1000000 in
set_option maxRecDepth 100000 in
theorem lG (p q r : Nat) (x y : Int) (pp ee : Int) (older : List PanicEntry) (w : World) (hp : w.heap[p]? = some (.cells #[.int .i64 0, .slice none 0 0, .slice none 0 0, .slice none 0 0, .slice none 0 0, .slice none 0 0, .slice none 0 0] 33 (0, 0))) (hq : w.heap[q]? = some (.cells #[.int .i64 x] 3 (0, 0))) (hr : w.heap[r]? = some (.cells #[.int .i64 y] 43 (0, 0)))
 (hpq : p ≠ q) (hpr : p ≠ r) (hqr : q ≠ r) :
 CallsD Tryz.prog 66 #[.pointer (some ⟨p, 0, none⟩), .pointer (some ⟨q, 0, none⟩), .pointer (some ⟨r, 0, none⟩)] (.panicking ({ v := wv 147 pp ee, recovered := false } :: older)) w fun e u' w' =>
  e = .returned (.tuple #[]) ∧ u' = .panicking ({ v := wv 147 pp ee, recovered := true } :: older) ∧ w'.heap[p]? = some (.cells #[.int .i64 0, .slice none 0 0, .slice none 0 0, .slice none 0 0, .slice none 0 0, .slice none 0 0, .slice none 0 0] 33 (0, 0)) ∧ w'.heap[q]? = some (.cells #[.int .i64 pp] 3 (0, 0)) ∧ w'.heap[r]? = some (.cells #[.int .i64 ee] 43 (0, 0)) ∧ (∀ b, b < w.heap.size → b ≠ p → b ≠ q → b ≠ r → w'.heap[b]? = w.heap[b]?) ∧ w.heap.size ≤ w'.heap.size ∧ w'.os = w.os ∧ w'.tape = w.tape ∧ w'.output = w.output := by
 have hta : ∀ (v : Value) (w : World), (Instr.typeAssert (.iface 147 v) 20 147 true).run Tryz.prog w = .ok (.tuple #[v, .bool true]) w := fun _ _ => ot ac (by decide) ie true
 refine callsD_of_wpS Tryz.func66 rfl fun c₀ cs hu => ?_
 apply wpS_seq
 apply wpS_region
 simp [wpOpsS, go_sem, recoverD, hu, Tryz.ntmps66, Exit.thenS]
 apply wpS_seq
 apply wpS_region
 simp [wpOpsS, go_sem, Exit.thenS, wv]
 refine wpS_cond (t := true) (by simp [Act.eval, Array.replicate]) ?_
 simp only [if_true]
 refine wpS_of_wp ?_
 refine CE (a' := { tmps := #[.pointer (some ⟨p, 0, none⟩), .pointer (some ⟨q, 0, none⟩), .pointer (some ⟨r, 0, none⟩), .iface 147 (.agg #[.int .i64 pp, .int .i64 ee]), undef, undef, .iface 147 (.agg #[.int .i64 pp, .int .i64 ee]), .iface 147 (.agg #[.int .i64 pp, .int .i64 ee]), .bool true, undef, undef, undef, undef, undef, undef, undef, undef, undef, undef, undef, undef, undef], defers := [] }) (by kernel_rfl) ?_
 go_wp2
 have hlt : ∀ {b : Nat} {o : Obj}, w.heap[b]? = some o → b < w.heap.size := fun h => (Array.getElem?_eq_some_iff.1 h).1
 have h1 := hlt hp; have h2 := hlt hq; have h3 := hlt hr
 have cp0 : (w.alloc (Obj.cells #[Value.int IntKind.i64 pp, Value.int IntKind.i64 ee] 147)).cell? ⟨p, 0, none⟩ = some (.int .i64 0) := by rw [World.cell?_alloc_lt _ _ _ h1, cell_of_row w p 0 _ 33 (0, 0) hp]; rfl
 have fp0 : (w.alloc (Obj.cells #[Value.int IntKind.i64 pp, Value.int IntKind.i64 ee] 147)).frozen? ⟨p, 0, none⟩ = false := by (rw [frozen?_alloc_cells]; simp [World.frozen?, hp])
 have cp1 : (w.alloc (Obj.cells #[Value.int IntKind.i64 pp, Value.int IntKind.i64 ee] 147)).cell? ⟨p, 1, none⟩ = some (.slice none 0 0) := by rw [World.cell?_alloc_lt _ _ _ h1, cell_of_row w p 1 _ 33 (0, 0) hp]; rfl
 have fp1 : (w.alloc (Obj.cells #[Value.int IntKind.i64 pp, Value.int IntKind.i64 ee] 147)).frozen? ⟨p, 1, none⟩ = false := by (rw [frozen?_alloc_cells]; simp [World.frozen?, hp])
 have cp2 : (w.alloc (Obj.cells #[Value.int IntKind.i64 pp, Value.int IntKind.i64 ee] 147)).cell? ⟨p, 2, none⟩ = some (.slice none 0 0) := by rw [World.cell?_alloc_lt _ _ _ h1, cell_of_row w p 2 _ 33 (0, 0) hp]; rfl
 have fp2 : (w.alloc (Obj.cells #[Value.int IntKind.i64 pp, Value.int IntKind.i64 ee] 147)).frozen? ⟨p, 2, none⟩ = false := by (rw [frozen?_alloc_cells]; simp [World.frozen?, hp])
 have cp3 : (w.alloc (Obj.cells #[Value.int IntKind.i64 pp, Value.int IntKind.i64 ee] 147)).cell? ⟨p, 3, none⟩ = some (.slice none 0 0) := by rw [World.cell?_alloc_lt _ _ _ h1, cell_of_row w p 3 _ 33 (0, 0) hp]; rfl
 have fp3 : (w.alloc (Obj.cells #[Value.int IntKind.i64 pp, Value.int IntKind.i64 ee] 147)).frozen? ⟨p, 3, none⟩ = false := by (rw [frozen?_alloc_cells]; simp [World.frozen?, hp])
 have cp4 : (w.alloc (Obj.cells #[Value.int IntKind.i64 pp, Value.int IntKind.i64 ee] 147)).cell? ⟨p, 4, none⟩ = some (.slice none 0 0) := by rw [World.cell?_alloc_lt _ _ _ h1, cell_of_row w p 4 _ 33 (0, 0) hp]; rfl
 have fp4 : (w.alloc (Obj.cells #[Value.int IntKind.i64 pp, Value.int IntKind.i64 ee] 147)).frozen? ⟨p, 4, none⟩ = false := by (rw [frozen?_alloc_cells]; simp [World.frozen?, hp])
 have cp5 : (w.alloc (Obj.cells #[Value.int IntKind.i64 pp, Value.int IntKind.i64 ee] 147)).cell? ⟨p, 5, none⟩ = some (.slice none 0 0) := by rw [World.cell?_alloc_lt _ _ _ h1, cell_of_row w p 5 _ 33 (0, 0) hp]; rfl
 have fp5 : (w.alloc (Obj.cells #[Value.int IntKind.i64 pp, Value.int IntKind.i64 ee] 147)).frozen? ⟨p, 5, none⟩ = false := by (rw [frozen?_alloc_cells]; simp [World.frozen?, hp])
 have cp6 : (w.alloc (Obj.cells #[Value.int IntKind.i64 pp, Value.int IntKind.i64 ee] 147)).cell? ⟨p, 6, none⟩ = some (.slice none 0 0) := by rw [World.cell?_alloc_lt _ _ _ h1, cell_of_row w p 6 _ 33 (0, 0) hp]; rfl
 have fp6 : (w.alloc (Obj.cells #[Value.int IntKind.i64 pp, Value.int IntKind.i64 ee] 147)).frozen? ⟨p, 6, none⟩ = false := by (rw [frozen?_alloc_cells]; simp [World.frozen?, hp])
 have cq : (w.alloc (Obj.cells #[Value.int IntKind.i64 pp, Value.int IntKind.i64 ee] 147)).cell? ⟨q, 0, none⟩ = some (.int .i64 x) := by rw [World.cell?_alloc_lt _ _ _ h2, cell_of_row w q 0 _ 3 (0, 0) hq]; rfl
 have fq : (w.alloc (Obj.cells #[Value.int IntKind.i64 pp, Value.int IntKind.i64 ee] 147)).frozen? ⟨q, 0, none⟩ = false := by (rw [frozen?_alloc_cells]; simp [World.frozen?, hq])
 have cr : (w.alloc (Obj.cells #[Value.int IntKind.i64 pp, Value.int IntKind.i64 ee] 147)).cell? ⟨r, 0, none⟩ = some (.int .i64 y) := by rw [World.cell?_alloc_lt _ _ _ h3, cell_of_row w r 0 _ 43 (0, 0) hr]; rfl
 have fr : (w.alloc (Obj.cells #[Value.int IntKind.i64 pp, Value.int IntKind.i64 ee] 147)).frozen? ⟨r, 0, none⟩ = false := by (rw [frozen?_alloc_cells]; simp [World.frozen?, hr])
 have dp0 : w.cell? ⟨p, 0, none⟩ = some (.int .i64 0) := by rw [cell_of_row w p 0 _ 33 (0, 0) hp]; rfl
 have gp0 : w.frozen? ⟨p, 0, none⟩ = false := by simp [World.frozen?, hp]
 have dp1 : w.cell? ⟨p, 1, none⟩ = some (.slice none 0 0) := by rw [cell_of_row w p 1 _ 33 (0, 0) hp]; rfl
 have gp1 : w.frozen? ⟨p, 1, none⟩ = false := by simp [World.frozen?, hp]
 have dp2 : w.cell? ⟨p, 2, none⟩ = some (.slice none 0 0) := by rw [cell_of_row w p 2 _ 33 (0, 0) hp]; rfl
 have gp2 : w.frozen? ⟨p, 2, none⟩ = false := by simp [World.frozen?, hp]
 have dp3 : w.cell? ⟨p, 3, none⟩ = some (.slice none 0 0) := by rw [cell_of_row w p 3 _ 33 (0, 0) hp]; rfl
 have gp3 : w.frozen? ⟨p, 3, none⟩ = false := by simp [World.frozen?, hp]
 have dp4 : w.cell? ⟨p, 4, none⟩ = some (.slice none 0 0) := by rw [cell_of_row w p 4 _ 33 (0, 0) hp]; rfl
 have gp4 : w.frozen? ⟨p, 4, none⟩ = false := by simp [World.frozen?, hp]
 have dp5 : w.cell? ⟨p, 5, none⟩ = some (.slice none 0 0) := by rw [cell_of_row w p 5 _ 33 (0, 0) hp]; rfl
 have gp5 : w.frozen? ⟨p, 5, none⟩ = false := by simp [World.frozen?, hp]
 have dp6 : w.cell? ⟨p, 6, none⟩ = some (.slice none 0 0) := by rw [cell_of_row w p 6 _ 33 (0, 0) hp]; rfl
 have gp6 : w.frozen? ⟨p, 6, none⟩ = false := by simp [World.frozen?, hp]
 have dq : w.cell? ⟨q, 0, none⟩ = some (.int .i64 x) := by rw [cell_of_row w q 0 _ 3 (0, 0) hq]; rfl
 have gq : w.frozen? ⟨q, 0, none⟩ = false := by simp [World.frozen?, hq]
 have dr : w.cell? ⟨r, 0, none⟩ = some (.int .i64 y) := by rw [cell_of_row w r 0 _ 43 (0, 0) hr]; rfl
 have gr : w.frozen? ⟨r, 0, none⟩ = false := by simp [World.frozen?, hr]
 have hA := Ch p q r x y pp ee w hp hq hr hpq hpr hqr _ rfl
 go_region
 ·exact ⟨rfl, _, rfl, .tuple #[], by simp [results, Tryz.results66, go_sem], rfl, rfl, F5 h1 h2 h3 hA⟩
end Go.Vd
namespace Go.Vd
open Go.Proofs Go.RowKit
theorem wY (w : World) : w.drew.os = w.os := rfl
theorem wU (w : World) : w.drew.tape = w.tape := rfl
theorem tA (w : World) : w.drew.output = w.output := rfl
theorem qF (w : World) : w.drew.heap = w.heap := rfl
def uT : Nat → Code → Code
 | 0, .seq a _ => a
 | n + 1, .seq _ b => uT n b
 | _, c => c
set_option maxHeartbeats 4000000 in
set_option maxRecDepth 100000 in
theorem F2 {Z : Exit → Act → World → Prop} (p q r k : Nat) (hpq : p ≠ q) (hpr : p ≠ r) (hqr : q ≠ r) (hpk : p ≠ k) (hqk : q ≠ k) (hrk : r ≠ k) (i0 x1 z1 z2 : Int) (x0 : Value) (ty : TypeId) (d1 d2 d3 d4 d5 d6 : Option Addr) (m1 m2 m3 m4 m5 m6 n1 n2 n3 n4 n5 n6 : Nat) (t0 t1 t6 t7 t8 t9 t10 t11 t12 t13 t14 t15 t16 : Value) (df : List Deferred) (w : World)
 (h1 : w.heap[p]? = some (.cells #[.int .i64 i0, .slice d1 m1 n1, .slice d2 m2 n2, .slice d3 m3 n3, .slice d4 m4 n4, .slice d5 m5 n5, .slice d6 m6 n6] 33 (0, 0))) (h2 : w.heap[q]? = some (.cells #[.int .i64 z1] 3 (0, 0))) (h3 : w.heap[r]? = some (.cells #[.int .i64 z2] 43 (0, 0))) (h4 : w.heap[k]? = some (.cells #[x0, .int .i64 x1] ty (0, 0)))
 (hZ : ∀ (u17 u18 u19 u20 u21 : Value) (w' : World), w'.heap[p]? = some (.cells #[.int .i64 i0, .slice d1 m1 n1, .slice d2 m2 n2, .slice d3 m3 n3, .slice d4 m4 n4, .slice d5 m5 n5, .slice d6 m6 n6] 33 (0, 0)) → w'.heap[q]? = some (.cells #[.int .i64 x1] 3 (0, 0)) → w'.heap[r]? = some (.cells #[.int .i64 0] 43 (0, 0)) → (∀ c, c ≠ p → c ≠ q → c ≠ r → w'.heap[c]? = w.heap[c]?) → w'.heap.size = w.heap.size → w'.os = w.os → w'.tape = w.tape → w'.output = w.output → Z .normal { tmps := #[t0, t1, .pointer (some ⟨p, 0, none⟩), .pointer (some ⟨q, 0, none⟩), .pointer (some ⟨r, 0, none⟩), .pointer (some ⟨k, 0, none⟩), t6, t7, t8, t9, t10, t11, t12, t13, t14, t15, t16, u17, u18, u19, u20, u21], defers := df } w') :
 (uT 5 (Tryz.f40.body.getD .skip)).wp Tryz.prog Z { tmps := #[t0, t1, .pointer (some ⟨p, 0, none⟩), .pointer (some ⟨q, 0, none⟩), .pointer (some ⟨r, 0, none⟩), .pointer (some ⟨k, 0, none⟩), t6, t7, t8, t9, t10, t11, t12, t13, t14, t15, t16, undef, undef, undef, undef, undef], defers := df } w := by
 have c0 : w.cell? ⟨p, 0, none⟩ = some (.int .i64 i0) := aY h1 rfl
 have f0 : w.frozen? ⟨p, 0, none⟩ = false := bQ h1
 have c1 : w.cell? ⟨p, 1, none⟩ = some (.slice d1 m1 n1) := aY h1 rfl
 have f1 : w.frozen? ⟨p, 1, none⟩ = false := bQ h1
 have c2 : w.cell? ⟨p, 2, none⟩ = some (.slice d2 m2 n2) := aY h1 rfl
 have f2 : w.frozen? ⟨p, 2, none⟩ = false := bQ h1
 have c3 : w.cell? ⟨p, 3, none⟩ = some (.slice d3 m3 n3) := aY h1 rfl
 have f3 : w.frozen? ⟨p, 3, none⟩ = false := bQ h1
 have c4 : w.cell? ⟨p, 4, none⟩ = some (.slice d4 m4 n4) := aY h1 rfl
 have f4 : w.frozen? ⟨p, 4, none⟩ = false := bQ h1
 have c5 : w.cell? ⟨p, 5, none⟩ = some (.slice d5 m5 n5) := aY h1 rfl
 have f5 : w.frozen? ⟨p, 5, none⟩ = false := bQ h1
 have c6 : w.cell? ⟨p, 6, none⟩ = some (.slice d6 m6 n6) := aY h1 rfl
 have f6 : w.frozen? ⟨p, 6, none⟩ = false := bQ h1
 have cq : w.cell? ⟨q, 0, none⟩ = some (.int .i64 z1) := aY h2 rfl
 have fq : w.frozen? ⟨q, 0, none⟩ = false := bQ h2
 have cr : w.cell? ⟨r, 0, none⟩ = some (.int .i64 z2) := aY h3 rfl
 have fr : w.frozen? ⟨r, 0, none⟩ = false := bQ h3
 have ck : w.cell? ⟨k, 1, none⟩ = some (.int .i64 x1) := aY h4 rfl
 have hF : ∀ w1 : World, w1 = (gK p 0 [.int .i64 i0, .slice d1 m1 n1, .slice d2 m2 n2, .slice d3 m3 n3, .slice d4 m4 n4, .slice d5 m5 n5, .slice d6 m6 n6] w) → ∀ w' : World, w'.heap = ((w1.setCell ⟨q, 0, none⟩ (.int .i64 x1)).setCell ⟨r, 0, none⟩ (.int .i64 0)).heap → w'.os = w1.os → w'.tape = w1.tape → w'.output = w1.output → ∀ u17 : Value, ∀ u18 : Value, ∀ u19 : Value, ∀ u20 : Value, ∀ u21 : Value,
  Z .normal { tmps := #[t0, t1, .pointer (some ⟨p, 0, none⟩), .pointer (some ⟨q, 0, none⟩), .pointer (some ⟨r, 0, none⟩), .pointer (some ⟨k, 0, none⟩), t6, t7, t8, t9, t10, t11, t12, t13, t14, t15, t16, u17, u18, u19, u20, u21], defers := df } w' := by
  rintro w1 rfl w' hh ho ht hu u17 u18 u19 u20 u21
  obtain ⟨s1, s2, s3, s4, s5⟩ := iM p [.int .i64 i0, .slice d1 m1 n1, .slice d2 m2 n2, .slice d3 m3 n3, .slice d4 m4 n4, .slice d5 m5 n5, .slice d6 m6 n6] 0 w
  have s0 := kV (vs := [.int .i64 i0, .slice d1 m1 n1, .slice d2 m2 n2, .slice d3 m3 n3, .slice d4 m4 n4, .slice d5 m5 n5, .slice d6 m6 n6]) h1 rfl
  generalize gK p 0 [.int .i64 i0, .slice d1 m1 n1, .slice d2 m2 n2, .slice d3 m3 n3, .slice d4 m4 n4, .slice d5 m5 n5, .slice d6 m6 n6] w = w1 at s0 s1 s2 s3 s4 s5 hh ho ht hu
  have e2 := (s1 q hpq.symm).trans h2
  have e3 := (s1 r hpr.symm).trans h3
  refine hZ u17 u18 u19 u20 u21 w' ?_ ?_ ?_ (fun c c1 c2 c3 => ?_) ?_ (ho.trans s3) (ht.trans s4) (hu.trans s5)
  ·rw [hh, heap_setCell_other _ _ _ _ hpr, heap_setCell_other _ _ _ _ hpq]; exact s0
  ·rw [hh, heap_setCell_other _ _ _ _ hqr]; exact heap_setCell_same w1 q 0 _ 3 _ e2
  ·rw [hh]; exact heap_setCell_same (w1.setCell ⟨q, 0, none⟩ (.int .i64 x1)) r 0 _ 43 _ ((heap_setCell_other _ _ _ _ hqr.symm).trans e3)
  ·rw [hh, heap_setCell_other _ _ _ _ c3, heap_setCell_other _ _ _ _ c2]; exact s1 c c1
  ·rw [hh]; simp [s2]
 simp only [Tryz.f40, uT, Option.getD_some]
 go_region
 rw [C5]
 refine hF _ rfl _ ?_ ?_ ?_ ?_ _ _ _ _ _
 ·exact (qF _)
 ·rw [wY, nL, nL]
 ·rw [wU, oU, oU]
 ·rw [tA, kS, kS]
end Go.Vd
namespace Go.Vd
open Go.Proofs Go.RowKit
def dk (b : List UInt8) : Option (Aig × Nat) := if b.length ≤ 100000 then cO b 0 else none
def sJ : Aig := ⟨0, [], [], [], [], [], []⟩
def sD (b : List UInt8) (r : V) : Prop := match dk b with
 | some (a, q) => r = .tup [bq a, .int .i64 q, .int .i64 0]
 | none => ∃ p e : Int, e ≠ 0 ∧ r = .tup [bq sJ, .int .i64 p, .int .i64 e]
theorem tf {b : List UInt8} {p e : Int} (h : dk b = none) (he : e ≠ 0) : sD b (.tup [bq sJ, .int .i64 p, .int .i64 e]) := by
 unfold sD; rw [h]; exact ⟨_, _, he, rfl⟩
theorem eF {w : World} {im : Nat → Prop} {es : List (List V)} {u : Value} (h : RepV w im (.sl es) u) : ∃ ad c, u = .slice ad es.length c := by
 cases h with
 | sl0 a c => exact ⟨a, c, rfl⟩
 | sl es b o sz c => exact ⟨_, _, rfl⟩
theorem C2 {α : Type} {l : List α} (h : l.length = 7) : ∃ a b c d e f g, l = [a, b, c, d, e, f, g] := by
 match l, h with
 | [a, b, c, d, e, f, g], _ => exact ⟨a, b, c, d, e, f, g, rfl⟩
theorem uM {α : Type} {l : Array α} (h : l.size = 2) : ∃ a b, l = #[a, b] := by
 match l, h with
 | ⟨[a, b]⟩, _ => exact ⟨a, b, rfl⟩
abbrev Z7 : Array Value := #[.int .i64 0, .slice none 0 0, .slice none 0 0, .slice none 0 0, .slice none 0 0, .slice none 0 0, .slice none 0 0]
theorem Ie (w : World) (A B C : Obj) : (((w.alloc A).alloc B).alloc C).heap[w.heap.size]? = some A ∧ (((w.alloc A).alloc B).alloc C).heap[w.heap.size + 1]? = some B ∧ (((w.alloc A).alloc B).alloc C).heap[w.heap.size + 1 + 1]? = some C ∧ (∀ k, k < w.heap.size → (((w.alloc A).alloc B).alloc C).heap[k]? = w.heap[k]?) ∧ (((w.alloc A).alloc B).alloc C).heap.size = w.heap.size + 1 + 1 + 1 := by
 have h : (((w.alloc A).alloc B).alloc C).heap = ((w.heap.push A).push B).push C := rfl
 rw [h]
 refine ⟨?_, ?_, ?_, fun k hk => ?_, by simp⟩
 ·rw [Array.getElem?_push, if_neg (by simp; omega), Array.getElem?_push, if_neg (by simp), Array.getElem?_push, if_pos rfl]
 ·rw [Array.getElem?_push, if_neg (by simp), Array.getElem?_push, if_pos (by simp)]
 ·rw [Array.getElem?_push, if_pos (by simp)]
 ·rw [Array.getElem?_push, if_neg (by simp; omega), Array.getElem?_push, if_neg (by simp; omega), Array.getElem?_push, if_neg (by omega)]
theorem H6 (w : World) (A B C D : Obj) : ((((w.alloc A).alloc B).alloc C).alloc D).heap[w.heap.size]? = some A ∧ ((((w.alloc A).alloc B).alloc C).alloc D).heap[w.heap.size + 1]? = some B ∧ ((((w.alloc A).alloc B).alloc C).alloc D).heap[w.heap.size + 1 + 1]? = some C ∧ ((((w.alloc A).alloc B).alloc C).alloc D).heap[w.heap.size + 1 + 1 + 1]? = some D ∧ (∀ k, k < w.heap.size → ((((w.alloc A).alloc B).alloc C).alloc D).heap[k]? = w.heap[k]?) ∧ ((((w.alloc A).alloc B).alloc C).alloc D).heap.size = w.heap.size + 1 + 1 + 1 + 1 := by
 obtain ⟨h1, h2, h3, h4, h5⟩ := Ie w A B C
 have h : ((((w.alloc A).alloc B).alloc C).alloc D).heap = (((w.alloc A).alloc B).alloc C).heap.push D := rfl
 rw [h]
 refine ⟨?_, ?_, ?_, ?_, fun k hk => ?_, by rw [Array.size_push, h5]⟩
 ·rw [Array.getElem?_push, if_neg (by omega), h1]
 ·rw [Array.getElem?_push, if_neg (by omega), h2]
 ·rw [Array.getElem?_push, if_neg (by omega), h3]
 ·rw [Array.getElem?_push, if_pos (by omega)]
 ·rw [Array.getElem?_push, if_neg (by omega), h4 k hk]
theorem GT {w : World} {im : Nat → Prop} : RepV w im (bq sJ) (.agg Z7) := by
 refine .agg _ _ rfl fun i v u hv hu => ?_
 match i, hv, hu with
 | 0, rfl, rfl => exact .int _ _
 | 1, rfl, rfl => exact .sl0 _ _
 | 2, rfl, rfl => exact .sl0 _ _
 | 3, rfl, rfl => exact .sl0 _ _
 | 4, rfl, rfl => exact .sl0 _ _
 | 5, rfl, rfl => exact .sl0 _ _
 | 6, rfl, rfl => exact .sl0 _ _
theorem wL {P : Program} {c c' : Code} {Q : Exit → Act → World → Prop} {a : Act} {w : World} (h : c' = c) (hw : c'.wp P Q a w) : c.wp P Q a w := h ▸ hw
theorem xP {w : World} {im : Nat → Prop} {a b c : V} {x y z : Value} (h1 : RepV w im a x) (h2 : RepV w im b y) (h3 : RepV w im c z) : RepV w im (.tup [a, b, c]) (.tuple #[x, y, z]) := by
 refine .tup _ _ rfl fun i v u hv hu => ?_
 match i, hv, hu with
 | 0, rfl, rfl => exact h1
 | 1, rfl, rfl => exact h2
 | 2, rfl, rfl => exact h3
set_option maxHeartbeats 1000000 in
set_option maxRecDepth 100000 in
theorem Fa (b : List UInt8) (hb : b.length ≤ 1000000000000) : kw 40 [cH b] (sD b) := by
 refine ⟨cJ (fn := Tryz.f40) (by kernel_rfl) rfl (by kernel_rfl), fun w im us hG hp => ?_⟩
 obtain ⟨u, rfl, hu⟩ := H2 hp
 obtain ⟨ad, c, rfl⟩ := eF hu
 rw [show (List.map bV b).length = b.length from List.length_map _] at *
 have hmf : ∀ (fn : Fn) (first cap : Array Value) (w : World), (Instr.makeFunc fn first cap).run Tryz.prog w = .ok (.func fn first cap) w := fun _ _ _ _ => rfl
 by_cases hl : b.length ≤ 100000
 ·have hl2 : ¬ (100000 < (b.length : Int)) := by omega
  have hpM : dk b = cO b 0 := if_pos hl
  obtain ⟨a1, a2, a3, a4, a5, a6⟩ := H6 w (.cells Z7 33) (.cells #[.int .i64 0] 3) (.cells #[.int .i64 0] 43) (.cells #[.slice ad b.length c, .int .i64 0] 151)
  have hG2 : Glob ((((w.alloc (.cells Z7 33)).alloc (.cells #[.int .i64 0] 3)).alloc (.cells #[.int .i64 0] 43)).alloc (.cells #[.slice ad b.length c, .int .i64 0] 151)) := hG.stays (by rw [a6]; omega) fun g hg => a5 g (by have := hG.1; omega)
  have hu2 : RepV ((((w.alloc (.cells Z7 33)).alloc (.cells #[.int .i64 0] 3)).alloc (.cells #[.int .i64 0] 43)).alloc (.cells #[.slice ad b.length c, .int .i64 0] 151)) (fun k => im k ∧ k < w.heap.size) (cH b) (.slice ad b.length c) := hu.mono fun k hk hlt => ⟨⟨hk, hlt⟩, a5 k hlt⟩
  have hcl : ∀ (i : Nat) v u, [cH b, V.int .i64 0][i]? = some v → #[Value.slice ad b.length c, .int .i64 0][i]? = some u → RepV ((((w.alloc (.cells Z7 33)).alloc (.cells #[.int .i64 0] 3)).alloc (.cells #[.int .i64 0] 43)).alloc (.cells #[.slice ad b.length c, .int .i64 0] 151)) (fun k => im k ∧ k < w.heap.size) v u := by
   intro i v u h1 h2
   match i, h1, h2 with
   | 0, rfl, rfl => exact hu2
   | 1, rfl, rfl => exact .int _ _
  have h9 := hG.1
  cases hM : cO b 0 with
  | none =>
    have hps : dh Tryz.prog 67 [.ptr 900 0] [(900, RB b 0)] (.pan 147) := by
     have := CG b 0 (Nat.zero_le _) hb
     rw [hM] at this; exact this
    have hC : ∀ w2, w2 = ((((w.alloc (.cells Z7 33)).alloc (.cells #[.int .i64 0] 3)).alloc (.cells #[.int .i64 0] 43)).alloc (.cells #[.slice ad b.length c, .int .i64 0] 151)) → Calls Tryz.prog 67 #[.pointer (some ⟨w.heap.size + 1 + 1 + 1, 0, none⟩)] w2 fun e w' => (∃ p q, q ≠ 0 ∧ e = .panicked [{ v := wv 147 p q, recovered := false }]) ∧ lf (w.heap.size + 1 + 1 + 1) w2 w' := by
     rintro w2 rfl
     exact my (vs := []) (us := []) (cs := [cH b, .int .i64 0]) hps hG2 (by omega) a4 (fun k hk => by have := hk.2; omega) rfl hcl ⟨rfl, fun i v u h1 h2 => by simp at h1⟩
    go_enter_defers Tryz.func40, Tryz.ntmps40
    go_wp2_with (go_at_call 67; refine (hC _ rfl).mono ?_; rintro e w5 ⟨⟨pp, ee, hee, rfl⟩, g1, g2, g3, g4, g5⟩)
    have hpM' : dk b = none := hpM.trans hM
    have k1 : w5.heap[w.heap.size]? = some (.cells Z7 33 (0, 0)) := (g5 _ (by rw [a6]; omega) (by omega)).trans a1
    have k2 : w5.heap[w.heap.size + 1]? = some (.cells #[.int .i64 0] 3 (0, 0)) := (g5 _ (by rw [a6]; omega) (by omega)).trans a2
    have k3 : w5.heap[w.heap.size + 1 + 1]? = some (.cells #[.int .i64 0] 43 (0, 0)) := (g5 _ (by rw [a6]; omega) (by omega)).trans a3
    have k4 : ∀ k, k < w.heap.size → w5.heap[k]? = w.heap[k]? := fun k hk => (g5 k (by rw [a6]; omega) (by omega)).trans (a5 k hk)
    rw [a6] at g4
    have k5 : w.heap.size ≤ w5.heap.size := by omega
    have k9 : w.heap.size + 1 + 1 + 1 ≤ w5.heap.size := by omega
    have k6 : w5.os = w.os := g1
    have k7 : w5.tape = w.tape := g2
    have k8 : w5.output = w.output := g3
    refine leaves_cons (f := 66) (args := #[.pointer (some ⟨w.heap.size, 0, none⟩), .pointer (some ⟨w.heap.size + 1, 0, none⟩), .pointer (some ⟨w.heap.size + 1 + 1, 0, none⟩)]) (by simp) (by simp [go_sem]) ?_
    refine (lG (w.heap.size) (w.heap.size + 1) (w.heap.size + 1 + 1) 0 0 pp ee [] _ k1 k2 k3 (by omega) (by omega) (by omega)).mono ?_
    rintro e u' w'' ⟨rfl, rfl, e1, e2, e3, e4, e5, e6, e7, e8⟩
    have c0 := aY e1 (i := 0) rfl
    have c1 := aY e1 (i := 1) rfl
    have c2 := aY e1 (i := 2) rfl
    have c3 := aY e1 (i := 3) rfl
    have c4 := aY e1 (i := 4) rfl
    have c5 := aY e1 (i := 5) rfl
    have c6 := aY e1 (i := 6) rfl
    have cq := aY e2 (i := 0) rfl
    have cr := aY e3 (i := 0) rfl
    simp only [Leaves, settle, List.dropWhile]
    refine ⟨.tuple #[.agg Z7, .int .i64 pp, .int .i64 ee], by simp [results, Tryz.results40, go_sem, c0, c1, c2, c3, c4, c5, c6, cq, cr], .tup [bq sJ, .int .i64 pp, .int .i64 ee], _, tf hpM' hee, rfl, ⟨e6.trans k6, e7.trans k7, e8.trans k8, Nat.le_trans k5 e5, fun k hk => (e4 k (by omega) (by omega) (by omega) (by omega)).trans (k4 k hk)⟩, xP GT (.int _ _) (.int _ _)⟩
  | some aq =>
    obtain ⟨a, q⟩ := aq
    have hps : dh Tryz.prog 67 [.ptr 900 0] [(900, RB b 0)] (.ret (.v (bq a)) [(900, RB b q)]) := by
     have := CG b 0 (Nat.zero_le _) hb
     rw [hM] at this; exact this
    have hC : ∀ w2, w2 = ((((w.alloc (.cells Z7 33)).alloc (.cells #[.int .i64 0] 3)).alloc (.cells #[.int .i64 0] 43)).alloc (.cells #[.slice ad b.length c, .int .i64 0] 151)) → Calls Tryz.prog 67 #[.pointer (some ⟨w.heap.size + 1 + 1 + 1, 0, none⟩)] w2 fun e w' => ∃ u arr' ty', e = .returned u ∧ lf (w.heap.size + 1 + 1 + 1) w2 w' ∧ RepV w' (fun k => ((im k ∧ k < w.heap.size) ∨ w2.heap.size ≤ k) ∧ k ≠ w.heap.size + 1 + 1 + 1) (bq a) u ∧
     w'.heap[w.heap.size + 1 + 1 + 1]? = some (.cells arr' ty' (0, 0)) ∧ arr'.size = 2 ∧ ∀ (i : Nat) v u, [cH b, V.int .i64 q][i]? = some v → arr'[i]? = some u → RepV w' (fun k => ((im k ∧ k < w.heap.size) ∨ w2.heap.size ≤ k) ∧ k ≠ w.heap.size + 1 + 1 + 1) v u := by
     rintro w2 rfl
     exact tG (vs := []) (us := []) (cs := [cH b, .int .i64 0]) (cs' := [cH b, .int .i64 q]) hps hG2 (by omega) a4 (fun k hk => by have := hk.2; omega) rfl hcl ⟨rfl, fun i v u h1 h2 => by simp at h1⟩
    go_enter_defers Tryz.func40, Tryz.ntmps40
    go_wp2_with (go_at_call 67; refine (hC _ rfl).mono ?_; rintro e w5 ⟨u, arr, ty, rfl, ⟨g1, g2, g3, g4, g5⟩, hrep, hkk, hsz, hcell⟩; obtain ⟨us, rfl, hl7, hv⟩ := oS hrep; obtain ⟨y0, y1, y2, y3, y4, y5, y6, rfl⟩ := C2 hl7; (have b1 : w5.heap[w.heap.size]? = some (.cells Z7 33 (0, 0)) := (g5 _ (by rw [a6]; omega) (by omega)).trans a1); (have b2 : w5.heap[w.heap.size + 1]? = some (.cells #[.int .i64 0] 3 (0, 0)) := (g5 _ (by rw [a6]; omega) (by omega)).trans a2); (have b3 : w5.heap[w.heap.size + 1 + 1]? = some (.cells #[.int .i64 0] 43 (0, 0)) := (g5 _ (by rw [a6]; omega) (by omega)).trans a3); (cases (hv 0 _ _ rfl rfl).int_inv); (obtain ⟨d1, n1, rfl⟩ := eF (hv 1 _ _ rfl rfl)); (obtain ⟨d2, n2, rfl⟩ := eF (hv 2 _ _ rfl rfl)); (obtain ⟨d3, n3, rfl⟩ := eF (hv 3 _ _ rfl rfl)); (obtain ⟨d4, n4, rfl⟩ := eF (hv 4 _ _ rfl rfl)); (obtain ⟨d5, n5, rfl⟩ := eF (hv 5 _ _ rfl rfl)); (obtain ⟨d6, n6, rfl⟩ := eF (hv 6 _ _ rfl rfl)); (obtain ⟨x0, x1, rfl⟩ := uM hsz); (have hx1 := (hcell 1 _ _ rfl rfl).int_inv); (subst hx1); (have c0 := aY b1 (i := 0) rfl); (have c1 := aY b1 (i := 1) rfl); (have c2 := aY b1 (i := 2) rfl); (have c3 := aY b1 (i := 3) rfl); (have c4 := aY b1 (i := 4) rfl); (have c5 := aY b1 (i := 5) rfl); (have c6 := aY b1 (i := 6) rfl); (have f0 := bQ (i := 0) b1); (have f1 := bQ (i := 1) b1); (have f2 := bQ (i := 2) b1); (have f3 := bQ (i := 3) b1); (have f4 := bQ (i := 4) b1); (have f5 := bQ (i := 5) b1); (have f6 := bQ (i := 6) b1); skip)
    rw [C5]
    obtain ⟨s1, s2, s3, s4, s5⟩ := iM w.heap.size [.int .i64 a.i, .slice d1 a.l.length n1, .slice d2 a.g.length n2, .slice d3 a.outs.length n3, .slice d4 a.bad.length n4, .slice d5 a.con.length n5, .slice d6 a.names.length n6] 0 w5
    have s0 := kV (vs := [.int .i64 a.i, .slice d1 a.l.length n1, .slice d2 a.g.length n2, .slice d3 a.outs.length n3, .slice d4 a.bad.length n4, .slice d5 a.con.length n5, .slice d6 a.names.length n6]) b1 rfl
    clear c0 c1 c2 c3 c4 c5 c6 f0 f1 f2 f3 f4 f5 f6
    generalize gK w.heap.size 0 [.int .i64 a.i, .slice d1 a.l.length n1, .slice d2 a.g.length n2, .slice d3 a.outs.length n3, .slice d4 a.bad.length n4, .slice d5 a.con.length n5, .slice d6 a.names.length n6] w5 = w6 at s0 s1 s2 s3 s4 s5 ⊢
    have e2 := (s1 (w.heap.size + 1) (by omega)).trans b2
    have e3 := (s1 (w.heap.size + 1 + 1) (by omega)).trans b3
    have e4 := (s1 (w.heap.size + 1 + 1 + 1) (by omega)).trans hkk
    refine wL (c' := uT 5 (Tryz.f40.body.getD .skip)) (by kernel_rfl) ?_
    refine F2 w.heap.size (w.heap.size + 1) (w.heap.size + 1 + 1) (w.heap.size + 1 + 1 + 1) (by omega) (by omega) (by omega) (by omega) (by omega) (by omega) a.i q 0 0 x0 ty d1 d2 d3 d4 d5 d6 a.l.length a.g.length a.outs.length a.bad.length a.con.length a.names.length n1 n2 n3 n4 n5 n6 _ _ _ _ _ _ _ _ _ _ _ _ _ _ w6 s0 e2 e3 e4 ?_
    intro u17 u18 u19 u20 u21 w7 z1 z2 z3 z4 z5 z6 z7 z8
    clear hps hC
    have hrep2 := hrep
    simp only [List.length_map] at hrep2
    clear hrep hcell hv
    go_wp2
    refine leaves_cons (f := 66) (args := #[.pointer (some ⟨w.heap.size, 0, none⟩), .pointer (some ⟨w.heap.size + 1, 0, none⟩), .pointer (some ⟨w.heap.size + 1 + 1, 0, none⟩)]) (by simp) (by simp [go_sem]) ?_
    refine (rN _ _ _ _).mono ?_
    rintro e u' w'' ⟨rfl, rfl, rfl⟩
    have c0 := aY z1 (i := 0) rfl
    have c1 := aY z1 (i := 1) rfl
    have c2 := aY z1 (i := 2) rfl
    have c3 := aY z1 (i := 3) rfl
    have c4 := aY z1 (i := 4) rfl
    have c5 := aY z1 (i := 5) rfl
    have c6 := aY z1 (i := 6) rfl
    have cq := aY z2 (i := 0) rfl
    have cr := aY z3 (i := 0) rfl
    simp only [Leaves, settle]
    have hold : ∀ k, k ≠ w.heap.size → k ≠ w.heap.size + 1 → k ≠ w.heap.size + 1 + 1 → w''.heap[k]? = w5.heap[k]? := fun k h1 h2 h3 => (z4 k h1 h2 h3).trans (s1 k h1)
    refine ⟨.tuple #[_, .int .i64 q, .int .i64 0], by simp [results, Tryz.results40, go_sem, c0, c1, c2, c3, c4, c5, c6, cq, cr], .tup [bq a, .int .i64 q, .int .i64 0], _, by unfold sD; rw [hpM, hM], rfl, ⟨z6.trans (s3.trans g1), z7.trans (s4.trans g2), z8.trans (s5.trans g3), by rw [z5, s2]; rw [a6] at g4; omega, fun k hk => (hold k (by omega) (by omega) (by omega)).trans ((g5 k (by rw [a6]; omega) (by omega)).trans (a5 k hk))⟩, xP (hrep2.mono fun k hk hlt => ⟨?_, hold k ?_ ?_ ?_⟩) (.int _ _) (.int _ _)⟩
    ·rcases hk.1 with h | h
     ·exact .inl h.1
     ·rw [a6] at h; exact .inr (by omega)
    all_goals (have hk1 := hk.1; rw [a6] at hk1; omega)
 ·have hl2 : 100000 < (b.length : Int) := by omega
  have hpM : dk b = none := if_neg hl
  have hpan : ∀ (w : World), (Instr.panic (.iface 147 (.agg #[.int .i64 0, .int .i64 3]))).run Tryz.prog w = .halt (.panic (.iface 147 (.agg #[.int .i64 0, .int .i64 3]))) w := by intro w; simp [Instr.panic, goPanic]
  obtain ⟨k1, k2, k3, k4, k5⟩ := Ie w (.cells Z7 33) (.cells #[.int .i64 0] 3) (.cells #[.int .i64 0] 43)
  go_enter_defers Tryz.func40, Tryz.ntmps40
  go_wp2
  have k6 : (((w.alloc (.cells Z7 33)).alloc (.cells #[.int .i64 0] 3)).alloc (.cells #[.int .i64 0] 43)).os = w.os := rfl
  have k7 : (((w.alloc (.cells Z7 33)).alloc (.cells #[.int .i64 0] 3)).alloc (.cells #[.int .i64 0] 43)).tape = w.tape := rfl
  have k8 : (((w.alloc (.cells Z7 33)).alloc (.cells #[.int .i64 0] 3)).alloc (.cells #[.int .i64 0] 43)).output = w.output := rfl
  have k9 := k5
  replace k5 : w.heap.size ≤ (((w.alloc (.cells Z7 33)).alloc (.cells #[.int .i64 0] 3)).alloc (.cells #[.int .i64 0] 43)).heap.size := by omega
  refine leaves_cons (f := 66) (args := #[.pointer (some ⟨w.heap.size, 0, none⟩), .pointer (some ⟨w.heap.size + 1, 0, none⟩), .pointer (some ⟨w.heap.size + 1 + 1, 0, none⟩)]) (by simp) (by simp [go_sem]) ?_
  refine (lG (w.heap.size) (w.heap.size + 1) (w.heap.size + 1 + 1) 0 0 0 3 [] _ k1 k2 k3 (by omega) (by omega) (by omega)).mono ?_
  rintro e u' w'' ⟨rfl, rfl, e1, e2, e3, e4, e5, e6, e7, e8⟩
  have c0 := aY e1 (i := 0) rfl
  have c1 := aY e1 (i := 1) rfl
  have c2 := aY e1 (i := 2) rfl
  have c3 := aY e1 (i := 3) rfl
  have c4 := aY e1 (i := 4) rfl
  have c5 := aY e1 (i := 5) rfl
  have c6 := aY e1 (i := 6) rfl
  have cq := aY e2 (i := 0) rfl
  have cr := aY e3 (i := 0) rfl
  simp only [Leaves, settle, List.dropWhile]
  refine ⟨.tuple #[.agg Z7, .int .i64 0, .int .i64 3], by simp [results, Tryz.results40, go_sem, c0, c1, c2, c3, c4, c5, c6, cq, cr], .tup [bq sJ, .int .i64 0, .int .i64 3], tf hpM (by decide), _, rfl, ⟨e6.trans k6, e7.trans k7, e8.trans k8, Nat.le_trans k5 e5, fun k hk => (e4 k (by omega) (by omega) (by omega) (by omega)).trans (k4 k hk)⟩, xP GT (.int _ _) (.int _ _)⟩
end Go.Vd
namespace Go.Vd
open Go.Proofs Go.RowKit Go.MapKept
theorem BP.mono {n0 : Nat} {w0 : World} {wb fb mb n N K K' : Nat} {S : Nat → Prop} {w : World} (h : BP n0 w0 wb fb mb n N K S w) (hk : K ≤ K') : BP n0 w0 wb fb mb n N K' S w := { h with mp := h.mp.mono hk }
theorem AW {w : World} {im : Nat → Prop} {c : List Int} {ad : Option Addr} {cc : Nat} (h : RepV w im (cf c) (.slice ad c.length cc)) (i : Nat) (hi : i < c.length) : ∃ b o, ad = some ⟨b, o, none⟩ ∧ c.length ≤ cc ∧ ∀ w', Below w.heap.size w w' → w'.cell? ⟨b, o + i, none⟩ = some (.int .i64 (c.getD i 0)) := by
 obtain ⟨ad2, cc2, h1, h2⟩ := jO h
 cases h1
 obtain ⟨b, o, rfl, h3, _⟩ := h2 i hi
 refine ⟨b, o, rfl, h3, fun w' hb => ?_⟩
 obtain ⟨ad2, cc2, h1, h2⟩ := jO (gT h hb)
 cases h1
 obtain ⟨b', o', h4, _, h5⟩ := h2 i hi
 cases h4
 exact h5
theorem BD {w : World} {im : Nat → Prop} {l : List (List Int)} {ad : Option Addr} {cc : Nat} (h : RepV w im (dS l) (.slice ad l.length cc)) (i : Nat) (hi : i < l.length) : ∃ b o ad2 cc2, ad = some ⟨b, o, none⟩ ∧ l.length ≤ cc ∧ RepV w im (cf (l.getD i [])) (.slice ad2 (l.getD i []).length cc2) ∧ ∀ w', Below w.heap.size w w' → w'.cell? ⟨b, o + i, none⟩ = some (.slice ad2 (l.getD i []).length cc2) := by
 generalize he : dS l = v at h
 generalize hs : (Value.slice ad l.length cc) = u at h
 cases h with
 | sl0 a c =>
   have : l = [] := by simpa using he
   subst this
   simp at hi
 | sl es b o sz c hb hl hcap hsz hc hv =>
   have he' : es = l.map dw := by cases he; rfl
   subst he'
   have hget : (l.map dw)[i]? = some (dw (l.getD i [])) := by
    rw [List.getElem?_map, List.getElem?_eq_getElem hi]; simp [hi]
   have hsz' : sz = 1 := (hsz _ (List.mem_of_getElem? hget)).symm
   subst hsz'
   have h1 := hc i 0 (by simpa using hi) (by omega)
   obtain ⟨u, hu⟩ := Option.isSome_iff_exists.1 h1
   have h2 := hv i 0 _ _ u hget rfl hu
   obtain ⟨ad2, cc2, h3, _⟩ := jO h2
   subst h3
   injection hs with e1 _ e3
   subst e1; subst e3
   refine ⟨b, o, ad2, cc2, rfl, by simpa using hcap, h2, fun w' hw => ?_⟩
   rw [World.cell?_of_block (hw.block b hl)]
   simpa using hu
 | _ => cases he
def kC (l : List (List Int)) (asm : List Int) (m : Nat → Bool) : Prop := (∀ c, c ∈ l → ∃ x, x ∈ c ∧ lt m x = true) ∧ ∀ x, x ∈ asm → lt m x = true
theorem gS {l : List (List Int)} {j : Nat} (h : j < l.length) : l.getD j [] ∈ l := by
 rw [List.getD_eq_getElem?_getD, List.getElem?_eq_getElem h]; exact List.getElem_mem h
theorem vM {l : List (List Int)} {fs : List Int} {cl : Bool} (h : UnitP l fs cl l.length) (hx : ∃ y, y ≠ 0 ∧ [y] ∈ l ∧ [-y] ∈ l) : cl = true := by
 obtain ⟨y, h0, h1, h2⟩ := hx
 obtain ⟨q1, hq1, e1⟩ := List.getElem_of_mem h1
 obtain ⟨q2, hq2, e2⟩ := List.getElem_of_mem h2
 have g1 : l.getD q1 [] = [y] := by rw [List.getD_eq_getElem?_getD, List.getElem?_eq_getElem hq1, e1]; rfl
 have g2 : l.getD q2 [] = [-y] := by rw [List.getD_eq_getElem?_getD, List.getElem?_eq_getElem hq2, e2]; rfl
 rcases h q1 hq1 y g1 with a | a
 ·rcases h q2 hq2 (-y) g2 with b | b
  ·rw [Int.natAbs_neg, a] at b; omega
  ·exact b
 ·exact a
set_option maxHeartbeats 40000000 in
set_option maxRecDepth 1000000 in
theorem wa (w : World) (im : Nat → Prop) (n : Nat) (l : List (List Int)) (asm : List Int) (lv av : Value) (hG : Glob w) (hl : RepV w im (dS l) lv) (ha : RepV w im (cf asm) av) (hn : n ≤ 1000000) (hll : l.length ≤ 1000000) (hcl : ∀ c, c ∈ l → c.length ≤ 1000000 ∧ ∀ x, x ∈ c → x ≠ 0 ∧ x.natAbs ≤ n) (hal : asm.length ≤ 1000000) (hax : ∀ x, x ∈ asm → x ≠ 0 ∧ x.natAbs ≤ n) :
 Calls Tryz.prog 355 #[.int .i64 n, lv, av] w fun e w' => Below w.heap.size w w' ∧ ∃ x t, e = .returned (.tuple #[x, .bool t]) ∧ (x = .slice none 0 0 ∨ ∃ g k c, x = .slice (some ⟨g, 0, none⟩) k c ∧ k ≤ c) ∧ (t = true → ∀ m, ¬ kC l asm m) ∧ ((∃ y, y ≠ 0 ∧ [y] ∈ l ∧ [-y] ∈ l) → t = true) := by
 obtain ⟨ad, cc, rfl⟩ := eF hl
 obtain ⟨ad0, cc0, rfl⟩ := eF ha
 simp only [List.length_map] at hl ha ⊢
 have hcls := BD hl
 have hass := AW ha
 obtain ⟨ti, hti, htz, hts, htb⟩ := i3
 have hmk : (Instr.makeSlice 30 (.int .i64 ((n : Int) + 1)) (.int .i64 ((n : Int) + 1))).run Tryz.prog w = .ok (.slice (some ⟨w.heap.size, 0, none⟩) (n + 1) (n + 1)) (w.alloc (.cells ((List.replicate (n + 1) (0 : Int)).map (Value.int .i64)).toArray 3)) := by
  have := run_make (P := Tryz.prog) w 30 3 ti (.int .i64 0) DD hti htz .i64 .i64 ((n : Int) + 1) ((n : Int) + 1) (by omega) (by omega) (by rw [htb]; omega) (by omega)
  rw [hts, Nat.mul_one, GC, show ((n : Int) + 1).toNat = n + 1 by omega] at this
  exact this
 have hmm := @run_makeMap Tryz.prog
 go_enter Tryz.func355, Tryz.ntmps355
 go_wp2
 have hrow : ((List.replicate (n + 1) (0 : Int)).map (Value.int .i64)).toArray = Array.replicate (n + 1) (Value.int .i64 0) := by simp
 obtain ⟨z1, z2, z3, z4, z5⟩ := Ie w (.cells (Array.replicate (n + 1) (Value.int .i64 0)) 3) (.cells #[.slice (some ⟨w.heap.size, 0, none⟩) (n + 1) (n + 1), .slice none 0 0, .bool false] 503) (.map #[] 0)
 have hB0 : BP w.heap.size w (w.heap.size + 1) w.heap.size (w.heap.size + 1 + 1) n l.length 0 (fun _ => False) (((w.alloc (.cells (Array.replicate (n + 1) (Value.int .i64 0)) 3)).alloc (.cells #[.slice (some ⟨w.heap.size, 0, none⟩) (n + 1) (n + 1), .slice none 0 0, .bool false] 503)).alloc (.map #[] 0)) :=
  ⟨⟨rfl, rfl, rfl, by rw [z5]; omega, fun b hb => z4 b hb⟩, z2, by rw [hrow]; exact z1, ⟨#[], 0, z3, fun e he => by simp at he⟩, fun b hb => hb.elim, id, id, by omega, by omega, by omega, ⟨by omega, by omega, by omega⟩, fun b hb => hb.elim⟩
 clear z1 z2 z3 z4 z5 hrow hmk htz hts htb hti hl ha
 generalize (((w.alloc (.cells (Array.replicate (n + 1) (Value.int .i64 0)) 3)).alloc (.cells #[.slice (some ⟨w.heap.size, 0, none⟩) (n + 1) (n + 1), .slice none 0 0, .bool false] 503)).alloc (.map #[] 0)) = wz at hB0 ⊢
 go_loopw [29] (fun iv wr => ∃ (j : Nat) (S : Nat → Prop), iv = .int .i64 j ∧ j ≤ l.length ∧ BP w.heap.size w (w.heap.size + 1) w.heap.size (w.heap.size + 1 + 1) n l.length (j * 1000000) S wr) (fun iv _ => l.length - (RowKit.intOf iv).toNat)
 case atStart => exact ⟨0, _, rfl, Nat.zero_le _, hB0.mono (Nat.zero_le _)⟩
 case round =>
  clear hB0
  obtain ⟨j, S, rfl, hj, hB⟩ := hrel
  by_cases hlt : j < l.length
  ·obtain ⟨b, o, ad2, cc2, rfl, hcc, hrc, hcell⟩ := hcls j hlt
   have hcj := hcell wr hB.bel
   have hca := AW hrc
   have hclj := hcl _ (gS hlt)
   clear hrc hcell hcl
   generalize l.getD j [] = c at hcj hca hclj
   go_wp2
   go_loopw [36] (fun iv wr2 => ∃ (i : Nat) (S2 : Nat → Prop), iv = .int .i64 i ∧ i ≤ c.length ∧ BP w.heap.size w (w.heap.size + 1) w.heap.size (w.heap.size + 1 + 1) n l.length (j * 1000000 + i) S2 wr2) (fun iv _ => c.length - (RowKit.intOf iv).toNat)
   case atStart => exact ⟨0, S, rfl, Nat.zero_le _, hB.mono (Nat.le_add_right _ _)⟩
   case round =>
    clear hB hcj
    obtain ⟨i, S2, rfl, hi, hB2⟩ := hrel
    by_cases hlt2 : i < c.length
    ·obtain ⟨b2, o2, rfl, hcc2, hcell2⟩ := hca i hlt2
     have hci := hcell2 _ hB2.bel
     have hx := hclj.2 _ (iL hlt2)
     obtain ⟨x, hxe⟩ : ∃ x, x = c.getD i 0 := ⟨_, rfl⟩
     rw [← hxe] at hci hx
     obtain ⟨u, q', w3, w4, S', hlk, happ, hput, hB3⟩ := hB2.step (-x) j hlt (by have := hclj.1; omega)
     have hneg : IntKind.i64.wrap (0 - x) = -x := by rw [IntKind.wrap_i64]; omega
     clear hcell2 hca hxe hcls hass
     go_wp2_with (at_builtin; refine iX rfl rfl (happ _) ?_)
     exact ⟨⟨i + 1, S', by simp, by omega, hB3.mono (by omega)⟩, by simp [RowKit.intOf]; omega⟩
    ·obtain rfl : i = c.length := by omega
     have hB3 := hB2.mono (show j * 1000000 + c.length ≤ (j + 1) * 1000000 by have := hclj.1; omega)
     clear hca hcls hass
     go_wp2
     exact ⟨⟨j + 1, S2, by simp, by omega, hB3⟩, by simp [RowKit.intOf]; omega⟩
  ·obtain rfl : j = l.length := by omega
   have hC0 := CP.of (Sat := kC l asm) hB
   clear hB hmm
   go_wp2
   go_loopw [54] (fun iv wr => ∃ (i : Nat) (SQ : Nat → Prop) (fs : List Int) (qk : Nat) (cl : Bool), iv = .int .i64 i ∧ i ≤ asm.length ∧ CP (kC l asm) w.heap.size w (w.heap.size + 1) w.heap.size (w.heap.size + 1 + 1) n l.length (l.length * 1000000) S SQ wr fs qk cl) (fun iv _ => asm.length - (RowKit.intOf iv).toNat)
   case atStart => exact ⟨0, _, _, _, _, rfl, Nat.zero_le _, hC0⟩
   case round =>
    clear hC0
    obtain ⟨i, SQ, fs, qk, cl, rfl, hi, hC⟩ := hrel
    by_cases hlt2 : i < asm.length
    ·obtain ⟨b2, o2, rfl, hcc2, hcell2⟩ := hass i hlt2
     have hci := hcell2 _ hC.bel
     have hx := hax _ (iL hlt2)
     have hF := oI (kC l asm) (w.heap.size + 1) w.heap.size n SQ _ fs qk cl (asm.getD i 0) hx.1 hx.2 hn (fun m hm => hm.2 _ (iL hlt2)) hC.W
     generalize asm.getD i 0 = x at hci hx hF
     clear hcell2 hass hcls hcl hax
     go_wp2_with (go_at_call 356; refine hF.mono ?_; rintro e w5 ⟨rfl, SQ', fs', qk', cl', W', M1, M2, hfo⟩)
     have hC' := hC.move W' M1
     exact ⟨⟨i + 1, _, _, _, _, by simp, by omega, hC'⟩, by simp [RowKit.intOf]; omega⟩
    ·obtain rfl : i = asm.length := by omega
     clear hass hax
     go_wp2
     have h00 : ∀ c, c ∈ l → ∀ x, x ∈ c → x ≠ 0 := fun c hc x hx => ((hcl c hc).2 x hx).1
     go_loopw [64] (fun iv wr => ∃ (i : Nat) (SQ : Nat → Prop) (fs : List Int) (qk : Nat) (cl : Bool), iv = .int .i64 i ∧ i ≤ l.length ∧ CP (kC l asm) w.heap.size w (w.heap.size + 1) w.heap.size (w.heap.size + 1 + 1) n l.length (l.length * 1000000) S SQ wr fs qk cl ∧ UnitP l fs cl i) (fun iv _ => l.length - (RowKit.intOf iv).toNat)
     case atStart => exact ⟨0, _, _, _, _, rfl, Nat.zero_le _, hC, fun q hq => by omega⟩
     case round =>
      clear hC
      obtain ⟨i, SQ, fs, qk, cl, rfl, hi, hC, hU⟩ := hrel
      by_cases hlt3 : i < l.length
      ·obtain ⟨b2, o2, ad2, cc2, rfl, hcc2, hrc, hcell2⟩ := hcls i hlt3
       have hci := hcell2 _ hC.bel
       have hclj := hcl _ (gS hlt3)
       have hL := nr (kC l asm) (w.heap.size + 1) w.heap.size n SQ _ fs qk cl (l.getD i []) _ (jO (gT hrc hC.bel)) hclj.1 hclj.2 hn (fun m hm => hm.1 _ (gS hlt3)) hC.W
       have hUn : ∀ fs' cl', (∀ q, q < i → ∀ x, l.getD q [] = [x] → fs'.getD x.natAbs 0 = x ∨ cl' = true) → (∀ x, l.getD i [] = [x] → fs'.getD x.natAbs 0 = x ∨ cl' = true) → UnitP l fs' cl' (i + 1) := fun fs' cl' h1 h2 q hq x hx => (Nat.lt_succ_iff_lt_or_eq.1 hq).elim (fun h => h1 q h x hx) (fun e => by subst e; exact h2 x hx)
       clear hcell2 hclj hrc
       generalize l.getD i [] = c at hci hL hUn
       have hgo := hcl
       clear hcl hcls
       go_wp2_with (go_at_call 357; refine hL.mono ?_; rintro e w5 ⟨rfl, SQ', fs', qk', cl', W', M1, M2, hfo⟩)
       have hC' := hC.move W' M1
       have hU' := hUn fs' cl' (hU.mono M2 h00 hi) hfo
       exact ⟨⟨i + 1, _, _, _, _, by simp, by omega, hC', hU'⟩, by simp [RowKit.intOf]; omega⟩
      ·obtain rfl : i = l.length := by omega
       clear hi
       go_wp2
       go_loopw [18] (fun _ wr => ∃ (SQ : Nat → Prop) (fs : List Int) (qk : Nat) (cl : Bool), CP (kC l asm) w.heap.size w (w.heap.size + 1) w.heap.size (w.heap.size + 1 + 1) n l.length (l.length * 1000000) S SQ wr fs qk cl ∧ UnitP l fs cl l.length) (fun _ wr => H8 (w.heap.size + 1) w.heap.size wr)
       case atStart => exact ⟨_, _, _, _, hC, hU⟩
       case round =>
        clear hC hU
        obtain ⟨SQ, fs, qk, cl, hC, hU⟩ := hrel
        obtain ⟨q, hbox, hq⟩ := hC.W.box
        obtain ⟨adq, cq, rfl⟩ := hq.val
        have c0 := aY hbox (i := 0) rfl
        have c1 := aY hbox (i := 1) rfl
        have c2 := aY hbox (i := 2) rfl
        have f1 := bQ hbox (i := 1)
        have hbad := hC.W.bad
        have huc := vM hU
        by_cases hclt : cl = true
        ·subst hclt
         have hb := hbad rfl
         have hbel := hC.bel
         clear hC hU hq hbox hbad huc hcls hcl h00
         go_wp2
         all_goals exact ⟨rfl, _, by simp [results, Tryz.results355, go_sem], hbel, .slice none 0 0, true, rfl, .inl rfl, fun _ => hb, fun _ => rfl⟩
        ·have hclf : cl = false := by simpa using hclt
         subst hclf
         cases qk with
         | zero =>
           have hbel := hC.bel
           have hFi : Fint _ w.heap.size (n + 1) := ⟨fs, hC.W.fl, hC.W.fcd⟩
           have hDel := AZ _ w.heap.size (n + 1) (hG.stays hbel.size fun g hg => hbel.block g (by have := hG.1; omega)) (by omega) hFi
           have hfl := (Array.getElem?_eq_some_iff.1 hC.W.fcd).1
           clear hC hU hq hbox hbad hcls hcl h00 hFi
           go_wp2_with (go_at_call 358; refine hDel.mono ?_; rintro e w5 ⟨⟨k, hk, rfl⟩, hO⟩)
           have hbel2 : Below w.heap.size w w5 := ⟨hO.os.trans hbel.os, hO.tape.trans hbel.tape, hO.output.trans hbel.output, Nat.le_trans hbel.size hO.size, fun b hb => (hO.frame b (by have := hbel.size; omega) (by omega)).trans (hbel.block b hb)⟩
           exact ⟨rfl, _, by simp [results, Tryz.results355, go_sem], hbel2, .slice (some ⟨w.heap.size, 0, none⟩) k (n + 1), false, rfl, .inr ⟨_, _, _, rfl, hk⟩, fun e => (by cases e), fun e => absurd (huc e) (by simp)⟩
         | succ k =>
           clear hbox hq c0 c1 c2 f1 hbad huc
           obtain ⟨b, o, o', c, x, hoo, hbox, hkc, hcx, W1, M1, M2⟩ := hC.W.pop
           have c0 := aY hbox (i := 0) rfl
           have c1 := aY hbox (i := 1) rfl
           have c2 := aY hbox (i := 2) rfl
           have f1 := bQ hbox (i := 1)
           have hmu0 := wo hC.W
           have C1 := hC.move W1 M1
           have U1 := hU.mono M2 h00 (Nat.le_refl _)
           obtain ⟨u, k2, hlk, hk2, hsl⟩ := tJ DO u3 (IC _) C1.mp x
           obtain ⟨ad3, c3, rfl⟩ := hsl.val
           clear hC hU hbox W1 M1 M2
           rcases hoo with ⟨hc1, rfl⟩ | ⟨hc1, rfl⟩
           ·subst hc1
            obtain rfl : k = 0 := by omega
            simp only [Nat.sub_self] at hlk hsl C1
            go_wp2
            go_loopw [103] (fun iv wr2 => ∃ (i : Nat) (SQ2 : Nat → Prop) (fs2 : List Int) (qk2 : Nat) (cl2 : Bool), iv = .int .i64 i ∧ i ≤ k2 ∧ CP (kC l asm) w.heap.size w (w.heap.size + 1) w.heap.size (w.heap.size + 1 + 1) n l.length (l.length * 1000000) S SQ2 wr2 fs2 qk2 cl2 ∧ UnitP l fs2 cl2 l.length ∧ SlIn S wr2 (.slice ad3 k2 c3) k2 ∧ 2 * List.count 0 fs2 + qk2 ≤ 2 * List.count 0 fs + 0) (fun iv _ => k2 - (RowKit.intOf iv).toNat)
            case atStart => exact ⟨0, _, _, _, _, rfl, Nat.zero_le _, C1, U1, hsl, Nat.le_refl _⟩
            case round =>
             clear C1 U1 hsl hlk c0 c1 c2 f1 hcx
             obtain ⟨i, SQ2, fs2, qk2, cl2, rfl, hi, hC, hU, hsl, hmu⟩ := hrel
             by_cases hlt5 : i < k2
             ·obtain ⟨b3, o3, c4, z, heq, hk4, hcz, hz0, hz1⟩ := hsl.get hC.rw hlt5
              cases heq
              obtain ⟨zn, rfl⟩ : ∃ zn : Nat, z = (zn : Int) := ⟨z.toNat, by omega⟩
              have hznl : zn < l.length := by omega
              obtain ⟨b2, o2, ad2, cc2, rfl, hcc2, hrc, hcell2⟩ := hcls zn hznl
              have hci := hcell2 _ hC.bel
              have hclj := hcl _ (gS hznl)
              have hL := nr (kC l asm) (w.heap.size + 1) w.heap.size n SQ2 _ fs2 qk2 cl2 (l.getD zn []) _ (jO (gT hrc hC.bel)) hclj.1 hclj.2 hn (fun m hm => hm.1 _ (gS hznl)) hC.W
              clear hcell2 hclj hrc
              generalize l.getD zn [] = cz at hci hL
              clear hcl hcls hmu0
              go_wp2_with (go_at_call 357; refine hL.mono ?_; rintro e w5 ⟨rfl, SQ', fs', qk', cl', W', M1, M2, hfo⟩)
              have hC' := hC.move W' M1
              have hU' := hU.mono M2 h00 (Nat.le_refl _)
              have hsl' := hsl.frame (w' := w5) fun d hd => M1.frame d (hC.rw d hd).1 (fun e => hC.sw (e ▸ hd)) (fun e => hC.sf (e ▸ hd)) (hC.dj d hd)
              exact ⟨⟨i + 1, _, _, _, _, by simp, by omega, hC', hU', hsl', Nat.le_trans M2.mu hmu⟩, by simp [RowKit.intOf]; omega⟩
             ·have hmu1 := wo hC.W
              clear hcls hcl hsl
              go_wp2
              exact ⟨⟨_, _, _, _, hC, hU⟩, by rw [hmu0, hmu1]; omega⟩
           ·go_wp2
            go_loopw [103] (fun iv wr2 => ∃ (i : Nat) (SQ2 : Nat → Prop) (fs2 : List Int) (qk2 : Nat) (cl2 : Bool), iv = .int .i64 i ∧ i ≤ k2 ∧ CP (kC l asm) w.heap.size w (w.heap.size + 1) w.heap.size (w.heap.size + 1 + 1) n l.length (l.length * 1000000) S SQ2 wr2 fs2 qk2 cl2 ∧ UnitP l fs2 cl2 l.length ∧ SlIn S wr2 (.slice ad3 k2 c3) k2 ∧ 2 * List.count 0 fs2 + qk2 ≤ 2 * List.count 0 fs + k) (fun iv _ => k2 - (RowKit.intOf iv).toNat)
            case atStart => exact ⟨0, _, _, _, _, rfl, Nat.zero_le _, C1, U1, hsl, Nat.le_refl _⟩
            case round =>
             clear C1 U1 hsl hlk c0 c1 c2 f1 hcx
             obtain ⟨i, SQ2, fs2, qk2, cl2, rfl, hi, hC, hU, hsl, hmu⟩ := hrel
             by_cases hlt5 : i < k2
             ·obtain ⟨b3, o3, c4, z, heq, hk4, hcz, hz0, hz1⟩ := hsl.get hC.rw hlt5
              cases heq
              obtain ⟨zn, rfl⟩ : ∃ zn : Nat, z = (zn : Int) := ⟨z.toNat, by omega⟩
              have hznl : zn < l.length := by omega
              obtain ⟨b2, o2, ad2, cc2, rfl, hcc2, hrc, hcell2⟩ := hcls zn hznl
              have hci := hcell2 _ hC.bel
              have hclj := hcl _ (gS hznl)
              have hL := nr (kC l asm) (w.heap.size + 1) w.heap.size n SQ2 _ fs2 qk2 cl2 (l.getD zn []) _ (jO (gT hrc hC.bel)) hclj.1 hclj.2 hn (fun m hm => hm.1 _ (gS hznl)) hC.W
              clear hcell2 hclj hrc
              generalize l.getD zn [] = cz at hci hL
              clear hcl hcls hmu0
              go_wp2_with (go_at_call 357; refine hL.mono ?_; rintro e w5 ⟨rfl, SQ', fs', qk', cl', W', M1, M2, hfo⟩)
              have hC' := hC.move W' M1
              have hU' := hU.mono M2 h00 (Nat.le_refl _)
              have hsl' := hsl.frame (w' := w5) fun d hd => M1.frame d (hC.rw d hd).1 (fun e => hC.sw (e ▸ hd)) (fun e => hC.sf (e ▸ hd)) (hC.dj d hd)
              exact ⟨⟨i + 1, _, _, _, _, by simp, by omega, hC', hU', hsl', Nat.le_trans M2.mu hmu⟩, by simp [RowKit.intOf]; omega⟩
             ·have hmu1 := wo hC.W
              clear hcls hcl hsl
              go_wp2
              exact ⟨⟨_, _, _, _, hC, hU⟩, by rw [hmu0, hmu1]; omega⟩
end Go.Vd
namespace Go.Vd
open Go.Proofs Go.RowKit
def lU (l : List (List Int)) (asm : List Int) (t : Bool) : Prop := (t = true → ∀ m, ¬ kC l asm m) ∧ ((∃ y, y ≠ 0 ∧ [y] ∈ l ∧ [-y] ∈ l) → t = true)
structure uf (n : Nat) (l : List (List Int)) : Prop where
 hn : n ≤ 1000000
 hl : l.length ≤ 1000000
 hc : ∀ c, c ∈ l → c.length ≤ 1000000 ∧ ∀ x, x ∈ c → x ≠ 0 ∧ x.natAbs ≤ n
theorem Be (n : Nat) (l : List (List Int)) (asm : List Int) (hb : uf n l) (hal : asm.length ≤ 1000000) (hax : ∀ x, x ∈ asm → x ≠ 0 ∧ x.natAbs ≤ n) : kw 355 [.int .i64 n, dS l, cf asm] (fun v => ∃ x t, v = .tup [x, .bool t] ∧ lU l asm t) := by
 refine ⟨cJ (fn := Tryz.f355) (by kernel_rfl) rfl (by kernel_rfl), fun w im us hG hp => ?_⟩
 obtain ⟨h1, h2⟩ := hp
 have hs : us.size = 3 := by simpa using h1
 have e0 := (h2 0 _ us[0] rfl (by simp [hs])).int_inv
 have e1 := h2 1 _ us[1] rfl (by simp [hs])
 have e2 := h2 2 _ us[2] rfl (by simp [hs])
 have hu : us = #[.int .i64 n, us[1], us[2]] := by
  refine Array.ext (by simp [hs]) fun i hi hj => ?_
  match i, hj with
  | 0, _ => exact e0
  | 1, _ => rfl
  | 2, _ => rfl
  | i + 3, h => simp at h; omega
 rw [hu]
 refine Calls.mono (wa w im n l asm us[1] us[2] hG e1 e2 hb.hn hb.hl hb.hc hal hax) ?_
 rintro e w' ⟨hbel, x, t, rfl, hx, h3, h4⟩
 have htup : ∀ (v : V), RepV w' (fun b => im b ∨ w.heap.size ≤ b) v x → RepV w' (fun b => im b ∨ w.heap.size ≤ b) (.tup [v, .bool t]) (.tuple #[x, .bool t]) := fun v hv => .tup _ _ rfl fun i v' u hv' hu' => by
  match i, hv', hu' with
  | 0, rfl, rfl => exact hv
  | 1, rfl, rfl => exact .bool _
 rcases hx with rfl | ⟨g, k, c, rfl, hk⟩
 ·exact ⟨_, _, ⟨.sl [], t, rfl, h3, h4⟩, rfl, hbel, htup _ (.sl0 _ _)⟩
 ·exact ⟨_, _, ⟨.hdr g k, t, rfl, h3, h4⟩, rfl, hbel, htup _ (.hdr g k c hk)⟩
end Go.Vd
namespace Go.Vd
open Go.Proofs Go.RowKit
def lx (V l : Int) : Bool := decide (l < 0) || decide (l > 2 * V + 1)
def nS (a : Aig) (j : Nat) : Prop := 0 ≤ (a.l.getD j default).next ∧ (a.l.getD j default).next ≤ 2 * ay a + 1 ∧ ((a.l.getD j default).reset = 0 ∨ (a.l.getD j default).reset = 1 ∨ (a.l.getD j default).reset = 2 * (a.i + 1 + (j : Int)))
def p9 (a : Aig) (j : Nat) : Prop := 0 ≤ (a.g.getD j default).b ∧ (a.g.getD j default).b ≤ (a.g.getD j default).a ∧ (a.g.getD j default).a < 2 * (a.i + (a.l.length : Nat) + 1 + (j : Int))
def yk (a : Aig) (j : Nat) : Prop := (([a.outs, a.bad, a.con].getD j default).length : Int) ≤ 2000 ∧ ([a.outs, a.bad, a.con].getD j default).any (lx (ay a)) = false
def oz (a : Aig) (j : Nat) : Prop := 0 ≤ (a.names.getD j default).pos ∧ (a.names.getD j default).pos < fp a (dZ (a.names.getD j default).kind) ∧ jD (bs (a.names.getD j default).s) = true ∧ (0 < j → na (a.names.getD ((j : Int) - 1).toNat default) (a.names.getD j default) = true)
structure da (a : Aig) : Prop where
 i0 : 0 ≤ a.i
 i1 : a.i ≤ 20000
 l1 : (a.l.length : Int) ≤ 20000
 g1 : (a.g.length : Int) ≤ 20000
 v : ay a ≤ 20000
 l : ∀ j, j < a.l.length → nS a j
 g : ∀ j, j < a.g.length → p9 a j
 r : ∀ j, j < 3 → yk a j
 n : ∀ j, j < a.names.length → oz a j
 nl : (a.names.length : Int) ≤ 2000
theorem fj {a : Aig} (h : da a) : AigS a := by
 have h0 := (h.r 0 (by decide)).1; have h1 := (h.r 1 (by decide)).1; have h2 := (h.r 2 (by decide)).1
 have e0 : ((a.outs.length : Nat) : Int) ≤ 2000 := h0
 have e1 : ((a.bad.length : Nat) : Int) ≤ 2000 := h1
 have e2 : ((a.con.length : Nat) : Int) ≤ 2000 := h2
 have hv : a.i + (a.l.length : Nat) + (a.g.length : Nat) ≤ 20000 := h.v
 exact ⟨h.i0, by omega, by omega, by omega, by omega, fun k hk => h.g k hk⟩
theorem PCallE.toCall {P : Program} {f : FuncId} {ds : List V} {R : V → Prop} {r : V} (h : PCallE P f ds R) (hr : ∀ v, R v → v = r) : PCall P f ds r :=
 ⟨h.1, fun w im us hG hp => Calls.mono (h.2 w im us hG hp) fun _ _ ⟨v, u, h1, h2, h3, h4⟩ => ⟨u, h2, h3, hr v h1 ▸ h4⟩⟩
theorem sF {p : Prop} [Decidable p] {v : V} (h : ∃ t : Bool, v = .bool t ∧ (t = true ↔ p)) : v = .bool (decide p) := by
 obtain ⟨t, rfl, h⟩ := h
 congr 1
 by_cases hp : p
 ·rw [decide_eq_true hp]; exact h.2 hp
 ·rw [decide_eq_false hp]
  cases t with
  | false => rfl
  | true => exact absurd (h.1 rfl) hp
theorem As (a : Aig) (ha : nR a) (l : Int) : dn 164 [.int .i64 l, .ref (eE a)] (.bool (lx (ay a) l)) := by
 refine bC ac (f := 164) (fn := Tryz.f164) (N := 14) (rs := [.tmp 3]) (by kernel_rfl) rfl (by kernel_rfl) rfl rfl [(0, .v (.int .i64 l)), (1, .v (.ref (eE a)))] ⟨rfl, rfl, aj⟩ rfl rfl ?_
 intro B
 have := ha.i0
 have := ha.v
 have hvA : ay a = a.i + (a.l.length : Nat) + (a.g.length : Nat) := rfl
 refine ag<|af J<|ab<|ag<|aa J<|bj J (fun h5 => ?_) (fun h5 => ?_)
 ·refine aa J<|al J<|al J<|al J<|al J<|al J<|al J<|aV J<|af J<|ab<|am ?_
  refine an J J ?_
  unfold lx
  simp_all
  try omega
 ·refine aa J<|aa J<|cZ ac J J aK J J J J J<|ap [] (kn a ha) J J J J J J aj (.inl J) J J J<|dA J J J J (by omega) (by omega) J J ?_
  refine bh J (by omega) (by omega) J ?_
  refine lI J J J J J J<|aJ J<|af J<|ab<|am ?_
  refine an J J ?_
  unfold lx
  simp_all
  try omega
theorem Bl (a : Aig) (hs : ∀ x, x ∈ a.names → x.s.length ≤ 1000000000000) (hnl : a.names.length ≤ 1000000000000) : kw 166 [bq a] (fun v => ∃ t : Bool, v = .bool t ∧ (t = true ↔ (∀ j, j < a.names.length → oz a j) ∧ (a.names.length : Int) ≤ 2000)) := by
 refine dJ ac (f := 166) (fn := Tryz.f166) (N := 51) (rs := [.tmp 2]) (by kernel_rfl) rfl (by kernel_rfl) rfl rfl [(0, .v (bq a))] ⟨rfl, aj⟩ rfl rfl ?_
 intro B
 refine ag<|bE 1 [] J J J ⟨J, aj⟩ J J J<|af J<|ab<|ae<|ag<|ax aK J<|aC dK J<|aI ac J J dK J aB J J<|aa J<|ab<|aw ?_
 refine aZ (α := Nat) (fun j => mk [(1, .ptr 1 0), (6, .v (up a.names)), (7, .v (.int .i64 a.names.length)), (8, .v (.int .i64 j))] [(1, .box [.v (.int .i64 a.i), .v (jL a.l), .v (iH a.g), .v (cf a.outs), .v (cf a.bad), .v (cf a.con), .v (up a.names)])] 0) (fun j => j ≤ a.names.length ∧ ∀ q, q < j → oz a q) (fun j => a.names.length - j) 0 ⟨Nat.zero_le _, fun q h => absurd h (Nat.not_lt_zero q)⟩ (aL ⟨J, J, J, J, aj⟩ ⟨J, aj⟩ J J J J) ?_
 rintro j ⟨hj1, hj2⟩
 refine ag<|bj J (fun h9 => ?_) (fun h9 => ?_)
 ·refine ab<|ae<|ai J<|ao<|ak<|ae<|aw<|ag<|aa J<|cj dK dC J (by omega) (bz (n := j) (by omega)) J ?_
  refine cZ ac J J dC J J J J J<|bl (id := 4) dC J<|af J<|aR dC [] J aj J<|ab<|ae<|aS (L := [([4], []), ([4], []), ([], []), ([], []), ([4], []), ([4], []), ([1], []), ([4], []), ([4], []), ([], []), ([], []), ([], []), ([], []), ([4], []), ([4], []), ([], []), ([], []), ([], []), ([], []), ([], []), ([], []), ([], []), ([1], []), ([1], []), ([], []), ([], []), ([], []), ([], []), ([4], []), ([], []), ([], []), ([], []), ([], [])]) (by kernel_rfl) mixed (by kernel_rfl)<|ax dC J<|aC bm J<|bj J (fun h15 => ?_) (fun h15 => ?_)
  ·refine aa J<|al J<|al J<|al J<|al J<|al J<|al J<|al J<|aV J<|aa J<|al J<|al J<|al J<|al J<|aV J<|aa J ?_
   refine al J<|al J<|al J<|al J<|al J<|al J<|al J<|al J<|al J<|al J<|al J<|al J<|al J<|aV J<|ab ?_
   refine ai J<|ag<|af J<|ab<|am<|az (au (bR (az (au (aD J J ?_)))))
   refine ⟨_, rfl, ⟨fun h => (by cases h), fun hR => ?_⟩⟩; exfalso; have hx := hR.1 j (by omega); unfold oz at hx; obtain ⟨x1, x2, x3, x4⟩ := hx; first | omega | (simp_all; done) | (have := x4 (by omega); simp_all; done)
  ·refine aa J<|ax dC J<|aC bm J<|a7 aK J<|ax dC J<|aC eK J<|ap [] (wt a (a.names.getD j default).kind) J J J J J J aj (.inl J) J J J<|bY J J J J J (fun h23 => ?_) (fun h23 => ?_)
   ·refine aJ J<|aa J<|al J<|al J<|al J<|al J<|aV J<|aa J<|al J<|al J<|al J<|al J<|al J<|al J<|al J<|al J ?_
    refine al J<|al J<|al J<|al J<|al J<|aV J<|ab<|ai J<|ag<|af J<|ab<|am<|az (au (bR (az (au (aD J J ?_)))))
    refine ⟨_, rfl, ⟨fun h => (by cases h), fun hR => ?_⟩⟩; exfalso; have hx := hR.1 j (by omega); unfold oz at hx; obtain ⟨x1, x2, x3, x4⟩ := hx; first | omega | (simp_all; done) | (have := x4 (by omega); simp_all; done)
   ·refine aJ J<|aa J<|ax dC J<|aC fH J<|ap [] (Ab (a.names.getD j default).s (hs _ (cP (by omega)))) J J J J J J aj (.inl J) J J J ?_
    refine bf (fun h28 => ?_) (fun h28 => ?_)
    ·refine bL J<|aJ J<|aa J<|aa J<|bW J J J J J (fun h33 => ?_) (fun h33 => ?_)
     ·refine aa J<|ax aK J<|aC dK J<|aa J<|bX J J J J (by omega) (by omega) J J ?_
      refine cj dK dC J (by omega) (bz (by omega)) J ?_
      refine cZ ac J J dC J J J J J<|a7 dC J<|ap [] (yU (a.names.getD ((j : Int) - 1).toNat default) (a.names.getD j default)) J J J J J J aj (.inl J) J J J<|bf (fun h42 => ?_) (fun h42 => ?_)
      ·refine bL J<|aV J<|aJ J<|ab<|ah J<|ao<|aH<|ak<|aF<|bh J (by omega) (by omega) J ?_
       refine aa J<|ar ?_
       have hok : oz a j := by (unfold oz; refine ⟨by omega, by omega, by simp_all, fun h0 => by simp_all⟩)
       exact aT (j + 1) ⟨by omega, fun q hq => (Nat.lt_succ_iff_lt_or_eq.1 hq).elim (hj2 q) (fun e => e ▸ hok)⟩ (by omega) (aL ⟨J, J, J, J, aj⟩ ⟨J, aj⟩ J J J J)
      ·refine bL J<|aV J<|aJ J<|ab<|ai J<|ag<|af J<|ab<|am<|az (au (bR (az (au (aD J J ?_)))))
       refine ⟨_, rfl, ⟨fun h => (by cases h), fun hR => ?_⟩⟩; exfalso; have hx := hR.1 j (by omega); unfold oz at hx; obtain ⟨x1, x2, x3, x4⟩ := hx; first | omega | (simp_all; done) | (have := x4 (by omega); simp_all; done)
     ·refine aa J<|al J<|al J<|al J<|al J<|al J<|al J<|al J<|al J<|al J<|aJ J<|aJ J<|ab<|ah J<|ao ?_
      refine aH<|ak<|aF<|bh J (by omega) (by omega) J ?_
      refine aa J<|ar ?_
      have hok : oz a j := by (unfold oz; refine ⟨by omega, by omega, by simp_all, fun h0 => by exfalso; omega⟩)
      exact aT (j + 1) ⟨by omega, fun q hq => (Nat.lt_succ_iff_lt_or_eq.1 hq).elim (hj2 q) (fun e => e ▸ hok)⟩ (by omega) (aL ⟨J, J, J, J, aj⟩ ⟨J, aj⟩ J J J J)
    ·refine bL J<|aJ J<|aa J<|al J<|al J<|al J<|al J<|al J<|al J<|al J<|al J<|al J<|al J<|al J<|al J<|al J ?_
     refine aV J<|ab<|ai J<|ag<|af J<|ab<|am<|az (au (bR (az (au (aD J J ?_)))))
     refine ⟨_, rfl, ⟨fun h => (by cases h), fun hR => ?_⟩⟩; exfalso; have hx := hR.1 j (by omega); unfold oz at hx; obtain ⟨x1, x2, x3, x4⟩ := hx; first | omega | (simp_all; done) | (have := x4 (by omega); simp_all; done)
 ·refine ab<|ae<|ah J<|aO<|ba (a8 (aP ?_))
  refine ak<|ag<|ax aK J<|aC dK J<|aI ac J J dK J aB J J<|lN J J J J J J<|af J<|ab<|am ?_
  refine aD J J ?_
  refine ⟨_, rfl, ?_⟩; rw [decide_eq_true_eq]; exact ⟨fun h => ⟨fun q hq => hj2 q (by omega), h⟩, fun h => h.2⟩
theorem Es (a : Aig) (hs : ∀ x, x ∈ a.names → x.s.length ≤ 1000000000000) (hnl : a.names.length ≤ 1000000000000) : kw 91 [bq a] (fun v => ∃ t : Bool, v = .bool t ∧ (t = true ↔ da a)) := by
 refine dJ ac (f := 91) (fn := Tryz.f91) (N := 127) (rs := [.tmp 2]) (by kernel_rfl) rfl (by kernel_rfl) rfl rfl [(0, .v (bq a))] ⟨rfl, aj⟩ rfl rfl ?_
 intro B
 have hvA : ay a = a.i + (a.l.length : Nat) + (a.g.length : Nat) := rfl
 refine ag<|bE 1 [] J J J ⟨J, aj⟩ J J J<|af J<|ab<|ae<|ag<|ax aK J<|aC bm J<|bj J (fun h12 => ?_) (fun h12 => ?_)
 ·refine aa J<|al J<|al J<|al J<|aV J<|aa J<|al J<|al J<|al J<|al J<|aV J<|aa J<|al J<|al J<|al J<|al J ?_
  refine aV J<|aa J<|al J<|al J<|al J<|aV J<|ab<|ai J<|ag<|af J<|ab<|am<|au (aD J J ?_)
  refine ⟨_, rfl, ⟨fun h => (by cases h), fun hR => ?_⟩⟩; exfalso; have z1 := hR.i0; have z2 := hR.i1; have z3 := hR.l1; have z4 := hR.g1; have z5 := hR.v; omega
 ·refine aa J<|ax aK J<|aC bm J<|bW J J J J J (fun h16 => ?_) (fun h16 => ?_)
  ·refine aJ J<|aa J<|al J<|al J<|al J<|al J<|aV J<|aa J<|al J<|al J<|al J<|al J<|aV J<|aa J<|al J<|al J ?_
   refine al J<|aV J<|ab<|ai J<|ag<|af J<|ab<|am<|au (aD J J ?_)
   refine ⟨_, rfl, ⟨fun h => (by cases h), fun hR => ?_⟩⟩; exfalso; have z1 := hR.i0; have z2 := hR.i1; have z3 := hR.l1; have z4 := hR.g1; have z5 := hR.v; omega
  ·refine aJ J<|aa J<|ax aK J<|aC cR J<|aI ac J J cR J aB J J<|bW J J J J J (fun h22 => ?_) (fun h22 => ?_)
   ·refine aJ J<|aa J<|al J<|al J<|al J<|al J<|aV J<|aa J<|al J<|al J<|al J<|aV J<|ab<|ai J<|ae ?_
    refine aF<|af J<|ab<|am<|au (aD J J ?_)
    refine ⟨_, rfl, ⟨fun h => (by cases h), fun hR => ?_⟩⟩; exfalso; have z1 := hR.i0; have z2 := hR.i1; have z3 := hR.l1; have z4 := hR.g1; have z5 := hR.v; omega
   ·refine aJ J<|aa J<|ax aK J<|aC dg J<|aI ac J J dg J aB J J<|bW J J J J J (fun h28 => ?_) (fun h28 => ?_)
    ·refine aJ J<|aa J<|al J<|al J<|al J<|aV J<|ab<|ai J<|ag<|af J<|ab<|am<|au (aD J J ?_)
     refine ⟨_, rfl, ⟨fun h => (by cases h), fun hR => ?_⟩⟩; exfalso; have z1 := hR.i0; have z2 := hR.i1; have z3 := hR.l1; have z4 := hR.g1; have z5 := hR.v; omega
    ·refine aJ J<|aa J<|a7 aK J ?_
     refine ap [] (kn a ⟨by omega, by omega⟩) J J J J J J aj (.inl rfl) J J J ?_
     refine bW J J J J J (fun h33 => ?_) (fun h33 => ?_)
     ·refine aJ J<|ab<|ai J<|ag<|af J<|ab<|am<|au (aD J J ?_)
      refine ⟨_, rfl, ⟨fun h => (by cases h), fun hR => ?_⟩⟩; exfalso; have z1 := hR.i0; have z2 := hR.i1; have z3 := hR.l1; have z4 := hR.g1; have z5 := hR.v; omega
     ·refine aJ J<|ab<|ah J<|ao<|ak<|ae ?_
      have h0 : 0 ≤ a.i := by omega
      have h1 : a.i ≤ 20000 := by omega
      have h2 : (a.l.length : Int) ≤ 20000 := by omega
      have h3 : (a.g.length : Int) ≤ 20000 := by omega
      have h4 : ay a ≤ 20000 := by omega
      have hz : nR a := ⟨by omega, by omega⟩
      refine cg (g9 (id := 1) J J)<|cT [(1, .v (.ref (eE a)))] [] ⟨J, aj⟩ aj J J J J<|aF<|jP J J J J J J<|af J<|ab<|ae<|ag<|bU ac J J aK J J J J<|bu cR J<|aI ac J J cR J aB J J<|aa J<|ab ?_
      refine aw<|aZ (α := Nat) (fun j => mk [(1, .v (.ref (eE a))), (3, .v (.fn (.func 164) [] [.ref (eE a)])), (37, .v (jL a.l)), (38, .v (.int .i64 a.l.length)), (39, .v (.int .i64 j))] [] 0) (fun j => j ≤ a.l.length ∧ ∀ q, q < j → nS a q) (fun j => a.l.length - j) 0 ⟨Nat.zero_le _, fun q h => absurd h (Nat.not_lt_zero q)⟩ (aL ⟨J, J, J, J, J, aj⟩ aj J J J J) ?_
      rintro j ⟨hk1, hk2⟩
      refine ag<|bj J (fun h40 => ?_) (fun h40 => ?_)
      ·refine ab<|ae<|ai J<|ao<|ak<|ae<|aw<|ag<|aa J<|cj cR c7 J (by omega) (bz (n := j) (by omega)) J ?_
       refine cZ ac J J c7 J J J J J<|bl (id := 5) c7 J<|af J<|aR c7 [] J aj J<|ab<|ag<|aa J<|ax c7 J<|aC bm J<|ap [] (As a hz (a.l.getD j default).next) J J J J J J aj (.inl J) J J J<|bf (fun h47 => ?_) (fun h47 => ?_)
       ·refine aa J<|al J<|al J<|al J<|al J<|al J<|al J<|al J<|al J<|al J<|al J<|al J<|al J<|al J<|al J<|al J ?_
        refine al J<|al J<|al J<|al J<|aV J<|ab<|ai J<|ag<|af J<|ab<|am<|az (au (bR (az (au (aD J J ?_)))))
        refine ⟨_, rfl, ⟨fun h => (by cases h), fun hR => ?_⟩⟩; exfalso; have hx := hR.l j (by omega); unfold nS at hx; simp only [lx, Bool.or_eq_true, Bool.or_eq_false_iff, decide_eq_true_eq, decide_eq_false_iff_not] at *; omega
       ·refine aa J<|ax c7 J<|aC bm J<|bt J J J J J (fun h51 => ?_) (fun h51 => ?_)
        ·refine aa J<|ax c7 J<|aC bm J<|bt J J J J J (fun h55 => ?_) (fun h55 => ?_)
         ·refine aV J<|aa J<|ax c7 J<|aC bm J<|bU ac J J aK J J J J<|bu bm J<|bh J (by omega) (by omega) J ?_
          refine aa J<|bh J (by omega) (by omega) J ?_
          refine dA J J J J (by omega) (by omega) J J ?_
          refine bt J J J J J (fun h66 => ?_) (fun h66 => ?_)
          ·refine aV J<|aJ J<|ab<|ai J<|ag<|af J<|ab<|am<|az (au (bR (az (au (aD J J ?_)))))
           refine ⟨_, rfl, ⟨fun h => (by cases h), fun hR => ?_⟩⟩; exfalso; have hx := hR.l j (by omega); unfold nS at hx; simp only [lx, Bool.or_eq_true, Bool.or_eq_false_iff, decide_eq_true_eq, decide_eq_false_iff_not] at *; omega
          ·refine aV J<|aJ J<|ab<|ah J<|ao<|aH<|ak<|aF<|bh J (by omega) (by omega) J ?_
           refine aa J<|ar ?_
           have hok : nS a j := by (unfold nS; simp only [lx, Bool.or_eq_true, Bool.or_eq_false_iff, decide_eq_true_eq, decide_eq_false_iff_not] at *; refine ⟨by omega, by omega, by omega⟩)
           exact aT (j + 1) ⟨by omega, fun q hq => (Nat.lt_succ_iff_lt_or_eq.1 hq).elim (hk2 q) (fun e => e ▸ hok)⟩ (by show a.l.length - (j + 1) < a.l.length - j; omega) (aL ⟨J, J, J, J, J, aj⟩ aj J J J J)
         ·refine aV J<|aa J<|al J<|al J<|al J<|al J<|al J<|al J<|al J<|al J<|al J<|aJ J<|aJ J<|ab<|ah J ?_
          refine ao<|aH<|ak<|aF<|bh J (by omega) (by omega) J ?_
          refine aa J<|ar ?_
          have hok : nS a j := by (unfold nS; simp only [lx, Bool.or_eq_true, Bool.or_eq_false_iff, decide_eq_true_eq, decide_eq_false_iff_not] at *; refine ⟨by omega, by omega, by omega⟩)
          exact aT (j + 1) ⟨by omega, fun q hq => (Nat.lt_succ_iff_lt_or_eq.1 hq).elim (hk2 q) (fun e => e ▸ hok)⟩ (by show a.l.length - (j + 1) < a.l.length - j; omega) (aL ⟨J, J, J, J, J, aj⟩ aj J J J J)
        ·refine aa J<|al J<|al J<|al J<|aJ J<|aa J<|al J<|al J<|al J<|al J<|al J<|al J<|al J<|al J<|al J<|aJ J ?_
         refine aJ J<|ab<|ah J<|ao<|aH<|ak<|aF<|bh J (by omega) (by omega) J ?_
         refine aa J<|ar ?_
         have hok : nS a j := by (unfold nS; simp only [lx, Bool.or_eq_true, Bool.or_eq_false_iff, decide_eq_true_eq, decide_eq_false_iff_not] at *; refine ⟨by omega, by omega, by omega⟩)
         exact aT (j + 1) ⟨by omega, fun q hq => (Nat.lt_succ_iff_lt_or_eq.1 hq).elim (hk2 q) (fun e => e ▸ hok)⟩ (by show a.l.length - (j + 1) < a.l.length - j; omega) (aL ⟨J, J, J, J, J, aj⟩ aj J J J J)
      ·refine ab<|ae<|ah J<|aO<|ba (a8 (aP ?_))
       refine ak<|ae<|ag<|bU ac J J aK J J J J<|bu dg J<|aI ac J J dg J aB J J<|aa J<|ab<|aw<|aZ (α := Nat) (fun j2 => mk [(1, .v (.ref (eE a))), (3, .v (.fn (.func 164) [] [.ref (eE a)])), (71, .v (iH a.g)), (72, .v (.int .i64 a.g.length)), (73, .v (.int .i64 j2))] [] 0) (fun j2 => j2 ≤ a.g.length ∧ ∀ q, q < j2 → p9 a q) (fun j2 => a.g.length - j2) 0 ⟨Nat.zero_le _, fun q h => absurd h (Nat.not_lt_zero q)⟩ (aL ⟨J, J, J, J, J, aj⟩ aj J J J J) ?_
       rintro j2 ⟨hg1, hg2⟩
       refine ag<|bj J (fun h74 => ?_) (fun h74 => ?_)
       ·refine ab<|ae<|ai J<|ao<|ak<|ae<|aw<|ag<|aa J<|cj dg dY J (by omega) (bz (n := j2) (by omega)) J ?_
        refine cZ ac J J dY J J J J J<|bl (id := 7) dY J<|af J<|aR dY [] J aj J<|ab<|ag<|ax dY J<|aC bm J<|bj J (fun h80 => ?_) (fun h80 => ?_)
        ·refine aa J<|al J<|al J<|al J<|al J<|al J<|aV J<|aa J<|al J<|al J<|al J<|al J<|al J<|al J<|al J<|al J ?_
         refine al J<|al J<|al J<|al J<|al J<|aV J<|ab<|ai J<|ag<|af J<|ab<|am<|az (au (bR (az (au (aD J J ?_)))))
         refine ⟨_, rfl, ⟨fun h => (by cases h), fun hR => ?_⟩⟩; exfalso; have hx := hR.g j2 (by omega); unfold p9 at hx; omega
        ·refine aa J<|ax dY J<|aC bm J<|ax dY J<|aC bm J<|bW J J J J J (fun h86 => ?_) (fun h86 => ?_)
         ·refine aJ J<|aa J<|al J<|al J<|al J<|al J<|al J<|al J<|al J<|al J<|al J<|al J<|al J<|al J<|al J<|aV J ?_
          refine ab<|ai J<|ag<|af J<|ab<|am<|az (au (bR (az (au (aD J J ?_)))))
          refine ⟨_, rfl, ⟨fun h => (by cases h), fun hR => ?_⟩⟩; exfalso; have hx := hR.g j2 (by omega); unfold p9 at hx; omega
         ·refine aJ J<|aa J<|ax dY J<|aC bm J<|bU ac J J aK J J J J<|bu bm J<|bU ac J J aK J J J J<|bu cR J<|aI ac J J cR J aB J J<|bh J (by omega) (by omega) J ?_
          refine bh J (by omega) (by omega) J ?_
          refine aa J<|bh J (by omega) (by omega) J ?_
          refine dA J J J J (by omega) (by omega) J J ?_
          refine bY J J J J J (fun h101 => ?_) (fun h101 => ?_)
          ·refine aJ J<|ab<|ai J<|ag<|af J<|ab<|am<|az (au (bR (az (au (aD J J ?_)))))
           refine ⟨_, rfl, ⟨fun h => (by cases h), fun hR => ?_⟩⟩; exfalso; have hx := hR.g j2 (by omega); unfold p9 at hx; omega
          ·refine aJ J<|ab<|ah J<|ao<|aH<|ak<|aF<|bh J (by omega) (by omega) J ?_
           refine aa J<|ar ?_
           have hok : p9 a j2 := by (unfold p9; refine ⟨by omega, by omega, by omega⟩)
           exact aT (j2 + 1) ⟨by omega, fun q hq => (Nat.lt_succ_iff_lt_or_eq.1 hq).elim (hg2 q) (fun e => e ▸ hok)⟩ (by show a.g.length - (j2 + 1) < a.g.length - j2; omega) (aL ⟨J, J, J, J, J, aj⟩ aj J J J J)
       ·refine ab<|ae<|ah J<|aO<|ba (a8 (aP ?_))
        refine ak<|ae<|ag<|bU ac J J aK J J J J<|bu br J<|bU ac J J aK J J J J<|bu br J<|bU ac J J aK J J J J<|bu br J<|bZ (es := [a.outs, a.bad, a.con].map dw) eC br [] J aj J<|aI ac J J eC J J J J<|aa J<|ab<|aw ?_
        refine aZ (α := Nat) (fun j3 => mk [(1, .v (.ref (eE a))), (3, .v (.fn (.func 164) [] [.ref (eE a)])), (110, .v (.sl ([a.outs, a.bad, a.con].map dw))), (111, .v (.int .i64 3)), (112, .v (.int .i64 j3))] [] 0) (fun j3 => j3 ≤ 3 ∧ ∀ q, q < j3 → yk a q) (fun j3 => 3 - j3) 0 ⟨Nat.zero_le _, fun q h => absurd h (Nat.not_lt_zero q)⟩ (aL ⟨J, J, J, J, J, aj⟩ aj J J J J) ?_
        rintro j3 ⟨hr1, hr2⟩
        refine ag<|bj J (fun h113 => ?_) (fun h113 => ?_)
        ·refine ab<|ae<|ai J<|ao<|ak<|ae<|aw<|ag ?_
         refine fZ ac J J J eC J br (by omega) (bz (n := j3) (by show j3 < 3; omega)) J J J ?_
         refine bu br J<|af J<|ab<|ag<|aa J<|aI ac J J br J aB J J<|bW J J J J J (fun h118 => ?_) (fun h118 => ?_)
         ·refine aa J<|al J<|al J<|al J<|aV J<|ab<|ai J<|ag<|af J<|ab<|am<|az (au (bR (az (au (aD J J ?_)))))
          refine ⟨_, rfl, ⟨fun h => (by cases h), fun hR => ?_⟩⟩; exfalso; have hx := hR.r j3 (by omega); unfold yk at hx; first | omega | (rw [hx.2] at h122; cases h122)
         ·refine aa J<|aa J<|aa J<|ap [] (zS ([a.outs, a.bad, a.con].getD j3 default) 164 [] [.ref (eE a)] (lx (ay a)) (by omega) (fun x _ => As a hz x)) J J J J J J aj (.inl J) J J J ?_
          refine bf (fun h122 => ?_) (fun h122 => ?_)
          ·refine aJ J<|ab<|ai J<|ag<|af J<|ab<|am<|az (au (bR (az (au (aD J J ?_)))))
           refine ⟨_, rfl, ⟨fun h => (by cases h), fun hR => ?_⟩⟩; exfalso; have hx := hR.r j3 (by omega); unfold yk at hx; first | omega | (rw [hx.2] at h122; cases h122)
          ·refine aJ J<|ab<|ah J<|ao<|aH<|ak<|aF<|bh J (by omega) (by omega) J ?_
           refine aa J<|ar ?_
           have hok : yk a j3 := by (unfold yk; refine ⟨by omega, by simp_all⟩)
           exact aT (j3 + 1) ⟨by omega, fun q hq => (Nat.lt_succ_iff_lt_or_eq.1 hq).elim (hr2 q) (fun e => e ▸ hok)⟩ (by show 3 - (j3 + 1) < 3 - j3; omega) (aL ⟨J, J, J, J, J, aj⟩ aj J J J J)
        ·refine ab<|ae<|ah J<|aO<|ba (a8 (aP ?_))
         refine ak<|ag<|cZ ac J J aK J J J J J<|dm [] (Bl a hs hnl) J J J J J J aj (.inl J) J J J ?_
         rintro _ ⟨b, rfl, hb⟩
         refine af J<|ab<|am ?_
         refine aD J J ?_
         refine ⟨_, rfl, hb.trans ⟨fun h => ⟨h0, h1, h2, h3, h4, fun q hq => hk2 q (by omega), fun q hq => hg2 q (by omega), fun q hq => hr2 q (by omega), h.1, h.2⟩, fun h => ⟨h.n, h.nl⟩⟩⟩
open Classical in
theorem De (a : Aig) (hs : ∀ x, x ∈ a.names → x.s.length ≤ 1000000000000) (hnl : a.names.length ≤ 1000000000000) : dn 91 [bq a] (.bool (decide (da a))) := (Es a hs hnl).toCall fun _ h => sF h
end Go.Vd
namespace Go.Vd
open Go.Proofs Go.RowKit
def dE (l : Int) : Int := if l % 2 = 0 then l + 1 else l - 1
theorem Ij (n : Nat) : (n ^^^ 1) / 2 = n / 2 ∧ ((n ^^^ 1) % 2 = 1 ↔ ¬ n % 2 = 1) := by
 refine ⟨by rw [Nat.xor_div_two]; simp, ?_⟩
 have h := Nat.testBit_xor n 1 0
 simp only [Nat.testBit_zero] at h
 by_cases h1 : n % 2 = 1 <;> simp [h1] at h ⊢ <;> omega
theorem iO {l : Int} (h0 : 0 ≤ l) (h : l ≤ 1000000000) : bits .xor .i64 l 1 = dE l := by
 have hx : (BitVec.ofInt 64 l).toNat = l.toNat := by
  rw [BitVec.toNat_ofInt]; omega
 show IntKind.i64.wrap ((BitVec.ofInt 64 l ^^^ BitVec.ofInt 64 1).toNat : Int) = _
 rw [BitVec.toNat_xor, hx, show (BitVec.ofInt 64 1).toNat = 1 from rfl]
 obtain ⟨h1, h2⟩ := Ij l.toNat
 rw [IntKind.wrap_i64]
 unfold dE
 split <;> omega
theorem fS {l : Int} (h0 : 0 ≤ l) : 0 ≤ dE l ∧ dE l ≤ l + 1 := by unfold dE; split <;> omega
theorem Ix {x : Int} (h0 : 0 ≤ x) : x.tmod 2 = x % 2 := by rw [Int.tmod_eq_emod_of_nonneg h0]
def gg (V k l : Int) : Int := if l % 2 = 1 then -(k * (V + 1) + l / 2 + 1) else k * (V + 1) + l / 2 + 1
abbrev pN (V k : Int) (ls : List Int) : List Int := ls.map (gg V k)
abbrev i6 (a : Aig) (j : Nat) : Int := 2 * (a.i + (a.l.length : Nat) + 1 + (j : Int))
def wP (a : Aig) (k : Int) (j : Nat) : List (List Int) :=
 [pN (ay a) k [dE (i6 a j), (a.g.getD j default).a], pN (ay a) k [dE (i6 a j), (a.g.getD j default).b], pN (ay a) k [i6 a j, dE (a.g.getD j default).a, dE (a.g.getD j default).b]]
def lR (a : Aig) (k : Int) : Nat → List (List Int)
 | 0 => [pN (ay a) k [1]]
 | j + 1 => lR a k j ++ wP a k j
def jq (a : Aig) : Nat → List (List Int)
 | 0 => []
 | j + 1 => if (a.l.getD j default).reset < 2 then jq a j ++ [pN (ay a) 0 [2 * (a.i + 1 + (j : Int)) + 1 - (a.l.getD j default).reset]] else jq a j
def pG (a : Aig) : Nat → List (List Int)
 | 0 => []
 | j + 1 => pG a j ++ [[-(gg (ay a) 1 (2 * (a.i + 1 + (j : Int)))), gg (ay a) 0 (a.l.getD j default).next], [gg (ay a) 1 (2 * (a.i + 1 + (j : Int))), -(gg (ay a) 0 (a.l.getD j default).next)]]
def fe (a : Aig) (ls : List Int) : List (List Int) := ls.map fun l => pN (ay a) 0 [l]
abbrev dL (a : Aig) (k : Int) := lR a k a.g.length
abbrev jt (a : Aig) := jq a a.l.length
abbrev lH (a : Aig) := pG a a.l.length
def oe (a : Aig) (inv : Int) : xy := ⟨1 * (ay a + 1), [dL a 0, jt a, [pN (ay a) 0 [dE inv]]].flatten⟩
def ra (a : Aig) (inv : Int) : xy := ⟨2 * (ay a + 1), [dL a 0, dL a 1, lH a, fe a (a.con ++ [inv]), [pN (ay a) 1 [dE inv]]].flatten⟩
def xj (a : Aig) (inv bad : Int) : xy := ⟨1 * (ay a + 1), [dL a 0, fe a (a.con ++ [inv, bad])].flatten⟩
theorem eu (a : Aig) (k : Int) : ∀ j, (lR a k j).length = 1 + 3 * j
 | 0 => rfl
 | j + 1 => by simp only [lR, wP, List.length_append, List.length_cons, List.length_nil, eu a k j]; omega
theorem gR (a : Aig) : ∀ j, (jq a j).length ≤ j
 | 0 => Nat.le_refl _
 | j + 1 => by
   have := gR a j
   unfold jq
   split
   ·simp only [List.length_append, List.length_cons, List.length_nil]; omega
   ·omega
theorem iG (a : Aig) : ∀ j, (pG a j).length = 2 * j
 | 0 => rfl
 | j + 1 => by simp only [pG, List.length_append, List.length_cons, List.length_nil, iG a j]; omega
theorem zM {f : Int → Int} {ls : List Int} {j : Nat} (hj : j < ls.length) : ((ls.take j).map f ++ List.replicate (ls.length - j) 0).set j (f (ls.getD j default)) = (ls.take (j + 1)).map f ++ List.replicate (ls.length - (j + 1)) 0 := by
 have h1 : ((ls.take j).map f).length = j := by simp; omega
 rw [List.set_append_right _ _ (by omega), h1, Nat.sub_self, show ls.length - j = (ls.length - (j + 1)) + 1 by omega, List.replicate_succ, List.set_cons_zero, List.take_succ_eq_append_getElem hj, List.map_append, List.getD_eq_getElem?_getD, List.getElem?_eq_getElem hj, List.append_assoc]
 rfl
theorem Av {k V : Int} (h0 : 0 ≤ k) (h1 : k ≤ 1) (hV : 0 ≤ V) : 0 ≤ k * (V + 1) ∧ k * (V + 1) ≤ V + 1 := by
 have : k = 0 ∨ k = 1 := by omega
 rcases this with rfl | rfl <;> omega
theorem vn (a : Aig) (ha : nR a) (k l : Int) (h0 : 0 ≤ k) (h1 : k ≤ 1) (l0 : 0 ≤ l) (l1 : l ≤ 100000000) : dn 274 [bq a, .int .i64 k, .int .i64 l] (.int .i64 (gg (ay a) k l)) := by
 refine bC ac (f := 274) (fn := Tryz.f274) (N := 21) (rs := [.tmp 6]) (by kernel_rfl) rfl (by kernel_rfl) rfl rfl [(0, .v (bq a)), (1, .v (.int .i64 k)), (2, .v (.int .i64 l))] ⟨rfl, rfl, rfl, aj⟩ rfl rfl ?_
 intro B
 have hi0 := ha.i0
 have hv0 := ha.v
 have hvA : ay a = a.i + (a.l.length : Nat) + (a.g.length : Nat) := rfl
 have hmb := Av h0 h1 (V := ay a) (by omega)
 refine ag<|bE 3 [] J J J ⟨J, aj⟩ J J J<|af J<|ab<|ag<|a7 aK J<|aa J<|ap [] (lQ a ha k h0 (by omega)) J J J J J J aj (.inl J) J J J ?_
 refine aa J<|l8 J J J (by decide) (ya l0 (by omega)) J J ?_
 refine bh J (by omega) (by omega) J ?_
 refine bh J (by omega) (by omega) J ?_
 refine af J<|ab<|ae<|ag<|aa J<|yO J J J (by decide) (Ix l0) J J ?_
 refine bc J J J J J (fun h17 => ?_) (fun h17 => ?_)
 ·refine ab<|ai J<|ag<|aa J<|kA (z := -(k * (ay a + 1) + l / 2 + 1)) J J (by omega) (by omega) (by omega) J J ?_
  refine af J<|ab<|am<|au (an J J ?_)
  unfold gg
  split
  ·first | rfl | (exfalso; omega)
  ·first | rfl | (exfalso; omega)
 ·refine ab<|ah J<|ao<|ak<|ag<|aa J<|af J<|ab<|am ?_
  refine an J J ?_
  unfold gg
  split
  ·first | rfl | (exfalso; omega)
  ·first | rfl | (exfalso; omega)
theorem EB (a : Aig) (ha : nR a) (k : Int) (ls : List Int) (h0 : 0 ≤ k) (h1 : k ≤ 1) (hn : ls.length ≤ 1000000) (hx : ∀ x, x ∈ ls → 0 ≤ x ∧ x ≤ 100000000) : PRow Tryz.prog 207 [bq a, .int .i64 k, cf ls] 3 1 ((pN (ay a) k ls).map d7) := by
 refine mJ ac (f := 207) (fn := Tryz.f207) (N := 29) (t := 6) (by kernel_rfl) rfl (by kernel_rfl) rfl rfl [(0, .v (bq a)), (1, .v (.int .i64 k)), (2, .v (cf ls))] ⟨rfl, rfl, rfl, aj⟩ rfl rfl ?_
 intro B
 refine ag<|bE 3 [] J J J ⟨J, aj⟩ J J J<|af J<|ab<|ag<|aa J<|aI ac J J br J aB J J ?_
 refine md 12 (el0 := [.int .i64 0]) ac J br J bm J J J J J ⟨by omega, by omega, by omega, by simp; omega⟩ J J J J J ?_
 refine af J<|ab<|ae<|ag<|aa J<|aI ac J J br J aB J J<|aa J<|ab<|aw<|aZ (α := Nat) (fun j => mk [(1, .v (.int .i64 k)), (3, .ptr 3 0), (7, .own 12), (13, .v (cf ls)), (14, .v (.int .i64 ls.length)), (15, .v (.int .i64 j))] [(3, .box [.v (.int .i64 a.i), .v (jL a.l), .v (iH a.g), .v (cf a.outs), .v (cf a.bad), .v (cf a.con), .v (up a.names)]), (12, .row 3 1 (((ls.take j).map (gg (ay a) k) ++ List.replicate (ls.length - j) 0).map d7))] 0) (fun j => j ≤ ls.length) (fun j => ls.length - j) 0 (Nat.zero_le _) (aL ⟨J, J, J, J, J, J, aj⟩ ⟨J, (dV J (by simp)), aj⟩ J J J J) ?_
 intro j hj
 have hl : ((ls.take j).map (gg (ay a) k) ++ List.replicate (ls.length - j) 0).length = ls.length := by (rw [List.length_append, List.length_map, List.length_take, List.length_replicate]; omega)
 refine ag<|bj J (fun h16 => ?_) (fun h16 => ?_)
 ·refine ab<|ae<|ai J<|ao<|ak<|ae<|aw<|ag<|aa J<|cj br bm J (by omega) (bz (n := j) (by omega)) J ?_
  refine bu bm J<|af J<|af J<|ab<|aF<|aa J<|aa J<|a7 aK J<|aa J<|aa J<|ap [] (vn a ha k (ls.getD j default) h0 h1 (hx _ (cP (by omega))).1 (hx _ (cP (by omega))).2) J J J J J J aj (.inl J) J J J ?_
  refine dG ac J J J J br J bm J (by omega) (by rw [List.length_map, hl]; omega) J J J J ?_
  refine jg ac J bm J J J J J (by rw [List.length_map, hl]; omega) jl J J J ?_
  refine ar<|aH<|ak<|aF<|bh J (by omega) (by omega) J ?_
  refine aa J<|ar ?_
  exact aT (j + 1) (by show j + 1 ≤ _; omega) (by show ls.length - (j + 1) < ls.length - j; omega) (aL ⟨rfl, rfl, rfl, rfl, rfl, rfl, aj⟩ ⟨rfl, (dV rfl (congrArg (List.map d7) (zM (by omega)))), aj⟩ rfl rfl rfl rfl)
 ·refine ab<|ae<|ah J<|aO<|ba (a8 (aP ?_))
  refine ak<|ag<|aa J<|af J<|ab<|am ?_
  refine ⟨.inl ⟨12, rfl, ?_⟩, rfl⟩
  exact congrArg (fun r => Blk.row 3 1 (List.map d7 r)) (by rw [show ls.length - j = 0 by omega, List.take_of_length_le (show ls.length ≤ j by omega)]; simp)
theorem kN (a : Aig) (ha : nR a) (k : Int) (ls : List Int) (h0 : 0 ≤ k) (h1 : k ≤ 1) (hn : ls.length ≤ 1000000) (hx : ∀ x, x ∈ ls → 0 ≤ x ∧ x ≤ 100000000) : dn 207 [bq a, .int .i64 k, cf ls] (cf (pN (ay a) k ls)) := (EB a ha k ls h0 h1 hn hx).toCall
theorem EV {p : Int → Prop} {x : Int} (h : p x) : ∀ y, y ∈ [x] → p y := fun y hy => by rw [List.mem_singleton] at hy; rw [hy]; exact h
theorem H4 {p : Int → Prop} {x y : Int} (h : p x) (h' : p y) : ∀ z, z ∈ [x, y] → p z := fun z hz => by
 rcases List.mem_cons.1 hz with rfl | hz
 ·exact h
 ·exact EV h' z hz
theorem IW {p : Int → Prop} {x y u : Int} (h : p x) (h' : p y) (h'' : p u) : ∀ z, z ∈ [x, y, u] → p z := fun z hz => by
 rcases List.mem_cons.1 hz with rfl | hz
 ·exact h
 ·exact H4 h' h'' z hz
theorem Et (a : Aig) (hr : da a) (k : Int) (h0 : 0 ≤ k) (h1 : k ≤ 1) : PRow Tryz.prog 205 [bq a, .int .i64 k] 30 1 ((dL a k).map dw) := by
 refine mJ ac (f := 205) (fn := Tryz.f205) (N := 71) (t := 4) (by kernel_rfl) rfl (by kernel_rfl) rfl rfl [(0, .v (bq a)), (1, .v (.int .i64 k))] ⟨rfl, rfl, aj⟩ rfl rfl ?_
 intro B
 have ha := (fj hr).z
 have hi0 := ha.i0
 have hv0 := ha.v
 have hvA : ay a = a.i + (a.l.length : Nat) + (a.g.length : Nat) := rfl
 have hvr := hr.v
 refine ag<|bE 2 [] J J J ⟨J, aj⟩ J J J<|af J<|ab<|ag<|a7 aK J<|aa J<|bZ (es := [1].map d7) br bm [] J aj J ?_
 refine ap [] (kN a ha k [1] h0 h1 (by decide) (EV ⟨by decide, by decide⟩)) J J J J J J aj (.inl rfl) J J J ?_
 refine fV 14 [] ac J eC J br J J ⟨J, aj⟩ J J J J J J J J J<|af J<|ab<|ae<|ag<|ax aK J<|aC dg J<|aI ac J J dg J aB J J<|aa J<|ab<|aw<|aZ (α := Nat) (fun j => mk [(1, .v (.int .i64 k)), (2, .ptr 2 0), (5, .own 505), (17, .v (.int .i64 a.g.length)), (18, .v (.int .i64 j))] [(2, .box [.v (.int .i64 a.i), .v (jL a.l), .v (iH a.g), .v (cf a.outs), .v (cf a.bad), .v (cf a.con), .v (up a.names)]), (505, .row 30 1 ((lR a k j).map dw))] 0) (fun j => j ≤ a.g.length) (fun j => a.g.length - j) 0 (Nat.zero_le _) (cd [(505, 14)] ⟨J, J, J, J, J, aj⟩ ⟨J, J, aj⟩ J J J J J) ?_
 intro j hj
 have hfl := eu a k j
 refine ag<|bj J (fun h19 => ?_) (fun h19 => ?_)
 ·refine ab<|ae<|ai J<|ao<|ak<|ae<|aw<|ag<|aa J<|af J<|ab<|ae<|aS (L := [([2], []), ([2], []), ([2], []), ([2], []), ([], []), ([], []), ([], []), ([], []), ([], []), ([], []), ([2], []), ([2], []), ([], []), ([], []), ([], []), ([], []), ([2], []), ([2], []), ([], []), ([], []), ([], []), ([], []), ([], []), ([], []), ([], [])]) (by kernel_rfl) mixed (by kernel_rfl) ?_
  refine ax aK J<|aC bm J<|ax aK J<|aC cR J<|aI ac J J cR J aB J J<|bh J (by omega) (by omega) J ?_
  refine bh J (by omega) (by omega) J ?_
  refine aa J<|bh J (by omega) (by omega) J ?_
  refine dA J J J J (by omega) (by omega) J J ?_
  refine ax aK J<|aC dg J<|aa J<|cj dg dY J (by omega) (bz (n := j) (by omega)) J ?_
  refine bU ac J J dY J J J J<|bu bm J<|ax aK J<|aC dg J<|aa J<|cj dg dY J (by omega) (bz (n := j) (by omega)) J ?_
  refine bU ac J J dY J J J J<|bu bm J<|af J<|af J<|af J<|ab ?_
  have hgg := hr.g j (by omega)
  unfold p9 at hgg
  have hgo : i6 a j = 2 * (a.i + (a.l.length : Nat) + 1 + (j : Int)) := rfl
  have n1 := fS (l := i6 a j) (by omega)
  have n2 := fS (l := (a.g.getD j default).a) (by omega)
  have n3 := fS (l := (a.g.getD j default).b) (by omega)
  refine aS (L := [([], []), ([2], []), ([], []), ([], []), ([], []), ([], []), ([], []), ([], []), ([2], []), ([], []), ([], []), ([], []), ([], []), ([], []), ([], []), ([2], []), ([], []), ([], []), ([], []), ([], []), ([], []), ([], []), ([], []), ([], []), ([], []), ([68, 505], [68, 505]), ([], [])]) (by kernel_rfl) mixed (by kernel_rfl)<|aa J<|a7 aK J<|aa J<|aa J<|nC J J J (iO (by omega) (by omega)) J J ?_
  refine aa J<|bZ (es := [dE (i6 a j), (a.g.getD j default).a].map d7) br bm [] J aj J ?_
  refine ap [] (kN a ha k [dE (i6 a j), (a.g.getD j default).a] h0 h1 (by simp) (H4 ⟨by omega, by omega⟩ ⟨by omega, by omega⟩)) J J J J J J aj (.inl rfl) J J J ?_
  refine a7 aK J<|aa J<|aa J<|nC J J J (iO (by omega) (by omega)) J J ?_
  refine aa J<|bZ (es := [dE (i6 a j), (a.g.getD j default).b].map d7) br bm [] J aj J ?_
  refine ap [] (kN a ha k [dE (i6 a j), (a.g.getD j default).b] h0 h1 (by simp) (H4 ⟨by omega, by omega⟩ ⟨by omega, by omega⟩)) J J J J J J aj (.inl rfl) J J J ?_
  refine a7 aK J<|aa J<|aa J<|aa J<|nC J J J (iO (by omega) (by omega)) J J ?_
  refine aa J<|nC J J J (iO (by omega) (by omega)) J J ?_
  refine bZ (es := [i6 a j, dE (a.g.getD j default).a, dE (a.g.getD j default).b].map d7) br bm [] J aj J ?_
  refine ap [] (kN a ha k [i6 a j, dE (a.g.getD j default).a, dE (a.g.getD j default).b] h0 h1 (by simp) (IW ⟨by omega, by omega⟩ ⟨by omega, by omega⟩ ⟨by omega, by omega⟩)) J J J J J J aj (.inl rfl) J J J ?_
  refine bZ (es := (wP a k j).map dw) eC br [] J aj J ?_
  refine cw 68 [] ac J eC J eC J br J J J J ⟨J, J, aj⟩ J (elOk.cons rfl rfl (elOk.cons rfl rfl (elOk.cons rfl rfl elOk.nil))) ke ⟨by rw [List.length_map, List.length_append, hfl]; show (1 + 3 * j + 3) * 24 ≤ _; omega, by rw [List.length_map, List.length_append, hfl]; show 1 + 3 * j + 3 ≤ _; omega⟩ J J J ?_
  refine af J<|ar<|aH<|ak<|aF<|bh J (by omega) (by omega) J ?_
  refine aa J<|ar ?_
  exact aT (j + 1) (by show j + 1 ≤ _; omega) (by show a.g.length - (j + 1) < a.g.length - j; omega) (cd [(505, 68)] ⟨J, J, J, J, J, aj⟩ ⟨J, J, aj⟩ J J J J J)
 ·refine ab<|ae<|ah J<|aO<|ba (a8 (aP ?_))
  refine ak<|ag<|aa J<|af J<|ab<|am ?_
  refine ⟨.inl ⟨505, rfl, ?_⟩, rfl⟩
  rw [show j = a.g.length by omega]
  rfl
theorem EP (a : Aig) (hr : da a) : PRow Tryz.prog 206 [bq a] 30 1 ((jt a).map dw) := by
 refine mJ ac (f := 206) (fn := Tryz.f206) (N := 35) (t := 2) (by kernel_rfl) rfl (by kernel_rfl) rfl rfl [(0, .v (bq a))] ⟨rfl, aj⟩ rfl rfl ?_
 intro B
 have ha := (fj hr).z
 have hi0 := ha.i0
 have hv0 := ha.v
 have hvA : ay a = a.i + (a.l.length : Nat) + (a.g.length : Nat) := rfl
 have hvr := hr.v
 refine ag<|bE 1 [] J J J ⟨J, aj⟩ J J J<|af J<|ab<|ag<|af J<|ab<|ae<|ag<|ax aK J<|aC cR J ?_
 refine aI ac J J cR J aB J J<|aa J<|ab<|aw<|cg (gJ (t := 3) (id := 503) (e := 30) (sz := 1) J J (by decide)) ?_
 refine aZ (α := Nat) (fun j => mk [(1, .ptr 1 0), (3, .own 503), (7, .v (jL a.l)), (8, .v (.int .i64 a.l.length)), (9, .v (.int .i64 j))] [(1, .box [.v (.int .i64 a.i), .v (jL a.l), .v (iH a.g), .v (cf a.outs), .v (cf a.bad), .v (cf a.con), .v (up a.names)]), (503, .row 30 1 ((jq a j).map dw))] 0) (fun j => j ≤ a.l.length) (fun j => a.l.length - j) 0 (Nat.zero_le _) (aL ⟨J, J, J, J, J, aj⟩ ⟨J, J, aj⟩ J J J J) ?_
 intro j hj
 have hfl := gR a j
 refine ag<|bj J (fun h10 => ?_) (fun h10 => ?_)
 ·refine ab<|ae<|ai J<|ao<|ak<|ae<|aw<|ag<|aa J<|cj cR c7 J (by omega) (bz (n := j) (by omega)) J ?_
  refine cZ ac J J c7 J J J J J<|bl (id := 5) c7 J<|af J<|aR c7 [] J aj J<|ab<|ag<|ax c7 J<|aC bm J<|bj J (fun h16 => ?_) (fun h16 => ?_)
  ·refine ab<|ai J ?_
   have hlj := hr.l j (by omega)
   unfold nS at hlj
   refine aF<|aa J<|a7 aK J<|ax aK J<|aC bm J<|bh J (by omega) (by omega) J ?_
   refine aa J<|bh J (by omega) (by omega) J ?_
   refine dA J J J J (by omega) (by omega) J J ?_
   refine bh J (by omega) (by omega) J ?_
   refine ax c7 J<|aC bm J<|bX J J J J (by omega) (by omega) J J ?_
   refine bZ (es := [(2 * (a.i + 1 + (j : Int)) + 1 - (a.l.getD j default).reset)].map d7) br bm [] J aj J ?_
   refine ap [] (kN a ha 0 [(2 * (a.i + 1 + (j : Int)) + 1 - (a.l.getD j default).reset)] (by decide) (by decide) (by simp) (EV ⟨by omega, by omega⟩)) J J J J J J aj (.inl rfl) J J J ?_
   refine bZ (es := [pN (ay a) 0 [(2 * (a.i + 1 + (j : Int)) + 1 - (a.l.getD j default).reset)]].map dw) eC br [] J aj J ?_
   refine cw 32 [] ac J eC J eC J br J J J J ⟨J, J, aj⟩ J (elOk.cons rfl rfl elOk.nil) cA ⟨by simp only [List.length_append, List.length_map, List.length_cons, List.length_nil]; show (_ + 1) * 24 ≤ _; omega, by simp only [List.length_append, List.length_map, List.length_cons, List.length_nil]; omega⟩ J J J ?_
   refine af J<|ar<|aH<|ak<|aF<|bh J (by omega) (by omega) J ?_
   refine aa J<|ar ?_
   exact aT (j + 1) (by show j + 1 ≤ _; omega) (by show a.l.length - (j + 1) < a.l.length - j; omega) (cd [(503, 32)] ⟨rfl, rfl, rfl, rfl, rfl, aj⟩ ⟨rfl, (dV rfl (by show List.map dw _ = List.map dw (if _ then _ else _); first | (rw [if_pos h16]; done) | (rw [if_neg h16]; done))), aj⟩ rfl rfl rfl rfl rfl)
  ·refine ab<|ah J<|ao<|aH<|ak<|aF<|bh J (by omega) (by omega) J ?_
   refine aa J<|ar ?_
   exact aT (j + 1) (by show j + 1 ≤ _; omega) (by show a.l.length - (j + 1) < a.l.length - j; omega) (aL ⟨rfl, rfl, rfl, rfl, rfl, aj⟩ ⟨rfl, (dV rfl (by show List.map dw _ = List.map dw (if _ then _ else _); first | (rw [if_pos h16]; done) | (rw [if_neg h16]; done))), aj⟩ rfl rfl rfl rfl)
 ·refine ab<|ae<|ah J<|aO<|ba (a8 (aP ?_))
  refine ak<|ag<|aa J<|af J<|ab<|am ?_
  refine ⟨.inl ⟨503, rfl, ?_⟩, rfl⟩
  rw [show j = a.l.length by omega]
  rfl
theorem wT {V k l : Int} (h0 : 0 ≤ k) (h1 : k ≤ 1) (hV : 0 ≤ V) (hV2 : V ≤ 1000000) (l0 : 0 ≤ l) (l1 : l ≤ 100000000) : -1000000000 ≤ gg V k l ∧ gg V k l ≤ 1000000000 := by
 have := Av h0 h1 hV
 unfold gg; split <;> omega
theorem DM (a : Aig) (hr : da a) : PRow Tryz.prog 208 [bq a] 30 1 ((lH a).map dw) := by
 refine mJ ac (f := 208) (fn := Tryz.f208) (N := 41) (t := 2) (by kernel_rfl) rfl (by kernel_rfl) rfl rfl [(0, .v (bq a))] ⟨rfl, aj⟩ rfl rfl ?_
 intro B
 have ha := (fj hr).z
 have hi0 := ha.i0
 have hv0 := ha.v
 have hvA : ay a = a.i + (a.l.length : Nat) + (a.g.length : Nat) := rfl
 have hvr := hr.v
 refine ag<|bE 1 [] J J J ⟨J, aj⟩ J J J<|af J<|ab<|ag<|af J<|ab<|ae<|ag<|ax aK J<|aC cR J ?_
 refine aI ac J J cR J aB J J<|aa J<|ab<|aw<|cg (gJ (t := 3) (id := 503) (e := 30) (sz := 1) J J (by decide)) ?_
 refine aZ (α := Nat) (fun j => mk [(1, .ptr 1 0), (3, .own 503), (9, .v (jL a.l)), (10, .v (.int .i64 a.l.length)), (11, .v (.int .i64 j))] [(1, .box [.v (.int .i64 a.i), .v (jL a.l), .v (iH a.g), .v (cf a.outs), .v (cf a.bad), .v (cf a.con), .v (up a.names)]), (503, .row 30 1 ((pG a j).map dw))] 0) (fun j => j ≤ a.l.length) (fun j => a.l.length - j) 0 (Nat.zero_le _) (aL ⟨J, J, J, J, J, aj⟩ ⟨J, J, aj⟩ J J J J) ?_
 intro j hj
 have hfl := iG a j
 refine ag<|bj J (fun h12 => ?_) (fun h12 => ?_)
 ·refine ab<|ae<|ai J<|ao<|ak<|ae<|aw<|ag<|aa J<|cj cR c7 J (by omega) (bz (n := j) (by omega)) J ?_
  refine cZ ac J J c7 J J J J J<|bl (id := 5) c7 J<|af J<|aR c7 [] J aj J<|ab<|ae ?_
  have hlj := hr.l j (by omega)
  unfold nS at hlj
  have b1 := wT (V := ay a) (k := 1) (l := 2 * (a.i + 1 + (j : Int))) (by decide) (by decide) (by omega) (by omega) (by omega) (by omega)
  have b2 := wT (V := ay a) (k := 0) (l := (a.l.getD j default).next) (by decide) (by decide) (by omega) (by omega) (by omega) (by omega)
  refine aS (L := [([1], []), ([1], []), ([1], []), ([], []), ([], []), ([], []), ([], []), ([], []), ([1], []), ([5], []), ([5], []), ([], []), ([], []), ([], [])]) (by kernel_rfl) mixed (by kernel_rfl)<|a7 aK J<|ax aK J<|aC bm J<|bh J (by omega) (by omega) J ?_
  refine aa J<|bh J (by omega) (by omega) J ?_
  refine dA J J J J (by omega) (by omega) J J ?_
  refine ap [] (vn a ha 1 (2 * (a.i + 1 + (j : Int))) (by decide) (by decide) (by omega) (by omega)) J J J J J J aj (.inl J) J J J ?_
  refine a7 aK J<|ax c7 J<|aC bm J<|ap [] (vn a ha 0 (a.l.getD j default).next (by decide) (by decide) (by omega) (by omega)) J J J J J J aj (.inl J) J J J ?_
  refine af J<|af J<|ab<|aF<|aa J<|aa J<|kA (z := -(gg (ay a) 1 (2 * (a.i + 1 + (j : Int))))) J J (by omega) (by omega) (by omega) J J ?_
  refine aa J<|bZ (es := [-(gg (ay a) 1 (2 * (a.i + 1 + (j : Int)))), (gg (ay a) 0 (a.l.getD j default).next)].map d7) br bm [] J aj J<|aa J<|aa J<|kA (z := -(gg (ay a) 0 (a.l.getD j default).next)) J J (by omega) (by omega) (by omega) J J ?_
  refine bZ (es := [(gg (ay a) 1 (2 * (a.i + 1 + (j : Int)))), -(gg (ay a) 0 (a.l.getD j default).next)].map d7) br bm [] J aj J<|bZ (es := [[-(gg (ay a) 1 (2 * (a.i + 1 + (j : Int)))), (gg (ay a) 0 (a.l.getD j default).next)], [(gg (ay a) 1 (2 * (a.i + 1 + (j : Int)))), -(gg (ay a) 0 (a.l.getD j default).next)]].map dw) eC br [] J aj J ?_
  refine cw 38 [] ac J eC J eC J br J J J J ⟨J, J, aj⟩ J (elOk.cons rfl rfl (elOk.cons rfl rfl elOk.nil)) ke ⟨by simp only [List.length_append, List.length_map, List.length_cons, List.length_nil, hfl]; show (2 * j + 2) * 24 ≤ _; omega, by simp only [List.length_append, List.length_map, List.length_cons, List.length_nil, hfl]; omega⟩ J J J ?_
  refine af J<|ar<|aH<|ak<|aF<|bh J (by omega) (by omega) J ?_
  refine aa J<|ar ?_
  exact aT (j + 1) (by show j + 1 ≤ _; omega) (by show a.l.length - (j + 1) < a.l.length - j; omega) (cd [(503, 38)] ⟨J, J, J, J, J, aj⟩ ⟨J, J, aj⟩ J J J J J)
 ·refine ab<|ae<|ah J<|aO<|ba (a8 (aP ?_))
  refine ak<|ag<|aa J<|af J<|ab<|am ?_
  refine ⟨.inl ⟨503, rfl, ?_⟩, rfl⟩
  rw [show j = a.l.length by omega]
  rfl
end Go.Vd
namespace Go.Vd
open Go.Proofs Go.RowKit
theorem Cr (n : Nat) (l : List (List Int)) (c : List Int) (hb : uf n l) (hl : c.length ≤ 1000000) (hx : ∀ x, x ∈ c → x ≠ 0 ∧ x.natAbs ≤ n) : kw 354 [.int .i64 n, dS l, cf c] (fun v => ∃ t, v = .bool t ∧ lU l (c.map (fun x => -x)) t) := by
 refine dJ ac (f := 354) (fn := Tryz.f354) (N := 36) (rs := [.tmp 6]) (by kernel_rfl) rfl (by kernel_rfl) rfl rfl [(0, .v (.int .i64 n)), (1, .v (dS l)), (2, .v (cf c))] ⟨rfl, rfl, rfl, aj⟩ rfl rfl ?_
 intro B
 have hnb := hb.hn
 refine ag<|af J<|ab<|ag<|aa J<|aI ac J J br J aB J J ?_
 refine md 14 (el0 := [.int .i64 0]) ac J br J bm J J J J J ⟨by omega, by omega, by omega, by simp; omega⟩ J J J J J ?_
 refine af J<|ab<|ae<|ag<|aa J<|aI ac J J br J aB J J<|aa J<|ab<|aw<|aZ (α := Nat) (fun j => mk [(0, .v (.int .i64 n)), (1, .v (dS l)), (7, .own 14), (15, .v (cf c)), (16, .v (.int .i64 c.length)), (17, .v (.int .i64 j))] [(14, .row 3 1 (((c.take j).map (fun x => -x) ++ List.replicate (c.length - j) 0).map d7))] 0) (fun j => j ≤ c.length) (fun j => c.length - j) 0 (Nat.zero_le _) (aL ⟨J, J, J, J, J, J, aj⟩ ⟨(dV J (by simp)), aj⟩ J J J J) ?_
 intro j hj
 have hlr : ((c.take j).map (fun x => -x) ++ List.replicate (c.length - j) 0).length = c.length := by (rw [List.length_append, List.length_map, List.length_take, List.length_replicate]; omega)
 refine ag<|bj J (fun h18 => ?_) (fun h18 => ?_)
 ·refine ab<|ae<|ai J<|ao<|ak<|ae<|aw<|ag<|aa J<|cj br bm J (by omega) (bz (n := j) (by omega)) J ?_
  refine bu bm J<|af J<|af J<|ab ?_
  have hcx := hx _ (cP (show j < c.length by omega))
  refine aF<|aa J<|aa J<|aa J<|kA (z := -(c.getD j default)) J J (by omega) (by omega) (by omega) J J ?_
  refine dG ac J J J J br J bm J (by omega) (by rw [List.length_map, hlr]; omega) J J J J ?_
  refine jg ac J bm J J J J J (by rw [List.length_map, hlr]; omega) jl J J J ?_
  refine ar<|aH<|ak<|aF<|bh J (by omega) (by omega) J ?_
  refine aa J<|ar ?_
  exact aT (j + 1) (by show j + 1 ≤ _; omega) (by show c.length - (j + 1) < c.length - j; omega) (aL ⟨rfl, rfl, rfl, rfl, rfl, rfl, aj⟩ ⟨(dV rfl (congrArg (List.map d7) (zM (f := fun x => -x) (by omega)))), aj⟩ rfl rfl rfl rfl)
 ·refine ab<|ae<|ah J<|aO<|ba (a8 (aP ?_))
  refine ak<|ae<|cg (bp (id := 14) J) ?_
  refine cT [(0, .v (.int .i64 n)), (1, .v (dS l)), (7, .v (cf (c.map (fun x => -x))))] [] ⟨rfl, rfl, (Dp rfl (by rw [show c.length - j = 0 by omega, List.take_of_length_le (show c.length ≤ j by omega)]; simp)), aj⟩ aj J J J J ?_
  refine aF<|aa J<|aa J<|aa J ?_
  refine dm [] (Be n l (c.map (fun x => -x)) hb (by simp; exact hl) (fun x hx2 => by obtain ⟨y, hy, rfl⟩ := List.mem_map.1 hx2; have := hx y hy; omega)) J J J J J J aj (.inl rfl) J J J ?_
  rintro _ ⟨x, t, rfl, ht⟩
  refine aa J<|aW J<|aW J<|af J<|af J<|ab<|ag<|aa J<|af J<|ab<|am ?_
  refine aD J J ?_
  exact ⟨t, rfl, ht⟩
theorem zB (xs : List (List Int)) (f : FuncId) (fi ca : List V) (hl : xs.length ≤ 9223372036854775807) (hc : ∀ x, x ∈ xs → PCallE Tryz.prog f (fi ++ [cf x] ++ ca) (fun v => ∃ t, v = .bool t)) : kw 234 [dS xs, .fn (.func f) fi ca] (fun r => ∃ n : Int, r = .int .i64 n ∧ -1 ≤ n ∧ n < xs.length) := by
 refine dJ ac (f := 234) (fn := Tryz.f234) (N := 19) (rs := [.tmp 4]) (by kernel_rfl) rfl (by kernel_rfl) rfl rfl [(0, .v (dS xs)), (1, .v (.fn (.func f) fi ca))] ⟨rfl, rfl, aj⟩ rfl rfl ?_
 intro B
 refine ag<|af J<|ab<|ae<|ag<|aa J<|aI ac J J eC J aB J J<|aa J<|ab<|aw<|aZ (α := Nat) (fun j => mk [(0, .v (dS xs)), (1, .v (.fn (.func f) fi ca)), (7, .v (.int .i64 xs.length)), (8, .v (.int .i64 j))] [] 0) (fun j => j ≤ xs.length) (fun j => xs.length - j) 0 (Nat.zero_le _) (aL ⟨J, J, J, J, aj⟩ aj J J J J) ?_
 intro j hj1
 refine ag<|bj J (fun h9 => ?_) (fun h9 => ?_)
 ·refine ab<|ae<|ai J<|ao<|ak<|ae<|aw<|ag<|aa J<|af J<|ab<|ag ?_
  refine aa J<|aa J<|aa J<|cj eC br J (by omega) (bz (n := j) (by omega)) J ?_
  refine bu br J<|dm [] (hc _ (cP (by omega))) J J J J J J aj (.inl J) J J J ?_
  rintro _ ⟨b, rfl⟩
  refine bf (fun h16 => ?_) (fun h16 => ?_)
  ·refine ab<|ai J<|ag<|aa J<|af J<|ab<|am<|az (au (bR (az (au (aD J J ?_)))))
   exact ⟨_, rfl, by omega, by omega⟩
  ·refine ab<|ah J<|ao<|aH<|ak<|aF<|bh J (by omega) (by omega) J ?_
   refine aa J<|ar ?_
   exact aT (j + 1) (by show j + 1 ≤ _; omega) (by show xs.length - (j + 1) < xs.length - j; omega) (aL ⟨J, J, J, J, aj⟩ aj J J J J)
 ·refine ab<|ae<|ah J<|aO<|ba (a8 (aP ?_))
  refine ak<|ag<|af J<|ab<|am ?_
  refine aD J J ?_
  exact ⟨_, rfl, by omega, by omega⟩
theorem Cp (xs ys : List Int) (hl : ys.length ≤ 1000000000000) (hl2 : xs.length ≤ 1000000000000) : kw 363 [cf xs, cf ys] (fun v => ∃ t : Bool, v = .bool t) := by
 refine dJ ac (f := 363) (fn := Tryz.f363) (N := 26) (rs := [.tmp 4]) (by kernel_rfl) rfl (by kernel_rfl) rfl rfl [(0, .v (cf xs)), (1, .v (cf ys))] ⟨rfl, rfl, aj⟩ rfl rfl ?_
 intro B
 refine ag<|af J<|ab<|ae<|ag<|aa J<|aI ac J J br J aB J J<|aa J<|aI ac J J br J aB J J<|bt J J J J J (fun h10 => ?_) (fun h10 => ?_)
 ·refine ab<|ai J<|ag<|af J<|ab<|am<|au (aD J J ?_)
  exact ⟨_, rfl⟩
 ·refine ab<|ah J<|ao<|ak<|ae<|ag<|aa J<|aI ac J J br J aB J J<|aa J<|ab<|aw<|aZ (α := Nat) (fun j => mk [(0, .v (cf xs)), (1, .v (cf ys)), (12, .v (.int .i64 xs.length)), (13, .v (.int .i64 j))] [] 0) (fun j => j ≤ xs.length) (fun j => xs.length - j) 0 (Nat.zero_le _) (aL ⟨J, J, J, J, aj⟩ aj J J J J) ?_
  intro j hj1
  refine ag<|bj J (fun h14 => ?_) (fun h14 => ?_)
  ·refine ab<|ae<|ai J<|ao<|ak<|ae<|aw<|ag<|aa J<|af J<|ab<|ae<|aS (L := [([], []), ([], []), ([], []), ([], []), ([], []), ([], []), ([], []), ([], []), ([], [])]) (by kernel_rfl) mixed (by kernel_rfl) ?_
   refine aa J<|aa J<|cj br bm J (by omega) (bz (n := j) (by omega)) J ?_
   refine bu bm J<|aa J<|aa J<|cj br bm J (by omega) (bz (n := j) (by omega)) J ?_
   refine bu bm J<|bt J J J J J (fun h24 => ?_) (fun h24 => ?_)
   ·refine ab<|ai J<|ag<|af J<|ab<|am<|az (au (bR (az (au (aD J J ?_)))))
    exact ⟨_, rfl⟩
   ·refine ab<|ah J<|ao<|aH<|ak<|aF<|bh J (by omega) (by omega) J ?_
    refine aa J<|ar ?_
    exact aT (j + 1) (by show j + 1 ≤ _; omega) (by show xs.length - (j + 1) < xs.length - j; omega) (aL ⟨J, J, J, J, aj⟩ aj J J J J)
  ·refine ab<|ae<|ah J<|aO<|ba (a8 (aP ?_))
   refine ak<|ag<|af J<|ab<|am ?_
   refine aD J J ?_
   exact ⟨_, rfl⟩
end Go.Vd
namespace Go.Vd
open Go.Proofs Go.RowKit
def kQ (x y : Int) : Int := if x < y then -1 else if y < x then 1 else 0
def FC (a b : Int) : Int := if kQ (max a (-a)) (max b (-b)) ≠ 0 then kQ (max a (-a)) (max b (-b)) else kQ a b
theorem FB (x : List Int) (hx : x.length ≤ 1000000000) : PRow Tryz.prog 102 [cf x] 3 1 (x.map d7) := by
 refine mJ ac (f := 102) (fn := Tryz.f102) (N := 8) (t := 2) (by kernel_rfl) rfl (by kernel_rfl) rfl rfl [(0, .v (cf x))] ⟨rfl, aj⟩ rfl rfl ?_
 intro B
 refine ag<|af J<|ab<|ae<|ag<|aa J<|AV ac J br J J J J J (fun h4 => ?_) ?_
 ·refine ab<|ai J<|ag<|af J<|ab<|am ?_
  refine au (⟨.inr ⟨rfl, ?_, by decide⟩, rfl⟩)
  exact h4
 ·refine ab<|ah J<|ao<|ak<|ag<|fV (es := ([] : List Int).map d7) 5 [] ac J br J bm J J ⟨J, aj⟩ J J J J J J J J J<|aa J ?_
  refine cw 7 [] ac J br J br J bm J J J J ⟨J, J, aj⟩ J (GP _) ke (by constructor <;> simp <;> omega) J J J ?_
  refine af J<|ab<|am ?_
  refine ⟨.inl ⟨7, rfl, ?_⟩, rfl⟩
  rfl
end Go.Vd
namespace Go.Proofs
open Go.Shelf
def Tryz.sortL_ren : Ren := ⟨fun | 6=>365 | 15=>369 | 14=>368 | 28=>378 | 29=>314 | 20=>370 | 21=>371 | 22=>372 | 23=>373 | 24=>374 | 25=>375 | 26=>376 | 27=>377 | 46=>379 | 47=>380 | 48=>381 | 49=>382 | 50=>383 | 57=>384 | n=>n, fun | 22=>30 | 24=>3 | 25=>159 | 3=>3 | 39=>360 | 0=>0 | 53=>423 | 55=>418 | 4=>4 | 46=>513 | 45=>512 | 50=>69 | 5=>5 | 9=>9 | 66=>518 | 70=>522 | 76=>524 | 77=>525 | n=>n, fun | n=>n⟩
set_option maxRecDepth 10000 in
theorem Tryz.sortL : SlLaysF.n6 Tryz.prog Tryz.sortL_ren := ⟨by kernel_rfl, ⟨f365.name, by decide, func365.trans (congrArg some (by kernel_rfl))⟩, ⟨f368.name, by decide, func368.trans (congrArg some (by kernel_rfl))⟩, func369.trans (congrArg some (by kernel_rfl)), ⟨f370.name, by decide, func370.trans (congrArg some (by kernel_rfl))⟩, ⟨f371.name, by decide, func371.trans (congrArg some (by kernel_rfl))⟩, ⟨f372.name, by decide, func372.trans (congrArg some (by kernel_rfl))⟩, ⟨f373.name, by decide, func373.trans (congrArg some (by kernel_rfl))⟩, ⟨f374.name, by decide, func374.trans (congrArg some (by kernel_rfl))⟩, ⟨f375.name, by decide, func375.trans (congrArg some (by kernel_rfl))⟩, ⟨f376.name, by decide, func376.trans (congrArg some (by kernel_rfl))⟩, ⟨f377.name, by decide, func377.trans (congrArg some (by kernel_rfl))⟩, func378.trans (congrArg some (by kernel_rfl)), func314.trans (congrArg some (by kernel_rfl)), ⟨f379.name, by decide, func379.trans (congrArg some (by kernel_rfl))⟩, func380.trans (congrArg some (by kernel_rfl)), func381.trans (congrArg some (by kernel_rfl)), ⟨f382.name, by decide, func382.trans (congrArg some (by kernel_rfl))⟩, ⟨f383.name, by decide, func383.trans (congrArg some (by kernel_rfl))⟩, ⟨f384.name, by decide, func384.trans (congrArg some (by kernel_rfl))⟩, underlying0, isAgg0, sizeOf0, zeroValue0, underlying3,
 isAgg3, sizeOf3, zeroValue3, underlying4, isAgg4, sizeOf4, zeroValue4, underlying5, isAgg5, sizeOf5, zeroValue5, underlying9, isAgg9, sizeOf9, zeroValue9, underlying30, isAgg30, sizeOf30, zeroValue30, isAgg3, sizeOf3, underlying159, isAgg159, sizeOf159, zeroValue159,
 underlying360, isAgg360, sizeOf360, zeroValue360, underlying512, isAgg512, sizeOf512, zeroValue512, underlying513, isAgg513, sizeOf513, zeroValue513, underlying69, isAgg69, sizeOf69, zeroValue69, underlying423, isAgg423, sizeOf423, zeroValue423, underlying418, isAgg418, sizeOf418, zeroValue418, underlying518,
 isAgg518, sizeOf518, zeroValue518, underlying522, isAgg522, sizeOf522, zeroValue522, underlying524, isAgg524, sizeOf524, zeroValue524, underlying525, isAgg525, sizeOf525, zeroValue525⟩
end Go.Proofs
namespace Go.Vd
open Go.Proofs Go.RowKit Go.Shelf Go.Sort
set_option maxHeartbeats 4000000 in
theorem pq (x : Int) (w : World) : Calls Tryz.prog 276 #[.int .i64 x] w fun e w' => e = .returned (.bool false) ∧ w' = w := by
 go_enter Tryz.func276, Tryz.ntmps276
 go_wp2
 go_ret
 simp
set_option maxHeartbeats 4000000 in
theorem zi (x y : Int) (w : World) : Calls Tryz.prog 215 #[.int .i64 x, .int .i64 y] w fun e w' => e = .returned (.int .i64 (kQ x y)) ∧ w' = w := by
 go_enter Tryz.func215, Tryz.ntmps215
 by_cases h1 : x < y
 ·have e1 : kQ x y = -1 := by unfold kQ; rw [if_pos h1]
  rw [e1]
  go_wp2_with (go_at_call 276; refine (pq _ _).mono ?_; rintro e w' ⟨rfl, rfl⟩)
  go_ret
  simp
 ·by_cases h2 : y < x
  ·have e1 : kQ x y = 1 := by unfold kQ; rw [if_neg h1, if_pos h2]
   rw [e1]
   go_wp2_with (go_at_call 276; refine (pq _ _).mono ?_; rintro e w' ⟨rfl, rfl⟩)
   go_ret
   simp
  ·have e1 : kQ x y = 0 := by unfold kQ; rw [if_neg h1, if_neg h2]
   rw [e1]
   go_wp2_with (go_at_call 276; refine (pq _ _).mono ?_; rintro e w' ⟨rfl, rfl⟩)
   go_ret
   simp
structure H1 (x y r : Int) : Prop where
 h1 : x ≠ 0 → r = x
 h2 : x = 0 → r = y
set_option maxHeartbeats 4000000 in
theorem BN (x y : Int) (b : Nat) (w : World) (h0 : w.cell? ⟨b, 0, none⟩ = some (.int .i64 x)) (h1 : w.cell? ⟨b, 1, none⟩ = some (.int .i64 y)) : Calls Tryz.prog 214 #[.slice (some ⟨b, 0, none⟩) 2 2] w fun e w' => (∃ r, e = .returned (.int .i64 r) ∧ H1 x y r) ∧ w' = w := by
 have hO1 : x ≠ 0 → H1 x y x := fun h => ⟨fun _ => rfl, fun e => absurd e h⟩
 have hO2 : x = 0 → H1 x y y := fun h => ⟨fun e => absurd h e, fun _ => rfl⟩
 go_enter Tryz.func214, Tryz.ntmps214
 go_wp2
 go_loopw [8] (fun i wr => wr = w ∧ (i = .int .i64 0 ∨ (i = .int .i64 1 ∧ x = 0) ∨ (i = .int .i64 2 ∧ x = 0 ∧ y = 0))) (fun i _ => 2 - (RowKit.intOf i).toNat)
 case atStart => exact ⟨rfl, .inl rfl⟩
 case round =>
  obtain ⟨rfl, rfl | ⟨rfl, rfl⟩ | ⟨rfl, rfl, rfl⟩⟩ := hrel
  ·by_cases hx : x = 0
   ·subst hx
    go_wp2
    simp [RowKit.intOf]
   ·go_wp2
    all_goals first | omega | skip
    go_ret
    exact ⟨⟨x, rfl, hO1 hx⟩, rfl⟩
  ·by_cases hy : y = 0
   ·subst hy
    go_wp2
    simp [RowKit.intOf]
   ·go_wp2
    all_goals first | omega | skip
    go_ret
    exact ⟨⟨y, rfl, hO2 aj⟩, rfl⟩
  ·go_wp2
   go_ret
   exact ⟨⟨0, rfl, hO2 aj⟩, rfl⟩
theorem D2 {a b r : Int} (h1 : kQ (max a (-a)) (max b (-b)) ≠ 0 → r = kQ (max a (-a)) (max b (-b))) (h2 : kQ (max a (-a)) (max b (-b)) = 0 → r = kQ a b) : r = FC a b := by
 unfold FC
 split
 ·exact h1 (by assumption)
 ·exact h2 (by omega)
set_option maxHeartbeats 4000000 in
set_option maxRecDepth 100000 in
theorem BV (a b : Int) (ha : a.natAbs ≤ 1000000) (hb : b.natAbs ≤ 1000000) (w : World) : Calls Tryz.prog 366 #[.int .i64 a, .int .i64 b] w fun e w' => e = .returned (.int .i64 (FC a b)) ∧ ∃ o, w' = grow w #[o] := by
 have hor := fun x y => BN x y w.heap.size (w.alloc (.cells #[.int .i64 x, .int .i64 y] 3)) (aY (heap_alloc_new w _) rfl) (aY (heap_alloc_new w _) rfl)
 have hfin : ∀ r, H1 (kQ (max a (-a)) (max b (-b))) (kQ a b) r → r = FC a b := fun r h => D2 h.1 h.2
 go_enter Tryz.func366, Tryz.ntmps366
 go_wp2_with (first | (go_at_call 215; refine (zi _ _ _).mono ?_; rintro e w' ⟨rfl, rfl⟩) | (go_at_call 214; refine (hor _ _).mono ?_; rintro e w' ⟨⟨r, rfl, hr⟩, rfl⟩))
 all_goals go_ret
 all_goals obtain rfl := hfin r hr
 all_goals exact ⟨rfl, _, alloc_eq_grow _ _⟩
end Go.Vd
namespace Go.Vd
open Go.Proofs Go.RowKit Go.Shelf Go.Sort
abbrev ZB : Type := { z : Int // z.natAbs ≤ 1000000 }
instance : Inhabited ZB := ⟨⟨0, by decide⟩⟩
def vf (z : ZB) : Value := .int .i64 z.1
def FO (x y : ZB) : Int := FC x.1 y.1
theorem H9 (x y : ZB) : ltOf FO x y = decide (x.1.natAbs < y.1.natAbs ∨ (x.1.natAbs = y.1.natAbs ∧ x.1 < y.1)) := by
 unfold ltOf FO FC kQ
 congr 1
 apply propext
 obtain ⟨a, ha⟩ := x
 obtain ⟨b, hb⟩ := y
 simp only
 split <;> rename_i h <;> (repeat' split at h) <;> (repeat' split) <;> omega
theorem Ig : SWO (ltOf FO) where
 irrefl x := by rw [H9]; simp
 trans x y z h1 h2 := by rw [H9] at *; simp only [decide_eq_true_eq] at *; omega
 ntrans x y z h1 h2 := by rw [H9] at *; simp only [decide_eq_false_iff_not] at *; omega
def Fi (w : World) (fb k : Nat) : Prop := ∃ arr, w.heap[fb]? = some (.cells arr 3 (0, 0)) ∧ k ≤ arr.size ∧ ∀ i, i < k → ∃ z, arr[i]? = some (.int .i64 z)
def FiZ (w : World) (fb : Nat) (c : List Int) : Prop := ∃ arr, w.heap[fb]? = some (.cells arr 3 (0, 0)) ∧ c.length ≤ arr.size ∧ ∀ i, i < c.length → arr[i]? = some (.int .i64 (c.getD i 0))
theorem FiZ.fi {w : World} {fb : Nat} {c : List Int} (h : FiZ w fb c) : Fi w fb c.length := by
 obtain ⟨arr, h1, h2, h3⟩ := h
 exact ⟨arr, h1, h2, fun i hi => ⟨_, h3 i hi⟩⟩
theorem A6 (fb k : Nat) (w : World) : CmpLays1 Tryz.prog 366 #[] vf FO fb 0 k w := fun _ _ _ _ x y => (BV x.1 y.1 x.2 y.2 _).mono fun _ _ ⟨he, o, hw⟩ => ⟨he, 0, #[o], hw⟩
theorem yw (w : World) (fb cc : Nat) (c : List Int) (hF : FiZ w fb c) (hc : ∀ z, z ∈ c → z.natAbs ≤ 1000000) (hl : c.length ≤ 1000000) :
 Calls Tryz.prog 365 #[.slice (some ⟨fb, 0, none⟩) c.length cc, .func (.func 366) #[] #[]] w fun e w' => e = .returned (.tuple #[]) ∧ Fi w' fb c.length ∧ Only fb w w' := by
 by_cases h0 : c.length = 0
 ·have hS := AnyF.slices_SortFunc_none (P := Tryz.prog) (ρ := Tryz.sortL_ren) { Tryz.sortL with } (some ⟨fb, 0, none⟩) cc (.func (.func 366) #[] #[]) w
  change Calls Tryz.prog 365 _ _ _ at hS
  have hfi := hF.fi
  rw [h0] at hfi ⊢
  exact hS.mono fun e w' ⟨h1, h2⟩ => ⟨h1, h2 ▸ hfi, h2 ▸ Only.refl ..⟩
 ·obtain ⟨arr, h1, h2, h3⟩ := hF
  have hb : fb < w.heap.size := (Array.getElem?_eq_some_iff.1 h1).1
  obtain ⟨d, hd1, hd2⟩ : ∃ d : Array ZB, d.size = c.length ∧ ∀ j, j < c.length → vf d[j]! = .int .i64 (c.getD j 0) := by
   refine ⟨(c.pmap (fun z h => (⟨z, h⟩ : ZB)) hc).toArray, by simp, fun j hj => ?_⟩
   rw [getElem!_pos _ j (by simpa using hj)]
   simp [vf, hj]
  have hH : Holds vf w fb 0 d := fun j hj => by
   rw [hd1] at hj
   exact ⟨by rw [Nat.zero_add, cell_of_row w fb j arr 3 (0, 0) h1, h3 j hj, hd2 j hj], bQ h1⟩
  have eg : ∀ args w, (callFunc 366 args).run Tryz.prog w = .ok (.enter 366 args) w := enters_of Tryz.func366 (by kernel_rfl) rfl
  have hS := Any.slices_SortFunc Tryz.sortL vf (fun _ => rfl) FO Ig 366 #[] fb 0 cc d w eg (A6 fb d.size w) hH hb (by omega)
  change Calls Tryz.prog 365 _ _ _ at hS
  rw [hd1] at hS
  refine hS.mono ?_
  rintro e w' ⟨rfl, d', n, os, hp, _, hw⟩
  have hds : d'.size = d.size := hp.1
  have hfr : ∀ b, b < w.heap.size → b ≠ fb → w'.heap[b]? = w.heap[b]? := fun b hb hne => by
   rw [hw]
   unfold sortWorld
   rw [heap_grow_old _ os (by rw [Sort.size_putRow]; exact hb)]
   show (w.heap.modify fb _)[b]? = _
   rw [Array.getElem?_modify, if_neg (Ne.symm hne)]
  refine ⟨rfl, ?_, ⟨by rw [hw]; rfl, by rw [hw]; rfl, by rw [hw]; rfl, by rw [hw]; unfold sortWorld; show _ ≤ (Array.size (_ ++ _)); rw [Array.size_append]; have := Sort.size_putRow vf (Sort.ahead w n) fb 0 d'; have h5 : (Sort.ahead w n).heap.size = w.heap.size := rfl; omega, hfr⟩⟩
  refine ⟨putCells vf 0 d' arr, ?_, by simp [putCells]; exact h2, fun i hi => ⟨(d'[i]!).1, ?_⟩⟩
  ·rw [hw]
   unfold sortWorld
   rw [heap_grow_old _ os (by rw [Sort.size_putRow]; exact hb)]
   show (w.heap.modify fb _)[fb]? = _
   rw [Array.getElem?_modify, if_pos rfl, h1]
   rfl
  ·have hi2 : i < arr.size := by omega
   unfold putCells
   rw [Array.getElem?_mapIdx, Array.getElem?_eq_getElem hi2]
   simp only [Option.map_some, Nat.zero_le, true_and, Nat.zero_add, Nat.sub_zero, if_pos (show i < d'.size by omega)]
   rfl
end Go.Vd
namespace Go.Vd
open Go.Proofs Go.RowKit
theorem Fi.cell {w : World} {fb m i : Nat} (h : Fi w fb m) (hi : i < m) : ∃ z, w.cell? ⟨fb, i, none⟩ = some (.int .i64 z) := by
 obtain ⟨arr, h1, h2, h3⟩ := h
 obtain ⟨z, hz⟩ := h3 i hi
 exact ⟨z, by rw [cell_of_row w fb i arr 3 (0, 0) h1, hz]⟩
theorem Fi.frozen {w : World} {fb m i : Nat} (h : Fi w fb m) : w.frozen? ⟨fb, i, none⟩ = false := by
 obtain ⟨arr, h1, _⟩ := h
 exact bQ h1
theorem Fi.set {w : World} {fb m i : Nat} {z : Int} (h : Fi w fb m) : Fi (w.setCell ⟨fb, i, none⟩ (.int .i64 z)) fb m := by
 obtain ⟨arr, h1, h2, h3⟩ := h
 refine ⟨_, heap_setCell_same w fb i _ 3 _ h1, by simpa using h2, fun j hj => ?_⟩
 rw [Array.getElem?_setIfInBounds]
 split
 ·rename_i e; subst e; exact ⟨z, by rw [if_pos (by omega)]⟩
 ·exact h3 j hj
theorem Fi.drew {w : World} {fb m : Nat} (h : Fi w fb m) : Fi w.drew fb m := h
theorem Only.drew (fb : Nat) (w : World) : Only fb w w.drew := ⟨rfl, rfl, rfl, Nat.le_refl _, fun _ _ _ => rfl⟩
theorem Ac {w : World} {fb m i : Nat} (h : Fi w fb m) (hi : i ≤ m) (ty : TypeId) (c : Nat) : ∃ w', (Builtin.clear_ #[30] ty #[.slice (some ⟨fb, i, none⟩) (m - i) c]).run Tryz.prog w = .ok (.tuple #[]) w' ∧ Only fb w w' ∧ Fi w' fb i := by
 obtain ⟨arr, h1, h2, h3⟩ := h
 by_cases h0 : m - i = 0
 ·refine ⟨w, ?_, Only.refl .., arr, h1, by omega, fun j hj => h3 j (by omega)⟩
  rw [h0]
  simp [Builtin.clear_, run_underlying DD]
 ·obtain ⟨k, hk⟩ : ∃ k, m - i = k + 1 := ⟨m - i - 1, by omega⟩
  have hz : (zeroValue 3).run Tryz.prog w = .ok (.int .i64 0) w := by kernel_rfl
  have hst := run_storeCells_at Tryz.prog fb i 3 (Builtin.zeroCells #[.int .i64 0] (m - i)).toList 0 _ w h1 (by simp [Builtin.zeroCells]; omega) (fun v hv => by
   have : v = .int .i64 0 := by
    simp [Builtin.zeroCells] at hv
    obtain ⟨a, _, hv⟩ := hv
    rw [show a % 1 = 0 from Nat.mod_one a] at hv
    exact hv.symm
   subst this; rfl)
  simp only [Nat.add_zero] at hst
  obtain ⟨row, hrow, hrs⟩ : ∃ row, (storeCells ⟨fb, i, none⟩ (Builtin.zeroCells #[.int .i64 0] (m - i)).toList).run Tryz.prog w = .ok () (w.setRow fb row) ∧ ∀ j, j < i → row[j]? = arr[j]? := ⟨_, hst, fun j hj => by
   rw [List.getElem?_toArray, List.append_assoc, List.getElem?_append_left (by simp; omega), List.getElem?_take_of_lt hj, Array.getElem?_toList]⟩
  refine ⟨w.setRow fb row, ?_, ⟨rfl, rfl, rfl, by simp, fun b _ hne => setRow_other w fb b _ hne⟩, row, setRow_heap w fb arr row 3 (0, 0) h1, ?_, fun j hj => by rw [hrs j hj]; exact h3 j (by omega)⟩
  ·rw [hk] at hrow ⊢
   simp [Builtin.clear_, run_underlying DD, hz, Value.cells]
   rw [hrow]
   rfl
  ·by_cases hi0 : i = 0
   ·omega
   ·have := hrs (i - 1) (by omega)
    rw [Array.getElem?_eq_getElem (show i - 1 < arr.size by omega)] at this
    have := (Array.getElem?_eq_some_iff.1 this).1
    omega
set_option maxHeartbeats 8000000 in
set_option maxRecDepth 100000 in
theorem xZ (w : World) (fb m cc : Nat) (hm : m ≤ 1000000) (hmc : m ≤ cc) (h : Fi w fb m) : Calls Tryz.prog 367 #[.slice (some ⟨fb, 0, none⟩) m cc] w fun e w' => (∃ k, k ≤ m ∧ e = .returned (.slice (some ⟨fb, 0, none⟩) k cc) ∧ Fi w' fb k) ∧ Only fb w w' := by
 have hO : Only fb w w := Only.refl ..
 have mixed : Tryz.prog.follows .mixedOrders = true := by kernel_rfl
 go_enter Tryz.func367, Tryz.ntmps367
 go_wp2
 ·exact ⟨rfl, _, by simp [results, Tryz.results367, go_sem], ⟨m, Nat.le_refl _, rfl, h⟩, hO⟩
 ·rename_i hlt2 K hK
  go_loopw [3] (fun iv wr => ∃ (i : Nat), iv = .int .i64 ((i + 1 : Nat) : Int) ∧ i + 1 ≤ m ∧ Fi wr fb m ∧ Only fb w wr) (fun iv _ => m - (RowKit.intOf iv).toNat)
  case atStart => exact ⟨0, rfl, by omega, h, hO⟩
  case round =>
   clear h hO
   obtain ⟨i, rfl, hij, hF, hO⟩ := hrel
   by_cases hlt : i + 1 < m
   ·obtain ⟨z, hz⟩ := hF.cell hlt
    obtain ⟨z', hz'⟩ := hF.cell (show i < m by omega)
    have cD1 : wr.drew.cell? ⟨fb, i + 1, none⟩ = some (.int .i64 z) := hz
    have cD2 : wr.drew.cell? ⟨fb, i, none⟩ = some (.int .i64 z') := hz'
    go_wp2
    go_region
    go_wp2
    ·have hF1 := hF.drew
     have hO1 := hO.trans (Only.drew fb wr)
     generalize wr.drew = wq at hF1 hO1 ⊢
     clear cD1 cD2 hz hz' hF hO
     go_loopw [3, 5] (fun iv kv wr => ∃ (j q : Nat), iv = .int .i64 ((j + 1 : Nat) : Int) ∧ kv = .int .i64 ((q + 1 : Nat) : Int) ∧ j ≤ i + q ∧ i + 1 + (q + 1) ≤ m ∧ Fi wr fb m ∧ Only fb w wr) (fun _ kv _ => m - (RowKit.intOf kv).toNat)
     case atStart => exact ⟨i, 0, rfl, rfl, by omega, by omega, hF1, hO1⟩
     case round =>
      clear hF1 hO1
      obtain ⟨j, q, rfl, rfl, hjq, hqm, hF, hO⟩ := hrel
      by_cases hlt3 : i + 1 + (q + 1) < m
      ·obtain ⟨y, hy⟩ := hF.cell hlt3
       obtain ⟨y', hy'⟩ := hF.cell (show i + 1 + q < m by omega)
       have cD1 : wr.drew.cell? ⟨fb, i + 1 + (q + 1), none⟩ = some (.int .i64 y) := hy
       have cD2 : wr.drew.cell? ⟨fb, i + 1 + q, none⟩ = some (.int .i64 y') := hy'
       have hFD := hF.drew
       have hOD := hO.trans (Only.drew fb wr)
       have fD := hFD.frozen (i := j + 1)
       obtain ⟨y3, cD3⟩ := hFD.cell (show j + 1 < m by omega)
       have hFS := hFD.set (i := j + 1) (z := y)
       have hOS := hOD.trans (Only.set fb (j + 1) (.int .i64 y) wr.drew)
       go_wp2
       go_region
       go_wp2
       ·exact ⟨⟨j + 1, q + 1, by simp, by simp, by omega, by omega, hFS, hOS⟩, by simp [RowKit.intOf]; omega⟩
       ·exact ⟨⟨j, q + 1, rfl, by simp, by omega, by omega, hFD, hOD⟩, by simp [RowKit.intOf]; omega⟩
      ·have heq : i + 1 + (q + 1) = m := by omega
       obtain ⟨w4, hcl, hO4, hF4⟩ := Ac hF (show j + 1 ≤ m by omega) 0 (cc - (j + 1))
       go_wp2_with (at_builtin; refine wpList_clear rfl rfl hcl ?_)
       exact ⟨rfl, _, by simp [results, Tryz.results367, go_sem], ⟨j + 1, by omega, rfl, hF4⟩, hO.trans hO4⟩
    ·exact ⟨⟨i + 1, by simp, by omega, hF.drew, hO.trans (Only.drew fb wr)⟩, by simp [RowKit.intOf]; omega⟩
   ·obtain rfl : i + 1 = m := by omega
    go_wp2
    go_ret
    exact ⟨⟨i + 1, Nat.le_refl _, rfl, hF⟩, hO⟩
theorem Ev {w : World} {fb k cc : Nat} {im : Nat → Prop} (h : Fi w fb k) (hi : im fb) (hk : k ≤ cc) : ∃ xs : List Int, xs.length = k ∧ RepV w im (cf xs) (.slice (some ⟨fb, 0, none⟩) k cc) := by
 obtain ⟨arr, h1, h2, h3⟩ := h
 have hb : fb < w.heap.size := (Array.getElem?_eq_some_iff.1 h1).1
 refine ⟨(List.range k).map (fun i => RowKit.intOf (arr.getD i undef)), by simp, ?_⟩
 have hg : ∀ i, i < k → arr[i]? = some (.int .i64 (RowKit.intOf (arr.getD i undef))) := fun i hi => by
  obtain ⟨z, hz⟩ := h3 i hi
  rw [Array.getD_eq_getD_getElem?, hz]; rfl
 have := RepV.sl (w := w) (im := im) (((List.range k).map (fun i => RowKit.intOf (arr.getD i undef))).map d7) fb 0 1 cc hi hb (by simp; omega) (fun e he => by obtain ⟨_, _, rfl⟩ := List.mem_map.1 he; rfl) (fun i j hi hj => by
  have hi' : i < k := by simpa using hi
  rw [cell_of_row w fb _ _ 3 (0, 0) h1]
  have : j = 0 := by omega
  subst this
  have h4 := hg i hi'
  simp only [Nat.zero_add, Nat.mul_one, Nat.add_zero]
  rw [h4]; rfl) (fun i j e v u he hv hu => by
  rw [List.getElem?_map] at he
  obtain ⟨z, hz, rfl⟩ := Option.map_eq_some_iff.1 he
  have hj : j = 0 := by
   have := (List.getElem?_eq_some_iff.1 hv).1
   simp at this; exact this
  subst hj
  have hz2 : v = V.int .i64 z := by simpa using hv.symm
  subst hz2
  have hik : i < k := by
   have := (List.getElem?_eq_some_iff.1 hz).1
   simpa using this
  rw [cell_of_row w fb _ _ 3 (0, 0) h1] at hu
  simp only [Nat.zero_add, Nat.mul_one, Nat.add_zero] at hu
  rw [hg i hik] at hu
  have : u = .int .i64 z := by
   have e1 : (RowKit.intOf (arr.getD i undef)) = z := by simpa [hik] using hz
   rw [e1] at hu; cases hu; rfl
  subst this; exact .int _ _)
 have hlen : (((List.range k).map (fun i => RowKit.intOf (arr.getD i undef))).map d7).length = k := by simp
 rw [hlen] at this
 exact this
theorem Fs {w : World} {im : Nat → Prop} {ι : Nat → Con} {g cap : Nat} {c : List Int} (h : BlkRel w im ι (.row 3 1 (c.map d7)) (.row (some g) (c.map d7).length cap)) : FiZ w g c ∧ c.length ≤ cap := by
 obtain ⟨_, _, ⟨h, _⟩ | ⟨g', cap', arr, h1, h2, h3, h4, h5, h6⟩⟩ := h
 ·cases h
 ·cases h1
  rw [List.length_map] at h3
  refine ⟨⟨arr, h2, by omega, fun i hi => ?_⟩, h3⟩
  have hlt : i < arr.size := by omega
  have := h6 i 0 (d7 (c.getD i 0)) (.int .i64 (c.getD i 0)) arr[i] (by simp [hi]) rfl (by simp [hlt])
  rw [Array.getElem?_eq_getElem hlt, this.int_inv]
theorem Only.toBelow {fb : Nat} {w w' : World} {n : Nat} (h : Only fb w w') (hn : n ≤ fb) (hw : n ≤ w.heap.size) : Below n w w' := ⟨h.os, h.tape, h.output, h.size, fun k hk => h.frame k (by omega) (by omega)⟩
set_option maxHeartbeats 4000000 in
set_option maxRecDepth 100000 in
theorem xC (w : World) : Calls Tryz.prog 367 #[.slice none 0 0] w fun e w' => e = .returned (.slice none 0 0) ∧ w' = w := by
 go_enter Tryz.func367, Tryz.ntmps367
 go_wp2
 exact ⟨rfl, _, by simp [results, Tryz.results367, go_sem], rfl, rfl⟩
set_option maxHeartbeats 8000000 in
set_option maxRecDepth 100000 in
theorem wD (c : List Int) (hc : ∀ z, z ∈ c → z.natAbs ≤ 1000000) (hl : c.length ≤ 1000000) : kw 361 [cf c] (fun v => ∃ xs : List Int, v = cf xs ∧ xs.length ≤ 1000000) := by
 refine ⟨cJ (fn := Tryz.f361) (by kernel_rfl) rfl (by kernel_rfl), fun w im us hG hp => ?_⟩
 have hK := (FB c (by omega)).2 w im us hG hp
 obtain ⟨h1, h2⟩ := hp
 have hs : us.size = 1 := by simpa using h1
 have hu : us = #[us[0]] := by
  refine Array.ext (by simp [hs]) fun i hi hj => ?_
  match i, hj with
  | 0, _ => rfl
  | i + 1, h => simp at h
 rw [hu] at hK ⊢
 generalize us[0] = u at hK ⊢
 have hK' : Calls Tryz.prog 102 #[u] w fun e w1 => Below w.heap.size w w1 ∧ ((e = .returned (.slice none 0 0)) ∨ ∃ fb cap, e = .returned (.slice (some ⟨fb, 0, none⟩) c.length cap) ∧ w.heap.size ≤ fb ∧ FiZ w1 fb c ∧ c.length ≤ cap) := by
  refine hK.mono ?_
  rintro e w1 ⟨g, cap, rfl, hB, hgb, hR⟩
  refine ⟨hB, ?_⟩
  cases g with
  | none => exact .inl rfl
  | some fb =>
    obtain ⟨h3, h4⟩ := Fs hR
    rw [List.length_map]
    exact .inr ⟨fb, cap, rfl, hgb fb rfl, h3, h4⟩
 clear hK
 have hS0 := fun w1 => AnyF.slices_SortFunc_none (P := Tryz.prog) (ρ := Tryz.sortL_ren) { Tryz.sortL with } none 0 (.func (.func 366) #[] #[]) w1
 change ∀ w1, Calls Tryz.prog 365 _ _ _ at hS0
 go_enter Tryz.func361, Tryz.ntmps361
 go_wp2_with (first | (go_at_call 102; refine hK'.mono ?_; rintro e w1 ⟨hB, rfl | ⟨fb, cap, rfl, hfb, hF, hcap⟩⟩) | (go_at_call 365; first | (refine (yw _ fb cap c hF hc hl).mono ?_; rintro e w2 ⟨rfl, hF2, hO2⟩) | (refine (hS0 _).mono ?_; rintro e w2 ⟨rfl, rfl⟩)) | (go_at_call 367; first | (refine (xZ _ fb c.length cap hl hcap hF2).mono ?_; rintro e w3 ⟨⟨k, hk, rfl, hF3⟩, hO3⟩) | (refine (xC _).mono ?_; rintro e w3 ⟨rfl, rfl⟩)))
 ·exact ⟨rfl, _, by simp [results, Tryz.results361, go_sem], cf [], .slice none 0 0, ⟨[], rfl, by simp⟩, rfl, hB, .sl0 _ _⟩
 ·have hB3 : Below w.heap.size w w3 := (hB.trans (hO2.toBelow hfb (by have := hB.size; omega))).trans (hO3.toBelow hfb (by have := hB.size; have := hO2.size; omega))
  obtain ⟨xs, hxs, hrep⟩ := Ev (im := fun b => im b ∨ w.heap.size ≤ b) hF3 (.inr hfb) (show k ≤ cap by omega)
  exact ⟨rfl, _, by simp [results, Tryz.results361, go_sem], cf xs, .slice (some ⟨fb, 0, none⟩) k cap, ⟨xs, rfl, by omega⟩, rfl, hB3, hrep⟩
end Go.Vd
namespace Go.Vd
open Go.Proofs Go.RowKit
theorem kx {n : Nat} {w w' : World} (h : Below n w w') {b : Nat} (hb : b < n) (o : Nat) : w'.cell? ⟨b, o, none⟩ = w.cell? ⟨b, o, none⟩ := by
 simp only [World.cell?, h.block b hb]
theorem Glob.below {w w' : World} (h : Glob w) (hb : Below w.heap.size w w') : Glob w' := h.stays hb.size fun g hg => hb.block g (Nat.lt_of_lt_of_le hg h.1)
theorem yY {w : World} {im : Nat → Prop} {v : V} {u : Value} (h : RepV w im v u) : RepV w.drew im v u := RepV.mono (w := w) (w' := w.drew) (im := im) (im' := im) (fun _ h1 _ => ⟨h1, rfl⟩) h
theorem tF {n : Nat} {w w' : World} (h : Below n w.drew w') : Below n w w' := ⟨h.os, h.tape, h.output, h.size, h.block⟩
theorem EJ {n m : Nat} {w w' : World} (h : Below n w w') (hm : m ≤ n) : Below m w w' := ⟨h.os, h.tape, h.output, h.size, fun k hk => h.block k (Nat.lt_of_lt_of_le hk hm)⟩
set_option maxHeartbeats 8000000 in
set_option maxRecDepth 100000 in
theorem Cf (d own : List Int) (hd : ∀ z, z ∈ d → z.natAbs ≤ 1000000) (hdl : d.length ≤ 1000000) (ho : own.length ≤ 1000000) : kw 362 [cf d, .ref [cf own]] (fun v => ∃ t, v = .bool t) := by
 refine ⟨cJ (fn := Tryz.f362) (by kernel_rfl) rfl (by kernel_rfl), fun w im us hG hp => ?_⟩
 obtain ⟨h1, h2⟩ := hp
 have hs : us.size = 2 := by simpa using h1
 have e0 := h2 0 _ us[0] rfl (by simp [hs])
 obtain ⟨b, n, hp1, him, hbl, hc, hv⟩ := j9 (h2 1 _ us[1] rfl (by simp [hs]))
 have hu : us = #[us[0], .pointer (some ⟨b, n, none⟩)] := by
  refine Array.ext (by simp [hs]) fun i hi hj => ?_
  match i, hj with
  | 0, _ => rfl
  | 1, _ => exact hp1
  | i + 2, h => simp at h; omega
 obtain ⟨ow, how⟩ := Option.isSome_iff_exists.1 (hc 0 (by simp))
 have hrow := hv 0 _ ow rfl how
 rw [hu]
 generalize us[0] = u at e0 ⊢
 rw [Nat.add_zero] at how
 have hD : w.drew.cell? ⟨b, n, none⟩ = some ow := how
 have hG' : Glob w.drew := hG
 have hK1 : Calls Tryz.prog 361 #[u] w.drew fun e w1 => ∃ xs v, e = .returned v ∧ (xs.length ≤ 1000000 ∧ Below w.heap.size w w1 ∧ RepV w1 (fun b => im b ∨ w.heap.size ≤ b) (cf xs) v) ∧ w1.cell? ⟨b, n, none⟩ = some ow := by
  refine Calls.mono ((wD d hd hdl).2 w.drew im #[u] hG' ⟨rfl, fun i v u' hv hu => by
   match i, hv, hu with
   | 0, rfl, rfl => exact yY e0⟩) ?_
  rintro e w1 ⟨_, v, ⟨xs, rfl, hx⟩, rfl, hB, hr⟩
  exact ⟨xs, v, rfl, ⟨hx, tF hB, hr⟩, (kx hB hbl n).trans hD⟩
 have hK2 : ∀ xs v w1, (xs.length ≤ 1000000 ∧ Below w.heap.size w w1 ∧ RepV w1 (fun b => im b ∨ w.heap.size ≤ b) (cf xs) v) → Calls Tryz.prog 363 #[v, ow] w1 fun e w2 => ∃ t, e = .returned (.bool t) ∧ Below w.heap.size w w2 := by
  rintro xs v w1 ⟨hx, hB, hr⟩
  refine Calls.mono ((Cp xs own (by omega) (by omega)).2 w1 (fun b => im b ∨ w.heap.size ≤ b) #[v, ow] (hG.below hB) ⟨rfl, fun i v u' hv hu => by
   match i, hv, hu with
   | 0, rfl, rfl => exact hr
   | 1, rfl, rfl => exact hrow.mono fun b h1 h2 => ⟨.inl h1, hB.block b h2⟩⟩) ?_
  rintro e w2 ⟨_, v, ⟨t, rfl⟩, rfl, hB2, hr2⟩
  cases hr2.bool_inv
  exact ⟨t, rfl, hB.trans (EJ hB2 hB.size)⟩
 have mixed : Tryz.prog.follows .mixedOrders = true := by kernel_rfl
 clear hG hG' hp1 e0 hrow hv hc
 go_enter Tryz.func362, Tryz.ntmps362
 go_wp2
 go_region_with (first | (go_at_call 361; refine hK1.mono ?_; rintro e w1 ⟨xs, v, rfl, hX, hD1⟩) | (go_at_call 363; refine (hK2 _ _ _ hX).mono ?_; rintro e w2 ⟨t, rfl, hB2⟩))
 all_goals (go_wp2; exact ⟨rfl, _, by simp [results, Tryz.results362, go_sem], _, _, ⟨t, rfl⟩, rfl, hB2, .bool t⟩)
end Go.Vd
namespace Go.Vd
open Go.Proofs Go.RowKit
def LsW (w0 : World) (im : Nat → Prop) (w : World) (u : Value) (l : List (List Int)) : Prop :=
 (u = .slice none 0 0 ∧ l = []) ∨ ∃ g arr, u = .slice (some ⟨g, 0, none⟩) l.length arr.size ∧ w0.heap.size ≤ g ∧ w.heap[g]? = some (.cells arr 30 (0, 0)) ∧ l.length ≤ arr.size ∧ arr.size ≤ maxLen ∧ ∀ i, i < l.length → ∃ v, arr[i]? = some v ∧ RepV w0 im (cf (l.getD i [])) v
theorem u0 {w0 w : World} {im : Nat → Prop} {v : V} {u : Value} (h : RepV w0 im v u) (hb : Below w0.heap.size w0 w) : RepV w (fun b => im b ∨ w0.heap.size ≤ b) v u := h.mono fun b h1 h2 => ⟨.inl h1, hb.block b h2⟩
theorem jC {w : World} {im : Nat → Prop} {c : List Int} {u : Value} (h : RepV w im (cf c) u) : ∃ ad cc, u = .slice ad c.length cc := by
 obtain ⟨ad, cc, h, _⟩ := jO h
 exact ⟨ad, cc, h⟩
theorem LsW.rep {w0 w : World} {im : Nat → Prop} {u : Value} {l : List (List Int)} (h : LsW w0 im w u l) (hb : Below w0.heap.size w0 w) : RepV w (fun b => im b ∨ w0.heap.size ≤ b) (dS l) u := by
 rcases h with ⟨rfl, rfl⟩ | ⟨g, arr, rfl, h1, h2, h3, hmx, h4⟩
 ·exact .sl0 _ _
 ·have := RepV.sl (w := w) (im := fun b => im b ∨ w0.heap.size ≤ b) (l.map dw) g 0 1 arr.size (.inr h1) (Array.getElem?_eq_some_iff.1 h2).1 (by simp; exact h3) (fun e he => by obtain ⟨_, _, rfl⟩ := List.mem_map.1 he; rfl) (fun i j hi hj => by
   have hi' : i < l.length := by simpa using hi
   rw [cell_of_row w g _ _ 30 (0, 0) h2]
   have : j = 0 := by omega
   subst this
   obtain ⟨v, hv, _⟩ := h4 i hi'
   simp [hv]) (fun i j e v u he hv hu => by
   rw [List.getElem?_map] at he
   obtain ⟨z, hz, rfl⟩ := Option.map_eq_some_iff.1 he
   have hj : j = 0 := by
    have := (List.getElem?_eq_some_iff.1 hv).1
    simp [dw] at this; exact this
   subst hj
   have hz2 : v = cf z := by simpa [dw] using hv.symm
   subst hz2
   have hil := (List.getElem?_eq_some_iff.1 hz).1
   obtain ⟨v', hv', hr⟩ := h4 i hil
   rw [cell_of_row w g _ _ 30 (0, 0) h2] at hu
   simp only [Nat.zero_add, Nat.mul_one, Nat.add_zero, hv', Option.some.injEq] at hu
   subst hu
   have : l.getD i [] = z := by rw [List.getD_eq_getElem?_getD, hz]; rfl
   rw [this] at hr
   exact u0 hr hb)
  simpa using this
theorem LsW.frame {w0 w w' : World} {im : Nat → Prop} {u : Value} {l : List (List Int)} (h : LsW w0 im w u l) (hb : Below w.heap.size w w') : LsW w0 im w' u l := by
 rcases h with h | ⟨g, arr, rfl, h1, h2, h3, hmx, h4⟩
 ·exact .inl h
 ·exact .inr ⟨g, arr, rfl, h1, (hb.block g (Array.getElem?_eq_some_iff.1 h2).1).trans h2, h3, hmx, h4⟩
theorem IN : ∃ i, Tryz.prog.info? 30 = some i ∧ i.zero = some (.slice none 0 0) ∧ i.size = 1 ∧ i.bytes = 24 := info_parts (by kernel_rfl)
theorem Af : Tryz.prog.underlying 96 = some (.slice 30) := by kernel_rfl
theorem CB (k : Nat) : (Builtin.zeroCells #[Value.slice none 0 0] k).size = k := by simp [Builtin.zeroCells]
theorem LsW.app {w0 w : World} {im : Nat → Prop} {u v : Value} {l : List (List Int)} {c : List Int} {tb : Nat} (h : LsW w0 im w u l) (hw : w0.heap.size ≤ w.heap.size) (hv : RepV w0 im (cf c) v) (hl : l.length + 1 ≤ 1000000000) (htm : w.heap[tb]? = some (.cells #[v] 30 (0, 0))) (ty : TypeId) :
 ∃ u' w', (Builtin.append_ #[96, 96] ty #[u, .slice (some ⟨tb, 0, none⟩) 1 1]).run Tryz.prog w = .ok u' w' ∧ LsW w0 im w' u' (l ++ [c]) ∧ Below w0.heap.size w w' := by
 obtain ⟨ti, hi, hz, his, hib⟩ := IN
 have hone : v.oneCell' = true := by
  obtain ⟨ad, cc, rfl⟩ := jC hv
  rfl
 have hnw : ∀ j u, [v][j]? = some u → w.cell? ((⟨tb, 0, none⟩ : Addr).add j) = some u := fun j u hj => by
  match j, hj with
  | 0, rfl => exact aY htm rfl
 have hget : ∀ i, i < l.length → (l ++ [c]).getD i [] = l.getD i [] := fun i hi => by
  rw [List.getD_eq_getElem?_getD, List.getD_eq_getElem?_getD, List.getElem?_append_left hi]
 have hlast : (l ++ [c]).getD l.length [] = c := by simp
 have hnew : ∀ (olds : List Value) (cap : Nat), olds.length = l.length → (∀ i, i < l.length → ∃ v, olds[i]? = some v ∧ RepV w0 im (cf (l.getD i [])) v) → l.length + 1 ≤ cap → cap ≤ maxLen →
  LsW w0 im (w.drew.alloc (.cells ((olds ++ [v]).toArray ++ Builtin.zeroCells (Value.slice none 0 0).cells (cap - (l.length + 1))) 30)) (.slice (some ⟨w.heap.size, 0, none⟩) (l.length + 1) cap) (l ++ [c]) ∧ Below w0.heap.size w (w.drew.alloc (.cells ((olds ++ [v]).toArray ++ Builtin.zeroCells (Value.slice none 0 0).cells (cap - (l.length + 1))) 30)) := by
  intro olds cap ho hall hcap hmax
  have hsz : ((olds ++ [v]).toArray ++ Builtin.zeroCells (Value.slice none 0 0).cells (cap - (l.length + 1))).size = cap := by
   rw [Array.size_append]
   show _ + (Builtin.zeroCells #[Value.slice none 0 0] _).size = _
   rw [CB]; simp [ho]; omega
  refine ⟨.inr ⟨w.heap.size, _, ?_, hw, heap_alloc_new w.drew _, by rw [hsz]; simpa using hcap, by rw [hsz]; exact hmax, fun i hi => ?_⟩, rfl, rfl, rfl, by simp, fun b hb => Below.heap_alloc w.drew _ b (Nat.lt_of_lt_of_le hb hw)⟩
  ·rw [hsz]; simp
  ·rw [Array.getElem?_append_left (by simp [ho] at hi ⊢; omega), List.getElem?_toArray]
   by_cases hil : i < l.length
   ·obtain ⟨v', h1, h2⟩ := hall i hil
    exact ⟨v', by rw [List.getElem?_append_left (by omega)]; exact h1, by rw [hget i hil]; exact h2⟩
   ·have : i = l.length := by simp at hi; omega
    subst this
    exact ⟨v, by rw [List.getElem?_append_right (by omega), ho]; simp, by rw [hlast]; exact hv⟩
 rcases h with ⟨rfl, rfl⟩ | ⟨g, arr, rfl, h1, h2, h3, hmx, h4⟩
 ·have hrun := jj (ty := ty) (w := w) Af Af hi hz ⟨tb, 0, none⟩ 1 1 [v] (by simp [his]) hnw (by omega) (by omega) (by rw [hib]; omega)
  obtain ⟨q1, q2⟩ := hnew [] (grownCap w 1 0 30) rfl (fun i hi => by simp at hi) (grownCap_ge w 1 0 30) (grownCap_le_maxLen w 1 0 30 (by decide))
  exact ⟨_, _, hrun, q1, q2⟩
 ·by_cases hroom : l.length + 1 ≤ arr.size
  ·have hrun := mo (ty := ty) (w := w) Af Af hi g l.length arr.size arr h2 ⟨tb, 0, none⟩ 1 1 [v] (by simp [his]) hnw (fun u hu => by rw [List.mem_singleton] at hu; subst hu; exact hone) hroom (by simp [his]; omega)
   have hset := setRow_heap w g arr (arr.toList.take (l.length * ti.size) ++ [v] ++ arr.toList.drop (l.length * ti.size + [v].length)).toArray 30 (0, 0) h2
   rw [his] at hrun hset
   simp only [Nat.mul_one] at hrun hset
   have hsz : ((arr.toList.take l.length ++ [v] ++ arr.toList.drop (l.length + [v].length)).toArray).size = arr.size := by simp; omega
   refine ⟨_, _, hrun, .inr ⟨g, _, ?_, h1, hset, by rw [hsz]; simpa using hroom, by rw [hsz]; exact hmx, fun i hi => ?_⟩, rfl, rfl, rfl, by simp, fun b hb => setRow_other w g b _ (by omega)⟩
   ·rw [hsz]; simp
   ·rw [List.getElem?_toArray, List.append_assoc]
    by_cases hil : i < l.length
    ·obtain ⟨v', q1, q2⟩ := h4 i hil
     exact ⟨v', by rw [List.getElem?_append_left (by simp; omega), List.getElem?_take_of_lt hil, Array.getElem?_toList]; exact q1, by rw [hget i hil]; exact q2⟩
    ·have : i = l.length := by simp at hi; omega
     subst this
     have e1 : l.length - (arr.toList.take l.length).length = 0 := by rw [List.length_take, Nat.min_eq_left (show l.length ≤ arr.toList.length from h3), Nat.sub_self]
     exact ⟨v, by rw [List.getElem?_append_right (by rw [List.length_take]; exact Nat.min_le_left _ _), e1]; rfl, by rw [hlast]; exact hv⟩
  ·have hlen : l.length = arr.size := by omega
   have hold : (arr.toList.take l.length).length = l.length := by simp; omega
   have hrun := iw (ty := ty) (w := w) Af Af hi hz ⟨g, 0, none⟩ l.length arr.size (arr.toList.take l.length) (by rw [hold, his, Nat.mul_one]) (fun j v hj => by
    rw [List.getElem?_take] at hj
    split at hj
    ·rw [Addr.add_lit, cell_of_row w g (0 + j) arr 30 (0, 0) h2]; simpa using hj
    ·cases hj) ⟨tb, 0, none⟩ 1 1 [v] (by simp [his]) hnw (by omega) (by omega) (by rw [hib]; exact growslice_fits (by omega) (by omega))
   obtain ⟨q1, q2⟩ := hnew (arr.toList.take l.length) (grownCap w (l.length + 1) arr.size 30) hold (fun i hi => by
    obtain ⟨v', q1, q2⟩ := h4 i hi
    exact ⟨v', by rw [List.getElem?_take_of_lt hi, Array.getElem?_toList]; exact q1, q2⟩) (grownCap_ge w (l.length + 1) arr.size 30) (grownCap_le_maxLen w (l.length + 1) arr.size 30 (by simp only [maxLen]; omega))
   exact ⟨_, _, hrun, q1, q2⟩
end Go.Vd
namespace Go.Vd
open Go.Proofs Go.RowKit
theorem LsW.app_new {w0 w1 : World} {im : Nat → Prop} {u v : Value} {l : List (List Int)} {c : List Int} (h : LsW w0 im w1 u l) (hB : Below w0.heap.size w0 w1) (hv : RepV w0 im (cf c) v) (hl : l.length ≤ 1000000) :
 ∃ u' w2, (∀ ty, (Builtin.append_ #[96, 96] ty #[u, .slice (some ⟨w1.heap.size, 0, none⟩) 1 1]).run Tryz.prog (w1.alloc (.cells #[v] 30)) = .ok u' w2) ∧ LsW w0 im w2 u' (l ++ [c]) ∧ Below w0.heap.size w0 w2 := by
 have hA : Below w1.heap.size w1 (w1.alloc (.cells #[v] 30)) := ⟨rfl, rfl, rfl, by simp, fun b hb => Below.heap_alloc _ _ b hb⟩
 obtain ⟨u', w2, hr, hL, hB2⟩ := (h.frame hA).app (ty := 96) (by have := hB.size; have := hA.size; omega) hv (by omega) (heap_alloc_new w1 _)
 exact ⟨u', w2, fun ty => hr, hL, (hB.trans (hA.mono hB.size)).trans hB2⟩
set_option maxHeartbeats 8000000 in
set_option maxRecDepth 100000 in
theorem qL (w0 w : World) (im : Nat → Prop) (n : Nat) (l : List (List Int)) (c : List Int) (u uc : Value) (hG : Glob w0) (hB : Below w0.heap.size w0 w) (hL : LsW w0 im w u l) (hc : RepV w0 im (cf c) uc) (hb : uf n l) (hcl : c.length ≤ 1000000) (hcx : ∀ x, x ∈ c → x ≠ 0 ∧ x.natAbs ≤ n) :
 Calls Tryz.prog 353 #[uc, .int .i64 n, u] w fun e w' => Below w0.heap.size w0 w' ∧ ∃ u' t, e = .returned (.tuple #[u', .bool t]) ∧ lU l (c.map (fun x => -x)) t ∧ LsW w0 im w' u' (if t then l ++ [c] else l) := by
 have hbl := hb.hl
 have hK : Calls Tryz.prog 354 #[.int .i64 n, u, uc] w fun e w1 => ∃ t, e = .returned (.bool t) ∧ Below w0.heap.size w0 w1 ∧ lU l (c.map (fun x => -x)) t ∧ LsW w0 im w1 u l := by
  refine Calls.mono ((Cr n l c hb hcl hcx).2 w (fun b => im b ∨ w0.heap.size ≤ b) #[.int .i64 n, u, uc] (hG.below hB) ⟨rfl, fun i v u' hv hu => by
   match i, hv, hu with
   | 0, rfl, rfl => exact .int _ _
   | 1, rfl, rfl => exact hL.rep hB
   | 2, rfl, rfl => exact u0 hc hB⟩) ?_
  rintro e w1 ⟨_, v, ⟨t, rfl, ht⟩, rfl, hB1, hr⟩
  cases hr.bool_inv
  exact ⟨t, rfl, hB.trans (hB1.mono hB.size), ht, hL.frame hB1⟩
 clear hL hB hG hb hcx
 obtain ⟨ad, cc, rfl⟩ := jC hc
 go_enter Tryz.func353, Tryz.ntmps353
 go_wp2_with (first | (go_at_call 354; refine hK.mono ?_; rintro e w1 ⟨t, rfl, hB, ht, hL⟩; obtain ⟨u', w2, hrun, hL2, hB2⟩ := hL.app_new hB hc hbl; clear hK; cases t) | (at_builtin; refine iX rfl rfl (hrun _) ?_))
 ·exact ⟨rfl, _, by simp [results, Tryz.results353, go_sem], hB, u, false, rfl, ht, hL⟩
 ·exact ⟨rfl, _, by simp [results, Tryz.results353, go_sem], hB2, u', true, rfl, ht, hL2⟩
end Go.Vd
namespace Go.Proofs
open Go.Shelf
def Tryz.delL_ren : Ren := ⟨fun | 45=>364 | n=>n, fun | 22=>96 | 23=>30 | 3=>3 | 4=>4 | 0=>0 | n=>n, fun | n=>n⟩
theorem Tryz.delL : SlLaysE.n45 Tryz.prog Tryz.delL_ren := ⟨by kernel_rfl, ⟨f364.name, by decide, func364.trans (congrArg some (by kernel_rfl))⟩, underlying0, isAgg0, sizeOf0, zeroValue0, underlying3, isAgg3, sizeOf3, zeroValue3, underlying4, isAgg4, sizeOf4, zeroValue4, underlying96, isAgg96, sizeOf96, zeroValue96, isAgg30, sizeOf30⟩
end Go.Proofs
namespace Go.Vd
open Go.Proofs Go.RowKit Go.Shelf Go.Sort
abbrev OC : Type := { v : Value // v.oneCell' = true }
instance : Inhabited OC := ⟨⟨.slice none 0 0, rfl⟩⟩
def rU (v : OC) : Value := v.1
theorem xO (w0 w : World) (im : Nat → Prop) (u : Value) (l : List (List Int)) (i : Nat) (hL : LsW w0 im w u l) (hi : i < l.length) :
 Calls Tryz.prog 364 #[u, .int .i64 i, .int .i64 (i + 1 : Nat)] w fun e w' => ∃ u', e = .returned u' ∧ LsW w0 im w' u' (l.eraseIdx i) ∧ Below w0.heap.size w w' := by
 rcases hL with ⟨rfl, rfl⟩ | ⟨g, arr, rfl, h1, h2, h3, hmx, h4⟩
 ·simp at hi
 ·have hb : g < w.heap.size := (Array.getElem?_eq_some_iff.1 h2).1
  obtain ⟨d, hd1, hd2⟩ : ∃ d : Array OC, d.size = l.length ∧ ∀ j, j < l.length → arr[j]? = some (rU d[j]!) := by
   refine ⟨((List.range l.length).map fun i => if h : (arr.getD i undef).oneCell' = true then (⟨_, h⟩ : OC) else default).toArray, by simp, fun j hj => ?_⟩
   obtain ⟨v, hv, hr⟩ := h4 j hj
   have ho : v.oneCell' = true := by
    obtain ⟨ad, cc, rfl⟩ := jC hr
    rfl
   have hg : arr.getD j undef = v := by rw [Array.getD_eq_getD_getElem?, hv]; rfl
   rw [hv, getElem!_pos _ j (by simpa using hj)]
   simp only [List.getElem_toArray, List.getElem_map, List.getElem_range, hg]
   rw [dif_pos ho]
   rfl
  have hH : Holds rU w g 0 d := fun j hj => by
   rw [hd1] at hj
   exact ⟨by rw [Nat.zero_add, cell_of_row w g j arr 30 (0, 0) h2, hd2 j hj], bQ h2⟩
  have hD := AnyE.slices_Delete Tryz.delL rU (fun x => x.2) (⟨.slice none 0 0, rfl⟩ : OC) (fun w => by kernel_rfl) Tryz.t30 (by kernel_rfl) (by kernel_rfl) g 0 arr.size i (i + 1) d w hH (by omega) (by simp only [maxLen] at hmx; omega) (by omega) (by omega)
  change Calls Tryz.prog 364 _ _ _ at hD
  rw [hd1] at hD
  refine hD.mono ?_
  rintro e w' ⟨rfl, q, hw⟩
  have hlen : (l.eraseIdx i).length = l.length - (i + 1 - i) := by rw [List.length_eraseIdx, if_pos hi]; omega
  have hds : ((d.toList.take i ++ d.toList.drop (i + 1) ++ List.replicate (i + 1 - i) (⟨.slice none 0 0, rfl⟩ : OC)).toArray).size = l.length := by simp [hd1]; omega
  have hdk : ∀ k, k < l.length - (i + 1 - i) → rU ((d.toList.take i ++ d.toList.drop (i + 1) ++ List.replicate (i + 1 - i) (⟨.slice none 0 0, rfl⟩ : OC)).toArray)[k]! = rU (if k < i then d[k]! else d[k + 1]!) := by
   intro k hk
   rw [getElem!_pos _ k (by rw [hds]; omega), List.getElem_toArray, List.getElem_append_left (by simp [hd1]; omega)]
   by_cases hki : k < i
   ·rw [if_pos hki, List.getElem_append_left (by simp [hd1]; omega), getElem!_pos d k (by omega)]
    simp
   ·rw [if_neg hki, List.getElem_append_right (by simp; omega), getElem!_pos d (k + 1) (by omega)]
    simp only [List.getElem_drop, List.length_take, Array.length_toList, Array.getElem_toList]
    congr 2
    omega
  generalize (d.toList.take i ++ d.toList.drop (i + 1) ++ List.replicate (i + 1 - i) (⟨.slice none 0 0, rfl⟩ : OC)).toArray = d' at hds hdk hw
  have hfr : ∀ b, b ≠ g → w'.heap[b]? = w.heap[b]? := fun b hne => by
   rw [hw]
   show (w.heap.modify g _)[b]? = _
   rw [Array.getElem?_modify, if_neg (Ne.symm hne)]
  have hps : (putCells rU 0 d' arr).size = arr.size := by simp [putCells]
  refine ⟨_, rfl, .inr ⟨g, putCells rU 0 d' arr, by rw [hps, hlen], h1, ?_, by rw [hps, hlen]; omega, by rw [hps]; exact hmx, fun k hk => ?_⟩, ⟨by rw [hw]; rfl, by rw [hw]; rfl, by rw [hw]; rfl, by rw [hw]; have := Sort.size_putRow rU (Sort.ahead w q) g 0 d'; have h5 : (Sort.ahead w q).heap.size = w.heap.size := rfl; omega, fun b hb => hfr b (by omega)⟩⟩
  ·rw [hw]
   show (w.heap.modify g _)[g]? = _
   rw [Array.getElem?_modify, if_pos rfl, h2]
   rfl
  ·rw [hlen] at hk
   have hk2 : k < arr.size := by omega
   refine ⟨rU (if k < i then d[k]! else d[k + 1]!), ?_, ?_⟩
   ·unfold putCells
    rw [Array.getElem?_mapIdx, Array.getElem?_eq_getElem hk2]
    simp only [Option.map_some, Nat.zero_le, true_and, Nat.zero_add, Nat.sub_zero, if_pos (show k < d'.size by omega)]
    rw [hdk k hk]
   ·by_cases hki : k < i
    ·rw [if_pos hki]
     obtain ⟨v, hv, hr⟩ := h4 k (by omega)
     rw [hd2 k (by omega)] at hv
     cases hv
     rw [List.getD_eq_getElem?_getD, List.getElem?_eraseIdx, if_pos hki]
     rw [List.getD_eq_getElem?_getD] at hr
     exact hr
    ·rw [if_neg hki]
     obtain ⟨v, hv, hr⟩ := h4 (k + 1) (by omega)
     rw [hd2 (k + 1) (by omega)] at hv
     cases hv
     rw [List.getD_eq_getElem?_getD, List.getElem?_eraseIdx, if_neg hki]
     rw [List.getD_eq_getElem?_getD] at hr
     exact hr
end Go.Vd
namespace Go.Vd
open Go.Proofs Go.RowKit
theorem vL (w0 w1 : World) (im : Nat → Prop) (l : List (List Int)) (own : List Int) (u v : Value) (hG : Glob w0) (hB : Below w0.heap.size w0 w1) (hL : LsW w0 im w1 u l) (hv : RepV w1 (fun b => im b ∨ w0.heap.size ≤ b) (cf own) v) (hl : l.length ≤ 1000000) (hlx : ∀ c, c ∈ l → c.length ≤ 1000000 ∧ ∀ x, x ∈ c → x.natAbs ≤ 1000000) (ho : own.length ≤ 1000000) :
 Calls Tryz.prog 234 #[u, .func (.func 362) #[] #[.pointer (some ⟨w1.heap.size, 0, none⟩)]] (w1.alloc (.cells #[v] 30)) fun e w2 => ∃ n : Int, e = .returned (.int .i64 n) ∧ -1 ≤ n ∧ n < l.length ∧ Below w0.heap.size w0 w2 ∧ LsW w0 im w2 u l := by
 have hA : Below w1.heap.size w1 (w1.alloc (.cells #[v] 30)) := ⟨rfl, rfl, rfl, by simp, fun b hb => Below.heap_alloc _ _ b hb⟩
 have hn := heap_alloc_new w1 (.cells #[v] 30)
 have hsz : w1.heap.size < (w1.alloc (.cells #[v] 30)).heap.size := by simp
 generalize w1.alloc (.cells #[v] 30) = w3 at hA hn hsz ⊢
 have hB3 : Below w0.heap.size w0 w3 := hB.trans (hA.mono hB.size)
 have hL3 : LsW w0 im w3 u l := hL.frame hA
 have hv3 : RepV w3 (fun b => im b ∨ w0.heap.size ≤ b) (cf own) v := gT hv hA
 have hfn : RepV w3 (fun b => im b ∨ w0.heap.size ≤ b) (.fn (.func 362) [] [.ref [cf own]]) (.func (.func 362) #[] #[.pointer (some ⟨w1.heap.size, 0, none⟩)]) := by
  refine .fn _ [] _ #[] _ rfl rfl (fun i v u h _ => by simp at h) (fun i x y hx hy => ?_)
  match i, hx, hy with
  | 0, rfl, rfl =>
    refine .ref _ _ _ (.inr hB.size) hsz (fun j hj => ?_) (fun j x y hx hy => ?_)
    ·have : j = 0 := by simp at hj; exact hj
     subst this
     rw [aY hn (rfl : _ = some v)]; rfl
    ·match j, hx with
     | 0, rfl =>
       rw [aY hn (rfl : _ = some v)] at hy
       cases hy
       exact hv3
 refine Calls.mono ((zB l 362 [] [.ref [cf own]] (by omega) (fun x hx => Cf x own (hlx x hx).2 (hlx x hx).1 ho)).2 w3 (fun b => im b ∨ w0.heap.size ≤ b) #[u, _] (hG.below hB3) ⟨rfl, fun i v u' hv hu => by
  match i, hv, hu with
  | 0, rfl, rfl => exact hL3.rep hB3
  | 1, rfl, rfl => exact hfn⟩) ?_
 rintro e w2 ⟨_, v, ⟨n, rfl, h1, h2⟩, rfl, hB2, hr⟩
 cases hr.int_inv
 exact ⟨n, rfl, h1, h2, hB3.trans (hB2.mono hB3.size), hL3.frame hB2⟩
set_option maxHeartbeats 8000000 in
set_option maxRecDepth 100000 in
theorem vP (w0 w : World) (im : Nat → Prop) (n : Int) (l : List (List Int)) (c : List Int) (u uc : Value) (hG : Glob w0) (hB : Below w0.heap.size w0 w) (hL : LsW w0 im w u l) (hc : RepV w0 im (cf c) uc) (hcl : c.length ≤ 1000000) (hcx : ∀ x, x ∈ c → x.natAbs ≤ 1000000) (hl : l.length ≤ 1000000) (hlx : ∀ c, c ∈ l → c.length ≤ 1000000 ∧ ∀ x, x ∈ c → x.natAbs ≤ 1000000) :
 Calls Tryz.prog 360 #[uc, .int .i64 n, u] w fun e w' => Below w0.heap.size w0 w' ∧ ∃ u' t l', e = .returned (.tuple #[u', .bool t]) ∧ LsW w0 im w' u' l' ∧ l'.length ≤ l.length ∧ ∀ x, x ∈ l' → x ∈ l := by
 have hK : Calls Tryz.prog 361 #[uc] w fun e w1 => ∃ own v, e = .returned v ∧ own.length ≤ 1000000 ∧ Below w0.heap.size w0 w1 ∧ LsW w0 im w1 u l ∧ RepV w1 (fun b => im b ∨ w0.heap.size ≤ b) (cf own) v := by
  refine Calls.mono ((wD c hcx hcl).2 w (fun b => im b ∨ w0.heap.size ≤ b) #[uc] (hG.below hB) ⟨rfl, fun i v u' hv hu => by
   match i, hv, hu with
   | 0, rfl, rfl => exact u0 hc hB⟩) ?_
  rintro e w1 ⟨_, v, ⟨own, rfl, ho⟩, rfl, hB1, hr⟩
  refine ⟨own, v, rfl, ho, hB.trans (hB1.mono hB.size), hL.frame hB1, hr.mono fun b h1 h2 => ⟨h1.elim id (fun h => .inr (Nat.le_trans hB.size h)), rfl⟩⟩
 have hdel : ∀ w2 (i : Int), 0 ≤ i → i < l.length → LsW w0 im w2 u l → Below w0.heap.size w0 w2 → Calls Tryz.prog 364 #[u, .int .i64 i, .int .i64 (i + 1)] w2 fun e w' => ∃ u' l', e = .returned u' ∧ LsW w0 im w' u' l' ∧ Below w0.heap.size w0 w' ∧ l'.length ≤ l.length ∧ ∀ x, x ∈ l' → x ∈ l := by
  intro w2 i h0 h1 h2 h3
  obtain ⟨k, rfl⟩ : ∃ k : Nat, i = (k : Int) := ⟨i.toNat, by omega⟩
  have := xO w0 w2 im u l k h2 (by omega)
  refine Calls.mono this ?_
  rintro e w' ⟨u', rfl, h4, h5⟩
  refine ⟨u', _, rfl, h4, h3.trans h5, ?_, fun x hx => List.mem_of_mem_eraseIdx hx⟩
  rw [List.length_eraseIdx]
  split <;> omega
 go_enter Tryz.func360, Tryz.ntmps360
 go_wp2_with (first | (go_at_call 361; refine hK.mono ?_; rintro e w1 ⟨own, v, rfl, ho, hB1, hL1, hv1⟩; have hfind := vL w0 w1 im l own u v hG hB1 hL1 hv1 hl hlx ho; obtain ⟨ad, cc, rfl⟩ := jC hv1) | (go_at_call 234; refine hfind.mono ?_; rintro e w2 ⟨i, rfl, hi1, hi2, hB2, hL2⟩ ) | (go_at_call 364; refine (hdel _ i (by omega) (by omega) hL2 hB2).mono ?_; rintro e w3 ⟨u', l', rfl, hL3, hB3, hl1, hl2⟩))
 ·exact ⟨rfl, _, by simp [results, Tryz.results360, go_sem], hB2, u, false, l, rfl, hL2, Nat.le_refl _, fun _ h => h⟩
 ·exact ⟨rfl, _, by simp [results, Tryz.results360, go_sem], hB3, u', true, l', rfl, hL3, hl1, hl2⟩
end Go.Vd
namespace Go.Vd
open Go.Proofs Go.RowKit
theorem Fz {w : World} {im : Nat → Prop} {p : List ii} {u : Value} (h : RepV w im (lu p) u) : ∃ ad cc, u = .slice ad p.length cc ∧ ∀ i, i < p.length → ∃ b o uc, ad = some ⟨b, o, none⟩ ∧ b < w.heap.size ∧ p.length ≤ cc ∧ w.cell? ⟨b, o + i * 2, none⟩ = some (.bool (p.getD i default).del) ∧ w.cell? ⟨b, o + i * 2 + 1, none⟩ = some uc ∧ RepV w im (cf (p.getD i default).c) uc := by
 generalize he : lu p = v at h
 cases h with
 | sl0 a cc =>
   have : p = [] := by simpa using he
   subst this
   exact ⟨a, cc, rfl, fun i hi => by simp at hi⟩
 | sl es b o sz cc hb hl hcap hs hc hv =>
   have he' : es = p.map nQ := by cases he; rfl
   subst he'
   refine ⟨some ⟨b, o, none⟩, cc, by simp, fun i hi => ?_⟩
   have hget : (p.map nQ)[i]? = some (nQ (p.getD i default)) := by
    rw [List.getElem?_map, List.getElem?_eq_getElem hi]; simp [hi]
   have hsz : sz = 2 := (hs _ (List.mem_of_getElem? hget)).symm
   subst hsz
   have h1 := hc i 0 (by simpa using hi) (by omega)
   obtain ⟨u, hu⟩ := Option.isSome_iff_exists.1 h1
   have h2 := (hv i 0 _ _ u hget rfl hu).bool_inv
   subst h2
   have h3 := hc i 1 (by simpa using hi) (by omega)
   obtain ⟨u, hu3⟩ := Option.isSome_iff_exists.1 h3
   exact ⟨b, o, u, rfl, hl, by simpa using hcap, by simpa using hu, hu3, hv i 1 _ _ u hget rfl hu3⟩
 | _ => cases he
set_option maxHeartbeats 8000000 in
set_option maxRecDepth 100000 in
theorem Bc (w : World) (d : Bool) (ad : Option Addr) (k cc : Nat) : Calls Tryz.prog 105 #[.agg #[.bool d, .slice ad k cc]] w fun e w1 => e = .returned (.iface (if d then 310 else 220) (.slice ad k cc)) ∧ Below w.heap.size w w1 := by
 have hB : Below w.heap.size w (w.alloc (.cells #[.bool d, .slice ad k cc] 174)) := ⟨rfl, rfl, rfl, by simp, fun b hb => Below.heap_alloc _ _ b hb⟩
 cases d
 ·go_enter Tryz.func105, Tryz.ntmps105
  go_wp2
  go_ret
  exact ⟨rfl, hB⟩
 ·go_enter Tryz.func105, Tryz.ntmps105
  go_wp2
  go_ret
  exact ⟨rfl, hB⟩
def IX (f l : List (List Int)) : Prop := ∀ m, kC f [] m → kC l [] m
structure yP (n : Nat) (s : ii) : Prop where
 hl : s.c.length ≤ 1000000
 hx : ∀ x, x ∈ s.c → x ≠ 0 ∧ x.natAbs ≤ n
def yS (f : List (List Int)) (p : List ii) (e : Int) : Prop := (e = 0 → ∀ m, ¬ kC f [] m) ∧ (p = [⟨false, []⟩] → (∃ y, y ≠ 0 ∧ [y] ∈ f ∧ [-y] ∈ f) → e = 0)
theorem wB {w : World} {im : Nat → Prop} {l : List (List Int)} {u : Value} (h : RepV w im (dS l) u) : ∃ ad cc, u = .slice ad l.length cc ∧ ∀ i, i < l.length → ∃ b o v, ad = some ⟨b, o, none⟩ ∧ b < w.heap.size ∧ l.length ≤ cc ∧ w.cell? ⟨b, o + i, none⟩ = some v ∧ RepV w im (cf (l.getD i [])) v := by
 generalize he : dS l = v at h
 cases h with
 | sl0 a cc =>
   have : l = [] := by simpa using he
   subst this
   exact ⟨a, cc, rfl, fun i hi => by simp at hi⟩
 | sl es b o sz cc hb hl hcap hs hc hv =>
   have he' : es = l.map dw := by cases he; rfl
   subst he'
   refine ⟨some ⟨b, o, none⟩, cc, by simp, fun i hi => ?_⟩
   have hget : (l.map dw)[i]? = some (dw (l.getD i [])) := by
    rw [List.getElem?_map, List.getElem?_eq_getElem hi]; simp [hi]
   have hsz : sz = 1 := (hs _ (List.mem_of_getElem? hget)).symm
   subst hsz
   have h1 := hc i 0 (by simpa using hi) (by omega)
   obtain ⟨u, hu⟩ := Option.isSome_iff_exists.1 h1
   exact ⟨b, o, u, rfl, hl, by simpa using hcap, by simpa using hu, hv i 0 _ _ u hget rfl hu⟩
 | _ => cases he
theorem CS (w : World) (ad : Option Addr) (k c : Nat) : (binOp .eql 96 (.slice ad k c) (.slice none 0 0)).run Tryz.prog w = .ok (.bool ad.isNone) w := Lib.run_eql_slice_nil w 96 30 ad k c 0 0 Af
theorem yz (w : World) (im : Nat → Prop) (l : List (List Int)) (a : Addr) (cc : Nat) (hcs : ∀ i, i < l.length → ∃ b o v, some a = some ⟨b, o, none⟩ ∧ b < w.heap.size ∧ l.length ≤ cc ∧ w.cell? ⟨b, o + i, none⟩ = some v ∧ RepV w im (cf (l.getD i [])) v) (hl : l.length ≤ 1000000) :
 ∃ u' w2, (∀ ty, (Builtin.append_ #[96, 96] ty #[.slice (some ⟨w.heap.size, 0, none⟩) 0 0, .slice (some a) l.length cc]).run Tryz.prog (w.alloc (.cells #[] 30)) = .ok u' w2) ∧ LsW w im w2 u' l ∧ Below w.heap.size w w2 := by
 obtain ⟨ti, hi, hz, his, hib⟩ := IN
 have hA : Below w.heap.size w (w.alloc (.cells #[] 30)) := ⟨rfl, rfl, rfl, by simp, fun b hb => Below.heap_alloc _ _ b hb⟩
 have hn := heap_alloc_new w (.cells #[] 30)
 by_cases h0 : l.length = 0
 ·have : l = [] := List.eq_nil_of_length_eq_zero h0
  subst this
  exact ⟨_, _, fun ty => fu Af Af hi (Nat.le_refl _), .inr ⟨w.heap.size, #[], rfl, Nat.le_refl _, hn, Nat.le_refl _, Nat.zero_le _, fun i hi => by simp at hi⟩, hA⟩
 ·obtain ⟨b, o, _, e, hb, hlc, _⟩ := hcs 0 (by omega)
  cases e
  have hcs' : ∀ i, i < l.length → ∃ v, w.cell? ⟨b, o + i, none⟩ = some v ∧ RepV w im (cf (l.getD i [])) v := fun i hi => by
   obtain ⟨b', o', v, e, _, _, h1, h2⟩ := hcs i hi
   cases e
   exact ⟨v, h1, h2⟩
  obtain ⟨news, hnl, hnews⟩ : ∃ news : List Value, news.length = l.length ∧ ∀ i, i < l.length → ∃ v, news[i]? = some v ∧ w.cell? ⟨b, o + i, none⟩ = some v ∧ RepV w im (cf (l.getD i [])) v := by
   refine ⟨(List.range l.length).map fun i => (w.cell? ⟨b, o + i, none⟩).getD undef, by simp, fun i hi => ?_⟩
   obtain ⟨v, h1, h2⟩ := hcs' i hi
   exact ⟨v, by simp [hi, h1], h1, h2⟩
  have hfit : Builtin.nextslicecap (0 + l.length) 0 * ti.bytes ≤ 281474976710656 := by rw [hib]; exact growslice_fits (by omega) (by omega)
  have hrun := fun ty => iw (ty := ty) (w := w.alloc (.cells #[] 30)) Af Af hi hz ⟨w.heap.size, 0, none⟩ 0 0 [] (by simp) (fun j v hj => by simp at hj) ⟨b, o, none⟩ l.length cc news (by rw [hnl, his, Nat.mul_one]) (fun j u hj => by
   have hj' : j < l.length := by rw [← hnl]; exact (List.getElem?_eq_some_iff.1 hj).1
   obtain ⟨v, h1, h2, _⟩ := hnews j hj'
   rw [hj] at h1; cases h1
   rw [Addr.add_lit]
   exact (kx hA hb (o + j)).trans h2) (by omega) (by omega) hfit
  simp only [Nat.zero_add, List.nil_append] at hrun
  have hcg := grownCap_ge (w.alloc (.cells #[] 30)) l.length 0 30
  have hcm := grownCap_le_maxLen (w.alloc (.cells #[] 30)) l.length 0 30 (by simp only [maxLen]; omega)
  generalize grownCap (w.alloc (.cells #[] 30)) l.length 0 30 = cap at hrun hcg hcm
  generalize w.alloc (.cells #[] 30) = w1 at hrun hA
  have hsz : (news.toArray ++ Builtin.zeroCells (Value.slice none 0 0).cells (cap - l.length)).size = cap := by
   rw [Array.size_append]
   show _ + (Builtin.zeroCells #[Value.slice none 0 0] _).size = _
   rw [CB]; simp [hnl]; omega
  refine ⟨_, _, hrun, .inr ⟨w1.heap.size, _, by rw [hsz], hA.size, heap_alloc_new w1.drew _, by rw [hsz]; exact hcg, by rw [hsz]; exact hcm, fun i hi => ?_⟩, hA.trans ⟨rfl, rfl, rfl, by simp, fun b hb => Below.heap_alloc w1.drew _ b (Nat.lt_of_lt_of_le hb hA.size)⟩⟩
  obtain ⟨v, h1, _, h3⟩ := hnews i hi
  refine ⟨v, ?_, h3⟩
  rw [Array.getElem?_append_left (by simp [hnl]; exact hi), List.getElem?_toArray]
  exact h1
set_option maxHeartbeats 8000000 in
set_option maxRecDepth 100000 in
theorem vX (w : World) (im : Nat → Prop) (l : List (List Int)) (u : Value) (h : RepV w im (dS l) u) (hl : l.length ≤ 1000000) : Calls Tryz.prog 104 #[u] w fun e w1 => ∃ u', e = .returned u' ∧ LsW w im w1 u' l ∧ Below w.heap.size w w1 := by
 obtain ⟨ad, cc, rfl, hcs⟩ := wB h
 cases ad with
 | none =>
   have h0 : l = [] := by
    cases l with
    | nil => rfl
    | cons x xs => obtain ⟨_, _, _, h, _⟩ := hcs 0 (by simp); cases h
   subst h0
   clear hcs h
   have hn := CS w none 0 cc
   have hB := Below.refl w.heap.size w
   go_enter Tryz.func104, Tryz.ntmps104
   go_wp2
   go_ret
   exact ⟨_, rfl, .inl ⟨rfl, rfl⟩, hB⟩
 | some a =>
   obtain ⟨u', w2, hrun, hL, hB⟩ := yz w im l a cc hcs hl
   clear h hcs
   have hn := CS w (some a) l.length cc
   go_enter Tryz.func104, Tryz.ntmps104
   go_wp2_with (at_builtin; refine iX rfl rfl (hrun _) ?_)
   go_ret
   exact ⟨_, rfl, hL, hB⟩
end Go.Vd
namespace Go.Vd
open Go.Proofs Go.RowKit
structure CI (n : Nat) (f : List (List Int)) (p : List ii) (j : Nat) (l : List (List Int)) : Prop where
 imp : IX f l
 len : l.length ≤ f.length + j
 cls : ∀ c, c ∈ l → c.length ≤ 1000000 ∧ ∀ x, x ∈ c → x ≠ 0 ∧ x.natAbs ≤ n
 sh : p = [⟨false, []⟩] → (∃ y, y ≠ 0 ∧ [y] ∈ f ∧ [-y] ∈ f) → j = 0 ∧ l = f
theorem CI.add {n j : Nat} {f l : List (List Int)} {p : List ii} (h : CI n f p j l) (hj : j < p.length) (hs : yP n (p.getD j default)) (hc : lU l ((p.getD j default).c.map (fun x => -x)) true) (hne : (p.getD j default).c ≠ []) : CI n f p (j + 1) (l ++ [(p.getD j default).c]) := by
 refine ⟨fun m hm => ⟨fun c hc2 => ?_, fun x hx => by simp at hx⟩, by rw [List.length_append]; have := h.len; simp; omega, fun c hc2 => ?_, fun e => ?_⟩
 ·rcases List.mem_append.1 hc2 with h1 | h1
  ·exact (h.imp m hm).1 c h1
  ·rw [List.mem_singleton] at h1
   subst h1
   have h2 := hc.1 rfl m
   refine Classical.byContradiction fun hno => h2 ⟨(h.imp m hm).1, fun x hx => ?_⟩
   obtain ⟨y, hy, rfl⟩ := List.mem_map.1 hx
   rw [nm (hs.hx y hy).1]
   cases hlt : lt m y with
   | false => rfl
   | true => exact absurd ⟨y, hy, hlt⟩ hno
 ·rcases List.mem_append.1 hc2 with h1 | h1
  ·exact h.cls c h1
  ·rw [List.mem_singleton] at h1
   subst h1
   exact ⟨hs.hl, hs.hx⟩
 ·subst e
  simp at hj
  subst hj
  exact absurd rfl hne
theorem CI.take {n j : Nat} {f l l' : List (List Int)} {p : List ii} (h : CI n f p j l) (hj : j < p.length) (hd : (p.getD j default).del = true) (h1 : l'.length ≤ l.length) (h2 : ∀ x, x ∈ l' → x ∈ l) : CI n f p (j + 1) l' := by
 refine ⟨fun m hm => ⟨fun c hc => (h.imp m hm).1 c (h2 c hc), fun x hx => by simp at hx⟩, by have := h.len; omega, fun c hc => h.cls c (h2 c hc), fun e => ?_⟩
 subst e
 simp at hj
 subst hj
 cases hd
theorem CI.start {n : Nat} {f : List (List Int)} {p : List ii} (h : uf n f) : CI n f p 0 f := ⟨fun _ h => h, Nat.le_refl _, h.hc, fun _ _ => ⟨rfl, rfl⟩⟩
theorem CI.clsb {n j : Nat} {f l : List (List Int)} {p : List ii} (h : CI n f p j l) (hn : n ≤ 1000000) (hf : f.length ≤ 100000) (hj : j ≤ 100000) : uf n l := ⟨hn, by have := h.len; omega, h.cls⟩
theorem CI.done {n j : Nat} {f l : List (List Int)} {p : List ii} (h : CI n f p j l) (hc : lU l ([] : List Int) true) : ∀ m, ¬ kC f [] m := fun m hm => hc.1 rfl m (h.imp m hm)
theorem CI.bad {n j : Nat} {f l : List (List Int)} {p : List ii} (h : CI n f p j l) (hj : j < p.length) (z : Int) (hz : z ≠ 0) (hd : (p.getD j default).del = false → lU l ((p.getD j default).c.map (fun x => -x)) false) : yS f p z := by
 refine ⟨fun e => absurd e hz, fun e1 e2 => ?_⟩
 obtain ⟨e3, e4⟩ := h.sh e1 e2
 subst e1 e3 e4
 have := (hd rfl).2 e2
 cases this
theorem CI.last {n j : Nat} {f l : List (List Int)} {p : List ii} (h : CI n f p j l) (hj : j = p.length) (z : Int) (hz : z ≠ 0) : yS f p z := by
 refine ⟨fun e => absurd e hz, fun e1 e2 => ?_⟩
 obtain ⟨e3, e4⟩ := h.sh e1 e2
 subst e1
 rw [e3] at hj
 simp at hj
theorem Cw (ad : Option Addr) (k cc : Nat) (w : World) : (method 660 220 (.slice ad k cc) "vidimus/drup.do").run Tryz.prog w = .ok (353, .slice ad k cc) w := by kernel_rfl
theorem BF (ad : Option Addr) (k cc : Nat) (w : World) : (method 660 310 (.slice ad k cc) "vidimus/drup.do").run Tryz.prog w = .ok (360, .slice ad k cc) w := by kernel_rfl
theorem Gl (ad : Option Addr) (k cc : Nat) (w : World) : (Instr.typeAssert (.iface 220 (.slice ad k cc)) 216 220 true).run Tryz.prog w = .ok (.tuple #[.slice ad k cc, .bool true]) w := by kernel_rfl
theorem Gx (ad : Option Addr) (k cc : Nat) (w : World) : (Instr.typeAssert (.iface 310 (.slice ad k cc)) 216 220 true).run Tryz.prog w = .ok (.tuple #[.slice none 0 0, .bool false]) w := by kernel_rfl
set_option maxHeartbeats 8000000 in
set_option maxRecDepth 100000 in
theorem zc (w0 : World) (im : Nat → Prop) (n : Nat) (f : List (List Int)) (p : List ii) (cu pu : Value) (hG : Glob w0) (hf : RepV w0 im (dS f) cu) (hp : RepV w0 im (lu p) pu) (hn : n ≤ 1000000) (hfb : uf n f) (hfl : f.length ≤ 100000) (hpl : p.length ≤ 100000) (hpb : ∀ s, s ∈ p → yP n s) :
 Calls Tryz.prog 55 #[.agg #[.int .i64 n, cu], pu] w0 fun e w' => Below w0.heap.size w0 w' ∧ ∃ k z : Int, e = .returned (.tuple #[.int .i64 k, .int .i64 z]) ∧ yS f p z := by
 have hA : Below w0.heap.size w0 (w0.alloc (.cells #[.int .i64 n, cu] 98)) := ⟨rfl, rfl, rfl, by simp, fun b hb => Below.heap_alloc _ _ b hb⟩
 have hG1 := hG.below hA
 have hclone := vX _ im f cu (gT hf hA) (by omega)
 have hp1 := gT hp hA
 have hbx := heap_alloc_new w0 (.cells #[.int .i64 n, cu] 98)
 have hkb : w0.heap.size < (w0.alloc (.cells #[.int .i64 n, cu] 98)).heap.size := by simp
 obtain ⟨ad, cc, rfl, hps⟩ := Fz hp1
 obtain ⟨adf, ccf, rfl, _⟩ := wB hf
 have hsb : ∀ j, j < p.length → yP n (p.getD j default) := fun j hj => hpb _ (by rw [List.getD_eq_getElem?_getD, List.getElem?_eq_getElem hj]; exact List.getElem_mem hj)
 have hst := CI.start (p := p) hfb
 clear hp hp1 hf hpb hfb hG
 go_enter Tryz.func55, Tryz.ntmps55
 go_wp2_with (go_at_call 104; refine hclone.mono ?_; rintro e w1 ⟨u, rfl, hL, hB⟩)
 have hB' := hA.trans (hB.mono hA.size)
 generalize w0.alloc (.cells #[.int .i64 n, .slice adf f.length ccf] 98) = wb at hA hG1 hclone hps hbx hkb hL hB
 go_loopw [6, 19] (fun uv iv wr => ∃ (j : Nat) (l : List (List Int)), iv = .int .i64 j ∧ j ≤ p.length ∧ LsW wb im wr uv l ∧ Below wb.heap.size wb wr ∧ CI n f p j l) (fun _ iv _ => p.length - (RowKit.intOf iv).toNat)
 case atStart => exact ⟨0, f, rfl, Nat.zero_le _, hL, hB, hst⟩
 case round =>
  clear hL hB hB' hclone hst
  obtain ⟨j, l, rfl, hj, hL, hB, hI⟩ := hrel
  by_cases hlt : j < p.length
  ·obtain ⟨b, o, uc, rfl, hbl, hcc, c1, c2, hc⟩ := hps j hlt
   have d1 := (kx hB hbl _).trans c1
   have d2 := (kx hB hbl _).trans c2
   obtain ⟨adc, ccc, rfl⟩ := jC hc
   have hbad := hI.bad hlt
   have hadd := hI.add hlt (hsb j hlt)
   have htake := fun l' h1 => hI.take (l' := l') hlt h1
   have hsB := hsb j hlt
   have hcb := hI.clsb hn hfl (show j ≤ 100000 by omega)
   have hdn := hI.done
   have d3 : wb.cell? ⟨w0.heap.size, 0, none⟩ = some (.int .i64 n) := aY hbx rfl
   generalize p.getD j default = s at d1 d2 hc hbad hadd htake hsB
   obtain ⟨del, c⟩ := s
   simp only at d1 d2 hc hbad hadd htake hsB
   have hAw : Below wr.heap.size wr (wr.alloc (.cells #[.bool del, .slice adc c.length ccc] 174)) := ⟨rfl, rfl, rfl, by simp, fun b hb => Below.heap_alloc _ _ b hb⟩
   have hof : Calls Tryz.prog 105 #[.agg #[.bool del, .slice adc c.length ccc]] (wr.alloc (.cells #[.bool del, .slice adc c.length ccc] 174)) fun e w2 => e = .returned (.iface (if del then 310 else 220) (.slice adc c.length ccc)) ∧ Below wb.heap.size wb w2 ∧ LsW wb im w2 u6 l ∧ w2.cell? ⟨w0.heap.size, 0, none⟩ = some (.int .i64 n) := by
    refine (Bc _ del adc _ ccc).mono ?_
    rintro e w2 ⟨rfl, hB2⟩
    have hW2 := hAw.trans (hB2.mono hAw.size)
    have hB3 := hB.trans (hW2.mono hB.size)
    exact ⟨rfl, hB3, hL.frame hW2, (kx hB3 hkb 0).trans d3⟩
   clear hps c1 c2 hI hsb hbx hB hL hAw d3
   have m1 := Cw adc c.length ccc
   have m2 := BF adc c.length ccc
   have q1 := Gl adc c.length ccc
   have q2 := Gx adc c.length ccc
   cases del with
   | false =>
    by_cases hc0 : c = []
    ·subst hc0
     simp only [List.length_nil] at hof m1 m2 q1 q2 d1 d2 hc
     go_wp2_with (first | (go_at_call 105; refine hof.mono ?_; rintro e w2 ⟨rfl, hB2, hL2, d3⟩) | (go_at_call 353; refine (qL wb w2 im n l [] _ _ hG1 hB2 hL2 hc hcb hsB.hl hsB.hx).mono ?_; rintro e w3 ⟨hB3, u', t, rfl, ht, hL3⟩; cases t))
     ·exact ⟨rfl, _, by simp [results, Tryz.results55, go_sem], hA.trans (hB3.mono hA.size), j, 6, rfl, hbad 6 (by decide) (fun _ => ht)⟩
     ·exact ⟨rfl, _, by simp [results, Tryz.results55, go_sem], hA.trans (hB3.mono hA.size), j, 0, rfl, ⟨fun _ => hdn ht, fun _ _ => rfl⟩⟩
    ·have hcl0 : ¬ (c.length : Int) = 0 := by
      have := List.length_pos_iff.2 hc0; omega
     go_wp2_with (first | (go_at_call 105; refine hof.mono ?_; rintro e w2 ⟨rfl, hB2, hL2, d3⟩) | (go_at_call 353; refine (qL wb w2 im n l c _ _ hG1 hB2 hL2 hc hcb hsB.hl hsB.hx).mono ?_; rintro e w3 ⟨hB3, u', t, rfl, ht, hL3⟩; cases t))
     ·exact ⟨rfl, _, by simp [results, Tryz.results55, go_sem], hA.trans (hB3.mono hA.size), j, 6, rfl, hbad 6 (by decide) (fun _ => ht)⟩
     ·exact ⟨⟨j + 1, l ++ [c], by simp, by omega, by simpa using hL3, hB3, hadd ht hc0⟩, by simp [RowKit.intOf]; omega⟩
   | true =>
     go_wp2_with (first | (go_at_call 105; refine hof.mono ?_; rintro e w2 ⟨rfl, hB2, hL2, d3⟩) | (go_at_call 360; refine (vP wb w2 im n l c _ _ hG1 hB2 hL2 hc hsB.hl (fun x hx => by have := hsB.hx x hx; omega) (hcb.hl) (fun c hc => ⟨(hcb.hc c hc).1, fun x hx => by have := (hcb.hc c hc).2 x hx; omega⟩)).mono ?_; rintro e w3 ⟨hB3, u', t, l', rfl, hL3, hl1, hl2⟩; cases t))
     ·exact ⟨rfl, _, by simp [results, Tryz.results55, go_sem], hA.trans (hB3.mono hA.size), j, 4, rfl, hbad 4 (by decide) (fun h => by cases h)⟩
     ·exact ⟨⟨j + 1, l', by simp, by omega, hL3, hB3, htake l' aj hl1 hl2⟩, by simp [RowKit.intOf]; omega⟩
  ·have hlast := hI.last (show j = p.length by omega)
   go_wp2
   exact ⟨rfl, _, by simp [results, Tryz.results55, go_sem], hA.trans (hB.mono hA.size), p.length, 6, rfl, hlast 6 (by decide)⟩
end Go.Vd
namespace Go.Vd
open Go.Proofs Go.RowKit
theorem Fe (n : Nat) (f : List (List Int)) (p : List ii) (hfb : uf n f) (hfl : f.length ≤ 100000) (hpl : p.length ≤ 100000) (hpb : ∀ s, s ∈ p → yP n s) : kw 55 [vC ⟨n, f⟩, lu p] (fun v => ∃ k z : Int, v = .tup [.int .i64 k, .int .i64 z] ∧ yS f p z) := by
 refine ⟨cJ (fn := Tryz.f55) (by kernel_rfl) rfl (by kernel_rfl), fun w im us hG hp => ?_⟩
 obtain ⟨h1, h2⟩ := hp
 have hs : us.size = 2 := by simpa using h1
 have e0 := h2 0 _ us[0] rfl (by simp [hs])
 have e1 := h2 1 _ us[1] rfl (by simp [hs])
 obtain ⟨cu, hcu, hrc⟩ : ∃ cu, us[0] = .agg #[.int .i64 n, cu] ∧ RepV w im (dS f) cu := by
  generalize us[0] = x at e0
  cases e0 with
  | agg _ xs hsz0 hv =>
    have hsz : xs.size = 2 := hsz0
    have h1 := (hv 0 _ xs[0] rfl (by simp [hsz])).int_inv
    refine ⟨xs[1], ?_, hv 1 _ xs[1] rfl (by simp [hsz])⟩
    congr 1
    refine Array.ext (by simp [hsz]) fun i hi hj => ?_
    match i, hj with
    | 0, _ => exact h1
    | 1, _ => rfl
    | i + 2, h => simp at h; omega
 have hu : us = #[.agg #[.int .i64 n, cu], us[1]] := by
  refine Array.ext (by simp [hs]) fun i hi hj => ?_
  match i, hj with
  | 0, _ => exact hcu
  | 1, _ => rfl
  | i + 2, h => simp at h; omega
 rw [hu]
 refine Calls.mono (zc w im n f p cu us[1] hG hrc e1 hfb.hn hfb hfl hpl hpb) ?_
 rintro e w' ⟨hbel, k, z, rfl, hz⟩
 refine ⟨_, _, ⟨k, z, rfl, hz⟩, rfl, hbel, .tup _ _ rfl fun i v' u hv' hu' => ?_⟩
 match i, hv', hu' with
 | 0, rfl, rfl => exact .int _ _
 | 1, rfl, rfl => exact .int _ _
end Go.Vd
namespace Go.Vd
open Go.Proofs Go.RowKit
theorem rj (a : Aig) (hr : da a) (k : Int) (h0 : 0 ≤ k) (h1 : k ≤ 1) : dn 205 [bq a, .int .i64 k] (dS (dL a k)) := (Et a hr k h0 h1).toCall
theorem DH (a : Aig) (hr : da a) : dn 206 [bq a] (dS (jt a)) := (EP a hr).toCall
theorem Ey (a : Aig) (hr : da a) : dn 208 [bq a] (dS (lH a)) := (DM a hr).toCall
theorem vE (xs : List (List (List Int))) (hs : xs.flatten.length ≤ 1000000000) (hl : xs.length ≤ 1000000000) : dn 204 [.sl (xs.map fun x => [dS x])] (dS xs.flatten) := (DQ xs hs hl).toCall
theorem HU (x y : List Int) (h : x.length + y.length ≤ 1000000000) : dn 95 [.sl ([x, y].map fun x => [cf x])] (cf (x ++ y)) := by
 have h1 := (CX [x, y] (by simpa using h) (by simp)).toCall
 rw [show [x, y].flatten.map d7 = (x ++ y).map d7 by simp] at h1
 exact h1
theorem yF {a : Aig} {ls : List Int} {j : Nat} (h : j < ls.length) : fe a (ls.take j) ++ [pN (ay a) 0 [ls.getD j default]] = fe a (ls.take (j + 1)) := by
 unfold fe
 rw [List.take_succ_eq_append_getElem h, List.map_append, List.getD_eq_getElem?_getD, List.getElem?_eq_getElem h]; rfl
theorem Bp {x y : List Int} {p : Int → Prop} (h : ∀ l, l ∈ x → p l) (h' : ∀ l, l ∈ y → p l) : ∀ l, l ∈ x ++ y → p l := fun l hl => (List.mem_append.1 hl).elim (h l) (h' l)
theorem EM {a : Aig} (hr : da a) : ∀ l, l ∈ a.con → 0 ≤ l ∧ l ≤ 100000000 := fun l hl => by
 have h := (hr.r 2 (by decide)).2
 have hx : lx (ay a) l = false := by
  cases hc : lx (ay a) l with
  | false => rfl
  | true => exact absurd (List.any_eq_true.2 ⟨l, hl, hc⟩) (by rw [show [a.outs, a.bad, a.con].getD 2 default = a.con from rfl] at h; rw [h]; simp)
 have hv := hr.v
 simp only [lx, Bool.or_eq_false_iff, decide_eq_false_iff_not] at hx
 omega
theorem Ef (a : Aig) (hr : da a) (more : List Int) (hml : more.length ≤ 1000000) (hm : ∀ l, l ∈ more → 0 ≤ l ∧ l ≤ 100000000) : PRow Tryz.prog 209 [bq a, cf more] 30 1 ((fe a (a.con ++ more)).map dw) := by
 refine mJ ac (f := 209) (fn := Tryz.f209) (N := 27) (t := 4) (by kernel_rfl) rfl (by kernel_rfl) rfl rfl [(0, .v (bq a)), (1, .v (cf more))] ⟨rfl, rfl, aj⟩ rfl rfl ?_
 intro B
 have hS := fj hr
 have ha := hS.z
 have hi0 := ha.i0
 have hv0 := ha.v
 have hvA : ay a = a.i + (a.l.length : Nat) + (a.g.length : Nat) := rfl
 have hvr := hr.v
 have hcl := hS.c
 refine ag<|bE 2 [] J J J ⟨J, aj⟩ J J J<|af J<|ab<|ag<|af J<|ab<|ae<|ag<|ax aK J<|aC br J ?_
 refine aa J<|bZ (es := [a.con, more].map fun x => [cf x]) eC br [] J aj J<|ap [] (HU a.con more (by omega)) J J J J J J aj (.inl J) J J J ?_
 refine aI ac J J br J aB J J<|aa J<|ab<|aw<|cg (gJ (t := 5) (id := 505) (e := 30) (sz := 1) J J (by decide)) ?_
 refine aZ (α := Nat) (fun j => mk [(2, .ptr 2 0), (5, .own 505), (12, .v (cf (a.con ++ more))), (13, .v (.int .i64 ((a.con ++ more).length : Nat))), (14, .v (.int .i64 j))] [(2, .box [.v (.int .i64 a.i), .v (jL a.l), .v (iH a.g), .v (cf a.outs), .v (cf a.bad), .v (cf a.con), .v (up a.names)]), (505, .row 30 1 ((fe a ((a.con ++ more).take j)).map dw))] 0) (fun j => j ≤ (a.con ++ more).length) (fun j => (a.con ++ more).length - j) 0 (Nat.zero_le _) (aL ⟨J, J, J, J, J, aj⟩ ⟨J, J, aj⟩ J J J J) ?_
 intro j hj
 have hxl : (a.con ++ more).length = a.con.length + more.length := List.length_append
 have hfl : (fe a ((a.con ++ more).take j)).length = j := by (unfold fe; rw [List.length_map, List.length_take]; omega)
 refine ag<|bj J (fun h15 => ?_) (fun h15 => ?_)
 ·refine ab<|ae<|ai J<|ao<|ak<|ae<|aw<|ag<|cj br bm J (by omega) (bz (n := j) (by omega)) J ?_
  refine bu bm J<|af J<|ab ?_
  have hb := Bp (EM hr) hm _ (cP (xs := (a.con ++ more)) (show j < (a.con ++ more).length by omega))
  refine aF<|aa J<|a7 aK J<|aa J<|bZ (es := [((a.con ++ more).getD j default)].map d7) br bm [] J aj J<|ap [] (kN a ha 0 [((a.con ++ more).getD j default)] (by decide) (by decide) (by simp) (EV hb)) J J J J J J aj (.inl J) J J J ?_
  refine bZ (es := [pN (ay a) 0 [((a.con ++ more).getD j default)]].map dw) eC br [] J aj J ?_
  refine cw 24 [] ac J eC J eC J br J J J J ⟨J, J, aj⟩ J (elOk.cons rfl rfl elOk.nil) cA ⟨by simp only [List.length_append, List.length_map, List.length_cons, List.length_nil, hfl]; show (j + 1) * 24 ≤ _; omega, by simp only [List.length_append, List.length_map, List.length_cons, List.length_nil, hfl]; omega⟩ J J J ?_
  refine af J<|ar<|aH<|ak<|aF<|bh J (by omega) (by omega) J ?_
  refine aa J<|ar ?_
  exact aT (j + 1) (by show j + 1 ≤ _; omega) (by show (a.con ++ more).length - (j + 1) < (a.con ++ more).length - j; omega) (cd [(505, 24)] ⟨rfl, rfl, rfl, rfl, rfl, aj⟩ ⟨rfl, (dV rfl (congrArg (List.map dw) (yF (by omega)))), aj⟩ rfl rfl rfl rfl rfl)
 ·refine ab<|ae<|ah J<|aO<|ba (a8 (aP ?_))
  refine ak<|ag<|aa J<|af J<|ab<|am ?_
  refine ⟨.inl ⟨505, rfl, ?_⟩, rfl⟩
  rw [List.take_of_length_le (show (a.con ++ more).length ≤ j by omega)]
  rfl
theorem Am (a : Aig) (hr : da a) (more : List Int) (hml : more.length ≤ 1000000) (hm : ∀ l, l ∈ more → 0 ≤ l ∧ l ≤ 100000000) : dn 209 [bq a, cf more] (dS (fe a (a.con ++ more))) := (Ef a hr more hml hm).toCall
theorem Ek (a : Aig) (hr : da a) (inv : Int) (i0 : 0 ≤ inv) (i1 : inv ≤ 1000000) : dn 131 [bq a, .int .i64 inv] (vC (oe a inv)) := by
 refine bC ac (f := 131) (fn := Tryz.f131) (N := 20) (rs := [.cell 4 98]) (by kernel_rfl) rfl (by kernel_rfl) rfl rfl [(0, .v (bq a)), (1, .v (.int .i64 inv))] ⟨rfl, rfl, aj⟩ rfl rfl ?_
 intro B
 have hS := fj hr
 have ha := hS.z
 have hi0 := ha.i0
 have hv0 := ha.v
 have hvA : ay a = a.i + (a.l.length : Nat) + (a.g.length : Nat) := rfl
 have hvr := hr.v
 have hcl := hS.c
 have e1 := eu a 0 a.g.length
 have e2 := eu a 1 a.g.length
 have e3 := gR a a.l.length
 have e4 := iG a a.l.length
 refine ag<|bE 2 [] J J J ⟨J, aj⟩ J J J<|bl (id := 4) eI J<|ab<|ae<|aS (L := [([2], []), ([], []), ([2], []), ([], []), ([2], []), ([], []), ([2], []), ([], []), ([], []), ([], []), ([], []), ([], []), ([], []), ([], []), ([], []), ([4], [4])]) (by kernel_rfl) mixed (by kernel_rfl)<|a7 aK J<|ap [] (lQ a ha 1 (by decide) (by decide)) J J J J J J aj (.inl J) J J J ?_
 refine a7 aK J<|ap [] (rj a hr 0 (by decide) (by decide)) J J J J J J aj (.inl J) J J J ?_
 refine a7 aK J<|ap [] (DH a hr) J J J J J J aj (.inl J) J J J<|a7 aK J<|aa J<|nC J J J (iO i0 (by omega)) J J ?_
 refine bZ (es := [dE inv].map d7) br bm [] J aj J ?_
 refine ap [] (kN a ha 0 [dE inv] (by decide) (by decide) (by simp) (EV ⟨(by have := fS (l := inv) i0; omega), (by have := fS (l := inv) i0; omega)⟩)) J J J J J J aj (.inl rfl) J J J ?_
 refine bZ (es := [pN (ay a) 0 [dE inv]].map dw) eC br [] J aj J<|bZ (es := [dL a 0, jt a, [pN (ay a) 0 [dE inv]]].map fun x => [dS x]) oH eC [] J aj J ?_
 refine ap [] (vE [dL a 0, jt a, [pN (ay a) 0 [dE inv]]] (by simp only [List.flatten_cons, List.flatten_nil, List.length_append, List.length_cons, List.length_nil, dL, jt, lH, fe, List.length_map]; omega) (by simp)) J J J J J J aj (.inl rfl) J J J ?_
 refine bD [] ac J eI J J aj J J J J J J<|aR eI [] J aj J<|ab<|am ?_
 refine an J J ?_
 rfl
theorem DX (a : Aig) (hr : da a) (inv : Int) (i0 : 0 ≤ inv) (i1 : inv ≤ 1000000) : dn 132 [bq a, .int .i64 inv] (vC (ra a inv)) := by
 refine bC ac (f := 132) (fn := Tryz.f132) (N := 28) (rs := [.cell 4 98]) (by kernel_rfl) rfl (by kernel_rfl) rfl rfl [(0, .v (bq a)), (1, .v (.int .i64 inv))] ⟨rfl, rfl, aj⟩ rfl rfl ?_
 intro B
 have hS := fj hr
 have ha := hS.z
 have hi0 := ha.i0
 have hv0 := ha.v
 have hvA : ay a = a.i + (a.l.length : Nat) + (a.g.length : Nat) := rfl
 have hvr := hr.v
 have hcl := hS.c
 have e1 := eu a 0 a.g.length
 have e2 := eu a 1 a.g.length
 have e3 := gR a a.l.length
 have e4 := iG a a.l.length
 refine ag<|bE 2 [] J J J ⟨J, aj⟩ J J J<|bl (id := 4) eI J<|ab<|ag<|a7 aK J<|aa J<|nC J J J (iO i0 (by omega)) J J ?_
 refine bZ (es := [dE inv].map d7) br bm [] J aj J ?_
 refine ap [] (kN a ha 1 [dE inv] (by decide) (by decide) (by simp) (EV ⟨(by have := fS (l := inv) i0; omega), (by have := fS (l := inv) i0; omega)⟩)) J J J J J J aj (.inl rfl) J J J ?_
 refine bZ (es := [pN (ay a) 1 [dE inv]].map dw) eC br [] J aj J<|af J<|ab<|ae<|aS (L := [([2], []), ([], []), ([2], []), ([], []), ([2], []), ([], []), ([2], []), ([], []), ([2], []), ([], []), ([], []), ([], []), ([], []), ([], []), ([], []), ([], []), ([4], [4])]) (by kernel_rfl) mixed (by kernel_rfl)<|a7 aK J<|ap [] (lQ a ha 2 (by decide) (by decide)) J J J J J J aj (.inl J) J J J ?_
 refine a7 aK J<|ap [] (rj a hr 0 (by decide) (by decide)) J J J J J J aj (.inl J) J J J ?_
 refine a7 aK J<|ap [] (rj a hr 1 (by decide) (by decide)) J J J J J J aj (.inl J) J J J ?_
 refine a7 aK J<|ap [] (Ey a hr) J J J J J J aj (.inl J) J J J<|a7 aK J<|aa J<|bZ (es := [inv].map d7) br bm [] J aj J ?_
 refine ap [] (Am a hr [inv] (by simp) (EV ⟨i0, by omega⟩)) J J J J J J aj (.inl rfl) J J J ?_
 refine aa J<|bZ (es := [dL a 0, dL a 1, lH a, fe a (a.con ++ [inv]), [pN (ay a) 1 [dE inv]]].map fun x => [dS x]) oH eC [] J aj J ?_
 refine ap [] (vE [dL a 0, dL a 1, lH a, fe a (a.con ++ [inv]), [pN (ay a) 1 [dE inv]]] (by simp only [List.flatten_cons, List.flatten_nil, List.length_append, List.length_cons, List.length_nil, dL, jt, lH, fe, List.length_map]; omega) (by simp)) J J J J J J aj (.inl rfl) J J J ?_
 refine bD [] ac J eI J J aj J J J J J J<|aR eI [] J aj J<|ab<|am ?_
 refine an J J ?_
 rfl
theorem Em (a : Aig) (hr : da a) (inv bad : Int) (i0 : 0 ≤ inv) (i1 : inv ≤ 1000000) (j0 : 0 ≤ bad) (j1 : bad ≤ 1000000) : dn 133 [bq a, .int .i64 inv, .int .i64 bad] (vC (xj a inv bad)) := by
 refine bC ac (f := 133) (fn := Tryz.f133) (N := 19) (rs := [.cell 6 98]) (by kernel_rfl) rfl (by kernel_rfl) rfl rfl [(0, .v (bq a)), (1, .v (.int .i64 inv)), (2, .v (.int .i64 bad))] ⟨rfl, rfl, rfl, aj⟩ rfl rfl ?_
 intro B
 have hS := fj hr
 have ha := hS.z
 have hi0 := ha.i0
 have hv0 := ha.v
 have hvA : ay a = a.i + (a.l.length : Nat) + (a.g.length : Nat) := rfl
 have hvr := hr.v
 have hcl := hS.c
 have e1 := eu a 0 a.g.length
 have e2 := eu a 1 a.g.length
 have e3 := gR a a.l.length
 have e4 := iG a a.l.length
 refine ag<|bE 3 [] J J J ⟨J, aj⟩ J J J<|bl (id := 6) eI J<|ab<|ae<|aS (L := [([3], []), ([], []), ([3], []), ([], []), ([3], []), ([], []), ([], []), ([], []), ([], []), ([], []), ([], []), ([], []), ([6], [6])]) (by kernel_rfl) mixed (by kernel_rfl)<|a7 aK J<|ap [] (lQ a ha 1 (by decide) (by decide)) J J J J J J aj (.inl J) J J J ?_
 refine a7 aK J<|ap [] (rj a hr 0 (by decide) (by decide)) J J J J J J aj (.inl J) J J J ?_
 refine a7 aK J<|aa J<|aa J<|bZ (es := [inv, bad].map d7) br bm [] J aj J ?_
 refine ap [] (Am a hr [inv, bad] (by simp) (H4 ⟨i0, by omega⟩ ⟨j0, by omega⟩)) J J J J J J aj (.inl rfl) J J J ?_
 refine bZ (es := [dL a 0, fe a (a.con ++ [inv, bad])].map fun x => [dS x]) oH eC [] J aj J ?_
 refine ap [] (vE [dL a 0, fe a (a.con ++ [inv, bad])] (by simp only [List.flatten_cons, List.flatten_nil, List.length_append, List.length_cons, List.length_nil, dL, jt, lH, fe, List.length_map]; omega) (by simp)) J J J J J J aj (.inl rfl) J J J ?_
 refine bD [] ac J eI J J aj J J J J J J<|aR eI [] J aj J<|ab<|am ?_
 refine an J J ?_
 rfl
end Go.Vd
