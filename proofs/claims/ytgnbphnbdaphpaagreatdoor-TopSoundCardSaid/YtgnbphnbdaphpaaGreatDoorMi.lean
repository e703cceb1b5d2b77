/- Walks over data, merged (part 9): what the laws of this claim use. -/
import Derived.Handed
import Derived.JoinedOf
import Derived.LaidMore
import Derived.Laws.Externs
import Derived.Lay
import Derived.Lib.AppendStr
import Derived.Lib.Builder
import Derived.Lib.LaidU8T
import Derived.Lib.UnsafeStr
import Derived.MapKept
import Derived.RegionTactic
import Derived.SevenTiedAt
import Derived.Shelf.Vars
import Derived.Test.YtgnbphnbdaphpaaGreatDoorCards
import Derived.Test.YtgnbphnbdaphpaaGreatDoorTie
import Derived.Test.YtgnbphnbdaphpaaGreatDoorMh
set_option linter.unusedSimpArgs false
set_option linter.unusedVariables false
namespace Go.Vd
open Go.Proofs Go.RowKit
set_option maxHeartbeats 4000000 in
set_option maxRecDepth 100000 in
theorem F7 {Z : Exit → Act → World → Prop} (p q r k : Nat) (hpq : p ≠ q) (hpr : p ≠ r) (hqr : q ≠ r) (hpk : p ≠ k) (hqk : q ≠ k) (hrk : r ≠ k) (i0 x1 z1 z2 : Int) (x0 : Value) (ty : TypeId) (d1 d2 d3 d4 : Option Addr) (m1 m2 m3 m4 n1 n2 n3 n4 : Nat) (t0 t1 t2 t3 t8 t9 t10 t11 t12 t13 t14 t15 t16 t17 t18 t19 : Value) (df : List Deferred) (w : World)
 (h1 : w.heap[p]? = some (.cells #[.slice d1 m1 n1, .int .i64 i0, .slice d2 m2 n2, .slice d3 m3 n3, .slice d4 m4 n4] 119 (0, 0))) (h2 : w.heap[q]? = some (.cells #[.int .i64 z1] 3 (0, 0))) (h3 : w.heap[r]? = some (.cells #[.int .i64 z2] 43 (0, 0))) (h4 : w.heap[k]? = some (.cells #[x0, .int .i64 x1] ty (0, 0)))
 (hZ : ∀ (u20 u21 u22 u23 u24 : Value) (w' : World), w'.heap[p]? = some (.cells #[.slice d1 m1 n1, .int .i64 i0, .slice d2 m2 n2, .slice d3 m3 n3, .slice d4 m4 n4] 119 (0, 0)) → w'.heap[q]? = some (.cells #[.int .i64 x1] 3 (0, 0)) → w'.heap[r]? = some (.cells #[.int .i64 0] 43 (0, 0)) → (∀ c, c ≠ p → c ≠ q → c ≠ r → w'.heap[c]? = w.heap[c]?) → w'.heap.size = w.heap.size → w'.os = w.os → w'.tape = w.tape → w'.output = w.output → Z .normal { tmps := #[t0, t1, t2, t3, .pointer (some ⟨p, 0, none⟩), .pointer (some ⟨q, 0, none⟩), .pointer (some ⟨r, 0, none⟩), .pointer (some ⟨k, 0, none⟩), t8, t9, t10, t11, t12, t13, t14, t15, t16, t17, t18, t19, u20, u21, u22, u23, u24], defers := df } w') :
 (uT 5 (Tryz.f47.body.getD .skip)).wp Tryz.prog Z { tmps := #[t0, t1, t2, t3, .pointer (some ⟨p, 0, none⟩), .pointer (some ⟨q, 0, none⟩), .pointer (some ⟨r, 0, none⟩), .pointer (some ⟨k, 0, none⟩), t8, t9, t10, t11, t12, t13, t14, t15, t16, t17, t18, t19, undef, undef, undef, undef, undef], defers := df } w := by
 have c0 : w.cell? ⟨p, 0, none⟩ = some (.slice d1 m1 n1) := aY h1 rfl
 have f0 : w.frozen? ⟨p, 0, none⟩ = false := bQ h1
 have c1 : w.cell? ⟨p, 1, none⟩ = some (.int .i64 i0) := aY h1 rfl
 have f1 : w.frozen? ⟨p, 1, none⟩ = false := bQ h1
 have c2 : w.cell? ⟨p, 2, none⟩ = some (.slice d2 m2 n2) := aY h1 rfl
 have f2 : w.frozen? ⟨p, 2, none⟩ = false := bQ h1
 have c3 : w.cell? ⟨p, 3, none⟩ = some (.slice d3 m3 n3) := aY h1 rfl
 have f3 : w.frozen? ⟨p, 3, none⟩ = false := bQ h1
 have c4 : w.cell? ⟨p, 4, none⟩ = some (.slice d4 m4 n4) := aY h1 rfl
 have f4 : w.frozen? ⟨p, 4, none⟩ = false := bQ h1
 have cq : w.cell? ⟨q, 0, none⟩ = some (.int .i64 z1) := aY h2 rfl
 have fq : w.frozen? ⟨q, 0, none⟩ = false := bQ h2
 have cr : w.cell? ⟨r, 0, none⟩ = some (.int .i64 z2) := aY h3 rfl
 have fr : w.frozen? ⟨r, 0, none⟩ = false := bQ h3
 have ck : w.cell? ⟨k, 1, none⟩ = some (.int .i64 x1) := aY h4 rfl
 have hF : ∀ w1 : World, w1 = (gK p 0 [.slice d1 m1 n1, .int .i64 i0, .slice d2 m2 n2, .slice d3 m3 n3, .slice d4 m4 n4] w) → ∀ w' : World, w'.heap = ((w1.setCell ⟨q, 0, none⟩ (.int .i64 x1)).setCell ⟨r, 0, none⟩ (.int .i64 0)).heap → w'.os = w1.os → w'.tape = w1.tape → w'.output = w1.output → ∀ u20 : Value, ∀ u21 : Value, ∀ u22 : Value, ∀ u23 : Value, ∀ u24 : Value,
  Z .normal { tmps := #[t0, t1, t2, t3, .pointer (some ⟨p, 0, none⟩), .pointer (some ⟨q, 0, none⟩), .pointer (some ⟨r, 0, none⟩), .pointer (some ⟨k, 0, none⟩), t8, t9, t10, t11, t12, t13, t14, t15, t16, t17, t18, t19, u20, u21, u22, u23, u24], defers := df } w' := by
  rintro w1 rfl w' hh ho ht hu u20 u21 u22 u23 u24
  obtain ⟨s1, s2, s3, s4, s5⟩ := iM p [.slice d1 m1 n1, .int .i64 i0, .slice d2 m2 n2, .slice d3 m3 n3, .slice d4 m4 n4] 0 w
  have s0 := kV (vs := [.slice d1 m1 n1, .int .i64 i0, .slice d2 m2 n2, .slice d3 m3 n3, .slice d4 m4 n4]) h1 rfl
  generalize gK p 0 [.slice d1 m1 n1, .int .i64 i0, .slice d2 m2 n2, .slice d3 m3 n3, .slice d4 m4 n4] w = w1 at s0 s1 s2 s3 s4 s5 hh ho ht hu
  have e2 := (s1 q hpq.symm).trans h2
  have e3 := (s1 r hpr.symm).trans h3
  refine hZ u20 u21 u22 u23 u24 w' ?_ ?_ ?_ (fun c c1 c2 c3 => ?_) ?_ (ho.trans s3) (ht.trans s4) (hu.trans s5)
  ·rw [hh, heap_setCell_other _ _ _ _ hpr, heap_setCell_other _ _ _ _ hpq]; exact s0
  ·rw [hh, heap_setCell_other _ _ _ _ hqr]; exact heap_setCell_same w1 q 0 _ 3 _ e2
  ·rw [hh]; exact heap_setCell_same (w1.setCell ⟨q, 0, none⟩ (.int .i64 x1)) r 0 _ 43 _ ((heap_setCell_other _ _ _ _ hqr.symm).trans e3)
  ·rw [hh, heap_setCell_other _ _ _ _ c3, heap_setCell_other _ _ _ _ c2]; exact s1 c c1
  ·rw [hh]; simp [s2]
 simp only [Tryz.f47, uT, Option.getD_some]
 go_region
 rw [zV]
 refine hF _ rfl _ ?_ ?_ ?_ ?_ _ _ _ _ _
 ·exact (qF _)
 ·rw [wY, nL, nL]
 ·rw [wU, oU, oU]
 ·rw [tA, kS, kS]
theorem IR (w : World) (A B C D E : Obj) : (((((w.alloc A).alloc B).alloc C).alloc D).alloc E).heap[w.heap.size]? = some A ∧ (((((w.alloc A).alloc B).alloc C).alloc D).alloc E).heap[w.heap.size + 1]? = some B ∧ (((((w.alloc A).alloc B).alloc C).alloc D).alloc E).heap[w.heap.size + 1 + 1]? = some C ∧ (((((w.alloc A).alloc B).alloc C).alloc D).alloc E).heap[w.heap.size + 1 + 1 + 1]? = some D ∧ (((((w.alloc A).alloc B).alloc C).alloc D).alloc E).heap[w.heap.size + 1 + 1 + 1 + 1]? = some E ∧ (∀ k, k < w.heap.size → (((((w.alloc A).alloc B).alloc C).alloc D).alloc E).heap[k]? = w.heap[k]?) ∧ (((((w.alloc A).alloc B).alloc C).alloc D).alloc E).heap.size = w.heap.size + 1 + 1 + 1 + 1 + 1 := by
 obtain ⟨h1, h2, h3, h4, h5, h6⟩ := H6 w A B C D
 have h : (((((w.alloc A).alloc B).alloc C).alloc D).alloc E).heap = ((((w.alloc A).alloc B).alloc C).alloc D).heap.push E := rfl
 rw [h]
 refine ⟨?_, ?_, ?_, ?_, ?_, fun k hk => ?_, by rw [Array.size_push, h6]⟩
 ·rw [Array.getElem?_push, if_neg (by omega), h1]
 ·rw [Array.getElem?_push, if_neg (by omega), h2]
 ·rw [Array.getElem?_push, if_neg (by omega), h3]
 ·rw [Array.getElem?_push, if_neg (by omega), h4]
 ·rw [Array.getElem?_push, if_pos (by omega)]
 ·rw [Array.getElem?_push, if_neg (by omega), h5 k hk]
def fg (a : Aig) (b : List UInt8) : Option (gO × Nat) := if b.length ≤ 100000 then fk a b 0 else none
def po : gO := ⟨[], 0, [], [], []⟩
def tR (a : Aig) (b : List UInt8) (r : V) : Prop := match fg a b with
 | some (c, q) => r = .tup [dU c, .int .i64 q, .int .i64 0]
 | none => ∃ p e : Int, e ≠ 0 ∧ r = .tup [dU po, .int .i64 p, .int .i64 e]
theorem qT {a : Aig} {b : List UInt8} {p e : Int} (h : fg a b = none) (he : e ≠ 0) : tR a b (.tup [dU po, .int .i64 p, .int .i64 e]) := by
 unfold tR; rw [h]; exact ⟨_, _, he, rfl⟩
theorem GD {α : Type} {l : List α} (h : l.length = 5) : ∃ a b c d e, l = [a, b, c, d, e] := by
 match l, h with
 | [a, b, c, d, e], _ => exact ⟨a, b, c, d, e, rfl⟩
theorem CH {w : World} {im : Nat → Prop} : RepV w im (dU po) (.agg Z5) := by
 refine .agg _ _ rfl fun i v u hv hu => ?_
 match i, hv, hu with
 | 0, rfl, rfl => exact .sl0 _ _
 | 1, rfl, rfl => exact .int _ _
 | 2, rfl, rfl => exact .sl0 _ _
 | 3, rfl, rfl => exact .sl0 _ _
 | 4, rfl, rfl => exact .sl0 _ _
set_option maxHeartbeats 1000000 in
set_option maxRecDepth 100000 in
theorem Fw (a : Aig) (ha : AigS a) (hv : ay a ≤ 20000) (b : List UInt8) (hb : b.length ≤ 1000000000000) : kw 47 [bq a, cH b] (tR a b) := by
 refine ⟨cJ (fn := Tryz.f47) (by kernel_rfl) rfl (by kernel_rfl), fun w im us hG hp => ?_⟩
 obtain ⟨ua, u, rfl, hua, hu⟩ := GL hp
 obtain ⟨ad, c, rfl⟩ := eF hu
 obtain ⟨us, rfl, hl7, hvv⟩ := oS hua
 obtain ⟨y0, y1, y2, y3, y4, y5, y6, rfl⟩ := C2 hl7
 cases (hvv 0 _ _ rfl rfl).int_inv
 obtain ⟨e1, g1, rfl⟩ := eF (hvv 1 _ _ rfl rfl)
 obtain ⟨e2, g2, rfl⟩ := eF (hvv 2 _ _ rfl rfl)
 obtain ⟨e3, g3, rfl⟩ := eF (hvv 3 _ _ rfl rfl)
 obtain ⟨e4, g4, rfl⟩ := eF (hvv 4 _ _ rfl rfl)
 obtain ⟨e5, g5, rfl⟩ := eF (hvv 5 _ _ rfl rfl)
 obtain ⟨e6, g6, rfl⟩ := eF (hvv 6 _ _ rfl rfl)
 clear hvv hl7
 simp only [List.length_map] at hua hu hp ⊢
 have hmf : ∀ (fn : Fn) (first cap : Array Value) (w : World), (Instr.makeFunc fn first cap).run Tryz.prog w = .ok (.func fn first cap) w := fun _ _ _ _ => rfl
 by_cases hl : b.length ≤ 100000
 ·have hl2 : ¬ (100000 < (b.length : Int)) := by omega
  have hpM : fg a b = fk a b 0 := if_pos hl
  obtain ⟨a0, a1, a2, a3, a4, a5, a6⟩ := IR w (.cells #[.int .i64 a.i, .slice e1 a.l.length g1, .slice e2 a.g.length g2, .slice e3 a.outs.length g3, .slice e4 a.bad.length g4, .slice e5 a.con.length g5, .slice e6 a.names.length g6] 33) (.cells Z5 119) (.cells #[.int .i64 0] 3) (.cells #[.int .i64 0] 43) (.cells #[.slice ad b.length c, .int .i64 0] 192)
  have hG2 : Glob (((((w.alloc (.cells #[.int .i64 a.i, .slice e1 a.l.length g1, .slice e2 a.g.length g2, .slice e3 a.outs.length g3, .slice e4 a.bad.length g4, .slice e5 a.con.length g5, .slice e6 a.names.length g6] 33)).alloc (.cells Z5 119)).alloc (.cells #[.int .i64 0] 3)).alloc (.cells #[.int .i64 0] 43)).alloc (.cells #[.slice ad b.length c, .int .i64 0] 192)) := hG.stays (by rw [a6]; omega) fun g hg => a5 g (by have := hG.1; omega)
  have hu2 : RepV (((((w.alloc (.cells #[.int .i64 a.i, .slice e1 a.l.length g1, .slice e2 a.g.length g2, .slice e3 a.outs.length g3, .slice e4 a.bad.length g4, .slice e5 a.con.length g5, .slice e6 a.names.length g6] 33)).alloc (.cells Z5 119)).alloc (.cells #[.int .i64 0] 3)).alloc (.cells #[.int .i64 0] 43)).alloc (.cells #[.slice ad b.length c, .int .i64 0] 192)) (fun k => im k ∧ k < w.heap.size) (cH b) (.slice ad b.length c) := hu.mono fun k hk hlt => ⟨⟨hk, hlt⟩, a5 k hlt⟩
  have hua2 : RepV (((((w.alloc (.cells #[.int .i64 a.i, .slice e1 a.l.length g1, .slice e2 a.g.length g2, .slice e3 a.outs.length g3, .slice e4 a.bad.length g4, .slice e5 a.con.length g5, .slice e6 a.names.length g6] 33)).alloc (.cells Z5 119)).alloc (.cells #[.int .i64 0] 3)).alloc (.cells #[.int .i64 0] 43)).alloc (.cells #[.slice ad b.length c, .int .i64 0] 192)) (fun k => im k ∧ k < w.heap.size) (bq a) (.agg #[.int .i64 a.i, .slice e1 a.l.length g1, .slice e2 a.g.length g2, .slice e3 a.outs.length g3, .slice e4 a.bad.length g4, .slice e5 a.con.length g5, .slice e6 a.names.length g6]) := hua.mono fun k hk hlt => ⟨⟨hk, hlt⟩, a5 k hlt⟩
  have hcl : ∀ (i : Nat) v u, [cH b, V.int .i64 0][i]? = some v → #[Value.slice ad b.length c, .int .i64 0][i]? = some u → RepV (((((w.alloc (.cells #[.int .i64 a.i, .slice e1 a.l.length g1, .slice e2 a.g.length g2, .slice e3 a.outs.length g3, .slice e4 a.bad.length g4, .slice e5 a.con.length g5, .slice e6 a.names.length g6] 33)).alloc (.cells Z5 119)).alloc (.cells #[.int .i64 0] 3)).alloc (.cells #[.int .i64 0] 43)).alloc (.cells #[.slice ad b.length c, .int .i64 0] 192)) (fun k => im k ∧ k < w.heap.size) v u := by
   intro i v u h1 h2
   match i, h1, h2 with
   | 0, rfl, rfl => exact hu2
   | 1, rfl, rfl => exact .int _ _
  have hpa : PW (RepV (((((w.alloc (.cells #[.int .i64 a.i, .slice e1 a.l.length g1, .slice e2 a.g.length g2, .slice e3 a.outs.length g3, .slice e4 a.bad.length g4, .slice e5 a.con.length g5, .slice e6 a.names.length g6] 33)).alloc (.cells Z5 119)).alloc (.cells #[.int .i64 0] 3)).alloc (.cells #[.int .i64 0] 43)).alloc (.cells #[.slice ad b.length c, .int .i64 0] 192)) (fun k => im k ∧ k < w.heap.size)) [bq a] [.agg #[.int .i64 a.i, .slice e1 a.l.length g1, .slice e2 a.g.length g2, .slice e3 a.outs.length g3, .slice e4 a.bad.length g4, .slice e5 a.con.length g5, .slice e6 a.names.length g6]] := ⟨rfl, fun i v u h1 h2 => by
   match i, h1, h2 with
   | 0, rfl, rfl => exact hua2⟩
  have h9 := hG.1
  cases hM : fk a b 0 with
  | none =>
    have hps : dh Tryz.prog 89 [.ptr 900 0, .v (bq a)] [(900, RB b 0)] (.pan 189) := by
     have := Dx b 0 a ha hv (Nat.zero_le _) hb
     rw [hM] at this; exact this
    have hC : ∀ w2, w2 = (((((w.alloc (.cells #[.int .i64 a.i, .slice e1 a.l.length g1, .slice e2 a.g.length g2, .slice e3 a.outs.length g3, .slice e4 a.bad.length g4, .slice e5 a.con.length g5, .slice e6 a.names.length g6] 33)).alloc (.cells Z5 119)).alloc (.cells #[.int .i64 0] 3)).alloc (.cells #[.int .i64 0] 43)).alloc (.cells #[.slice ad b.length c, .int .i64 0] 192)) → Calls Tryz.prog 89 #[.pointer (some ⟨w.heap.size + 1 + 1 + 1 + 1, 0, none⟩), .agg #[.int .i64 a.i, .slice e1 a.l.length g1, .slice e2 a.g.length g2, .slice e3 a.outs.length g3, .slice e4 a.bad.length g4, .slice e5 a.con.length g5, .slice e6 a.names.length g6]] w2 fun e w' => (∃ p q, q ≠ 0 ∧ e = .panicked [{ v := wv 189 p q, recovered := false }]) ∧ lf (w.heap.size + 1 + 1 + 1 + 1) w2 w' := by
     rintro w2 rfl
     exact my (vs := [bq a]) (us := [.agg #[.int .i64 a.i, .slice e1 a.l.length g1, .slice e2 a.g.length g2, .slice e3 a.outs.length g3, .slice e4 a.bad.length g4, .slice e5 a.con.length g5, .slice e6 a.names.length g6]]) (cs := [cH b, .int .i64 0]) hps hG2 (by omega) a4 (fun k hk => by have := hk.2; omega) rfl hcl hpa
    go_enter_defers Tryz.func47, Tryz.ntmps47
    go_wp2_with (go_at_call 89; refine (hC _ rfl).mono ?_; rintro e w5 ⟨⟨pp, ee, hee, rfl⟩, b1, b2, b3, b4, b5⟩)
    have hpM' : fg a b = none := hpM.trans hM
    have k1 : w5.heap[w.heap.size + 1]? = some (.cells Z5 119 (0, 0)) := (b5 _ (by rw [a6]; omega) (by omega)).trans a1
    have k2 : w5.heap[w.heap.size + 1 + 1]? = some (.cells #[.int .i64 0] 3 (0, 0)) := (b5 _ (by rw [a6]; omega) (by omega)).trans a2
    have k3 : w5.heap[w.heap.size + 1 + 1 + 1]? = some (.cells #[.int .i64 0] 43 (0, 0)) := (b5 _ (by rw [a6]; omega) (by omega)).trans a3
    have k4 : ∀ k, k < w.heap.size → w5.heap[k]? = w.heap[k]? := fun k hk => (b5 k (by rw [a6]; omega) (by omega)).trans (a5 k hk)
    rw [a6] at b4
    have k5 : w.heap.size ≤ w5.heap.size := by omega
    have k9 : w.heap.size + 1 + 1 + 1 + 1 ≤ w5.heap.size := by omega
    have k6 : w5.os = w.os := b1
    have k7 : w5.tape = w.tape := b2
    have k8 : w5.output = w.output := b3
    refine leaves_cons (f := 88) (args := #[.pointer (some ⟨w.heap.size + 1, 0, none⟩), .pointer (some ⟨w.heap.size + 1 + 1, 0, none⟩), .pointer (some ⟨w.heap.size + 1 + 1 + 1, 0, none⟩)]) (by simp) (by simp [go_sem]) ?_
    refine (lC (w.heap.size + 1) (w.heap.size + 1 + 1) (w.heap.size + 1 + 1 + 1) 0 0 pp ee [] _ k1 k2 k3 (by omega) (by omega) (by omega)).mono ?_
    rintro e u' w'' ⟨rfl, rfl, j1, j2, j3, j4, j5, j6, j7, j8⟩
    have c0 := aY j1 (i := 0) rfl
    have c1 := aY j1 (i := 1) rfl
    have c2 := aY j1 (i := 2) rfl
    have c3 := aY j1 (i := 3) rfl
    have c4 := aY j1 (i := 4) rfl
    have cq := aY j2 (i := 0) rfl
    have cr := aY j3 (i := 0) rfl
    simp only [Leaves, settle, List.dropWhile]
    refine ⟨.tuple #[.agg Z5, .int .i64 pp, .int .i64 ee], by simp [results, Tryz.results47, go_sem, c0, c1, c2, c3, c4, cq, cr], .tup [dU po, .int .i64 pp, .int .i64 ee], _, qT hpM' hee, rfl, ⟨j6.trans k6, j7.trans k7, j8.trans k8, Nat.le_trans k5 j5, fun k hk => (j4 k (by omega) (by omega) (by omega) (by omega)).trans (k4 k hk)⟩, xP CH (.int _ _) (.int _ _)⟩
  | some aq =>
    obtain ⟨c0, q⟩ := aq
    have hps : dh Tryz.prog 89 [.ptr 900 0, .v (bq a)] [(900, RB b 0)] (.ret (.v (dU c0)) [(900, RB b q)]) := by
     have := Dx b 0 a ha hv (Nat.zero_le _) hb
     rw [hM] at this; exact this
    have hC : ∀ w2, w2 = (((((w.alloc (.cells #[.int .i64 a.i, .slice e1 a.l.length g1, .slice e2 a.g.length g2, .slice e3 a.outs.length g3, .slice e4 a.bad.length g4, .slice e5 a.con.length g5, .slice e6 a.names.length g6] 33)).alloc (.cells Z5 119)).alloc (.cells #[.int .i64 0] 3)).alloc (.cells #[.int .i64 0] 43)).alloc (.cells #[.slice ad b.length c, .int .i64 0] 192)) → Calls Tryz.prog 89 #[.pointer (some ⟨w.heap.size + 1 + 1 + 1 + 1, 0, none⟩), .agg #[.int .i64 a.i, .slice e1 a.l.length g1, .slice e2 a.g.length g2, .slice e3 a.outs.length g3, .slice e4 a.bad.length g4, .slice e5 a.con.length g5, .slice e6 a.names.length g6]] w2 fun e w' => ∃ u arr' ty', e = .returned u ∧ lf (w.heap.size + 1 + 1 + 1 + 1) w2 w' ∧ RepV w' (fun k => ((im k ∧ k < w.heap.size) ∨ w2.heap.size ≤ k) ∧ k ≠ w.heap.size + 1 + 1 + 1 + 1) (dU c0) u ∧
     w'.heap[w.heap.size + 1 + 1 + 1 + 1]? = some (.cells arr' ty' (0, 0)) ∧ arr'.size = 2 ∧ ∀ (i : Nat) v u, [cH b, V.int .i64 q][i]? = some v → arr'[i]? = some u → RepV w' (fun k => ((im k ∧ k < w.heap.size) ∨ w2.heap.size ≤ k) ∧ k ≠ w.heap.size + 1 + 1 + 1 + 1) v u := by
     rintro w2 rfl
     exact tG (vs := [bq a]) (us := [.agg #[.int .i64 a.i, .slice e1 a.l.length g1, .slice e2 a.g.length g2, .slice e3 a.outs.length g3, .slice e4 a.bad.length g4, .slice e5 a.con.length g5, .slice e6 a.names.length g6]]) (cs := [cH b, .int .i64 0]) (cs' := [cH b, .int .i64 q]) hps hG2 (by omega) a4 (fun k hk => by have := hk.2; omega) rfl hcl hpa
    go_enter_defers Tryz.func47, Tryz.ntmps47
    go_wp2_with (go_at_call 89; refine (hC _ rfl).mono ?_; rintro e w5 ⟨u, arr, ty, rfl, ⟨b1, b2, b3, b4, b5⟩, hrep, hkk, hsz, hcell⟩; obtain ⟨us, rfl, hl5, hvv⟩ := oS hrep; obtain ⟨y0, y1, y2, y3, y4, rfl⟩ := GD hl5; (have q1 : w5.heap[w.heap.size + 1]? = some (.cells Z5 119 (0, 0)) := (b5 _ (by rw [a6]; omega) (by omega)).trans a1); (have q2 : w5.heap[w.heap.size + 1 + 1]? = some (.cells #[.int .i64 0] 3 (0, 0)) := (b5 _ (by rw [a6]; omega) (by omega)).trans a2); (have q3 : w5.heap[w.heap.size + 1 + 1 + 1]? = some (.cells #[.int .i64 0] 43 (0, 0)) := (b5 _ (by rw [a6]; omega) (by omega)).trans a3); (cases (hvv 1 _ _ rfl rfl).int_inv); (obtain ⟨d1, n1, rfl⟩ := eF (hvv 0 _ _ rfl rfl)); (obtain ⟨d2, n2, rfl⟩ := eF (hvv 2 _ _ rfl rfl)); (obtain ⟨d3, n3, rfl⟩ := eF (hvv 3 _ _ rfl rfl)); (obtain ⟨d4, n4, rfl⟩ := eF (hvv 4 _ _ rfl rfl)); (obtain ⟨x0, x1, rfl⟩ := uM hsz); (have hx1 := (hcell 1 _ _ rfl rfl).int_inv); (subst hx1); (have t0 := aY q1 (i := 0) rfl); (have t1 := aY q1 (i := 1) rfl); (have t2 := aY q1 (i := 2) rfl); (have t3 := aY q1 (i := 3) rfl); (have t4 := aY q1 (i := 4) rfl); (have f0 := bQ (i := 0) q1); (have f1 := bQ (i := 1) q1); (have f2 := bQ (i := 2) q1); (have f3 := bQ (i := 3) q1); (have f4 := bQ (i := 4) q1); skip)
    rw [zV]
    obtain ⟨s1, s2, s3, s4, s5⟩ := iM (w.heap.size + 1) [.slice d1 c0.g.length n1, .int .i64 c0.inv, .slice d2 c0.p0.length n2, .slice d3 c0.p1.length n3, .slice d4 c0.p2.length n4] 0 w5
    have s0 := kV (vs := [.slice d1 c0.g.length n1, .int .i64 c0.inv, .slice d2 c0.p0.length n2, .slice d3 c0.p1.length n3, .slice d4 c0.p2.length n4]) q1 rfl
    clear t0 t1 t2 t3 t4 f0 f1 f2 f3 f4
    generalize gK (w.heap.size + 1) 0 [.slice d1 c0.g.length n1, .int .i64 c0.inv, .slice d2 c0.p0.length n2, .slice d3 c0.p1.length n3, .slice d4 c0.p2.length n4] w5 = w6 at s0 s1 s2 s3 s4 s5 ⊢
    have j2 := (s1 (w.heap.size + 1 + 1) (by omega)).trans q2
    have j3 := (s1 (w.heap.size + 1 + 1 + 1) (by omega)).trans q3
    have j4 := (s1 (w.heap.size + 1 + 1 + 1 + 1) (by omega)).trans hkk
    refine wL (c' := uT 5 (Tryz.f47.body.getD .skip)) (by kernel_rfl) ?_
    refine F7 (w.heap.size + 1) (w.heap.size + 1 + 1) (w.heap.size + 1 + 1 + 1) (w.heap.size + 1 + 1 + 1 + 1) (by omega) (by omega) (by omega) (by omega) (by omega) (by omega) c0.inv q 0 0 x0 ty d1 d2 d3 d4 c0.g.length c0.p0.length c0.p1.length c0.p2.length n1 n2 n3 n4 _ _ _ _ _ _ _ _ _ _ _ _ _ _ _ _ _ w6 s0 j2 j3 j4 ?_
    intro u20 u21 u22 u23 u24 w7 z1 z2 z3 z4 z5 z6 z7 z8
    clear hps hC
    have hrep2 := hrep
    simp only [List.length_map] at hrep2
    clear hrep hcell hvv
    go_wp2
    refine leaves_cons (f := 88) (args := #[.pointer (some ⟨w.heap.size + 1, 0, none⟩), .pointer (some ⟨w.heap.size + 1 + 1, 0, none⟩), .pointer (some ⟨w.heap.size + 1 + 1 + 1, 0, none⟩)]) (by simp) (by simp [go_sem]) ?_
    refine (q8 _ _ _ _).mono ?_
    rintro e u' w'' ⟨rfl, rfl, rfl⟩
    have t0 := aY z1 (i := 0) rfl
    have t1 := aY z1 (i := 1) rfl
    have t2 := aY z1 (i := 2) rfl
    have t3 := aY z1 (i := 3) rfl
    have t4 := aY z1 (i := 4) rfl
    have tq := aY z2 (i := 0) rfl
    have tr := aY z3 (i := 0) rfl
    simp only [Leaves, settle]
    have hold : ∀ k, k ≠ w.heap.size + 1 → k ≠ w.heap.size + 1 + 1 → k ≠ w.heap.size + 1 + 1 + 1 → w''.heap[k]? = w5.heap[k]? := fun k h1 h2 h3 => (z4 k h1 h2 h3).trans (s1 k h1)
    refine ⟨.tuple #[_, .int .i64 q, .int .i64 0], by simp [results, Tryz.results47, go_sem, t0, t1, t2, t3, t4, tq, tr], .tup [dU c0, .int .i64 q, .int .i64 0], _, by unfold tR; rw [hpM, hM], rfl, ⟨z6.trans (s3.trans b1), z7.trans (s4.trans b2), z8.trans (s5.trans b3), by rw [z5, s2]; rw [a6] at b4; omega, fun k hk => (hold k (by omega) (by omega) (by omega)).trans ((b5 k (by rw [a6]; omega) (by omega)).trans (a5 k hk))⟩, xP (hrep2.mono fun k hk hlt => ⟨?_, hold k ?_ ?_ ?_⟩) (.int _ _) (.int _ _)⟩
    ·rcases hk.1 with h | h
     ·exact .inl h.1
     ·rw [a6] at h; exact .inr (by omega)
    all_goals (have hk1 := hk.1; rw [a6] at hk1; omega)
 ·have hl2 : 100000 < (b.length : Int) := by omega
  have hpM : fg a b = none := if_neg hl
  have hpan : ∀ (w : World), (Instr.panic (.iface 189 (.agg #[.int .i64 0, .int .i64 3]))).run Tryz.prog w = .halt (.panic (.iface 189 (.agg #[.int .i64 0, .int .i64 3]))) w := by intro w; simp [Instr.panic, goPanic]
  obtain ⟨k0, k1, k2, k3, k4, k5⟩ := H6 w (.cells #[.int .i64 a.i, .slice e1 a.l.length g1, .slice e2 a.g.length g2, .slice e3 a.outs.length g3, .slice e4 a.bad.length g4, .slice e5 a.con.length g5, .slice e6 a.names.length g6] 33) (.cells Z5 119) (.cells #[.int .i64 0] 3) (.cells #[.int .i64 0] 43)
  go_enter_defers Tryz.func47, Tryz.ntmps47
  go_wp2
  have k6 : ((((w.alloc (.cells #[.int .i64 a.i, .slice e1 a.l.length g1, .slice e2 a.g.length g2, .slice e3 a.outs.length g3, .slice e4 a.bad.length g4, .slice e5 a.con.length g5, .slice e6 a.names.length g6] 33)).alloc (.cells Z5 119)).alloc (.cells #[.int .i64 0] 3)).alloc (.cells #[.int .i64 0] 43)).os = w.os := rfl
  have k7 : ((((w.alloc (.cells #[.int .i64 a.i, .slice e1 a.l.length g1, .slice e2 a.g.length g2, .slice e3 a.outs.length g3, .slice e4 a.bad.length g4, .slice e5 a.con.length g5, .slice e6 a.names.length g6] 33)).alloc (.cells Z5 119)).alloc (.cells #[.int .i64 0] 3)).alloc (.cells #[.int .i64 0] 43)).tape = w.tape := rfl
  have k8 : ((((w.alloc (.cells #[.int .i64 a.i, .slice e1 a.l.length g1, .slice e2 a.g.length g2, .slice e3 a.outs.length g3, .slice e4 a.bad.length g4, .slice e5 a.con.length g5, .slice e6 a.names.length g6] 33)).alloc (.cells Z5 119)).alloc (.cells #[.int .i64 0] 3)).alloc (.cells #[.int .i64 0] 43)).output = w.output := rfl
  have k9 := k5
  replace k5 : w.heap.size ≤ ((((w.alloc (.cells #[.int .i64 a.i, .slice e1 a.l.length g1, .slice e2 a.g.length g2, .slice e3 a.outs.length g3, .slice e4 a.bad.length g4, .slice e5 a.con.length g5, .slice e6 a.names.length g6] 33)).alloc (.cells Z5 119)).alloc (.cells #[.int .i64 0] 3)).alloc (.cells #[.int .i64 0] 43)).heap.size := by omega
  refine leaves_cons (f := 88) (args := #[.pointer (some ⟨w.heap.size + 1, 0, none⟩), .pointer (some ⟨w.heap.size + 1 + 1, 0, none⟩), .pointer (some ⟨w.heap.size + 1 + 1 + 1, 0, none⟩)]) (by simp) (by simp [go_sem]) ?_
  refine (lC (w.heap.size + 1) (w.heap.size + 1 + 1) (w.heap.size + 1 + 1 + 1) 0 0 0 3 [] _ k1 k2 k3 (by omega) (by omega) (by omega)).mono ?_
  rintro e u' w'' ⟨rfl, rfl, j1, j2, j3, j4, j5, j6, j7, j8⟩
  have c0 := aY j1 (i := 0) rfl
  have c1 := aY j1 (i := 1) rfl
  have c2 := aY j1 (i := 2) rfl
  have c3 := aY j1 (i := 3) rfl
  have c4 := aY j1 (i := 4) rfl
  have cq := aY j2 (i := 0) rfl
  have cr := aY j3 (i := 0) rfl
  simp only [Leaves, settle, List.dropWhile]
  refine ⟨.tuple #[.agg Z5, .int .i64 0, .int .i64 3], by simp [results, Tryz.results47, go_sem, c0, c1, c2, c3, c4, cq, cr], .tup [dU po, .int .i64 0, .int .i64 3], _, qT hpM (by decide), rfl, ⟨j6.trans k6, j7.trans k7, j8.trans k8, Nat.le_trans k5 j5, fun k hk => (j4 k (by omega) (by omega) (by omega) (by omega)).trans (k4 k hk)⟩, xP CH (.int _ _) (.int _ _)⟩
end Go.Vd
namespace Go.Vd
theorem xw {b : List UInt8} {n : Int} : ∀ {k p : Nat} {out c : List Int} {q : Nat}, out.length ≤ 1000 → eR b n k p out = some (c, q) → c.length ≤ 1001 := by
 intro k
 induction k with
 | zero => intro p out c q h he; unfold eR at he; cases he
 | succ k ih =>
   intro p out c q h he
   unfold eR at he
   split at he
   ·cases he
   ·split at he
    ·split at he
     ·cases he; omega
     ·cases he
    ·split at he
     ·cases he
     ·split at he
      ·exact ih (by simp; omega) he
      ·cases he
theorem xQ {b : List UInt8} {n : Int} {p q : Nat} {s : ii} (h : gi b n p = some (s, q)) : s.c.length ≤ 1001 := by
 unfold gi at h
 obtain ⟨⟨c, r⟩, h1, h2⟩ := Option.map_eq_some_iff.1 h
 cases h2
 exact xw (by simp) h1
theorem vG {b : List UInt8} {n : Int} : ∀ {k p : Nat} {out c : List ii} {q : Nat}, (∀ s, s ∈ out → s.c.length ≤ 1001) → fU b n k p out = some (c, q) → c.length = out.length + k ∧ ∀ s, s ∈ c → s.c.length ≤ 1001 := by
 intro k
 induction k with
 | zero => intro p out c q h he; unfold fU at he; cases he; exact ⟨rfl, h⟩
 | succ k ih =>
   intro p out c q h he
   unfold fU at he
   split at he
   ·rename_i s r hs
    have := ih (fun x hx => (List.mem_append.1 hx).elim (h x) (fun hx => by rw [List.mem_singleton] at hx; subst hx; exact xQ hs)) he
    refine ⟨by rw [this.1]; simp; omega, this.2⟩
   ·cases he
theorem lZ {b : List UInt8} {n : Int} {p : Nat} {c : List ii} {q : Nat} (he : ec b n p = some (c, q)) : c.length ≤ 20000 ∧ ∀ s, s ∈ c → s.c.length ≤ 1001 := by
 unfold ec at he
 split at he
 ·split at he
  ·rename_i h0
   split at he
   ·have := vG (fun s hs => by simp at hs) he
    have hv := g7 b (p + 6) 20000
    refine ⟨by rw [this.1]; simp; have := hv.2.2.1 h0; omega, this.2⟩
   ·cases he
  ·cases he
 ·cases he
theorem Ah {b : List UInt8} {V : Int} : ∀ {k j p q : Nat} {gs gs' : List Gate}, kd b V k j p gs = some (gs', q) → gs'.length = gs.length + k := by
 intro k
 induction k with
 | zero => intro j p q gs gs' h; unfold kd at h; cases h; rfl
 | succ k ih =>
   intro j p q gs gs' h
   unfold kd at h
   obtain ⟨x, _, h⟩ := bH h
   obtain ⟨y, _, h⟩ := bH h
   have := ih h
   rw [this]; simp; omega
theorem zg {a : Aig} {b : List UInt8} {c : gO} {q : Nat} (ha : AigS a) (h : fg a b = some (c, q)) : uP c := by
 have hv : 0 ≤ ay a := by have e : ay a = a.i + (a.l.length : Nat) + (a.g.length : Nat) := rfl; have := ha.i0; omega
 unfold fg at h
 split at h
 ·unfold fk at h
  obtain ⟨⟨k, inv, p1⟩, h1, h⟩ := bH h
  have hk : k ≤ 20000 := by
   unfold Do at h1
   split at h1
   ·obtain ⟨⟨v, r⟩, e1, h1⟩ := bH h1
    obtain ⟨y, e2, h1⟩ := bH h1
    cases h1
    have := jn e1
    show v ≤ 20000
    omega
   ·cases h1
  unfold EQ at h
  obtain ⟨⟨gs, p2⟩, h2, h⟩ := bH h
  have hg := Ah h2
  unfold yL at h
  split at h
  ·cases h
  ·obtain ⟨⟨⟨s0, s1, s2⟩, p3⟩, h3, h⟩ := bH h
   unfold oQ at h3
   obtain ⟨⟨t0, r0⟩, e0, h3⟩ := bH h3
   unfold xW at h3
   obtain ⟨⟨t1, r1⟩, e1, h3⟩ := bH h3
   unfold ym at h3
   obtain ⟨⟨t2, r2⟩, e2, h3⟩ := bH h3
   cases h3
   have l0 := lZ e0
   have l1 := lZ e1
   have l2 := lZ e2
   unfold zw at h
   split at h
   ·cases h
   ·cases h
    refine ⟨?_, ?_, ?_, ?_, fun s hs => ?_, fun s hs => ?_, fun s hs => ?_⟩
    ·show gs.length ≤ 1000000; rw [hg]; simp; omega
    ·exact Nat.le_trans l0.1 (by decide)
    ·exact Nat.le_trans l1.1 (by decide)
    ·exact Nat.le_trans l2.1 (by decide)
    ·have := l0.2 s hs; omega
    ·have := l1.2 s hs; omega
    ·have := l2.2 s hs; omega
 ·cases h
end Go.Vd
namespace Go.Vd
open Go.Proofs Go.RowKit
abbrev FD (xs : List V) : V := .sl (xs.map fun x => [x])
abbrev IM (e : Int) : List UInt8 := if e = 0 then [111, 107, 10] else []
theorem H0 (a : Aig) (t : dT) (hf : Ir a) (hb : Bd a) (hz : IA t) (hn : Nn t.ini) (hn2 : ∀ r, r ∈ t.ins → Nn r) : dn 33 [FD [.ifc 33 (bq a), .ifc 39 (sr t)]] (.tup [.str (bs (IM (db a t))), .int .i64 (db a t)]) := by
 refine bC ac (f := 33) (fn := Tryz.f33) (N := 16) (rs := [.tmp 2, .tmp 3]) (by kernel_rfl) rfl (by kernel_rfl) rfl rfl [(0, .v (FD [.ifc 33 (bq a), .ifc 39 (sr t)]))] ⟨rfl, aj⟩ rfl rfl ?_
 intro B
 refine ag<|af J<|af J<|ab<|ae<|aS (L := [([], []), ([], []), ([], []), ([], []), ([], []), ([], []), ([], []), ([], []), ([], []), ([], []), ([], []), ([], []), ([], []), ([], [])]) (by kernel_rfl) mixed (by kernel_rfl)<|aa J<|fZ ac J J J iB J iD (by decide) J J J J ?_
 refine bu iD J<|qA ac (by decide) J J aK J J ?_
 refine aa J<|fZ ac J J J iB J iD (by decide) J J J J ?_
 refine bu iD J<|qA ac (by decide) J J dF J J ?_
 refine ap [] (GG a t hf hb hz hn hn2) J J J J J J aj (.inl J) J J J<|ap [] (C6 (db a t)) J J J J J J aj (.inl J) J J J<|aW J<|aW J<|af J<|af J<|ab<|am ?_
 refine an J J ?_
 rfl
theorem Fg (a : Aig) (bad : Nat) (c : gO) (hz : uP c) (hag : a.g.length ≤ 1000000) (hbb : a.bad.length ≤ 1000000) (hbad : bad ≤ 2147483647) (hs : ∀ x, x ∈ a.names → x.s.length ≤ 1000000000000) (hnl : a.names.length ≤ 1000000000000) : kw 39 [FD [.ifc 33 (bq a), .ifc 119 (dU c), .ifc 3 (.int .i64 bad)]] (fun v => ∃ z : Int, v = .tup [.str (bs (IM z)), .int .i64 z] ∧ tE a bad c z) := by
 refine dJ ac (f := 39) (fn := Tryz.f39) (N := 26) (rs := [.tmp 2, .tmp 3]) (by kernel_rfl) rfl (by kernel_rfl) rfl rfl [(0, .v (FD [.ifc 33 (bq a), .ifc 119 (dU c), .ifc 3 (.int .i64 bad)]))] ⟨rfl, aj⟩ rfl rfl ?_
 intro B
 refine ag<|af J<|af J<|ab<|ae<|mt (L := [([], []), ([], []), ([], []), ([], []), ([], []), ([], []), ([], []), ([], []), ([], []), ([], []), ([], []), ([], []), ([], []), ([], []), ([], []), ([], []), ([], []), ([], [])]) 12 (by kernel_rfl) mixed J (by kernel_rfl)<|aa J<|fZ ac J J J iB J iD (by decide) J J J J ?_
 refine bu iD J<|qA ac (by decide) J J aK J J ?_
 refine aa J<|fZ ac J J J iB J iD (by decide) J J J J ?_
 refine bu iD J<|qA ac (by decide) J J bm J J ?_
 refine aa J<|fZ ac J J J iB J iD (by decide) J J J J ?_
 refine bu iD J<|qA ac (by decide) J J ea J J ?_
 refine ar ?_
 refine mh [] (DU a bad c hz hag hbb hbad hs hnl) rfl rfl rfl rfl rfl rfl aj (.inl rfl) rfl rfl ?_
 rintro _ ⟨k, z, rfl, hk⟩
 refine aa J<|aW J<|aW J<|af J<|af J<|ab<|ag<|aa J<|ap [] (C6 z) J J J J J J aj (.inl J) J J J<|aW J<|aW J<|af J<|af J<|ar ?_
 refine ak<|am ?_
 refine aD J J ?_
 exact ⟨z, rfl, hk⟩
end Go.Vd
namespace Go.Vd
open Go.Proofs Go.RowKit
def PA (b : List UInt8) (a : Aig) (e : Int) : Prop := (e = 0 ∧ ∃ q, dk b = some (a, q)) ∨ (e ≠ 0 ∧ dk b = none)
def PC (a : Aig) (b : List UInt8) (c : gO) (e : Int) : Prop := (e = 0 ∧ ∃ q, fg a b = some (c, q)) ∨ (e ≠ 0 ∧ fg a b = none)
theorem A9 (b : List UInt8) (hb : b.length ≤ 1000000000000) : kw 40 [cH b] (fun v => ∃ (a : Aig) (p e : Int), v = .tup [bq a, .int .i64 p, .int .i64 e] ∧ PA b a e) :=
 (Fa b hb).mono fun v hv => by
  unfold sD at hv
  split at hv
  ·rename_i a q h; exact ⟨a, _, _, hv, .inl ⟨rfl, q, h⟩⟩
  ·rename_i h
   obtain ⟨p, e, he, hv⟩ := hv
   exact ⟨_, _, _, hv, .inr ⟨he, h⟩⟩
theorem Ca (a : Aig) (ha : AigS a) (hv : ay a ≤ 20000) (b : List UInt8) (hb : b.length ≤ 1000000000000) : kw 47 [bq a, cH b] (fun v => ∃ (c : gO) (p e : Int), v = .tup [dU c, .int .i64 p, .int .i64 e] ∧ PC a b c e) :=
 (Fw a ha hv b hb).mono fun v hv => by
  unfold tR at hv
  split at hv
  ·rename_i c q h; exact ⟨c, _, _, hv, .inl ⟨rfl, q, h⟩⟩
  ·rename_i h
   obtain ⟨p, e, he, hv⟩ := hv
   exact ⟨_, _, _, hv, .inr ⟨he, h⟩⟩
theorem Ex (a : Aig) (b : List UInt8) (hb : b.length ≤ 1000000000000) (h0 : 0 ≤ a.i) (h1 : a.i ≤ 1000000) (hal : a.l.length ≤ 1000000) (hbad : a.bad.length ≤ 1000000) : kw 44 [.ifc 33 (bq a), cH b] (fun v => ∃ (t : dT) (p e : Int), v = .tup [sr t, .int .i64 p, .int .i64 e] ∧ (e = 0 → ri a b t)) := by
 refine dJ ac (f := 44) (fn := Tryz.f44) (N := 40) (rs := [.cell 4 39, .tmp 5, .tmp 6]) (by kernel_rfl) rfl (by kernel_rfl) rfl rfl [(0, .v (.ifc 33 (bq a))), (1, .v (cH b))] ⟨rfl, rfl, aj⟩ rfl rfl ?_
 intro B
 refine ag<|bl (id := 4) dF J<|af J<|af J<|ab<|ae<|ag<|aa J<|ab<|aw<|ag ?_
 refine Br ac (by decide) J J aK J J ?_
 refine aW J<|bf (fun h13 => ?_) (fun h13 => ?_)
 ·refine aW J<|ab<|ai J<|ag<|bl (id := 7) aK J<|aR aK [] J aj J<|ab<|ag<|a7 aK J<|aa J<|dm [] (FA a b hb h0 h1 hal hbad) J J J J J J aj (.inl J) J J J ?_
  rintro _ ⟨t, p, e, rfl, ht⟩
  refine aW J<|aW J<|aW J<|aR dF [] J aj J<|af J<|af J<|ab<|am<|az (au (aD J J ?_))
  exact ⟨t, p, e, rfl, ht⟩
 ·exfalso; cases h13
end Go.Vd
namespace Go.Vd
open Go.Proofs Go.RowKit Go.MapKept
theorem IL : Tryz.prog.underlying 76 = some (.map 9 74) := by kernel_rfl
theorem u9 : Tryz.prog.underlying 9 = some .string := by kernel_rfl
def IK : Value → List UInt8
 | .string s => s.data.toList
 | _ => []
theorem zm {w : World} {mb : Nat} {arr : Array MapEntry} {clk : Nat} (h : w.heap[mb]? = some (.map arr clk)) (s : ByteArray) (val : Value) (hk : ∀ e ∈ arr.toList, IsKey .string e.key) (hn : ∀ e ∈ arr.toList, e.key ≠ .string s) :
 (Instr.mapUpdate 76 (.map (some mb)) (.string s) val).run Tryz.prog w = .ok () { w with heap := w.heap.setIfInBounds mb (.map (arr.push { key := .string s, val := val, born := clk }) (clk + 1)) } := by
 have hkey : IsKey .string (.string s) := trivial
 rcases findNow_spec hkey arr.toList 0 hk with ⟨hf, _⟩ | ⟨j, e, hf, he, hek⟩
 ·have hr := run_findKey (P := Tryz.prog) (w := w) u9 hf
  simp [Instr.mapUpdate, run_underlying IL, Go.MapKept.run_getObj_map h, run_checkKey u9 hkey, hr, Result.andThen, Go.MapKept.run_setObj_map _ h]
 ·exact absurd hek (hn e (List.mem_of_getElem? he))
theorem oZ {w : World} {n0 mb : Nat} {w0 : World} {es : List (List UInt8 × Value)} (hB : Below n0 w0 w) (hlo : n0 ≤ mb) {arr : Array MapEntry} {clk : Nat} (h : w.heap[mb]? = some (.map arr clk)) (he : arr.toList.map (fun e => (e.key, e.val)) = es.map fun p => (.string (bs p.1), p.2)) (s : List UInt8) (val : Value) (hn : (es.map (·.1)).contains s = false) :
 ∃ w', (Instr.mapUpdate 76 (.map (some mb)) (.string (bs s)) val).run Tryz.prog w = .ok () w' ∧ Below n0 w0 w' ∧ ∃ arr' clk', w'.heap[mb]? = some (.map arr' clk') ∧ arr'.toList.map (fun e => (e.key, e.val)) = (es ++ [(s, val)]).map fun p => (.string (bs p.1), p.2) := by
 have hall : ∀ e ∈ arr.toList, ∃ p, p ∈ es ∧ e.key = .string (bs p.1) := fun e hm => by
  have : (e.key, e.val) ∈ arr.toList.map (fun e => (e.key, e.val)) := List.mem_map.2 ⟨e, hm, rfl⟩
  rw [he] at this
  obtain ⟨p, hp, heq⟩ := List.mem_map.1 this
  exact ⟨p, hp, (Prod.mk.inj heq).1.symm⟩
 have hs := heap_set h (o' := .map (arr.push { key := .string (bs s), val := val, born := clk }) (clk + 1))
 refine ⟨_, zm h (bs s) val (fun e hm => by obtain ⟨p, _, h2⟩ := hall e hm; rw [h2]; trivial) (fun e hm hk => ?_), ⟨hB.os, hB.tape, hB.output, by simpa using hB.size, fun k hk => (hs.2 k (by omega)).trans (hB.block k hk)⟩, _, _, hs.1, ?_⟩
 ·obtain ⟨p, hp, h2⟩ := hall e hm
  rw [h2] at hk
  have hk2 : bs p.1 = bs s := by cases hk; rfl
  have := bs_inj.1 hk2
  have h3 : (es.map (·.1)).contains s = true := by
   rw [List.contains_iff_mem]
   exact List.mem_map.2 ⟨p, hp, this⟩
  rw [hn] at h3; cases h3
 ·simp [he]
end Go.Vd
namespace Go.Vd
open Go.Proofs Go.RowKit Go.MapKept
def cmdL : List (List UInt8 × List UInt8 × Nat) := [([97, 115, 99, 105, 105], [105], 29), ([98, 105, 110, 97, 114, 121], [97], 30), ([99, 110, 102], [99], 31), ([114, 101, 102, 117, 116, 101], [99, 112], 32), ([114, 101, 112, 108, 97, 121], [97, 119], 33), ([115, 104, 114, 105, 110, 107], [97, 119], 34), ([98, 108, 97, 115, 116], [98], 35), ([119, 111, 114, 100, 115], [98, 118], 36), ([100, 111, 119, 110], [98, 118], 37), ([117, 112], [98, 119], 38), ([99, 104, 101, 99, 107], [97, 107, 110], 39)]
abbrev mz (k : List UInt8) (f : Nat) : Value := .agg #[.string (bs k), .func (.func f) #[] #[]]
set_option maxHeartbeats 8000000 in
set_option maxRecDepth 100000 in
theorem yT (w : World) : Calls Tryz.prog 21 #[] w fun e w' => Below w.heap.size w w' ∧ ∃ mb arr clk, e = .returned (.map (some mb)) ∧ w.heap.size ≤ mb ∧ w'.heap[mb]? = some (.map arr clk) ∧ arr.toList.map (fun e => (e.key, e.val)) = cmdL.map fun p => (.string (bs p.1), mz p.2.1 p.2.2) := by
 have hB0 : Below w.heap.size w (w.alloc (.map #[] 0)) := ⟨rfl, rfl, rfl, by simp, fun b hb => Below.heap_alloc _ _ b hb⟩
 have h0 := heap_alloc_new w (.map #[] 0)
 obtain ⟨w1, r1, hB1, arr1, clk1, h1, e1⟩ := oZ (es := []) hB0 (Nat.le_refl _) h0 rfl [97, 115, 99, 105, 105] (mz [105] 29) (by decide)
 obtain ⟨w2, r2, hB2, uM, clk2, h2, e2⟩ := oZ  hB1 (Nat.le_refl _) h1 e1 [98, 105, 110, 97, 114, 121] (mz [97] 30) (by decide)
 obtain ⟨w3, r3, hB3, arr3, clk3, h3, e3⟩ := oZ  hB2 (Nat.le_refl _) h2 e2 [99, 110, 102] (mz [99] 31) (by decide)
 obtain ⟨w4, r4, hB4, arr4, clk4, h4, e4⟩ := oZ  hB3 (Nat.le_refl _) h3 e3 [114, 101, 102, 117, 116, 101] (mz [99, 112] 32) (by decide)
 obtain ⟨w5, r5, hB5, arr5, clk5, h5, e5⟩ := oZ  hB4 (Nat.le_refl _) h4 e4 [114, 101, 112, 108, 97, 121] (mz [97, 119] 33) (by decide)
 obtain ⟨w6, r6, hB6, arr6, clk6, h6, e6⟩ := oZ  hB5 (Nat.le_refl _) h5 e5 [115, 104, 114, 105, 110, 107] (mz [97, 119] 34) (by decide)
 obtain ⟨w7, r7, hB7, arr7, clk7, h7, e7⟩ := oZ  hB6 (Nat.le_refl _) h6 e6 [98, 108, 97, 115, 116] (mz [98] 35) (by decide)
 obtain ⟨w8, r8, hB8, arr8, clk8, h8, e8⟩ := oZ  hB7 (Nat.le_refl _) h7 e7 [119, 111, 114, 100, 115] (mz [98, 118] 36) (by decide)
 obtain ⟨w9, r9, hB9, arr9, clk9, h9, e9⟩ := oZ  hB8 (Nat.le_refl _) h8 e8 [100, 111, 119, 110] (mz [98, 118] 37) (by decide)
 obtain ⟨w10, r10, hB10, arr10, clk10, h10, e10⟩ := oZ  hB9 (Nat.le_refl _) h9 e9 [117, 112] (mz [98, 119] 38) (by decide)
 obtain ⟨w11, r11, hB11, arr11, clk11, h11, e11⟩ := oZ  hB10 (Nat.le_refl _) h10 e10 [99, 104, 101, 99, 107] (mz [97, 107, 110] 39) (by decide)
 have hfin := e11
 have hmm : (Instr.makeMap 76 none).run Tryz.prog w = .ok (.map (some w.heap.size)) (w.alloc (.map #[] 0)) := by
  simp [Instr.makeMap, run_underlying IL]
 simp only [mz, bs] at r1 r2 r3 r4 r5 r6 r7 r8 r9 r10 r11
 clear e1 e2 e3 e4 e5 e6 e7 e8 e9 e10 e11 h0 h1 h2 h3 h4 h5 h6 h7 h8 h9 h10 hB0 hB1 hB2 hB3 hB4 hB5 hB6 hB7 hB8 hB9 hB10
 go_enter Tryz.func21, Tryz.ntmps21
 go_wp2
 exact ⟨rfl, _, by simp [results, Tryz.results21, go_sem], hB11, w.heap.size, arr11, clk11, rfl, Nat.le_refl _, h11, hfin⟩
def cmdE : List (List V) := cmdL.map fun p => [.str (bs p.1), .agg [.str (bs p.2.1), .fn (.func p.2.2) [] []]]
theorem Al : dn 21 [] (.mp cmdE) := by
 refine ⟨cJ (fn := Tryz.f21) (by kernel_rfl) rfl (by kernel_rfl), fun w im us hG hp => ?_⟩
 have hs : us.size = 0 := by simpa using hp.1
 have hu : us = #[] := Array.eq_empty_of_size_eq_zero hs
 subst hu
 refine Calls.mono (yT w) ?_
 rintro e w' ⟨hB, mb, arr, clk, rfl, hlo, hw, he⟩
 have hlen : arr.size = cmdE.length := by
  have := congrArg List.length he
  simp [cmdE] at this ⊢
  exact this
 have hget : ∀ (i : Nat) m, arr[i]? = some m → ∃ p, cmdL[i]? = some p ∧ m.key = .string (bs p.1) ∧ m.val = mz p.2.1 p.2.2 := fun i m hm => by
  have h1 : (arr.toList.map (fun e => (e.key, e.val)))[i]? = some (m.key, m.val) := by
   rw [List.getElem?_map, Array.getElem?_toList, hm]; rfl
  rw [he, List.getElem?_map] at h1
  obtain ⟨p, h2, h3⟩ := Option.map_eq_some_iff.1 h1
  have h4 := Prod.mk.inj h3
  exact ⟨p, h2, h4.1.symm, h4.2.symm⟩
 refine ⟨_, rfl, hB, .mp _ mb clk arr (.inr hlo) hw hlen (fun e he => ?_) (fun i e x m h1 h2 h3 => ?_) (fun i e x m h1 h2 h3 => ?_)⟩
 ·obtain ⟨p, _, rfl⟩ := List.mem_map.1 he
  rfl
 ·obtain ⟨p, hp, hk, _⟩ := hget i m h3
  unfold cmdE at h1
  rw [List.getElem?_map, hp] at h1
  cases h1
  cases h2
  rw [hk]; exact .str _
 ·obtain ⟨p, hp, _, hk⟩ := hget i m h3
  unfold cmdE at h1
  rw [List.getElem?_map, hp] at h1
  cases h1
  cases h2
  rw [hk]
  refine .agg _ _ rfl fun q v u hv hu => ?_
  match q, hv, hu with
  | 0, rfl, rfl => exact .str _
  | 1, rfl, rfl => exact .fn _ [] [] #[] #[] rfl rfl (fun i v u h _ => by simp at h) (fun i v u h _ => by simp at h)
end Go.Vd
namespace Go.Vd
open Go.Proofs Go.RowKit
def zG (eJ : Value → Int → Int → World → Prop) (T : TypeId) (e : Ending) (w' : World) : Prop := ∃ x p q, e = .returned (.tuple #[.iface T x, .int .i64 p, .int .i64 q]) ∧ eJ x p q w'
def uh (eJ : Value → Int → Int → World → Prop) (e : Ending) (w' : World) : Prop := ∃ x p q, e = .returned (.tuple #[x, .int .i64 p, .int .i64 q]) ∧ eJ x p q w'
set_option maxHeartbeats 8000000 in
set_option maxRecDepth 100000 in
theorem BT (w : World) (bv u : Value) (eJ : Value → Int → Int → World → Prop) (h : Calls Tryz.prog 40 #[bv] w (uh eJ)) : Calls Tryz.prog 22 #[.int .u8 97, bv, u] w (zG eJ 33) := by
 go_enter Tryz.func22, Tryz.ntmps22
 go_wp2_with (go_at_call 40; refine h.mono ?_; rintro e w1 ⟨x, p, q, rfl, hP⟩)
 exact ⟨rfl, _, by simp [results, Tryz.results22, go_sem], x, p, q, rfl, hP⟩
set_option maxHeartbeats 8000000 in
set_option maxRecDepth 100000 in
theorem Bu (w : World) (bv u : Value) (eJ : Value → Int → Int → World → Prop) (h : Calls Tryz.prog 48 #[bv] w (uh eJ)) : Calls Tryz.prog 22 #[.int .u8 110, bv, u] w (zG eJ 3) := by
 go_enter Tryz.func22, Tryz.ntmps22
 go_wp2_with (go_at_call 48; refine h.mono ?_; rintro e w1 ⟨x, p, q, rfl, hP⟩)
 exact ⟨rfl, _, by simp [results, Tryz.results22, go_sem], x, p, q, rfl, hP⟩
set_option maxHeartbeats 8000000 in
set_option maxRecDepth 100000 in
theorem Bg (w : World) (bv ua : Value) (g n c : Nat) (hn : 0 < n) (hc : w.cell? ⟨g, 0, none⟩ = some (.iface 33 ua)) (eJ : Value → Int → Int → World → Prop) (h : Calls Tryz.prog 47 #[ua, bv] w (uh eJ)) : Calls Tryz.prog 22 #[.int .u8 107, bv, .slice (some ⟨g, 0, none⟩) n c] w (zG eJ 119) := by
 have hta : (Instr.typeAssert (.iface 33 ua) 20 33 false).run Tryz.prog w = .ok ua w := ot ac (by decide) aK false
 go_enter Tryz.func22, Tryz.ntmps22
 go_wp2_with (go_at_call 47; refine h.mono ?_; rintro e w1 ⟨x, p, q, rfl, hP⟩)
 exact ⟨rfl, _, by simp [results, Tryz.results22, go_sem], x, p, q, rfl, hP⟩
set_option maxHeartbeats 8000000 in
set_option maxRecDepth 100000 in
theorem B3 (w : World) (bv ua : Value) (g n c : Nat) (hn : 0 < n) (hc : w.cell? ⟨g, 0, none⟩ = some (.iface 33 ua)) (eJ : Value → Int → Int → World → Prop) (h : Calls Tryz.prog 44 #[.iface 33 ua, bv] w (uh eJ)) : Calls Tryz.prog 22 #[.int .u8 119, bv, .slice (some ⟨g, 0, none⟩) n c] w (zG eJ 39) := by
 go_enter Tryz.func22, Tryz.ntmps22
 go_wp2_with (go_at_call 44; refine h.mono ?_; rintro e w1 ⟨x, p, q, rfl, hP⟩)
 exact ⟨rfl, _, by simp [results, Tryz.results22, go_sem], x, p, q, rfl, hP⟩
end Go.Vd
namespace Go.Vd
open Go.Proofs Go.RowKit
theorem zb {w : World} {im : Nat → Prop} {x : V} {p q : Int} {u : Value} (h : RepV w im (.tup [x, .int .i64 p, .int .i64 q]) u) : ∃ ux, u = .tuple #[ux, .int .i64 p, .int .i64 q] ∧ RepV w im x ux := by
 generalize hv : V.tup [x, .int .i64 p, .int .i64 q] = v at h
 cases h with
 | tup vs us hs hh =>
   cases hv
   have hs' : us.size = 3 := by simpa using hs
   have h1 := (hh 1 _ us[1] rfl (by simp [hs'])).int_inv
   have h2 := (hh 2 _ us[2] rfl (by simp [hs'])).int_inv
   refine ⟨us[0], ?_, hh 0 _ us[0] rfl (by simp [hs'])⟩
   congr 1
   refine Array.ext (by simp [hs']) fun i hi hj => ?_
   match i, hj with
   | 0, _ => rfl
   | 1, _ => exact h1
   | 2, _ => exact h2
   | i + 3, h => simp at h; omega
 | _ => cases hv
theorem Ba {w : World} {im : Nat → Prop} {x : V} {p q : Int} {ux : Value} {T : TypeId} (h : RepV w im x ux) : RepV w im (.tup [.ifc T x, .int .i64 p, .int .i64 q]) (.tuple #[.iface T ux, .int .i64 p, .int .i64 q]) :=
 .tup _ _ rfl fun i v u hv hu => by
  match i, hv, hu with
  | 0, rfl, rfl => exact .ifc _ _ _ h
  | 1, rfl, rfl => exact .int _ _
  | 2, rfl, rfl => exact .int _ _
def Cz {α : Type} (enc : α → V) (Q : α → Int → Prop) (w : World) (im : Nat → Prop) (x : Value) (p q : Int) (w' : World) : Prop := ∃ a, Q a q ∧ Below w.heap.size w w' ∧ RepV w' (fun b => im b ∨ w.heap.size ≤ b) (enc a) x
theorem oq {α : Type} {enc : α → V} {Q : α → Int → Prop} {f : FuncId} {ds : List V} (h : kw f ds (fun v => ∃ (a : α) (p e : Int), v = .tup [enc a, .int .i64 p, .int .i64 e] ∧ Q a e)) {w : World} {im : Nat → Prop} {us : Array Value} (hG : Glob w) (hp : PW (RepV w im) ds us.toList) : Calls Tryz.prog f us w (uh (Cz enc Q w im)) :=
 Calls.mono (h.2 w im us hG hp) fun e w' ⟨v, u, ⟨a, p, q, hv, hQ⟩, he, hB, hr⟩ => by
  subst hv
  obtain ⟨ux, rfl, hx⟩ := zb hr
  exact ⟨ux, p, q, he, a, hQ, hB, hx⟩
theorem mC {α : Type} {enc : α → V} {Q : α → Int → Prop} {w : World} {im : Nat → Prop} {T : TypeId} {e : Ending} {w' : World} (h : zG (Cz enc Q w im) T e w') : ∃ v u, (∃ (a : α) (p e : Int), v = .tup [.ifc T (enc a), .int .i64 p, .int .i64 e] ∧ Q a e) ∧ e = .returned u ∧ Below w.heap.size w w' ∧ RepV w' (fun b => im b ∨ w.heap.size ≤ b) v u := by
 obtain ⟨x, p, q, rfl, a, hQ, hB, hx⟩ := h
 exact ⟨_, _, ⟨a, p, q, rfl, hQ⟩, rfl, hB, Ba hx⟩
theorem A4 : ∀ args w, (callFunc 22 args).run Tryz.prog w = .ok (.enter 22 args) w := cJ (fn := Tryz.f22) (by kernel_rfl) rfl (by kernel_rfl)
theorem Bm {w : World} {im : Nat → Prop} {k : Int} {b : V} {us : Array Value} (h : PW (RepV w im) [.int .u8 k, b] us.toList) : ∃ v, us = #[.int .u8 k, v] ∧ RepV w im b v := by
 obtain ⟨u, v, rfl, hu, hv⟩ := GL h
 cases hu.int_inv
 exact ⟨v, rfl, hv⟩
theorem IB {w : World} {im : Nat → Prop} {a : V} {u : Value} (h : RepV w im a u) : PW (RepV w im) [a] (#[u] : Array Value).toList := ⟨rfl, fun i v u' hv hu => by
 match i, hv, hu with
 | 0, rfl, rfl => exact h⟩
theorem IE {w : World} {im : Nat → Prop} {a b : V} {u v : Value} (h : RepV w im a u) (k : RepV w im b v) : PW (RepV w im) [a, b] (#[u, v] : Array Value).toList := ⟨rfl, fun i x u' hv hu => by
 match i, hv, hu with
 | 0, rfl, rfl => exact h
 | 1, rfl, rfl => exact k⟩
theorem qo {w : World} {im : Nat → Prop} {g : Option Nat} {cap : Nat} {a : Aig} (h : RowRel w im 20 1 [[.ifc 33 (bq a)]] (.row g [[V.ifc 33 (bq a)]].length cap)) : ∃ b ua, g = some b ∧ w.cell? ⟨b, 0, none⟩ = some (.iface 33 ua) ∧ RepV w im (bq a) ua := by
 obtain ⟨_, _, ⟨h, h0⟩ | ⟨b, cap', arr, h1, h2, h3, h4, h5, h6⟩⟩ := h
 ·cases h0
 ·cases h1
  have hlt : 0 < arr.size := by simp at h3; omega
  have hr := h6 0 0 _ _ arr[0] rfl rfl (by simp [hlt])
  generalize hx : arr[0] = x at hr
  cases hr with
  | ifc t v u h =>
    refine ⟨b, u, rfl, ?_, h⟩
    rw [cell_of_row w b 0 arr 20 (0, 0) h2, Array.getElem?_eq_getElem hlt, hx]
theorem uY (b : List UInt8) (hb : b.length ≤ 1000000000000) : uL Tryz.prog 22 [.int .u8 97, cH b] 20 1 [] (fun v => ∃ (a : Aig) (p e : Int), v = .tup [.ifc 33 (bq a), .int .i64 p, .int .i64 e] ∧ PA b a e) :=
 ⟨A4, fun w im us g cap hG hp hr => by
  obtain ⟨v, rfl, hv⟩ := Bm hp
  exact Calls.mono (BT w v _ _ (oq (enc := bq) (Q := PA b) (A9 b hb) hG (IB hv))) fun e w' h => mC h⟩
theorem DA (b : List UInt8) (hb : b.length ≤ 1000000000000) (es : List (List V)) : uL Tryz.prog 22 [.int .u8 110, cH b] 20 1 es (fun v => ∃ (k p e : Int), v = .tup [.ifc 3 (.int .i64 k), .int .i64 p, .int .i64 e] ∧ k = (fh b).1 ∧ e = (fh b).2.2) :=
 ⟨A4, fun w im us g cap hG hp hr => by
  obtain ⟨v, rfl, hv⟩ := Bm hp
  have h48 : kw 48 [cH b] (fun v => ∃ (k p e : Int), v = .tup [.int .i64 k, .int .i64 p, .int .i64 e] ∧ k = (fh b).1 ∧ e = (fh b).2.2) := (F3 b hb).toE ⟨_, _, _, rfl, rfl, rfl⟩
  exact Calls.mono (Bu w v _ _ (oq (enc := fun k : Int => V.int .i64 k) (Q := fun k e => k = (fh b).1 ∧ e = (fh b).2.2) h48 hG (IB hv))) fun e w' h => mC h⟩
theorem DT (a : Aig) (ha : AigS a) (hva : ay a ≤ 20000) (b : List UInt8) (hb : b.length ≤ 1000000000000) : uL Tryz.prog 22 [.int .u8 107, cH b] 20 1 [[.ifc 33 (bq a)]] (fun v => ∃ (c : gO) (p e : Int), v = .tup [.ifc 119 (dU c), .int .i64 p, .int .i64 e] ∧ PC a b c e) :=
 ⟨A4, fun w im us g cap hG hp hr => by
  obtain ⟨v, rfl, hv⟩ := Bm hp
  obtain ⟨g', ua, rfl, hc, hua⟩ := qo hr
  exact Calls.mono (Bg w v ua g' 1 cap (by decide) hc _ (oq (enc := dU) (Q := PC a b) (Ca a ha hva b hb) hG (IE hua hv))) fun e w' h => mC h⟩
theorem Fc (a : Aig) (b : List UInt8) (hb : b.length ≤ 1000000000000) (h0 : 0 ≤ a.i) (h1 : a.i ≤ 1000000) (hal : a.l.length ≤ 1000000) (hbad : a.bad.length ≤ 1000000) : uL Tryz.prog 22 [.int .u8 119, cH b] 20 1 [[.ifc 33 (bq a)]] (fun v => ∃ (t : dT) (p e : Int), v = .tup [.ifc 39 (sr t), .int .i64 p, .int .i64 e] ∧ (e = 0 → ri a b t)) :=
 ⟨A4, fun w im us g cap hG hp hr => by
  obtain ⟨v, rfl, hv⟩ := Bm hp
  obtain ⟨g', ua, rfl, hc, hua⟩ := qo hr
  exact Calls.mono (B3 w v ua g' 1 cap (by decide) hc _ (oq (enc := sr) (Q := fun t e => e = 0 → ri a b t) (Ex a b hb h0 h1 hal hbad) hG (IE (.ifc _ _ _ hua) hv))) fun e w' h => mC h⟩
end Go.Vd
namespace Go.Vd
open Go.Proofs Go.RowKit
abbrev sL (b : List UInt8) : List V := [cH b]
abbrev jZ (fs : List (List UInt8)) : V := .sl (fs.map sL)
theorem rE : ∀ el, el ∈ cmdE → ∃ s, el[0]? = some (.str s) := fun el h => by
 obtain ⟨p, _, rfl⟩ := List.mem_map.1 h
 exact ⟨_, rfl⟩
theorem vK {key : List UInt8} {n : Nat} (h : ∀ q, q < 11 → (cmdL.getD q default).1 = key → q = n) : ∀ q el, cmdE[q]? = some el → el[0]? = some (.str (bs key)) → q = n := fun q el h1 h2 => by
 unfold cmdE at h1
 rw [List.getElem?_map] at h1
 obtain ⟨p, hp, rfl⟩ := Option.map_eq_some_iff.1 h1
 have h3 : V.str (bs p.1) = .str (bs key) := by simpa using h2
 have h4 : bs p.1 = bs key := by cases h3; rfl
 refine h q (List.getElem?_eq_some_iff.1 hp).1 ?_
 rw [List.getD_eq_getElem?_getD, hp]
 exact bs_inj.1 h4
def XC (m p n : List UInt8) : Nat → List V → Prop
 | 0, xs => xs = []
 | 1, xs => ∃ a q, dk m = some (a, q) ∧ xs = [.ifc 33 (bq a)]
 | 2, xs => ∃ a q c q2, dk m = some (a, q) ∧ fg a p = some (c, q2) ∧ xs = [.ifc 33 (bq a), .ifc 119 (dU c)]
 | _, xs => ∃ a q c q2, dk m = some (a, q) ∧ fg a p = some (c, q2) ∧ (fh n).2.2 = 0 ∧ xs = [.ifc 33 (bq a), .ifc 119 (dU c), .ifc 3 (.int .i64 (fh n).1)]
structure Ii (m p n : List UInt8) (o : List UInt8) (e : Int) : Prop where
 ok : e = 0 → o = [111, 107, 10] ∧ ∃ a q c q2, dk m = some (a, q) ∧ fg a p = some (c, q2) ∧ (fh n).2.2 = 0 ∧ tE a (fh n).1.toNat c 0
 sh : (∃ a q c q2, dk m = some (a, q) ∧ fg a p = some (c, q2) ∧ (fh n).2.2 = 0 ∧ ∀ z, tE a (fh n).1.toNat c z → z = 0) → e = 0
theorem Bt {b : List UInt8} : 0 ≤ (fh b).1 ∧ (fh b).1 ≤ 2147483647 := by
 have h := g7 b 0 2147483647
 unfold fh
 split
 ·exact ⟨Int.le_refl _, by show (0 : Int) ≤ 2147483647; decide⟩
 ·split
  ·exact ⟨h.1, h.2.1⟩
  ·exact ⟨Int.le_refl _, by show (0 : Int) ≤ 2147483647; decide⟩
theorem yV (m p n : List UInt8) (hm : m.length ≤ 1000000000000) (hp : p.length ≤ 1000000000000) (hn : n.length ≤ 1000000000000) : kw 9 [.str (bs [99, 104, 101, 99, 107]), jZ [m, p, n]] (fun v => ∃ (o : List UInt8) (k at_ e : Int), v = .tup [cH o, .int .i64 k, .int .i64 at_, .int .i64 e] ∧ Ii m p n o e) := by
 refine dJ ac (f := 9) (fn := Tryz.f9) (N := 86) (rs := [.tmp 4, .tmp 5, .tmp 6, .tmp 7]) (by kernel_rfl) rfl (by kernel_rfl) rfl rfl [(0, .v (.str (bs [99, 104, 101, 99, 107]))), (1, .v (jZ [m, p, n]))] ⟨rfl, rfl, aj⟩ rfl rfl ?_
 intro B
 refine ag<|af J<|af J<|af J<|af J<|ab<|ag<|ap [] (Al) J J J J J J aj (.inl J) J J J<|aa J<|so (n := 10) ac J J J Er J fH J rE J (vK (by decide)) J J ?_
 refine aa J<|aW J<|aW J<|bf (fun h24 => ?_) (fun h24 => ?_)
 ·refine bl (id := 8) kp J<|aR kp [] J aj J<|af J<|ab<|ae<|ag<|aa J<|bL J<|aa J<|aa J<|aI ac J J iy J aB J J<|ax kp J<|aC fH J<|dc ac J J fH J J J ?_
  refine ky J J J (decide_eq_false (by exact fun h => h rfl)) J J ?_
  refine aJ J<|ab<|ah J<|ao<|ak<|ag<|af J<|ab<|ae<|ag<|aa J<|aI ac J J iy J aB J J ?_
  refine aa J<|ab<|aw<|cg (gJ (t := 10) (id := 901) (e := 20) (sz := 1) J J (by decide)) ?_
  refine aZ (α := Nat × List V) (fun ⟨j, xs⟩ => mk [(0, .v (.str (bs [99, 104, 101, 99, 107]))), (1, .v (jZ [m, p, n])), (4, .nils), (5, .v (.int .i64 0)), (6, .v (.int .i64 0)), (7, .v (.int .i64 0)), (8, .ptr 8 0), (10, .own 901), (35, .v (jZ [m, p, n])), (36, .v (.int .i64 3)), (37, .v (.int .i64 j))] [(8, .box [.v (.str (bs [97, 107, 110])), .v (.fn (.func 39) [] [])]), (901, .row 20 1 (xs.map fun x => [x]))] 0) (fun ⟨j, xs⟩ => j ≤ 3 ∧ XC m p n j xs) (fun ⟨j, xs⟩ => 3 - j) ⟨0, []⟩ ⟨Nat.zero_le _, J⟩ (aL ⟨J, J, J, J, J, J, J, J, J, J, J, aj⟩ ⟨J, J, aj⟩ J J J J) ?_
  rintro ⟨j, xs⟩ ⟨hj1, hj2⟩
  refine ag<|bj J (fun h38 => ?_) (fun h38 => ?_)
  ·refine ab<|ae<|ai J<|ao<|ak<|ae<|aw<|ae ?_
   by_cases hc0 : ¬ j = 0
   ·by_cases hc1 : ¬ j = 1
    ·have hi2 : j = 2 := by omega
     subst hi2
     obtain ⟨a, q, c, q2, ha, hc, rfl⟩ : ∃ a q c q2, dk m = some (a, q) ∧ fg a p = some (c, q2) ∧ xs = [.ifc 33 (bq a), .ifc 119 (dU c)] := hj2
     refine aF<|aa J<|fZ ac J J J iy J bG (by decide) J J J J ?_
     refine bu bG J<|af J<|af J<|ab<|ag<|ax kp J<|aC fH J<|aa J<|dR ac J J J fH J (by decide) J J J ?_
     refine aa J<|aa J<|iI (as' := [.tmp 46, .tmp 47]) (DA n hn _) J J J J J J J J J ?_
     rintro _ ⟨k, p1, e, rfl, hk, he⟩
     refine aa J<|aW J<|aW J<|aW J<|af J<|af J<|af J<|ab<|ae<|ae ?_
     have hX2 : e = 0 → XC m p n 3 [.ifc 33 (bq a), .ifc 119 (dU c), .ifc 3 (.int .i64 k)] := fun h => ⟨a, q, c, q2, ha, hc, by omega, by rw [hk]⟩
     refine aF<|aa J<|bt J J J J J (fun h54 => ?_) (fun h54 => ?_)
     ·refine ab<|ai J<|ag<|aa J<|aa J<|aa J<|af J<|af J<|af J<|af J<|ab<|am<|au (az (au (bR (az (au (aD J J ?_))))))
      first
       | (exact ⟨[], _, _, e, rfl, fun h => absurd h h54, fun ⟨a2, q2, c2, r2, z1, z2, z3, z4⟩ => hA.elim (fun h => h.1) (fun h => by rw [h.2] at z1; cases z1)⟩)
       | (exact ⟨[], _, _, e, rfl, fun h => absurd h h54, fun ⟨a2, q2, c2, r2, z1, z2, z3, z4⟩ => by (rw [ha] at z1; cases z1; exact hA.elim (fun h => h.1) (fun h => by rw [h.2] at z2; cases z2))⟩)
       | (exact ⟨[], _, _, e, rfl, fun h => absurd h h54, fun ⟨a2, q2, c2, r2, z1, z2, z3, z4⟩ => by rw [he]; exact z3⟩)
       | (exact ⟨[], _, _, z, rfl, fun h => absurd h h74, fun ⟨a2, q2, c2, r2, z1, z2, z3, z4⟩ => by (rw [ha] at z1; cases z1; rw [hc] at z2; cases z2; exact z4 z hz)⟩)
       | (have hz0 := Classical.not_not.1 h74; subst hz0; exact ⟨[111, 107, 10], _, _, 0, rfl, fun _ => ⟨rfl, a, q, c, q2, ha, hc, hn0, hz⟩, fun _ => rfl⟩)
     ·refine ab<|ah J<|ao<|ak<|aF<|aa J<|aa J<|bZ iB iD [] J aj J ?_
      refine cw 61 [] ac J iB J iB J iD J J J J ⟨J, J, aj⟩ J (elOk.cons rfl rfl elOk.nil) cA (by constructor <;> simp <;> omega) J J J ?_
      refine af J<|ar<|aH<|ak<|aF<|bh J (by omega) (by omega) J ?_
      refine aa J<|ar ?_
      exact aT ⟨2 + 1, [V.ifc 33 (bq a), .ifc 119 (dU c), .ifc 3 (.int .i64 k)]⟩ ⟨by decide, hX2 (Classical.not_not.1 h54)⟩ (by first | (show (3 - 1 : Nat) < 3 - 0; decide) | (show (3 - 2 : Nat) < 3 - 1; decide) | (show (3 - 3 : Nat) < 3 - 2; decide)) (cd [(901, 61)] ⟨J, J, J, J, J, J, J, J, J, J, J, aj⟩ ⟨J, J, aj⟩ J J J J J)
    ·have hi1 : j = 1 := Classical.not_not.1 hc1
     subst hi1
     obtain ⟨a, q, ha, rfl⟩ : ∃ a q, dk m = some (a, q) ∧ xs = [.ifc 33 (bq a)] := hj2
     have hok := kJ ha
     refine aF<|aa J<|fZ ac J J J iy J bG (by decide) J J J J ?_
     refine bu bG J<|af J<|af J<|ab<|ag<|ax kp J<|aC fH J<|aa J<|dR ac J J J fH J (by decide) J J J ?_
     refine aa J<|aa J<|iI (as' := [.tmp 46, .tmp 47]) (DT a hok.s hok.v p hp) J J J J J J J J J ?_
     rintro _ ⟨c, p1, e, rfl, hA⟩
     refine aa J<|aW J<|aW J<|aW J<|af J<|af J<|af J<|ab<|ae<|ae ?_
     have hX1 : e = 0 → XC m p n 2 [.ifc 33 (bq a), .ifc 119 (dU c)] := fun h => hA.elim (fun h2 => ⟨a, q, c, h2.2.choose, ha, h2.2.choose_spec, rfl⟩) (fun h2 => absurd h h2.1)
     refine aF<|aa J<|bt J J J J J (fun h54 => ?_) (fun h54 => ?_)
     ·refine ab<|ai J<|ag<|aa J<|aa J<|aa J<|af J<|af J<|af J<|af J<|ab<|am<|au (az (au (bR (az (au (aD J J ?_))))))
      first
       | (exact ⟨[], _, _, e, rfl, fun h => absurd h h54, fun ⟨a2, q2, c2, r2, z1, z2, z3, z4⟩ => hA.elim (fun h => h.1) (fun h => by rw [h.2] at z1; cases z1)⟩)
       | (exact ⟨[], _, _, e, rfl, fun h => absurd h h54, fun ⟨a2, q2, c2, r2, z1, z2, z3, z4⟩ => by (rw [ha] at z1; cases z1; exact hA.elim (fun h => h.1) (fun h => by rw [h.2] at z2; cases z2))⟩)
       | (exact ⟨[], _, _, e, rfl, fun h => absurd h h54, fun ⟨a2, q2, c2, r2, z1, z2, z3, z4⟩ => by rw [he]; exact z3⟩)
       | (exact ⟨[], _, _, z, rfl, fun h => absurd h h74, fun ⟨a2, q2, c2, r2, z1, z2, z3, z4⟩ => by (rw [ha] at z1; cases z1; rw [hc] at z2; cases z2; exact z4 z hz)⟩)
       | (have hz0 := Classical.not_not.1 h74; subst hz0; exact ⟨[111, 107, 10], _, _, 0, rfl, fun _ => ⟨rfl, a, q, c, q2, ha, hc, hn0, hz⟩, fun _ => rfl⟩)
     ·refine ab<|ah J<|ao<|ak<|aF<|aa J<|aa J<|bZ iB iD [] J aj J ?_
      refine cw 61 [] ac J iB J iB J iD J J J J ⟨J, J, aj⟩ J (elOk.cons rfl rfl elOk.nil) cA (by constructor <;> simp <;> omega) J J J ?_
      refine af J<|ar<|aH<|ak<|aF<|bh J (by omega) (by omega) J ?_
      refine aa J<|ar ?_
      exact aT ⟨1 + 1, [V.ifc 33 (bq a), .ifc 119 (dU c)]⟩ ⟨by decide, hX1 (Classical.not_not.1 h54)⟩ (by first | (show (3 - 1 : Nat) < 3 - 0; decide) | (show (3 - 2 : Nat) < 3 - 1; decide) | (show (3 - 3 : Nat) < 3 - 2; decide)) (cd [(901, 61)] ⟨J, J, J, J, J, J, J, J, J, J, J, aj⟩ ⟨J, J, aj⟩ J J J J J)
   ·have hi0 : j = 0 := Classical.not_not.1 hc0
    subst hi0
    have hj3 : xs = [] := hj2
    subst hj3
    refine aF<|aa J<|fZ ac J J J iy J bG (by decide) J J J J ?_
    refine bu bG J<|af J<|af J<|ab<|ag<|ax kp J<|aC fH J<|aa J<|dR ac J J J fH J (by decide) J J J ?_
    refine aa J<|aa J<|iI (as' := [.tmp 46, .tmp 47]) (uY m hm) J J J J J J J J J ?_
    rintro _ ⟨a, p1, e, rfl, hA⟩
    refine aa J<|aW J<|aW J<|aW J<|af J<|af J<|af J<|ab<|ae<|ae ?_
    have hX0 : e = 0 → XC m p n 1 [.ifc 33 (bq a)] := fun h => hA.elim (fun h2 => ⟨a, h2.2.choose, h2.2.choose_spec, rfl⟩) (fun h2 => absurd h h2.1)
    refine aF<|aa J<|bt J J J J J (fun h54 => ?_) (fun h54 => ?_)
    ·refine ab<|ai J<|ag<|aa J<|aa J<|aa J<|af J<|af J<|af J<|af J<|ab<|am<|au (az (au (bR (az (au (aD J J ?_))))))
     first
      | (exact ⟨[], _, _, e, rfl, fun h => absurd h h54, fun ⟨a2, q2, c2, r2, z1, z2, z3, z4⟩ => hA.elim (fun h => h.1) (fun h => by rw [h.2] at z1; cases z1)⟩)
      | (exact ⟨[], _, _, e, rfl, fun h => absurd h h54, fun ⟨a2, q2, c2, r2, z1, z2, z3, z4⟩ => by (rw [ha] at z1; cases z1; exact hA.elim (fun h => h.1) (fun h => by rw [h.2] at z2; cases z2))⟩)
      | (exact ⟨[], _, _, e, rfl, fun h => absurd h h54, fun ⟨a2, q2, c2, r2, z1, z2, z3, z4⟩ => by rw [he]; exact z3⟩)
      | (exact ⟨[], _, _, z, rfl, fun h => absurd h h74, fun ⟨a2, q2, c2, r2, z1, z2, z3, z4⟩ => by (rw [ha] at z1; cases z1; rw [hc] at z2; cases z2; exact z4 z hz)⟩)
      | (have hz0 := Classical.not_not.1 h74; subst hz0; exact ⟨[111, 107, 10], _, _, 0, rfl, fun _ => ⟨rfl, a, q, c, q2, ha, hc, hn0, hz⟩, fun _ => rfl⟩)
    ·refine ab<|ah J<|ao<|ak<|aF<|aa J<|aa J<|bZ iB iD [] J aj J ?_
     refine cw 61 [] ac J iB J iB J iD J J J J ⟨J, J, aj⟩ J (elOk.cons rfl rfl elOk.nil) cA (by constructor <;> simp <;> omega) J J J ?_
     refine af J<|ar<|aH<|ak<|aF<|bh J (by omega) (by omega) J ?_
     refine aa J<|ar ?_
     exact aT ⟨0 + 1, [V.ifc 33 (bq a)]⟩ ⟨by decide, hX0 (Classical.not_not.1 h54)⟩ (by first | (show (3 - 1 : Nat) < 3 - 0; decide) | (show (3 - 2 : Nat) < 3 - 1; decide) | (show (3 - 3 : Nat) < 3 - 2; decide)) (cd [(901, 61)] ⟨J, J, J, J, J, J, J, J, J, J, J, aj⟩ ⟨J, J, aj⟩ J J J J J)
  ·refine ab<|ae<|ah J<|aO<|ba (a8 (aP ?_))
   refine ak<|ae ?_
   have hj3 : j = 3 := by omega
   subst hj3
   obtain ⟨a, q, c, q2, ha, hc, hn0, rfl⟩ : ∃ a q c q2, dk m = some (a, q) ∧ fg a p = some (c, q2) ∧ (fh n).2.2 = 0 ∧ xs = [.ifc 33 (bq a), .ifc 119 (dU c), .ifc 3 (.int .i64 (fh n).1)] := hj2
   have hok := kJ ha
   have hcz := zg hok.s hc
   have hnf := Bt (b := n)
   have h39 := Fg a (fh n).1.toNat c hcz (by have := hok.g; omega) (by have := hok.bd; omega) (by omega) hok.ns (by have := hok.nl; omega)
   rw [show (((fh n).1.toNat : Nat) : Int) = (fh n).1 by omega] at h39
   refine cg (bp (id := 901) J)<|cT [(0, .v (.str (bs [99, 104, 101, 99, 107]))), (1, .v (jZ [m, p, n])), (4, .nils), (5, .v (.int .i64 0)), (6, .v (.int .i64 0)), (7, .v (.int .i64 0)), (8, .ptr 8 0), (10, .v (FD [V.ifc 33 (bq a), .ifc 119 (dU c), .ifc 3 (.int .i64 (fh n).1)]))] [(8, .box [.v (.str (bs [97, 107, 110])), .v (.fn (.func 39) [] [])])] ⟨J, J, J, J, J, J, J, J, aj⟩ ⟨J, aj⟩ J J J J<|aF<|ax kp J<|aC Eg J<|aa J<|dm [] (h39) J J J J J J aj (.inl J) J J J ?_
   rintro _ ⟨z, rfl, hz⟩
   refine aa J<|aW J<|aW J<|af J<|af J<|ab<|ag<|aa J<|aI ac J J iy J aB J J ?_
   refine bX J J J J (by show (-9223372036854775808 : Int) ≤ 3 - 1; decide) (by show (3 : Int) - 1 ≤ 9223372036854775807; decide) J J ?_
   refine af J<|ab<|ae<|ag<|aa J<|bt J J J J J (fun h74 => ?_) (fun h74 => ?_)
   ·refine ab<|ai J<|ae<|aS (L := [([], []), ([], []), ([], []), ([], []), ([], []), ([], []), ([], []), ([], []), ([], []), ([], []), ([], [])]) (by kernel_rfl) mixed (by kernel_rfl)<|aa J<|aa J<|aa J ?_
    refine fZ ac J J J iy J bG (by show (0 : Int) ≤ 3 - 1; decide) J J J J ?_
    refine bu bG J<|aI ac J J bG J aB J J<|aa J<|af J<|af J<|af J<|af J<|ab<|am<|au (aD J J ?_)
    first
     | (exact ⟨[], _, _, e, rfl, fun h => absurd h h54, fun ⟨a2, q2, c2, r2, z1, z2, z3, z4⟩ => hA.elim (fun h => h.1) (fun h => by rw [h.2] at z1; cases z1)⟩)
     | (exact ⟨[], _, _, e, rfl, fun h => absurd h h54, fun ⟨a2, q2, c2, r2, z1, z2, z3, z4⟩ => by (rw [ha] at z1; cases z1; exact hA.elim (fun h => h.1) (fun h => by rw [h.2] at z2; cases z2))⟩)
     | (exact ⟨[], _, _, e, rfl, fun h => absurd h h54, fun ⟨a2, q2, c2, r2, z1, z2, z3, z4⟩ => by rw [he]; exact z3⟩)
     | (exact ⟨[], _, _, z, rfl, fun h => absurd h h74, fun ⟨a2, q2, c2, r2, z1, z2, z3, z4⟩ => by (rw [ha] at z1; cases z1; rw [hc] at z2; cases z2; exact z4 z hz)⟩)
     | (have hz0 := Classical.not_not.1 h74; subst hz0; exact ⟨[111, 107, 10], _, _, 0, rfl, fun _ => ⟨rfl, a, q, c, q2, ha, hc, hn0, hz⟩, fun _ => rfl⟩)
   ·refine ab<|ah J<|ao<|ak<|ag<|aa J<|oC ac J fH bG J eK J J J J J<|aa J<|aI ac J J iy J aB J J<|af J<|af J<|af J<|af J<|ar ?_
    refine ak<|am ?_
    refine aD J J ?_
    first
     | (exact ⟨[], _, _, e, rfl, fun h => absurd h h54, fun ⟨a2, q2, c2, r2, z1, z2, z3, z4⟩ => hA.elim (fun h => h.1) (fun h => by rw [h.2] at z1; cases z1)⟩)
     | (exact ⟨[], _, _, e, rfl, fun h => absurd h h54, fun ⟨a2, q2, c2, r2, z1, z2, z3, z4⟩ => by (rw [ha] at z1; cases z1; exact hA.elim (fun h => h.1) (fun h => by rw [h.2] at z2; cases z2))⟩)
     | (exact ⟨[], _, _, e, rfl, fun h => absurd h h54, fun ⟨a2, q2, c2, r2, z1, z2, z3, z4⟩ => by rw [he]; exact z3⟩)
     | (exact ⟨[], _, _, z, rfl, fun h => absurd h h74, fun ⟨a2, q2, c2, r2, z1, z2, z3, z4⟩ => by (rw [ha] at z1; cases z1; rw [hc] at z2; cases z2; exact z4 z hz)⟩)
     | (have hz0 := Classical.not_not.1 h74; subst hz0; exact ⟨[111, 107, 10], _, _, 0, rfl, fun _ => ⟨rfl, a, q, c, q2, ha, hc, hn0, hz⟩, fun _ => rfl⟩)
 ·exfalso; cases h24
def XR (m tb : List UInt8) : Nat → List V → Prop
 | 0, xs => xs = []
 | 1, xs => ∃ a q, dk m = some (a, q) ∧ xs = [.ifc 33 (bq a)]
 | _, xs => ∃ a q t, dk m = some (a, q) ∧ ri a tb t ∧ xs = [.ifc 33 (bq a), .ifc 39 (sr t)]
def Ic (m tb : List UInt8) (o : List UInt8) (e : Int) : Prop := e = 0 → ∃ a q t, dk m = some (a, q) ∧ ri a tb t ∧ db a t = 0
theorem E3 (m tb : List UInt8) (hm : m.length ≤ 1000000000000) (ht : tb.length ≤ 1000000000000) : kw 9 [.str (bs [114, 101, 112, 108, 97, 121]), jZ [m, tb]] (fun v => ∃ (o : List UInt8) (k at_ e : Int), v = .tup [cH o, .int .i64 k, .int .i64 at_, .int .i64 e] ∧ Ic m tb o e) := by
 refine dJ ac (f := 9) (fn := Tryz.f9) (N := 86) (rs := [.tmp 4, .tmp 5, .tmp 6, .tmp 7]) (by kernel_rfl) rfl (by kernel_rfl) rfl rfl [(0, .v (.str (bs [114, 101, 112, 108, 97, 121]))), (1, .v (jZ [m, tb]))] ⟨rfl, rfl, aj⟩ rfl rfl ?_
 intro B
 refine ag<|af J<|af J<|af J<|af J<|ab<|ag<|ap [] (Al) J J J J J J aj (.inl J) J J J<|aa J<|so (n := 4) ac J J J Er J fH J rE J (vK (by decide)) J J ?_
 refine aa J<|aW J<|aW J<|bf (fun h24 => ?_) (fun h24 => ?_)
 ·refine bl (id := 8) kp J<|aR kp [] J aj J<|af J<|ab<|ae<|ag<|aa J<|bL J<|aa J<|aa J<|aI ac J J iy J aB J J<|ax kp J<|aC fH J<|dc ac J J fH J J J ?_
  refine ky J J J (decide_eq_false (by exact fun h => h rfl)) J J ?_
  refine aJ J<|ab<|ah J<|ao<|ak<|ag<|af J<|ab<|ae<|ag<|aa J<|aI ac J J iy J aB J J ?_
  refine aa J<|ab<|aw<|cg (gJ (t := 10) (id := 901) (e := 20) (sz := 1) J J (by decide)) ?_
  refine aZ (α := Nat × List V) (fun ⟨j, xs⟩ => mk [(0, .v (.str (bs [114, 101, 112, 108, 97, 121]))), (1, .v (jZ [m, tb])), (4, .nils), (5, .v (.int .i64 0)), (6, .v (.int .i64 0)), (7, .v (.int .i64 0)), (8, .ptr 8 0), (10, .own 901), (35, .v (jZ [m, tb])), (36, .v (.int .i64 2)), (37, .v (.int .i64 j))] [(8, .box [.v (.str (bs [97, 119])), .v (.fn (.func 33) [] [])]), (901, .row 20 1 (xs.map fun x => [x]))] 0) (fun ⟨j, xs⟩ => j ≤ 2 ∧ XR m tb j xs) (fun ⟨j, xs⟩ => 2 - j) ⟨0, []⟩ ⟨Nat.zero_le _, J⟩ (aL ⟨J, J, J, J, J, J, J, J, J, J, J, aj⟩ ⟨J, J, aj⟩ J J J J) ?_
  rintro ⟨j, xs⟩ ⟨hj1, hj2⟩
  refine ag<|bj J (fun h38 => ?_) (fun h38 => ?_)
  ·refine ab<|ae<|ai J<|ao<|ak<|ae<|aw<|ae ?_
   by_cases hc0 : ¬ j = 0
   ·have hi1 : j = 1 := by omega
    subst hi1
    obtain ⟨a, q, ha, rfl⟩ : ∃ a q, dk m = some (a, q) ∧ xs = [.ifc 33 (bq a)] := hj2
    have hok := kJ ha
    refine aF<|aa J<|fZ ac J J J iy J bG (by decide) J J J J ?_
    refine bu bG J<|af J<|af J<|ab<|ag<|ax kp J<|aC fH J<|aa J<|dR ac J J J fH J (by decide) J J J ?_
    refine aa J<|aa J ?_
    refine iI (as' := [.tmp 46, .tmp 47]) (Fc a tb ht hok.s.i0 (by have := hok.i1; omega) (by have := hok.l; omega) (by have := hok.bd; omega)) J J J J J J J J J ?_
    rintro _ ⟨t, p1, e, rfl, hA⟩
    refine aa J<|aW J<|aW J<|aW J<|af J<|af J<|af J<|ab<|ae<|ae ?_
    have hX1 : e = 0 → XR m tb 2 [.ifc 33 (bq a), .ifc 39 (sr t)] := fun h => ⟨a, q, t, ha, hA h, rfl⟩
    refine aF<|aa J<|bt J J J J J (fun h54 => ?_) (fun h54 => ?_)
    ·refine ab<|ai J<|ag<|aa J<|aa J<|aa J<|af J<|af J<|af J<|af J<|ab<|am<|au (az (au (bR (az (au (aD J J ?_))))))
     first
      | (exact ⟨[], _, _, e, rfl, fun h => absurd h h54⟩)
      | (exact ⟨[], _, _, db a t, rfl, fun h => absurd h h74⟩)
      | (exact ⟨_, _, _, 0, rfl, fun _ => ⟨a, q, t, ha, hw, Classical.not_not.1 h74⟩⟩)
    ·refine ab<|ah J<|ao<|ak<|aF<|aa J<|aa J<|bZ iB iD [] J aj J ?_
     refine cw 61 [] ac J iB J iB J iD J J J J ⟨J, J, aj⟩ J (elOk.cons rfl rfl elOk.nil) cA (by constructor <;> simp <;> omega) J J J ?_
     refine af J<|ar<|aH<|ak<|aF<|bh J (by omega) (by omega) J ?_
     refine aa J<|ar ?_
     exact aT ⟨1 + 1, [V.ifc 33 (bq a), .ifc 39 (sr t)]⟩ ⟨by decide, hX1 (Classical.not_not.1 h54)⟩ (by first | (show (2 - 1 : Nat) < 2 - 0; decide) | (show (2 - 2 : Nat) < 2 - 1; decide)) (cd [(901, 61)] ⟨J, J, J, J, J, J, J, J, J, J, J, aj⟩ ⟨J, J, aj⟩ J J J J J)
   ·have hi0 : j = 0 := Classical.not_not.1 hc0
    subst hi0
    have hj3 : xs = [] := hj2
    subst hj3
    refine aF<|aa J<|fZ ac J J J iy J bG (by decide) J J J J ?_
    refine bu bG J<|af J<|af J<|ab<|ag<|ax kp J<|aC fH J<|aa J<|dR ac J J J fH J (by decide) J J J ?_
    refine aa J<|aa J<|iI (as' := [.tmp 46, .tmp 47]) (uY m hm) J J J J J J J J J ?_
    rintro _ ⟨a, p1, e, rfl, hA⟩
    refine aa J<|aW J<|aW J<|aW J<|af J<|af J<|af J<|ab<|ae<|ae ?_
    have hX0 : e = 0 → XR m tb 1 [.ifc 33 (bq a)] := fun h => hA.elim (fun h2 => ⟨a, h2.2.choose, h2.2.choose_spec, rfl⟩) (fun h2 => absurd h h2.1)
    refine aF<|aa J<|bt J J J J J (fun h54 => ?_) (fun h54 => ?_)
    ·refine ab<|ai J<|ag<|aa J<|aa J<|aa J<|af J<|af J<|af J<|af J<|ab<|am<|au (az (au (bR (az (au (aD J J ?_))))))
     first
      | (exact ⟨[], _, _, e, rfl, fun h => absurd h h54⟩)
      | (exact ⟨[], _, _, db a t, rfl, fun h => absurd h h74⟩)
      | (exact ⟨_, _, _, 0, rfl, fun _ => ⟨a, q, t, ha, hw, Classical.not_not.1 h74⟩⟩)
    ·refine ab<|ah J<|ao<|ak<|aF<|aa J<|aa J<|bZ iB iD [] J aj J ?_
     refine cw 61 [] ac J iB J iB J iD J J J J ⟨J, J, aj⟩ J (elOk.cons rfl rfl elOk.nil) cA (by constructor <;> simp <;> omega) J J J ?_
     refine af J<|ar<|aH<|ak<|aF<|bh J (by omega) (by omega) J ?_
     refine aa J<|ar ?_
     exact aT ⟨0 + 1, [V.ifc 33 (bq a)]⟩ ⟨by decide, hX0 (Classical.not_not.1 h54)⟩ (by first | (show (2 - 1 : Nat) < 2 - 0; decide) | (show (2 - 2 : Nat) < 2 - 1; decide)) (cd [(901, 61)] ⟨J, J, J, J, J, J, J, J, J, J, J, aj⟩ ⟨J, J, aj⟩ J J J J J)
  ·refine ab<|ae<|ah J<|aO<|ba (a8 (aP ?_))
   refine ak<|ae ?_
   have hj3 : j = 2 := by omega
   subst hj3
   obtain ⟨a, q, t, ha, hw, rfl⟩ : ∃ a q t, dk m = some (a, q) ∧ ri a tb t ∧ xs = [.ifc 33 (bq a), .ifc 39 (sr t)] := hj2
   have hok := kJ ha
   refine cg (bp (id := 901) J)<|cT [(0, .v (.str (bs [114, 101, 112, 108, 97, 121]))), (1, .v (jZ [m, tb])), (4, .nils), (5, .v (.int .i64 0)), (6, .v (.int .i64 0)), (7, .v (.int .i64 0)), (8, .ptr 8 0), (10, .v (FD [V.ifc 33 (bq a), .ifc 39 (sr t)]))] [(8, .box [.v (.str (bs [97, 119])), .v (.fn (.func 33) [] [])])] ⟨J, J, J, J, J, J, J, J, aj⟩ ⟨J, aj⟩ J J J J<|aF<|ax kp J<|aC Eg J<|aa J ?_
   refine ap [] (H0 a t ⟨by have := hok.l; omega, by have := hok.bd; omega⟩ ⟨hok.s.i0, hok.i1, hok.l, hok.g, hok.o, hok.bd, hok.c⟩ ⟨hw.il, by have := hw.nl; omega, hw.rl⟩ hw.ini.nn (fun r hr => (hw.ins r hr).nn)) J J J J J J aj (.inl rfl) J J J ?_
   refine aa J<|aW J<|aW J<|af J<|af J<|ab<|ag<|aa J<|aI ac J J iy J aB J J ?_
   refine bX J J J J (by show (-9223372036854775808 : Int) ≤ 2 - 1; decide) (by show (2 : Int) - 1 ≤ 9223372036854775807; decide) J J ?_
   refine af J<|ab<|ae<|ag<|aa J<|bt J J J J J (fun h74 => ?_) (fun h74 => ?_)
   ·refine ab<|ai J<|ae<|aS (L := [([], []), ([], []), ([], []), ([], []), ([], []), ([], []), ([], []), ([], []), ([], []), ([], []), ([], [])]) (by kernel_rfl) mixed (by kernel_rfl)<|aa J<|aa J<|aa J ?_
    refine fZ ac J J J iy J bG (by show (0 : Int) ≤ 2 - 1; decide) J J J J ?_
    refine bu bG J<|aI ac J J bG J aB J J<|aa J<|af J<|af J<|af J<|af J<|ab<|am<|au (aD J J ?_)
    first
     | (exact ⟨[], _, _, e, rfl, fun h => absurd h h54⟩)
     | (exact ⟨[], _, _, db a t, rfl, fun h => absurd h h74⟩)
     | (exact ⟨_, _, _, 0, rfl, fun _ => ⟨a, q, t, ha, hw, Classical.not_not.1 h74⟩⟩)
   ·refine ab<|ah J<|ao<|ak<|ag<|aa J<|oC ac J fH bG J eK J J J J J<|aa J<|aI ac J J iy J aB J J<|af J<|af J<|af J<|af J<|ar ?_
    refine ak<|am ?_
    refine aD J J ?_
    first
     | (exact ⟨[], _, _, e, rfl, fun h => absurd h h54⟩)
     | (exact ⟨[], _, _, db a t, rfl, fun h => absurd h h74⟩)
     | (exact ⟨_, _, _, 0, rfl, fun _ => ⟨a, q, t, ha, hw, Classical.not_not.1 h74⟩⟩)
 ·exfalso; cases h24
end Go.Vd
namespace Go.Vd
open Go.Proofs Go.RowKit
theorem xe : (Tryz.prog.info? 198).map (·.size) = some 2 := by kernel_rfl
theorem Bs : liesAt Tryz.prog Tryz.prog.depth 198 (2 / Tryz.prog.cellsOf 198) 0 198 1 = true := by kernel_rfl
theorem EN : Tryz.prog.underlying 196 = some (.pointer 198) := by kernel_rfl
theorem Gg : Tryz.prog.underlying 357 = some .unsafePointer := by kernel_rfl
theorem Gj : Tryz.prog.underlying 302 = some (.pointer 5) := by kernel_rfl
theorem DY : Tryz.prog.cellsOf 5 = 1 := by kernel_rfl
set_option maxHeartbeats 1000000 in
set_option maxRecDepth 100000 in
theorem Bk (b : Nat) (w : World) (h0 : w.cell? ⟨b, 0, none⟩ = some (.pointer (some ⟨b, 0, none⟩))) :
 Calls Tryz.prog 167 #[.pointer (some ⟨b, 0, none⟩)] w fun e w' => e = .returned (.tuple #[]) ∧ w' = w := by
 obtain ⟨j, hj, _⟩ := Option.map_eq_some_iff.1 xe
 go_enter Tryz.func167, Tryz.ntmps167
 go_wp2
 rw [Lib.run_neq_ptr_same w _ EN hj]
 go_wp2
 go_end0
 exact ⟨rfl, rfl⟩
set_option maxHeartbeats 1000000 in
set_option maxRecDepth 100000 in
theorem Aj (b : Nat) (w : World) (h0 : w.cell? ⟨b, 0, none⟩ = some (.pointer none)) (hsh : w.shape? b = some (198, 2)) (hfz : w.frozen? ⟨b, 0, none⟩ = false) :
 Calls Tryz.prog 167 #[.pointer (some ⟨b, 0, none⟩)] w fun e w' => e = .returned (.tuple #[]) ∧ w' = w.setCell ⟨b, 0, none⟩ (.pointer (some ⟨b, 0, none⟩)) := by
 obtain ⟨j, hj, hjs⟩ := Option.map_eq_some_iff.1 xe
 go_enter Tryz.func167, Tryz.ntmps167
 go_wp2
 rw [Lib.run_to_unsafe w ⟨b, 0, none⟩ EN Gg hj (by rw [hjs]; decide) hsh (Nat.zero_lt_succ 1)]
 simp only [Result.andThen]
 rw [Oper.upon_value]
 go_wp2
 rw [run_callFunc_extern Tryz.func232 (by kernel_rfl) (by kernel_rfl) (by kernel_rfl) (e := Extern.AbiNoEscape.same) (by kernel_rfl)]
 rw [Lib.run_noEscape]
 simp only [Result.andThen]
 rw [Oper.upon_value]
 go_wp2
 rw [Lib.run_from_unsafe w ⟨b, 0, none⟩ Gg EN hj hsh Bs]
 simp only [Result.andThen]
 rw [Oper.upon_value]
 go_wp2
 go_end0
 exact ⟨rfl, rfl⟩
def vr (g : Nat → Prop) (w w' : World) : Prop := w'.os = w.os ∧ w'.tape = w.tape ∧ w'.output = w.output ∧ w.heap.size ≤ w'.heap.size ∧ ∀ k, k < w.heap.size → ¬ g k → w'.heap[k]? = w.heap[k]?
theorem qv (g : Nat → Prop) (w : World) : vr g w w.drew := ⟨rfl, rfl, rfl, Nat.le_refl _, fun _ _ _ => rfl⟩
theorem tX (g n : Nat) (w : World) : vr (fun k => k = g) w (w.drew.freeze ⟨g, 0, none⟩ n) := by
 have hB := Lib.below_freeze (Below.drew (Below.refl g w)) (p := ⟨g, 0, none⟩) (Nat.le_refl _) n
 refine ⟨hB.os, hB.tape, hB.output, hB.size, fun k hk hkg => ?_⟩
 unfold World.freeze
 split
 ·rfl
 ·simp only [Array.getElem?_modify]
  rw [if_neg (fun h => hkg h.symm)]; rfl
theorem rZ (W : World) (q : Option Addr) : (Builtin.unsafeString_ #[302, 3] 9 #[.pointer q, .int .i64 0]).run Tryz.prog W = .ok (.string .empty) W := Lib.run_unsafeString_none W _ _ _ q
set_option maxHeartbeats 2000000 in
set_option maxRecDepth 100000 in
theorem Cg (b : Nat) (p : Value) (ty : TypeId) (w : World) (hbk : w.heap[b]? = some (.cells #[p, .slice none 0 0] ty (0, 0))) :
 Calls Tryz.prog 97 #[.pointer (some ⟨b, 0, none⟩)] w fun e w' => e = .returned (.string .empty) ∧ vr (fun _ => False) w w' := by
 have hUS := rZ
 have c1 : w.drew.cell? ⟨b, 1, none⟩ = some (.slice none 0 0) := by
  have : w.drew.heap[b]? = some (.cells #[p, .slice none 0 0] ty (0, 0)) := hbk
  rw [Lib.cell_of_heap this]; rfl
 have hSD : (Builtin.unsafeSliceData_ #[22] 302 #[.slice none 0 0]).run Tryz.prog w.drew = .ok (.pointer none) w.drew := rfl
 go_enter Tryz.func97, Tryz.ntmps97
 go_wp2
 go_region
 all_goals (go_wp2; go_ret; exact ⟨rfl, qv _ w⟩)
set_option maxHeartbeats 2000000 in
set_option maxRecDepth 100000 in
theorem vJ (b g : Nat) (p : Value) (ty : TypeId) (cur : Array Value) (w : World) (hbk : w.heap[b]? = some (.cells #[p, .slice (some ⟨g, 0, none⟩) 0 0] ty (0, 0))) (hg : w.heap[g]? = some (.cells cur 5 (0, 0))) :
 Calls Tryz.prog 97 #[.pointer (some ⟨b, 0, none⟩)] w fun e w' => e = .returned (.string .empty) ∧ vr (fun _ => False) w w' := by
 have hUS := rZ
 have hlt : b < w.heap.size := (Array.getElem?_eq_some_iff.1 hbk).1
 have c1 : w.drew.cell? ⟨b, 1, none⟩ = some (.slice (some ⟨g, 0, none⟩) 0 0) := by
  have : w.drew.heap[b]? = some (.cells #[p, .slice (some ⟨g, 0, none⟩) 0 0] ty (0, 0)) := hbk
  rw [Lib.cell_of_heap this]; rfl
 have hSD : (Builtin.unsafeSliceData_ #[22] 302 #[.slice (some ⟨g, 0, none⟩) 0 0]).run Tryz.prog w.drew = .ok (.pointer (some ⟨w.drew.heap.size, 0, none⟩)) (w.drew.alloc (.view ⟨g, 0, none⟩ 5)) :=
  Lib.run_unsafeSliceData_zero w.drew _ _ 5 Gj ⟨g, 0, none⟩ 0 (5, cur.size) (by have hg' : w.drew.heap[g]? = some (.cells cur 5 (0, 0)) := hg; simp [World.shape?, hg'])
 have c2 : (w.drew.alloc (.view ⟨g, 0, none⟩ 5)).cell? ⟨b, 1, none⟩ = some (.slice (some ⟨g, 0, none⟩) 0 0) := by
  have : (w.drew.alloc (.view ⟨g, 0, none⟩ 5)).heap[b]? = _ := (Lib.alloc_old w.drew _ b hlt).trans hbk
  rw [Lib.cell_of_heap this]; rfl
 have c3 : (w.alloc (.view ⟨g, 0, none⟩ 5)).drew.cell? ⟨b, 1, none⟩ = some (.slice (some ⟨g, 0, none⟩) 0 0) := c2
 have c0 : w.cell? ⟨b, 1, none⟩ = some (.slice (some ⟨g, 0, none⟩) 0 0) := c1
 go_enter Tryz.func97, Tryz.ntmps97
 go_wp2
 go_region
 all_goals (go_wp2; go_ret; exact ⟨rfl, rfl, rfl, rfl, by simp, fun k hk _ => Below.heap_alloc w.drew _ k hk⟩)
set_option maxHeartbeats 2000000 in
set_option maxRecDepth 100000 in
theorem yR (b g cap : Nat) (p : Value) (ty : TypeId) (w : World) (hc0 : cap ≠ 0) (hbk : w.heap[b]? = some (.cells #[p, .slice (some ⟨g, 0, none⟩) 0 cap] ty (0, 0))) :
 Calls Tryz.prog 97 #[.pointer (some ⟨b, 0, none⟩)] w fun e w' => e = .returned (.string .empty) ∧ vr (fun _ => False) w w' := by
 have hUS := rZ
 have c1 : w.drew.cell? ⟨b, 1, none⟩ = some (.slice (some ⟨g, 0, none⟩) 0 cap) := by
  have : w.drew.heap[b]? = some (.cells #[p, .slice (some ⟨g, 0, none⟩) 0 cap] ty (0, 0)) := hbk
  rw [Lib.cell_of_heap this]; rfl
 have hSD : (Builtin.unsafeSliceData_ #[22] 302 #[.slice (some ⟨g, 0, none⟩) 0 cap]).run Tryz.prog w.drew = .ok (.pointer (some ⟨g, 0, none⟩)) w.drew :=
  Lib.run_unsafeSliceData_row _ _ _ _ _ _ hc0
 clear hc0
 go_enter Tryz.func97, Tryz.ntmps97
 go_wp2
 go_region
 all_goals (go_wp2; go_ret; exact ⟨rfl, qv _ w⟩)
set_option maxHeartbeats 2000000 in
set_option maxRecDepth 100000 in
theorem AQ (b g cap : Nat) (p : Value) (ty : TypeId) (cur : Array Value) (l : List UInt8) (w : World) (h0 : l ≠ []) (hbk : w.heap[b]? = some (.cells #[p, .slice (some ⟨g, 0, none⟩) l.length cap] ty (0, 0))) (hg : w.heap[g]? = some (.cells cur 5 (0, 0)))
 (hnc : l.length ≤ cap) (hcm : cap ≤ maxLen) (hcs : cur.size = cap) (hx : ∀ (j : Nat) (x : UInt8), l[j]? = some x → cur[j]? = some (Value.int .u8 (x.toNat : Int))) :
 Calls Tryz.prog 97 #[.pointer (some ⟨b, 0, none⟩)] w fun e w' => e = .returned (.string ⟨l.toArray⟩) ∧ vr (fun k => k = g) w w' := by
 have hl0 : l.length ≠ 0 := by simpa using h0
 have c1 : w.drew.cell? ⟨b, 1, none⟩ = some (.slice (some ⟨g, 0, none⟩) l.length cap) := by
  have : w.drew.heap[b]? = some (.cells #[p, .slice (some ⟨g, 0, none⟩) l.length cap] ty (0, 0)) := hbk
  rw [Lib.cell_of_heap this]; rfl
 have hSD : (Builtin.unsafeSliceData_ #[22] 302 #[.slice (some ⟨g, 0, none⟩) l.length cap]).run Tryz.prog w.drew = .ok (.pointer (some ⟨g, 0, none⟩)) w.drew :=
  Lib.run_unsafeSliceData_row _ _ _ _ _ _ (by omega)
 have hUS : (Builtin.unsafeString_ #[302, 3] 9 #[.pointer (some ⟨g, 0, none⟩), .int .i64 l.length]).run Tryz.prog w.drew = .ok (.string ⟨l.toArray⟩) (w.drew.freeze ⟨g, 0, none⟩ l.length) := by
  refine Lib.run_unsafeString_row w.drew 302 3 9 5 Gj DY g cur.size (by have hg' : w.drew.heap[g]? = some (.cells cur 5 (0, 0)) := hg; simp [World.shape?, hg']) l h0 (by omega) (by unfold maxLen at hcm; omega) ?_
  intro j x hj
  have hg' : w.drew.heap[g]? = some (.cells cur 5 (0, 0)) := hg
  rw [Addr.add_lit, Lib.cell_of_heap hg', Nat.zero_add]
  exact hx j x hj
 go_enter Tryz.func97, Tryz.ntmps97
 go_wp2
 go_region
 all_goals (go_wp2; go_ret; exact ⟨rfl, tX g l.length w⟩)
end Go.Vd
namespace Go.Vd
open Go.Proofs Go.RowKit
theorem CO : ∀ args w, (callFunc 167 args).run Tryz.prog w = .ok (.enter 167 args) w := cJ (fn := Tryz.f167) (by kernel_rfl) rfl (by kernel_rfl)
theorem Id : ∀ args w, (callFunc 97 args).run Tryz.prog w = .ok (.enter 97 args) w := cJ (fn := Tryz.f97) (by kernel_rfl) rfl (by kernel_rfl)
theorem vz {us : Array Value} (h : us.size = 1) : ∃ u, us = #[u] := by
 match us, h with
 | ⟨[u]⟩, _ => exact ⟨u, rfl⟩
theorem zj {b : Blk} {id : Nat} (h : id ≠ 900) : (lk [(900, b)] id).getD Blk.res = .res := by
 have : (Nat.beq id 900) = false := by
  cases hb : Nat.beq id 900 with
  | false => rfl
  | true => exact absurd (Nat.eq_of_beq_eq_true hb) h
 simp [lk, this]
theorem nd {arr : Array Value} (h : arr.size = 2) : ∃ p v, arr = #[p, v] := by
 match arr, h with
 | ⟨[p, v]⟩, _ => exact ⟨p, v, rfl⟩
theorem B4 : dh Tryz.prog 167 [.ptr 900 0] [(900, .tbox 198 [.v .nilP, .nils])] (.ret (.v (.tup [])) [(900, .box [.ptr 900 0, .nils])]) := by
 refine ⟨CO, fun w im ι β us S hsz => ?_⟩
 obtain ⟨u, rfl⟩ := vz hsz
 obtain ⟨u', hu, hr⟩ := S.tmps 0 (.ptr 900 0) rfl
 cases hu
 have hb := S.blks 900
 obtain ⟨b, arr, hι, hh, hs, hc⟩ : ∃ b arr, ι 900 = .box b ∧ w.heap[b]? = some (.cells arr 198 (0, 0)) ∧ arr.size = 2 ∧ ∀ (i : Nat) d u, ([.v .nilP, .nils] : List D)[i]? = some d → arr[i]? = some u → RepD w (cx ⟨w, im, bI ι⟩ ι) ι d u := hb
 obtain ⟨p, v, rfl⟩ := nd hs
 have hp : p = .pointer none := by
  have := aA (hc 0 _ p rfl rfl)
  cases this; rfl
 have hv : v = .slice none 0 0 := (hc 1 _ v rfl rfl).nils_inv
 subst hp hv
 have hu : u = .pointer (some ⟨b, 0, none⟩) := by
  cases hr with
  | ptr _ _ _ _ h => exact h b hι
 subst hu
 refine Calls.mono (Aj b w (by rw [Lib.cell_of_heap hh]; rfl) (by simp [World.shape?, hh]) (Lib.frozen_of_heap hh 0)) ?_
 rintro e w' ⟨rfl, rfl⟩
 have hb' : (w.setCell ⟨b, 0, none⟩ (.pointer (some ⟨b, 0, none⟩))).heap[b]? = some (.cells #[.pointer (some ⟨b, 0, none⟩), .slice none 0 0] 198 (0, 0)) := by
  simp [World.setCell, Array.getElem?_modify, hh]
 have S' := S.turn (w' := w.setCell ⟨b, 0, none⟩ (.pointer (some ⟨b, 0, none⟩))) (id := 900) (g := b) (.box [.ptr 900 0, .nils]) (by rw [hι]; rfl) rfl rfl rfl (by simp [World.setCell])
  (fun k _ hk => Below.heap_setCell _ _ _ _ (fun e => hk e)) (fun _ => ⟨b, _, 198, hι, hb', rfl, fun i d u hd hu => by
   match i, hd, hu with
   | 0, rfl, rfl => exact .ptr 900 0 _ (by rw [hι]; simp) (fun b' hb' => by rw [hι] at hb'; cases hb'; rfl)
   | 1, rfl, rfl => exact .nils⟩)
 refine ⟨_, ι, rfl, rA S' rfl (fun id => ?_) (.v (.tup _ _ rfl fun i v u h => by simp at h))⟩
 by_cases hid : id = 900
 ·subst hid; rfl
 ·rw [zj hid]
  show d8 _ 900 _ id = _
  exact (aN _ _ hid).trans (zj hid)
theorem Cb (d : D) (L : List (Nat × Blk)) (hL : (cb L).contains 900 = false) : dh Tryz.prog 167 [.ptr 900 0] ((900, .box [.ptr 900 0, d]) :: L) (.ret (.v (.tup [])) ((900, .box [.ptr 900 0, d]) :: L)) := by
 refine ⟨CO, fun w im ι β us S hsz => ?_⟩
 obtain ⟨u, rfl⟩ := vz hsz
 obtain ⟨u', hu, hr⟩ := S.tmps 0 (.ptr 900 0) rfl
 cases hu
 have hb := S.blks 900
 obtain ⟨b, arr, ty, hι, hh, hs, hc⟩ : ∃ b arr ty, ι 900 = .box b ∧ w.heap[b]? = some (.cells arr ty (0, 0)) ∧ arr.size = 2 ∧ ∀ (i : Nat) d' u, ([.ptr 900 0, d] : List D)[i]? = some d' → arr[i]? = some u → RepD w (cx ⟨w, im, bI ι⟩ ι) ι d' u := hb
 obtain ⟨p, v, rfl⟩ := nd hs
 have hp : p = .pointer (some ⟨b, 0, none⟩) := by
  have := hc 0 _ p rfl rfl
  cases this with
  | ptr _ _ _ _ h => exact h b hι
 subst hp
 have hu : u = .pointer (some ⟨b, 0, none⟩) := by
  cases hr with
  | ptr _ _ _ _ h => exact h b hι
 subst hu
 refine Calls.mono (Bk b w (by rw [Lib.cell_of_heap hh]; rfl)) ?_
 rintro e w' ⟨rfl, rfl⟩
 exact ⟨_, ι, rfl, rA S rfl (fun id => rfl) (.v (.tup _ _ rfl fun i v u h => by simp at h))⟩
theorem CM (c : D) (l : List UInt8) : dh Tryz.prog 97 [.ptr 900 0] [(900, .box [c, .own 901]), (901, .row 5 1 (l.map bV))] (.ret (.v (.str (bs l))) [(900, .box [c, .any]), (901, .dead)]) := by
 refine ⟨Id, fun w im ι β us S hsz => ?_⟩
 obtain ⟨u, rfl⟩ := vz hsz
 obtain ⟨u', hu, hr⟩ := S.tmps 0 (.ptr 900 0) rfl
 cases hu
 have hb := S.blks 900
 obtain ⟨b, arr, ty, hι, hh, hs, hc⟩ : ∃ b arr ty, ι 900 = .box b ∧ w.heap[b]? = some (.cells arr ty (0, 0)) ∧ arr.size = 2 ∧ ∀ (i : Nat) d' u, ([c, .own 901] : List D)[i]? = some d' → arr[i]? = some u → RepD w (cx ⟨w, im, bI ι⟩ ι) ι d' u := hb
 obtain ⟨p, v, rfl⟩ := nd hs
 have hu : u = .pointer (some ⟨b, 0, none⟩) := by
  cases hr with
  | ptr _ _ _ _ h => exact h b hι
 subst hu
 have hrow : RowRel w (cx ⟨w, im, bI ι⟩ ι) 5 1 (l.map bV) (ι 901) := S.blks 901
 have hv := (hc 1 _ v rfl rfl).own_inv
 have fin : ∀ w', vr (fun k => (ι 901).blk = some k) w w' → va w im ι β [(900, .box [c, .own 901]), (901, .row 5 1 (l.map bV))] (.ret (.v (.str (bs l))) [(900, .box [c, .any]), (901, .dead)]) (.returned (.string (bs l))) w' := by
  intro w' ⟨h1, h2, h3, h4, h5⟩
  have hne : (ι 901).blk ≠ some b := fun h => by
   have := S.inj 901 900 b h (by rw [hι]; rfl)
   cases this
  obtain ⟨S', hk⟩ := S.evolve w' (d8 ι 901 .dead) (d8 (d8 (mk (kB 0 [.ptr 900 0]) [(900, .box [c, .own 901]), (901, .row 5 1 (l.map bV))] ⟨0, 0, cK (cL [(900, .box [c, .own 901]), (901, .row 5 1 (l.map bV))]) β⟩).h 900 (.box [c, .any])) 901 .dead) (fun k => (ι 901).blk = some k) h1 h2 h3 h4 (fun k h => ⟨901, h⟩) h5
   (fun id hid => by
    by_cases h : id = 901
    ·subst h; exact .inr (aE _ _ _)
    ·exact .inl (aN _ _ h))
   (fun id k h _ => by
    by_cases h' : id = 901
    ·subst h'; rw [aE] at h; cases h
    ·rw [aN _ _ h'] at h; exact ⟨id, h⟩)
   (fun id id' k h h' => by
    by_cases e : id = 901
    ·subst e; rw [aE] at h; cases h
    ·by_cases e' : id' = 901
     ·subst e'; rw [aE] at h'; cases h'
     ·rw [aN _ _ e] at h; rw [aN _ _ e'] at h'; exact S.inj _ _ _ h h')
   (fun id k h => by
    by_cases e : id = 901
    ·subst e; rw [aE] at h; cases h
    ·rw [aN _ _ e] at h; exact Nat.lt_of_lt_of_le (S.bnd _ _ h).1 h4)
   (fun id => by
    by_cases e : id = 901
    ·subst e; exact .inr fun _ => by rw [aE, aE]; rfl
    ·by_cases e2 : id = 900
     ·subst e2
      refine .inr fun hk => ?_
      rw [aN _ _ (by decide), aE, aN _ _ (by decide)]
      refine ⟨b, #[p, v], ty, hι, (h5 b (S.bnd 900 b (by rw [hι]; rfl)).1 hne).trans hh, rfl, fun i d u hd hu => ?_⟩
      match i, hd, hu with
      | 0, rfl, rfl => exact (hc 0 c p rfl rfl).mono hk (fun id hid => by
         by_cases h : id = 901
         ·subst h; exact .inr (aE _ _ _)
         ·exact .inl (aN _ _ h))
      | 1, rfl, rfl => exact .any _
     ·refine .inl ⟨(aN _ _ e).trans (aN _ _ e2), aN _ _ e, fun k h h' => e (S.inj _ _ _ h h')⟩)
  refine ⟨_, d8 ι 901 .dead, rfl, rA S' rfl (fun id => ?_) (.v (.str _))⟩
  show d8 (d8 _ 900 _) 901 _ id = _
  by_cases e : id = 901
  ·subst e; rw [aE]; rfl
  ·rw [aN _ _ e]
   by_cases e2 : id = 900
   ·subst e2; rw [aE]; rfl
   ·rw [aN _ _ e2]
    show (lk [((900 : Nat), Blk.box [c, .own 901]), (901, .row 5 1 (l.map bV))] id).getD Blk.res = (lk [((900 : Nat), Blk.box [c, .any]), (901, .dead)] id).getD Blk.res
    have n1 : Nat.beq id 900 = false := by
     cases hb : Nat.beq id 900 with
     | false => rfl
     | true => exact absurd (Nat.eq_of_beq_eq_true hb) e2
    have n2 : Nat.beq id 901 = false := by
     cases hb : Nat.beq id 901 with
     | false => rfl
     | true => exact absurd (Nat.eq_of_beq_eq_true hb) e
    simp [lk, n1, n2]
 obtain ⟨_, _, ⟨hι1, h0⟩ | ⟨g, cap, cur, hι1, hg, hle, hcm, hcs, hx⟩⟩ := hrow
 ·have hl : l = [] := List.map_eq_nil_iff.1 h0
  subst hl
  have hv' := hv.2 _ _ _ hι1
  subst hv'
  exact Calls.mono (Cg b p ty w hh) fun e w' ⟨h1, h2⟩ => by
   subst h1
   exact fin w' ⟨h2.1, h2.2.1, h2.2.2.1, h2.2.2.2.1, fun k hk _ => h2.2.2.2.2 k hk (fun h => h)⟩
 ·have hv' := hv.2 _ _ _ hι1
  subst hv'
  simp only [List.length_map] at hι1 hle hh
  by_cases hl : l = []
  ·subst hl
   by_cases hc0 : cap = 0
   ·subst hc0
    exact Calls.mono (vJ b g p ty cur w hh hg) fun e w' ⟨h1, h2⟩ => by
     subst h1
     exact fin w' ⟨h2.1, h2.2.1, h2.2.2.1, h2.2.2.2.1, fun k hk _ => h2.2.2.2.2 k hk (fun h => h)⟩
   ·exact Calls.mono (yR b g cap p ty w hc0 hh) fun e w' ⟨h1, h2⟩ => by
     subst h1
     exact fin w' ⟨h2.1, h2.2.1, h2.2.2.1, h2.2.2.2.1, fun k hk _ => h2.2.2.2.2 k hk (fun h => h)⟩
  ·refine Calls.mono (AQ b g cap p ty cur l w hl hh hg hle hcm (by simpa using hcs) (fun j x hj => ?_)) fun e w' ⟨h1, h2⟩ => ?_
   ·have hlt : j < cur.size := by have := (List.getElem?_eq_some_iff.1 hj).1; omega
    have := hx j 0 (bV x) (.int .u8 (x.toNat : Int)) cur[j] (by rw [List.getElem?_map, hj]; rfl) rfl (by simp [hlt])
    have h3 := this.int_inv
    rw [Array.getElem?_eq_getElem hlt, h3]
   ·subst h1
    refine fin w' ⟨h2.1, h2.2.1, h2.2.2.1, h2.2.2.2.1, fun k hk hne => h2.2.2.2.2 k hk (fun h => hne ?_)⟩
    rw [hι1, h]; rfl
end Go.Vd
namespace Go.Vd
open Go.Proofs Go.RowKit
theorem zD (s : List UInt8) (hb : s.length ≤ 140737488355328) : dh Tryz.prog 92 [.ptr 900 0, .v (.str (bs s))] [(900, .tbox 198 [.v .nilP, .nils])] (.ret (.tup [.v (.int .i64 s.length), .any]) [(900, .box [.ptr 900 0, .own 901]), (901, .row 5 1 (s.map bV))]) := by
 refine cY ac (f := 92) (fn := Tryz.f92) (N := 19) (rs := [.tmp 4, .tmp 5]) (by kernel_rfl) rfl (by kernel_rfl) rfl rfl rfl ?_
 intro B β
 refine cT [(0, .ptr 900 0), (1, .v (.str (bs s)))] [(900, .tbox 198 [.v .nilP, .nils])] ⟨J, J, aj⟩ ⟨J, aj⟩ J J J J<|ag<|af J<|nv J J J<|ab<|ag<|aa J<|er [(0, .ptr 900 0), (1, .v (.str (bs s))), (4, .v (.int .i64 0)), (5, .any)] [] (B4) J J J J ⟨J, aj⟩ J J J J aj ⟨J, J, J, J, aj⟩ J J J J J J J J<|ab<|gN (α := Unit) (fun _ => mk [(0, .ptr 900 0), (1, .v (.str (bs s))), (5, .any)] [(900, .box [.ptr 900 0, .own 901]), (901, .row 5 1 (s.map bV))] ⟨0, 0, [(900, β 900)]⟩) (fun _ => True) ?_ ?_
 ·refine aF<|aa J<|aa J<|bJ J<|ax qO J<|aC bG J<|aa J<|AX 14 ac J bG J fH J eK J J J J ⟨J, aj⟩ hb J J J<|bJ J<|ax qO J<|gF [(14, _)] ac J bG J J J ⟨J, aj⟩ J J J J J J J J<|ar ?_
  exact cX () aj (cd [(901, 14)] ⟨J, J, J, aj⟩ ⟨J, J, aj⟩ J J J J J)
 ·intro _ _
  refine ag<|aa J<|dc ac J J fH J J J<|af J<|nv J J J<|ab<|am ?_
  refine eo (L' := [(900, _), (901, _)]) J (fa rfl) ⟨J, J, aj⟩ J J J J ?_
  rfl
theorem vd (xs s : List UInt8) (hb : xs.length + s.length ≤ 140737488355328) : dh Tryz.prog 92 [.ptr 900 0, .v (.str (bs s))] [(900, .box [.ptr 900 0, .own 901]), (901, .row 5 1 (xs.map bV))] (.ret (.tup [.v (.int .i64 s.length), .any]) [(900, .box [.ptr 900 0, .own 901]), (901, .row 5 1 ((xs ++ s).map bV))]) := by
 refine cY ac (f := 92) (fn := Tryz.f92) (N := 19) (rs := [.tmp 4, .tmp 5]) (by kernel_rfl) rfl (by kernel_rfl) rfl rfl rfl ?_
 intro B β
 refine cT [(0, .ptr 900 0), (1, .v (.str (bs s)))] [(900, .box [.ptr 900 0, .own 901]), (901, .row 5 1 (xs.map bV))] ⟨J, J, aj⟩ ⟨J, J, aj⟩ J J J J<|ag<|af J<|nv J J J<|ab<|ag<|aa J<|er [(0, .ptr 900 0), (1, .v (.str (bs s))), (4, .v (.int .i64 0)), (5, .any)] [] (Cb (.own 901) [(901, .row 5 1 (xs.map bV))] J) J J J J ⟨J, J, aj⟩ J J J J aj ⟨J, J, J, J, aj⟩ J J J J J J J J<|ab<|gN (α := Unit) (fun _ => mk [(0, .ptr 900 0), (1, .v (.str (bs s))), (5, .any)] [(900, .box [.ptr 900 0, .own 901]), (901, .row 5 1 ((xs ++ s).map bV))] ⟨0, 0, [(900, β 900)]⟩) (fun _ => True) ?_ ?_
 ·refine aF<|aa J<|aa J<|bJ J<|ax qO J<|aC bG J<|aa J ?_
  refine B6 14 ac J bG J fH J eK J J J J ⟨J, J, aj⟩ (List.map_append).symm (by simp; omega) J J J ?_
  refine bJ J<|ax qO J<|gF [(14, _)] ac J bG J J J ⟨J, aj⟩ J J J J J J J J<|ar ?_
  exact cX () aj (cd [(901, 14)] ⟨J, J, J, aj⟩ ⟨J, J, aj⟩ J J J J J)
 ·intro _ _
  refine ag<|aa J<|dc ac J J fH J J J<|af J<|nv J J J<|ab<|am ?_
  refine eo (L' := [(900, _), (901, _)]) J (fa rfl) ⟨J, J, aj⟩ J J J J ?_
  rfl
end Go.Vd
namespace Go.Vd
open Go.Proofs Go.RowKit
def a0 : Aig := ⟨0, [], [], [], [0], [], []⟩
def hdV0 : List Int := [0, 0, 0, 0, 0, 1, 0]
def DG : Nat → List UInt8
 | 0 => [97, 105, 103]
 | n + 1 => DG n ++ ([32] ++ cy (hdV0.getD n default))
def yc : Nat → List UInt8
 | 0 => DG 7 ++ [10]
 | n + 1 => yc n ++ (cy 0 ++ [10])
theorem wX (j : Nat) : -9223372036854775807 ≤ hdV0.getD j default ∧ hdV0.getD j default ≤ 9223372036854775807 := by
 have : 0 ≤ hdV0.getD j default ∧ hdV0.getD j default ≤ 1 := by
  match j with
  | 0 | 1 | 2 | 3 | 4 | 5 | 6 => exact ⟨by decide, by decide⟩
  | n + 7 => exact ⟨by simp [hdV0], by simp [hdV0]⟩
 omega
theorem sS (j : Nat) : (cy (hdV0.getD j default)).length ≤ 1000 := by
 have h := wX j
 have := fP (hdV0.getD j default) h.1 h.2
 omega
theorem rF : ∀ j, (DG j).length ≤ 3 + j * 1001
 | 0 => by decide
 | j + 1 => by
   have := rF j
   have := sS j
   simp only [DG, List.length_append, List.length_cons, List.length_nil]
   omega
theorem uE : (cy 0).length ≤ 1000 := by
 have := fP 0 (by decide) (by decide)
 omega
theorem zA : ∀ j, (yc j).length ≤ 7011 + j * 1001
 | 0 => by have := rF 7; simp only [yc, List.length_append, List.length_cons, List.length_nil]; omega
 | j + 1 => by
   have := zA j
   have := uE
   simp only [yc, List.length_append, List.length_cons, List.length_nil]
   omega
theorem IQ : nR a0 := by constructor <;> decide
theorem GY  : dn 98 [bq a0] (.str (bs (yc 1))) := by
 refine bC ac (f := 98) (fn := Tryz.f98) (N := 79) (rs := [.tmp 2]) (by kernel_rfl) rfl (by kernel_rfl) rfl rfl [(0, .v (bq a0))] ⟨rfl, aj⟩ rfl rfl ?_
 intro B
 refine ag<|bE 1 [] J J J ⟨J, aj⟩ J J J<|af J<|ab<|ag<|oE (id := 900) ac J J qO J J J J<|ab<|ag<|er [(1, .ptr 1 0), (2, .v (.str (bs []))), (3, .ptr 900 0)] [(1, .box [.v (.int .i64 0), .v (.sl []), .v (.sl []), .v (.sl []), .v (cf [0]), .v (.sl []), .v (.sl [])])] (zD [97, 105, 103] (by decide)) J J J J ⟨J, aj⟩ J J J J ⟨J, aj⟩ ⟨J, J, J, aj⟩ J J J J J J J J ?_
 refine ab<|ae<|ae<|aS (L := [([1], []), ([], []), ([1], []), ([1], []), ([1], []), ([1], []), ([], []), ([1], []), ([1], []), ([], []), ([1], []), ([1], []), ([], []), ([1], []), ([1], []), ([], []), ([1], []), ([1], []), ([], []), ([], []), ([], []), ([], [])]) (by kernel_rfl) mixed (by kernel_rfl)<|a7 aK J<|ap [] (kn a0 IQ) J J J J J J aj (.inl J) J J J<|ax aK J<|aC bm J<|ax aK J<|aC cR J<|aI ac J J cR J J J J<|ax aK J<|aC br J<|aI ac J J br J J J J<|ax aK J ?_
 refine aC dg J<|aI ac J J dg J J J J<|ax aK J<|aC br J<|aI ac J J br J J J J<|ax aK J<|aC br J<|aI ac J J br J J J J<|bZ br bm [] J aj J<|aI ac J J br J J J J<|aa J<|ab<|aw<|aZ (α := Nat) (fun j => mk [(1, .ptr 1 0), (2, .v (.str (bs []))), (3, .ptr 900 0), (30, .v (cf hdV0)), (31, .v (.int .i64 7)), (32, .v (.int .i64 j))] [(1, .box [.v (.int .i64 0), .v (.sl []), .v (.sl []), .v (.sl []), .v (cf [0]), .v (.sl []), .v (.sl [])]), (900, .box [.ptr 900 0, .own 901]), (901, .row 5 1 ((DG j).map bV))] 0) (fun j => j ≤ 7) (fun j => 7 - j) 0 (Nat.zero_le _) (aL ⟨J, J, J, J, J, J, aj⟩ ⟨J, J, J, aj⟩ J J J J) ?_
 rintro j hinv
 have hvb := wX j
 have hfl := sS j
 have hpl := rF j
 refine ag<|bj J (fun h33 => ?_) (fun h33 => ?_)
 ·refine ab<|ae<|ai J<|ao<|ak<|ae<|aw<|ag ?_
  refine fZ ac J J J br J bm (by omega) (bz (n := j) (xs := hdV0) (by show j < 7; omega)) J J J ?_
  refine bu bm J<|af J<|ab<|aF<|aa J<|ap [] (lL _ hvb.1 hvb.2) J J J J J J aj (.inl J) J J J ?_
  refine gx J J J (by show 1 + _ ≤ _; omega) J J ?_
  refine er [(1, .ptr 1 0), (2, .v (.str (bs []))), (3, .ptr 900 0), (30, .v (cf hdV0)), (31, .v (.int .i64 7)), (32, .v (.int .i64 j))] [(1, .box [.v (.int .i64 0), .v (.sl []), .v (.sl []), .v (.sl []), .v (cf [0]), .v (.sl []), .v (.sl [])])] (vd (DG j) ([32] ++ cy (hdV0.getD j default)) (by simp only [List.length_append, List.length_cons, List.length_nil]; omega)) J J J J ⟨J, J, aj⟩ J J J J ⟨J, aj⟩ ⟨J, J, J, J, J, J, aj⟩ J J J J J J J J ?_
  refine ar<|aH<|ak<|aF<|bh J (by omega) (by omega) J ?_
  refine aa J<|ar ?_
  exact aT (j + 1) (by omega) (by omega) (aL ⟨J, J, J, J, J, J, aj⟩ ⟨J, J, J, aj⟩ J J J J)
 ·refine ab<|ae<|ah J<|aO<|ba (a8 (aP ?_))
  refine ak<|ae ?_
  have hj7 : j = 7 := by omega
  subst hj7
  refine aF ?_
  refine er [(1, .ptr 1 0), (2, .v (.str (bs []))), (3, .ptr 900 0)] [(1, .box [.v (.int .i64 0), .v (.sl []), .v (.sl []), .v (.sl []), .v (cf [0]), .v (.sl []), .v (.sl [])])] (vd (DG 7) ([10]) (by have := rF 7; simp only [List.length_cons, List.length_nil]; omega)) J J J J ⟨J, J, aj⟩ J J J J ⟨J, aj⟩ ⟨J, J, J, aj⟩ J J J J J J J J ?_
  refine ab<|ae<|ag<|ax aK J<|aC cR J<|aI ac J J cR J J J J<|aa J<|ab<|aw<|aZ (α := Unit) (fun _ => mk [(1, .ptr 1 0), (2, .v (.str (bs []))), (3, .ptr 900 0), (43, .v (.sl [])), (44, .v (.int .i64 0)), (45, .v (.int .i64 0))] [(1, .box [.v (.int .i64 0), .v (.sl []), .v (.sl []), .v (.sl []), .v (cf [0]), .v (.sl []), .v (.sl [])]), (900, .box [.ptr 900 0, .own 901]), (901, .row 5 1 ((yc 0).map bV))] 0) (fun _ => True) (fun _ => 0) () aj (aL ⟨J, J, J, J, J, J, aj⟩ ⟨J, J, J, aj⟩ J J J J) ?_
  rintro _ _
  refine ag<|bj J (fun h46 => ?_) (fun h46 => ?_)
  ·exfalso; exact absurd h46 (by decide)
  ·refine ab<|ae<|ah J<|aO<|ba (a8 (aP ?_))
   refine ak<|ae<|ag<|ax aK J<|aC br J<|ax aK J<|aC br J<|ax aK J<|aC br J<|bZ eC br [] J aj J<|ov 67 (CX [[], [0], []] (by decide) (by decide)) J J J J J J J J J J ?_
   refine dW ac J J J br J J J J J<|aa J<|ab<|aw<|aZ (α := Nat) (fun j => mk [(1, .ptr 1 0), (2, .v (.str (bs []))), (3, .ptr 900 0), (67, .own 902), (68, .v (.int .i64 1)), (69, .v (.int .i64 j))] [(1, .box [.v (.int .i64 0), .v (.sl []), .v (.sl []), .v (.sl []), .v (cf [0]), .v (.sl []), .v (.sl [])]), (900, .box [.ptr 900 0, .own 901]), (901, .row 5 1 ((yc j).map bV)), (902, .row 3 1 [[.int .i64 0]])] 0) (fun j => j ≤ 1) (fun j => 1 - j) 0 (Nat.zero_le _) (cd [(902, 67)] ⟨J, J, J, J, J, J, aj⟩ ⟨J, J, J, J, aj⟩ J J J J J) ?_
   rintro j hinv
   have hql := zA j
   have hf0 := uE
   refine ag<|bj J (fun h70 => ?_) (fun h70 => ?_)
   ·refine ab<|ae<|ai J<|ao<|ak<|ae<|aw<|ag ?_
    refine dG ac J J J J br J bm J (by omega) (by show (j : Int) < 1; omega) J J J J ?_
    refine gP ac J J J bm J (by have hj0 : j = 0 := (by omega); subst hj0; rfl) J J J ?_
    refine af J<|ab<|aF<|aa J<|ap [] (lL 0 (by decide) (by decide)) J J J J J J aj (.inl J) J J J ?_
    refine gx J J J (by show _ + 1 ≤ _; omega) J J ?_
    refine er [(1, .ptr 1 0), (2, .v (.str (bs []))), (3, .ptr 900 0), (67, .own 902), (68, .v (.int .i64 1)), (69, .v (.int .i64 j))] [(1, .box [.v (.int .i64 0), .v (.sl []), .v (.sl []), .v (.sl []), .v (cf [0]), .v (.sl []), .v (.sl [])]), (902, .row 3 1 [[.int .i64 0]])] (vd (yc j) (cy 0 ++ [10]) (by simp only [List.length_append, List.length_cons, List.length_nil]; omega)) J J J J ⟨J, J, aj⟩ J J J J ⟨J, J, aj⟩ ⟨J, J, J, J, J, J, aj⟩ J J J J J J J J ?_
    refine ar<|aH<|ak<|aF<|bh J (by omega) (by omega) J ?_
    refine aa J<|ar ?_
    exact aT (j + 1) (by omega) (by omega) (aL ⟨J, J, J, J, J, J, aj⟩ ⟨J, J, J, J, aj⟩ J J J J)
   ·refine ab<|ae<|ah J<|aO<|ba (a8 (aP ?_))
    refine ak<|ae ?_
    have hj1 : j = 1 := by omega
    subst hj1
    refine aF<|er [] [] (CM (.ptr 900 0) (yc 1)) J J J J ⟨J, J, aj⟩ J J J J aj aj J J J J J J J J<|af J<|ab<|am ?_
    refine an J J ?_
    rfl
theorem GA  : dn 96 [bq a0, .str (bs [])] (.str (bs [])) := by
 refine bC ac (f := 96) (fn := Tryz.f96) (N := 33) (rs := [.tmp 4]) (by kernel_rfl) rfl (by kernel_rfl) rfl rfl [(0, .v (bq a0)), (1, .v (.str (bs [])))] ⟨rfl, rfl, aj⟩ rfl rfl ?_
 intro B
 refine ag<|bE 2 [] J J J ⟨J, aj⟩ J J J<|af J<|ab<|ag<|oE (id := 900) ac J J qO J J J J<|ab<|ag<|aa J<|er [(2, .ptr 2 0), (4, .v (.str (bs []))), (5, .ptr 900 0)] [(2, .box [.v (.int .i64 0), .v (.sl []), .v (.sl []), .v (.sl []), .v (cf [0]), .v (.sl []), .v (.sl [])])] (zD [] (by decide)) J J J J ⟨J, aj⟩ J J J J ⟨J, aj⟩ ⟨J, J, J, aj⟩ J J J J J J J J ?_
 refine ab<|ae<|ag<|ax aK J<|aC dK J<|aI ac J J dK J J J J<|aa J<|ab<|aw<|aZ (α := Unit) (fun _ => mk [(2, .ptr 2 0), (4, .v (.str (bs []))), (5, .ptr 900 0), (11, .v (.sl [])), (12, .v (.int .i64 0)), (13, .v (.int .i64 0))] [(2, .box [.v (.int .i64 0), .v (.sl []), .v (.sl []), .v (.sl []), .v (cf [0]), .v (.sl []), .v (.sl [])]), (900, .box [.ptr 900 0, .own 901]), (901, .row 5 1 (([] : List UInt8).map bV))] 0) (fun _ => True) (fun _ => 0) () aj (aL ⟨J, J, J, J, J, J, aj⟩ ⟨J, J, J, aj⟩ J J J J) ?_
 rintro _ _
 refine ag<|bj J (fun h14 => ?_) (fun h14 => ?_)
 ·exfalso; exact absurd h14 (by decide)
 ·refine ab<|ae<|ah J<|aO<|ba (a8 (aP ?_))
  refine ak<|ag<|er [] [] (CM (.ptr 900 0) []) J J J J ⟨J, J, aj⟩ J J J J aj aj J J J J J J J J<|af J<|ab<|am ?_
  refine an J J ?_
  rfl
theorem E7 (n : Int) : qI Tryz.prog 233 [.ref [iH []], .ref [.int .i64 n]] ([]) := by
 refine Dl (f := 233) (fn := Tryz.f233) (N := 29) (by kernel_rfl) rfl (by kernel_rfl) rfl rfl (fun l => [(0, .v (.fn (.yield l) [] [])), (1, .v (.ref [iH []])), (2, .v (.ref [.int .i64 n]))]) (fun _ => ⟨rfl, rfl, rfl, aj⟩) rfl (fun _ => rfl) ?_
 intro 𝔅 l hy
 refine ag<|bu dg J<|aI ac J J dg J J J J<|aa J<|ab<|aw<|aZ (α := Unit) (fun _ => mk [(0, .v (.fn (.yield l) [] [])), (1, .v (.ref [iH []])), (2, .v (.ref [.int .i64 n])), (6, .v (iH [])), (7, .v (.int .i64 0)), (8, .v (.int .i64 0))] [] ⟨0, 1, []⟩) (fun _ => True) (fun _ => 0) () aj (aL ⟨J, J, J, J, J, J, aj⟩ aj J J J J) ?_
 rintro _ _
 refine ag<|bj J (fun h9 => ?_) (fun h9 => ?_)
 ·exfalso; exact absurd h9 (by decide)
 ·refine ab<|ae<|ah J<|aO<|ba (a8 (aP ?_))
  refine ⟨rfl, .inl ?_⟩
  rfl
theorem Ed (n : Int) : dn 169 [iH [], .int .i64 n] (.fn (.func 233) [] [.ref [iH []], .ref [.int .i64 n]]) := by
 refine bC ac (f := 169) (fn := Tryz.f169) (N := 6) (rs := [.tmp 4]) (by kernel_rfl) rfl (by kernel_rfl) rfl rfl [(0, .v (iH [])), (1, .v (.int .i64 n))] ⟨rfl, rfl, aj⟩ rfl rfl ?_
 intro B
 refine ag<|bE 2 [] J J J ⟨J, aj⟩ J J J<|bE 3 [] J J J ⟨J, aj⟩ J J J<|nv J J J<|ab<|ag<|jP J J J J J J<|af J<|ab<|am ?_
 refine an J J ?_
 rfl
theorem Gv (n : Int) : dn 99 [iH [], .int .i64 n] (.sl []) := by
 refine bC ac (f := 99) (fn := Tryz.f99) (N := 21) (rs := [.tmp 4]) (by kernel_rfl) rfl (by kernel_rfl) rfl rfl [(0, .v (iH [])), (1, .v (.int .i64 n))] ⟨rfl, rfl, aj⟩ rfl rfl ?_
 intro B
 refine ag<|af J<|ab<|ag<|bl (id := 5) bG J<|ab<|ae<|ag<|aa J<|aa J<|ap [] (Ed n) J J J J J J aj (.inl J) J J J ?_
 refine ab<|aw ?_
 refine tO (α := Unit) (E7 n) (fun x hx => by simp at hx) [(5, .ptr 5 0), (4, .nils), (10, .v (.fn (.func 233) [] [.ref [iH []], .ref [.int .i64 n]]))] [5] (fun _ => [(5, .box [.nils])]) (fun k _ => True) () 0 0 aj (aL ⟨rfl, rfl, rfl, aj⟩ ⟨rfl, aj⟩ rfl rfl rfl rfl) J J J (fun _ => rfl) ?_ ?_
 ·rintro l β k x _ hx _ 𝔅1
  exact absurd hx (by simp)
 ·rintro _ _
  refine aH<|ak<|ag<|aC bG J<|af J<|ab<|cg (rn (t := 4) J)<|cT [(4, .v (.sl []))] [(5, .box [.nils])] ⟨J, aj⟩ ⟨J, aj⟩ J J J J<|am ?_
  refine an J J ?_
  rfl
theorem II : da a0 := by
 refine ⟨by decide, by decide, by decide, by decide, by decide, fun j hj => by simp [a0] at hj, fun j hj => by simp [a0] at hj, fun j hj => ?_, fun j hj => by simp [a0] at hj, by decide⟩
 match j, hj with
 | 0, _ => exact ⟨by decide, by decide⟩
 | 1, _ => exact ⟨by decide, by decide⟩
 | 2, _ => exact ⟨by decide, by decide⟩
open Classical in
theorem D8 : decide (da a0) = true := decide_eq_true II
theorem GJ  : dn 53 [bq a0] (.tup [cH (yc 1), .int .i64 0]) := by
 refine bC ac (f := 53) (fn := Tryz.f53) (N := 27) (rs := [.tmp 2, .tmp 3]) (by kernel_rfl) rfl (by kernel_rfl) rfl rfl [(0, .v (bq a0))] ⟨rfl, aj⟩ rfl rfl ?_
 intro B
 refine ag<|bE 1 [] J J J ⟨J, aj⟩ J J J<|af J<|af J<|ab<|ae<|ag<|a7 aK J ?_
 refine ap [] (De a0 (fun x hx => by simp [a0] at hx) (by decide)) J J J J J J aj (.inl rfl) J J J ?_
 refine s9 (d' := .v (.bool true)) (congrArg (fun b => D.v (V.bool b)) D8)<|bL J<|ab<|ah J<|ao<|ak<|ae<|aS (L := [([1], []), ([], []), ([], []), ([1], []), ([1], []), ([1], []), ([1], []), ([1], []), ([1], []), ([], []), ([], []), ([], []), ([], []), ([], []), ([], []), ([], [])]) (by kernel_rfl) mixed (by kernel_rfl)<|a7 aK J<|ap [] (GY) J J J J J J aj (.inl J) J J J<|oC ac J fH bG J eK J J J J J<|ax aK J<|aC dg J<|ax aK J<|aC bm J ?_
 refine ax aK J<|aC cR J<|aI ac J J cR J J J J<|bh J (by decide) (by decide) J ?_
 refine bh J (by decide) (by decide) J ?_
 refine dA J J J J (by decide) (by decide) J J ?_
 refine ap [] (Gv 2) J J J J J J aj (.inl J) J J J<|nH (e' := 5) ac J bG J bG eK J J (.inl ⟨J, .inr J⟩) J J<|af J<|ab<|ag<|aa J<|a7 aK J<|ap [] (GA) J J J J J J aj (.inl J) J J J<|nH (e' := 5) ac J bG J fH eK J J (.inr ⟨J, J⟩) J J<|af J<|af J<|ab<|am ?_
 refine an J J ?_
 rfl
theorem G9  : dn 30 [.sl ([V.ifc 33 (bq a0)].map fun x => [x])] (.tup [.str (bs (yc 1)), .int .i64 0]) := by
 refine bC ac (f := 30) (fn := Tryz.f30) (N := 20) (rs := [.tmp 2, .tmp 3]) (by kernel_rfl) rfl (by kernel_rfl) rfl rfl [(0, .v (.sl ([V.ifc 33 (bq a0)].map fun x => [x])))] ⟨rfl, aj⟩ rfl rfl ?_
 intro B
 refine ag<|af J<|af J<|ab<|ag<|aa J<|fZ ac J J J iB J iD (by decide) J J J J ?_
 refine bu iD J<|qA ac (by decide) J J aK J J ?_
 refine ap [] (GJ) J J J J J J aj (.inl J) J J J<|aa J<|aW J<|aW J<|af J<|af J<|ab<|ag<|aa J<|gV ac J bG fH J eK J J J J J<|aa J<|ap [] (HE (yc 1) 0) J J J J J J aj (.inl J) J J J<|aW J<|aW J ?_
 refine af J<|af J<|ab<|am ?_
 refine an J J ?_
 rfl
end Go.Vd
namespace Go.Vd
open Go.Proofs
def bM : List UInt8 := [97, 97, 103, 32, 48, 32, 48, 32, 48, 32, 48, 32, 48, 32, 49, 32, 48, 10, 48, 10]
def bP : List UInt8 := [105, 110, 118, 32, 48, 32, 49, 10, 112, 114, 111, 111, 102, 32, 49, 10, 48, 10, 112, 114, 111, 111, 102, 32, 49, 10, 48, 10, 112, 114, 111, 111, 102, 32, 49, 10, 48, 10]
def bN : List UInt8 := [48, 10]
def bA : List UInt8 := [97, 105, 103, 32, 48, 32, 48, 32, 48, 32, 48, 32, 48, 32, 49, 32, 48, 10, 48, 10]
def c0 : gO := ⟨[], 1, [⟨false, []⟩], [⟨false, []⟩], [⟨false, []⟩]⟩
theorem Io : yc 1 = bA := by decide +kernel
theorem Iv : dk bM = some (a0, 20) := by decide +kernel
theorem I1 : fg a0 bP = some (c0, 38) := by decide +kernel
theorem IJ : fh bN = (0, 2, 0) := by decide +kernel
theorem HC : gro a0 c0.g = a0 := by decide +kernel
theorem EC : pf a0 c0 := by
 refine ⟨by decide, by rw [HC]; exact II, by decide, by rw [HC]; decide, by decide +kernel, fun j hj => ?_⟩
 match j, hj with
 | 0, _ => decide +kernel
 | 1, _ => decide +kernel
 | 2, _ => decide +kernel
theorem I0 (j : Nat) (hj : j < 3) : iW (eA (gro a0 c0.g) c0.inv (a0.bad.getD 0 default) j).n (eA (gro a0 c0.g) c0.inv (a0.bad.getD 0 default) j).c = true := by
 match j, hj with
 | 0, _ => decide +kernel
 | 1, _ => decide +kernel
 | 2, _ => decide +kernel
theorem I2 (j : Nat) (hj : j < 3) : G7 c0 j = [⟨false, []⟩] ∧ Ao (eA (gro a0 c0.g) c0.inv (a0.bad.getD 0 default) j) := by
 match j, hj with
 | 0, _ => exact ⟨rfl, 1, by decide, by decide +kernel, by decide +kernel⟩
 | 1, _ => exact ⟨rfl, 2, by decide, by decide +kernel, by decide +kernel⟩
 | 2, _ => exact ⟨rfl, 1, by decide, by decide +kernel, by decide +kernel⟩
theorem Iu (z : Int) (h : tE a0 0 c0 z) : z = 0 := h.sh EC (by decide) I0 I2
end Go.Vd
namespace Go.Vd
def gC (v : List Bool) (l : Int) : Bool := if l % 2 = 1 then !(v.getD (l / 2).toNat false) else v.getD (l / 2).toNat false
def ia (v : List Bool) : List Gate → List Bool
 | [] => v
 | g :: gs => ia (v ++ [gC v g.a && gC v g.b]) gs
theorem iN (gs : List Gate) : ∀ (v : List Bool) (n : Nat), n < v.length → (ia v gs).getD n false = v.getD n false := by
 induction gs with
 | nil => intro v n _; rfl
 | cons g gs ih =>
   intro v n hn
   show (ia (v ++ _) gs).getD n false = _
   rw [ih _ n (by simp; omega), List.getD_eq_getElem?_getD, List.getElem?_append_left hn, List.getD_eq_getElem?_getD]
theorem xx (xs ys : List Gate) : ∀ v : List Bool, ia v (xs ++ ys) = ia (ia v xs) ys := by
 induction xs with
 | nil => intro v; rfl
 | cons g gs ih => intro v; exact ih _
theorem pb {v w : List Bool} {l : Int} (h : v.getD (l / 2).toNat false = w.getD (l / 2).toNat false) : gC v l = gC w l := by unfold gC; rw [h]
theorem vD (gs : List Gate) : ∀ (v : List Bool) (j : Nat), j < gs.length → (∀ q, q < gs.length → 0 ≤ (gs.getD q default).b ∧ (gs.getD q default).b ≤ (gs.getD q default).a ∧ (gs.getD q default).a < 2 * ((v.length : Int) + q)) →
 (ia v gs).getD (v.length + j) false = (gC (ia v gs) (gs.getD j default).a && gC (ia v gs) (gs.getD j default).b) := by
 induction gs with
 | nil => intro v j hj; simp at hj
 | cons g gs ih =>
   intro v j hj hg
   have hlen : (v ++ [gC v g.a && gC v g.b]).length = v.length + 1 := by simp
   cases j with
   | zero =>
     have h0 := hg 0 (by simp)
     simp only [List.getD_cons_zero] at h0 ⊢
     have e1 : gC (ia v (g :: gs)) g.a = gC v g.a := pb (iN (g :: gs) v _ (by omega))
     have e2 : gC (ia v (g :: gs)) g.b = gC v g.b := pb (iN (g :: gs) v _ (by omega))
     rw [e1, e2]
     show (ia (v ++ [gC v g.a && gC v g.b]) gs).getD (v.length + 0) false = _
     rw [iN gs _ _ (by rw [hlen]; omega), List.getD_eq_getElem?_getD, List.getElem?_append_right (by omega)]
     simp
   | succ j =>
     have := ih (v ++ [gC v g.a && gC v g.b]) j (by simpa using hj) (fun q hq => by
      have h1 := hg (q + 1) (by simpa using hq)
      simp only [List.getD_cons_succ] at h1
      rw [hlen]
      refine ⟨h1.1, h1.2.1, by have := h1.2.2; omega⟩)
     rw [hlen] at this
     simp only [List.getD_cons_succ]
     rw [show v.length + (j + 1) = v.length + 1 + j by omega]
     exact this
def R3 (x : Int) (b : Bool) : Prop := x = 2 ∨ (x = 1 ∧ b = true) ∨ (x = 0 ∧ b = false)
theorem R3.and {x y : Int} {a b : Bool} (h : R3 x a) (k : R3 y b) : R3 (uk x y) (a && b) := by
 rcases h with rfl | ⟨rfl, rfl⟩ | ⟨rfl, rfl⟩ <;> rcases k with rfl | ⟨rfl, rfl⟩ | ⟨rfl, rfl⟩ <;> simp [uk, R3]
theorem R3.not {x : Int} {a : Bool} (h : R3 x a) : R3 (sG x) (!a) := by
 rcases h with rfl | ⟨rfl, rfl⟩ | ⟨rfl, rfl⟩ <;> simp [sG, R3]
def RL (v : List Int) (w : List Bool) : Prop := v.length = w.length ∧ ∀ j, j < v.length → R3 (v.getD j default) (w.getD j false)
theorem RL.lit {v : List Int} {w : List Bool} (h : RL v w) (l : Int) : R3 (gE v l) (gC w l) := by
 unfold gE gC
 split
 ·rename_i hl
  have := h.2 (l / 2).toNat (by omega)
  split
  ·exact this.not
  ·exact this
 ·exact .inl rfl
theorem RL.snoc {v : List Int} {w : List Bool} {x : Int} {b : Bool} (h : RL v w) (k : R3 x b) : RL (v ++ [x]) (w ++ [b]) := by
 refine ⟨by simp [h.1], fun j hj => ?_⟩
 by_cases hjv : j < v.length
 ·have := h.2 j hjv
  rw [List.getD_eq_getElem?_getD, List.getElem?_append_left hjv, List.getD_eq_getElem?_getD, List.getElem?_append_left (by have := h.1; omega)]
  rw [List.getD_eq_getElem?_getD, List.getD_eq_getElem?_getD] at this
  exact this
 ·have : j = v.length := by simp at hj; omega
  subst this
  rw [List.getD_eq_getElem?_getD, List.getElem?_append_right (Nat.le_refl _), List.getD_eq_getElem?_getD, List.getElem?_append_right (by have := h.1; omega), h.1]
  simpa using k
theorem RL.vals (gs : List Gate) : ∀ {v : List Int} {w : List Bool}, RL v w → RL (g8 v gs) (ia w gs) := by
 induction gs with
 | nil => intro v w h; exact h
 | cons g gs ih => intro v w h; exact ih (h.snoc ((h.lit g.a).and (h.lit g.b)))
theorem RL.more {v : List Int} {w : List Bool} (h : RL v w) (gs : List Gate) (l : Int) : R3 (gE v l) (gC (ia w gs) l) := by
 by_cases hl : 0 ≤ l ∧ l / 2 < v.length
 ·have := h.lit l
  rw [show gC (ia w gs) l = gC w l from pb (iN gs w _ (by have := h.1; omega))]
  exact this
 ·rw [oD hl]; exact .inl rfl
theorem R3.one {x : Int} {b : Bool} (h : R3 x b) (hx : x = 1) : b = true := by
 rcases h with rfl | ⟨_, h⟩ | ⟨rfl, _⟩
 ·cases hx
 ·exact h
 ·cases hx
def bo (v : List Int) : List Bool := v.map fun x => decide (x = 1)
theorem RL.bo {v : List Int} (h : TriL v) : RL v (bo v) := by
 refine ⟨by simp [Go.Vd.bo], fun j hj => ?_⟩
 have hm := cP hj
 have ht := h _ hm
 have e : (Go.Vd.bo v).getD j false = decide (v.getD j default = 1) := by
  simp [Go.Vd.bo, hj]
 rw [e]
 generalize v.getD j default = x at ht
 rcases ht.cases with rfl | rfl | rfl
 ·exact .inr (.inr ⟨rfl, rfl⟩)
 ·exact .inr (.inl ⟨rfl, rfl⟩)
 ·exact .inl rfl
theorem RL.app {v v' : List Int} {w w' : List Bool} (h : RL v w) (k : RL v' w') : RL (v ++ v') (w ++ w') := by
 refine ⟨by simp [h.1, k.1], fun j hj => ?_⟩
 by_cases hjv : j < v.length
 ·have := h.2 j hjv
  rw [List.getD_eq_getElem?_getD, List.getElem?_append_left hjv, List.getD_eq_getElem?_getD, List.getElem?_append_left (by have := h.1; omega)]
  rw [List.getD_eq_getElem?_getD, List.getD_eq_getElem?_getD] at this
  exact this
 ·have := k.2 (j - v.length) (by simp at hj; omega)
  rw [List.getD_eq_getElem?_getD, List.getElem?_append_right (by omega), List.getD_eq_getElem?_getD, List.getElem?_append_right (by have := h.1; omega), ← h.1]
  rw [List.getD_eq_getElem?_getD, List.getD_eq_getElem?_getD] at this
  exact this
theorem RL.cons {x : Int} {b : Bool} {v : List Int} {w : List Bool} (h : R3 x b) (k : RL v w) : RL (x :: v) (b :: w) := by
 refine ⟨by simp [k.1], fun j hj => ?_⟩
 cases j with
 | zero => exact h
 | succ j => exact k.2 j (by simpa using hj)
end Go.Vd
namespace Go.Vd
def ku (f : Nat → Bool) (l : Int) : Bool := if l % 2 = 1 then !f (l / 2).toNat else f (l / 2).toNat
theorem mN {f : Nat → Bool} {l : Int} (h : 0 ≤ l) : ku f (dE l) = !ku f l := by
 by_cases h1 : l % 2 = 1
 ·have e : dE l = l - 1 := by unfold dE; rw [if_neg (by omega)]
  rw [e]
  unfold ku
  rw [if_pos h1, if_neg (by omega), show (l - 1) / 2 = l / 2 by omega, Bool.not_not]
 ·have e : dE l = l + 1 := by unfold dE; rw [if_pos (by omega)]
  rw [e]
  unfold ku
  rw [if_neg h1, if_pos (by omega), show (l + 1) / 2 = l / 2 by omega]
def BU (m f : Nat → Bool) (V k : Int) : Prop := ∀ l, 0 ≤ l → l ≤ 2 * V + 1 → lt m (gg V k l) = ku f l
def m1 (f : Nat → Bool) : Nat → Bool := fun n => f (n - 1)
def m2 (V : Int) (f f' : Nat → Bool) : Nat → Bool := fun n => if (n : Int) ≤ V + 1 then f (n - 1) else f' (n - 1 - (V + 1).toNat)
theorem rg {m : Nat → Bool} {V k l : Int} (h0 : 0 ≤ V) (hk : 0 ≤ k * (V + 1)) (hl : 0 ≤ l) : lt m (gg V k l) = if l % 2 = 1 then !m (k * (V + 1) + l / 2 + 1).toNat else m (k * (V + 1) + l / 2 + 1).toNat := by
 have h2 : 0 ≤ l / 2 := by omega
 unfold gg
 split
 ·rw [nm (by omega)]
  unfold lt
  rw [if_pos (by omega), show (k * (V + 1) + l / 2 + 1).natAbs = (k * (V + 1) + l / 2 + 1).toNat by omega]
 ·unfold lt
  rw [if_pos (by omega), show (k * (V + 1) + l / 2 + 1).natAbs = (k * (V + 1) + l / 2 + 1).toNat by omega]
theorem GO {f : Nat → Bool} {V : Int} (h0 : 0 ≤ V) : BU (m1 f) f V 0 := fun l hl _ => by
 rw [rg h0 (by omega) hl]
 unfold ku m1
 rw [show (0 * (V + 1) + l / 2 + 1).toNat - 1 = (l / 2).toNat by omega]
theorem GF {f f' : Nat → Bool} {V : Int} (h0 : 0 ≤ V) : BU (m2 V f f') f V 0 := fun l hl hl2 => by
 rw [rg h0 (by omega) hl]
 unfold ku m2
 rw [if_pos (show (((0 * (V + 1) + l / 2 + 1).toNat : Nat) : Int) ≤ V + 1 by omega), show (0 * (V + 1) + l / 2 + 1).toNat - 1 = (l / 2).toNat by omega]
theorem Ha {f f' : Nat → Bool} {V : Int} (h0 : 0 ≤ V) : BU (m2 V f f') f' V 1 := fun l hl hl2 => by
 rw [rg h0 (by omega) hl]
 unfold ku m2
 rw [if_neg (show ¬ (((1 * (V + 1) + l / 2 + 1).toNat : Nat) : Int) ≤ V + 1 by omega), show (1 * (V + 1) + l / 2 + 1).toNat - 1 - (V + 1).toNat = (l / 2).toNat by omega]
def Sats (m : Nat → Bool) (xs : List (List Int)) : Prop := ∀ c, c ∈ xs → ∃ x, x ∈ c ∧ lt m x = true
theorem Sats.app {m : Nat → Bool} {xs ys : List (List Int)} (h : Sats m xs) (k : Sats m ys) : Sats m (xs ++ ys) := fun c hc => (List.mem_append.1 hc).elim (h c) (k c)
theorem ep {m : Nat → Bool} : Sats m [] := fun c hc => by simp at hc
theorem c8 {m : Nat → Bool} {c : List Int} {xs : List (List Int)} (h : ∃ x, x ∈ c ∧ lt m x = true) (k : Sats m xs) : Sats m (c :: xs) := fun d hd => (List.mem_cons.1 hd).elim (fun e => e ▸ h) (k d)
theorem gy {m f : Nat → Bool} {V k : Int} (h : BU m f V k) {ls : List Int} {l : Int} (hm : l ∈ ls) (h0 : 0 ≤ l) (h1 : l ≤ 2 * V + 1) (ht : ku f l = true) : ∃ x, x ∈ pN V k ls ∧ lt m x = true := ⟨_, List.mem_map.2 ⟨l, hm, rfl⟩, by rw [h l h0 h1]; exact ht⟩
abbrev Hu (g : Aig) (j : Nat) : Nat := (g.i + (g.l.length : Nat) + 1 + (j : Int)).toNat
structure yB (g : Aig) (f : Nat → Bool) : Prop where
 z : f 0 = false
 gt : ∀ j, j < g.g.length → f (Hu g j) = (ku f (g.g.getD j default).a && ku f (g.g.getD j default).b)
theorem jG {g : Aig} {m f : Nat → Bool} {k : Int} (hr : da g) (hs : BU m f (ay g) k) (hc : yB g f) : ∀ j, j ≤ g.g.length → Sats m (lR g k j)
 | 0, _ => by
   have hi := hr.i0
   have hv : ay g = g.i + (g.l.length : Nat) + (g.g.length : Nat) := rfl
   refine c8 (gy hs (l := 1) (by simp) (by decide) (by omega) ?_) ep
   have : ku f 1 = !f 0 := rfl
   rw [this, hc.z]; rfl
 | j + 1, hj => by
   have hi := hr.i0
   have hv : ay g = g.i + (g.l.length : Nat) + (g.g.length : Nat) := rfl
   have hg := hr.g j (by omega)
   unfold p9 at hg
   have ho := hc.gt j (by omega)
   have e1 : ku f (i6 g j) = f (Hu g j) := by
    unfold ku i6
    rw [if_neg (by omega), show (2 * (g.i + (g.l.length : Nat) + 1 + (j : Int))) / 2 = g.i + (g.l.length : Nat) + 1 + (j : Int) by omega]
   have hob : 0 ≤ i6 g j ∧ i6 g j ≤ 2 * ay g := by unfold i6; omega
   have n1 := mN (f := f) hob.1
   have n2 := mN (f := f) (l := (g.g.getD j default).a) (by omega)
   have n3 := mN (f := f) (l := (g.g.getD j default).b) (by omega)
   have b1 := fS hob.1
   have b2 := fS (l := (g.g.getD j default).a) (by omega)
   have b3 := fS (l := (g.g.getD j default).b) (by omega)
   have c2 : dE (g.g.getD j default).a ≤ 2 * ay g + 1 := by unfold dE; split <;> omega
   have c3 : dE (g.g.getD j default).b ≤ 2 * ay g + 1 := by unfold dE; split <;> omega
   refine (jG hr hs hc j (by omega)).app ?_
   rw [← e1] at ho
   unfold wP
   cases ha : ku f (g.g.getD j default).a with
   | false =>
     rw [ha] at ho n2
     have ho' : ku f (i6 g j) = false := by rw [ho]; rfl
     refine c8 (gy hs (l := dE (i6 g j)) (by simp) b1.1 (by omega) (by rw [n1, ho']; rfl)) (c8 (gy hs (l := dE (i6 g j)) (by simp) b1.1 (by omega) (by rw [n1, ho']; rfl)) (c8 (gy hs (l := dE (g.g.getD j default).a) (by simp) b2.1 c2 n2) ep))
   | true =>
     cases hb : ku f (g.g.getD j default).b with
     | false =>
       rw [ha, hb] at ho
       rw [hb] at n3
       have ho' : ku f (i6 g j) = false := by rw [ho]; rfl
       refine c8 (gy hs (l := dE (i6 g j)) (by simp) b1.1 (by omega) (by rw [n1, ho']; rfl)) (c8 (gy hs (l := dE (i6 g j)) (by simp) b1.1 (by omega) (by rw [n1, ho']; rfl)) (c8 (gy hs (l := dE (g.g.getD j default).b) (by simp) b3.1 c3 n3) ep))
     | true =>
       rw [ha, hb] at ho
       refine c8 (gy hs (l := (g.g.getD j default).a) (by simp) (by omega) (by omega) ha) (c8 (gy hs (l := (g.g.getD j default).b) (by simp) (by omega) (by omega) hb) (c8 (gy hs (l := i6 g j) (by simp) hob.1 (by omega) ho) ep))
theorem mZ {g : Aig} {m f : Nat → Bool} (hr : da g) (hs : BU m f (ay g) 0) (hi : ∀ j, j < g.l.length → (g.l.getD j default).reset < 2 → f (g.i + 1 + (j : Int)).toNat = decide ((g.l.getD j default).reset = 1)) : ∀ j, j ≤ g.l.length → Sats m (jq g j)
 | 0, _ => ep
 | j + 1, hj => by
   have h0 := hr.i0
   have hv : ay g = g.i + (g.l.length : Nat) + (g.g.length : Nat) := rfl
   have hl := (hr.l j (by omega)).2.2
   unfold jq
   split
   ·rename_i hlt
    have h1 := hi j (by omega) hlt
    refine (mZ hr hs hi j (by omega)).app (c8 (gy hs List.mem_cons_self (by omega) (by omega) ?_) ep)
    unfold ku
    have h01 : (g.l.getD j default).reset = 0 ∨ (g.l.getD j default).reset = 1 := by omega
    rcases h01 with e | e
    ·rw [e] at h1 ⊢
     rw [if_pos (by omega), show (2 * (g.i + 1 + (j : Int)) + 1 - 0) / 2 = g.i + 1 + (j : Int) by omega, h1]; rfl
    ·rw [e] at h1 ⊢
     rw [if_neg (by omega), show (2 * (g.i + 1 + (j : Int)) + 1 - 1) / 2 = g.i + 1 + (j : Int) by omega, h1]; rfl
   ·exact mZ hr hs hi j (by omega)
theorem ui {g : Aig} {m f f' : Nat → Bool} (hr : da g) (hs : BU m f (ay g) 0) (hs' : BU m f' (ay g) 1) (hn : ∀ j, j < g.l.length → f' (g.i + 1 + (j : Int)).toNat = ku f (g.l.getD j default).next) : ∀ j, j ≤ g.l.length → Sats m (pG g j)
 | 0, _ => ep
 | j + 1, hj => by
   have h0 := hr.i0
   have hv : ay g = g.i + (g.l.length : Nat) + (g.g.length : Nat) := rfl
   have hl := hr.l j (by omega)
   have h1 := hn j (by omega)
   have e1 : lt m (gg (ay g) 1 (2 * (g.i + 1 + (j : Int)))) = f' (g.i + 1 + (j : Int)).toNat := by
    rw [hs' _ (by omega) (by omega)]
    unfold ku
    rw [if_neg (by omega), show (2 * (g.i + 1 + (j : Int))) / 2 = g.i + 1 + (j : Int) by omega]
   have e2 : lt m (gg (ay g) 0 (g.l.getD j default).next) = ku f (g.l.getD j default).next := hs _ hl.1 hl.2.1
   have hne : ∀ k l : Int, 0 ≤ k → 0 ≤ l → 0 ≤ k * (ay g + 1) → gg (ay g) k l ≠ 0 := fun k l hk hl hkv => by unfold gg; split <;> omega
   have n1 := nm (m := m) (hne 1 (2 * (g.i + 1 + (j : Int))) (by decide) (by omega) (by omega))
   have n2 := nm (m := m) (hne 0 (g.l.getD j default).next (by decide) hl.1 (by omega))
   refine (ui hr hs hs' hn j (by omega)).app ?_
   rw [h1] at e1
   cases hb : ku f (g.l.getD j default).next with
   | false =>
     rw [hb] at e1 e2
     rw [e1] at n1
     rw [e2] at n2
     exact c8 ⟨_, by simp, n1⟩ (c8 ⟨_, List.mem_cons_of_mem _ List.mem_cons_self, n2⟩ ep)
   | true =>
     rw [hb] at e1 e2
     exact c8 ⟨_, List.mem_cons_of_mem _ List.mem_cons_self, e2⟩ (c8 ⟨_, List.mem_cons_self, e1⟩ ep)
theorem ss {g : Aig} {m f : Nat → Bool} (hs : BU m f (ay g) 0) {ls : List Int} (h : ∀ l, l ∈ ls → 0 ≤ l ∧ l ≤ 2 * ay g + 1 ∧ ku f l = true) : Sats m (fe g ls) := fun c hc => by
 obtain ⟨l, hl, rfl⟩ := List.mem_map.1 hc
 exact gy hs (by simp) (h l hl).1 (h l hl).2.1 (h l hl).2.2
theorem vq {g : Aig} {inv : Int} (hr : da g) (h0 : 0 ≤ inv) (h1 : inv ≤ 2 * ay g + 1) (hu : FE (oe g inv)) {f : Nat → Bool} (hc : yB g f) (hi : ∀ j, j < g.l.length → (g.l.getD j default).reset < 2 → f (g.i + 1 + (j : Int)).toNat = decide ((g.l.getD j default).reset = 1)) : ku f inv = true := by
 have hv : ay g = g.i + (g.l.length : Nat) + (g.g.length : Nat) := rfl
 have hg0 := hr.i0
 cases hb : ku f inv with
 | true => rfl
 | false =>
   exfalso
   have hs := GO (f := f) (V := ay g) (by omega)
   have hb2 : dE inv ≤ 2 * ay g + 1 := by unfold dE; split <;> omega
   refine hu (m1 f) ⟨?_, fun x hx => by simp at hx⟩
   exact (jG hr hs hc _ (Nat.le_refl _)).app ((mZ hr hs hi _ (Nat.le_refl _)).app ((c8 (gy hs (l := dE inv) (by simp) (fS h0).1 hb2 (by rw [mN h0, hb]; rfl)) ep).app ep))
theorem xE {g : Aig} {inv : Int} (hr : da g) (h0 : 0 ≤ inv) (h1 : inv ≤ 2 * ay g + 1) (hu : FE (ra g inv)) {f f' : Nat → Bool} (hc : yB g f) (hc' : yB g f') (hn : ∀ j, j < g.l.length → f' (g.i + 1 + (j : Int)).toNat = ku f (g.l.getD j default).next)
 (hcon : ∀ l, l ∈ g.con → 0 ≤ l ∧ l ≤ 2 * ay g + 1 ∧ ku f l = true) (hin : ku f inv = true) : ku f' inv = true := by
 have hv : ay g = g.i + (g.l.length : Nat) + (g.g.length : Nat) := rfl
 have hg0 := hr.i0
 cases hb : ku f' inv with
 | true => rfl
 | false =>
   exfalso
   have hs := GF (f := f) (f' := f') (V := ay g) (by omega)
   have hs' := Ha (f := f) (f' := f') (V := ay g) (by omega)
   have hb2 : dE inv ≤ 2 * ay g + 1 := by unfold dE; split <;> omega
   refine hu (m2 (ay g) f f') ⟨?_, fun x hx => by simp at hx⟩
   exact (jG hr hs hc _ (Nat.le_refl _)).app ((jG hr hs' hc' _ (Nat.le_refl _)).app ((ui hr hs hs' hn _ (Nat.le_refl _)).app ((ss hs (fun l hl => (List.mem_append.1 hl).elim (hcon l) (fun h => by rw [List.mem_singleton] at h; subst h; exact ⟨h0, h1, hin⟩))).app ((c8 (gy hs' (l := dE inv) (by simp) (fS h0).1 hb2 (by rw [mN h0, hb]; rfl)) ep).app ep))))
theorem zh {g : Aig} {inv bad : Int} (hr : da g) (h0 : 0 ≤ inv) (h1 : inv ≤ 2 * ay g + 1) (k0 : 0 ≤ bad) (k1 : bad ≤ 2 * ay g + 1) (hu : FE (xj g inv bad)) {f : Nat → Bool} (hc : yB g f)
 (hcon : ∀ l, l ∈ g.con → 0 ≤ l ∧ l ≤ 2 * ay g + 1 ∧ ku f l = true) (hin : ku f inv = true) (hbad : ku f bad = true) : False := by
 have hv : ay g = g.i + (g.l.length : Nat) + (g.g.length : Nat) := rfl
 have hg0 := hr.i0
 have hs := GO (f := f) (V := ay g) (by omega)
 refine hu (m1 f) ⟨?_, fun x hx => by simp at hx⟩
 exact (jG hr hs hc _ (Nat.le_refl _)).app ((ss hs (fun l hl => (List.mem_append.1 hl).elim (hcon l) (fun h => by
  rcases List.mem_cons.1 h with rfl | h
  ·exact ⟨h0, h1, hin⟩
  ·rw [List.mem_singleton] at h; subst h; exact ⟨k0, k1, hbad⟩))).app ep)
end Go.Vd
namespace Go.Vd
abbrev vv (g : Aig) (x s : List Bool) : List Bool := ia (false :: (x ++ s)) g.g
abbrev fv (g : Aig) (x s : List Bool) : Nat → Bool := fun n => (vv g x s).getD n false
theorem Ea (g : Aig) (x s : List Bool) (l : Int) : ku (fv g x s) l = gC (vv g x s) l := rfl
theorem sk {g : Aig} (hr : da g) {x s : List Bool} (hx : (x.length : Int) = g.i) (hs : s.length = g.l.length) : yB g (fv g x s) := by
 have hl : (false :: (x ++ s)).length = 1 + x.length + s.length := by simp; omega
 have h0 := hr.i0
 refine ⟨by show (vv g x s).getD 0 false = false; rw [iN _ _ _ (by rw [hl]; omega)]; rfl, fun j hj => ?_⟩
 have := vD g.g (false :: (x ++ s)) j hj (fun q hq => by
  have hg := hr.g q hq
  unfold p9 at hg
  rw [hl]
  refine ⟨hg.1, hg.2.1, by have := hg.2.2; omega⟩)
 rw [hl] at this
 show (vv g x s).getD (Hu g j) false = _
 rw [show Hu g j = 1 + x.length + s.length + j by unfold Hu; omega]
 exact this
theorem sQ {g : Aig} (h0 : 0 ≤ g.i) {x s : List Bool} (hx : (x.length : Int) = g.i) (hs : s.length = g.l.length) {j : Nat} (hj : j < g.l.length) : fv g x s (g.i + 1 + (j : Int)).toNat = s.getD j false := by
 show (vv g x s).getD _ false = _
 rw [show (g.i + 1 + (j : Int)).toNat = (x.length + j) + 1 by omega, iN _ _ _ (by simp; omega), List.getD_cons_succ, List.getD_eq_getElem?_getD, List.getElem?_append_right (by omega), show x.length + j - x.length = j by omega, List.getD_eq_getElem?_getD]
theorem vU {g : Aig} (hr : da g) {l : Int} (h : l ∈ g.con ∨ l ∈ g.bad) : 0 ≤ l ∧ l ≤ 2 * ay g + 1 := by
 have h3 := hr.v
 have key : ∀ xs : List Int, xs.any (lx (ay g)) = false → l ∈ xs → 0 ≤ l ∧ l ≤ 2 * ay g + 1 := fun xs hx hm => by
  have := List.any_eq_false.1 hx l hm
  unfold lx at this
  simp at this
  omega
 rcases h with h | h
 ·exact key _ (by have := (hr.r 2 (by decide)).2; simpa using this) h
 ·exact key _ (by have := (hr.r 1 (by decide)).2; simpa using this) h
theorem x9 (a : Aig) (c : gO) (bad : Nat) (hC : pf a c) (hbad : bad < a.bad.length) (hU : ∀ j, j < 3 → FE (eA (gro a c.g) c.inv (a.bad.getD bad default) j)) :
 ∀ (ins : List (List Int)) (s3 : List Int) (sB : List Bool) (y : Int), ins ≠ [] → s3.length = a.l.length → TriL s3 → RL s3 sB → (∀ r, r ∈ ins → (r.length : Int) = a.i ∧ TriL r) →
   (∀ x : List Bool, (x.length : Int) = a.i → gC (vv (gro a c.g) x sB) c.inv = true) → dM bad y (nX a s3 ins) = 1 → False := by
 intro ins
 induction ins with
 | nil => intro s3 sB y h; exact absurd rfl h
 | cons r rs ih =>
   intro s3 sB y _ hs ht hR hrows hinv ho
   have hrr := hrows r List.mem_cons_self
   have hG := hC.r
   have hst := lK hs ht hrr.1 hrr.2
   have hstep := ml hst.1
   have hRb := RL.bo hrr.2
   have hxl : ((bo r).length : Int) = (gro a c.g).i := by simp [bo]; exact hrr.1
   have hsl : sB.length = (gro a c.g).l.length := by rw [← hR.1]; exact hs
   have hv : RL (jp a s3 r) (ia (false :: (bo r ++ sB)) a.g) := RL.vals a.g (RL.cons (.inr (.inr ⟨rfl, rfl⟩)) (hRb.app hR))
   have hlit : ∀ l, R3 (gE (jp a s3 r) l) (gC (vv (gro a c.g) (bo r) sB) l) := fun l => by
    have := hv.more c.g l
    rw [← xx] at this
    exact this
   have hCo := sk hG hxl hsl
   have hin := hinv (bo r) hxl
   show False
   have ho' : dM bad y (eD a s3 r :: nX a (eD a s3 r).n rs) = 1 := ho
   rw [dM] at ho'
   by_cases hcon : vx (eD a s3 r) = true
   ·rw [if_pos hcon] at ho'
    have hcl : ∀ l, l ∈ (gro a c.g).con → 0 ≤ l ∧ l ≤ 2 * ay (gro a c.g) + 1 ∧ ku (fv (gro a c.g) (bo r) sB) l = true := fun l hl => by
     refine ⟨(vU hG (.inl hl)).1, (vU hG (.inl hl)).2, ?_⟩
     rw [Ea]
     refine (hlit l).one ?_
     rw [hstep] at hcon
     have := List.all_eq_true.1 hcon (gE (jp a s3 r) l) (List.mem_map.2 ⟨l, hl, rfl⟩)
     exact of_decide_eq_true this
    cases rs with
    | nil =>
      have ho2 : (eD a s3 r).b.getD bad default = 1 := ho'
      rw [hstep] at ho2
      have e : (a.bad.map (gE (jp a s3 r))).getD bad default = gE (jp a s3 r) (a.bad.getD bad default) := by
       rw [List.getD_eq_getElem?_getD, List.getElem?_map, List.getElem?_eq_getElem hbad, List.getD_eq_getElem?_getD, List.getElem?_eq_getElem hbad]; rfl
      have hb1 := (hlit (a.bad.getD bad default)).one (by rw [← e]; exact ho2)
      have hbb := vU hG (l := a.bad.getD bad default) (.inr (cP hbad))
      exact zh hG hC.i0 hC.i1 hbb.1 hbb.2 (hU 2 (by decide)) hCo hcl hin hb1
    | cons r' rs' =>
      have hnl : (eD a s3 r).n = a.l.map fun l => gE (jp a s3 r) l.next := by rw [hstep]
      have hRn : RL (eD a s3 r).n (a.l.map fun l => gC (vv (gro a c.g) (bo r) sB) l.next) := by
       rw [hnl]
       refine ⟨by simp, fun j hj => ?_⟩
       have hj' : j < a.l.length := by simpa using hj
       have := hlit (a.l.getD j default).next
       simp only [List.getD_eq_getElem?_getD, List.getElem?_map, List.getElem?_eq_getElem hj', Option.map_some, Option.getD_some] at this ⊢
       exact this
      refine ih (eD a s3 r).n _ _ (by simp) hst.2.1 hst.2.2 hRn (fun q hq => hrows q (List.mem_cons_of_mem _ hq)) (fun x hx => ?_) ho'
      have hnBl : (a.l.map fun l => gC (vv (gro a c.g) (bo r) sB) l.next).length = (gro a c.g).l.length := by simp
      refine xE hG hC.i0 hC.i1 (hU 1 (by decide)) hCo (sk hG hx hnBl) (fun j hj => ?_) hcl hin
      rw [sQ hG.i0 hx hnBl hj]
      have hj' : j < a.l.length := hj
      show (a.l.map fun l => gC (vv (gro a c.g) (bo r) sB) l.next).getD j false = gC (vv (gro a c.g) (bo r) sB) (a.l.getD j default).next
      simp only [List.getD_eq_getElem?_getD, List.getElem?_map, List.getElem?_eq_getElem hj', Option.map_some, Option.getD_some]
   ·rw [if_neg hcon] at ho'
    cases ho'
theorem DK (a : Aig) (c : gO) (t : dT) (bad : Nat) (hK : tE a bad c 0) (hb : t.bad = (bad : Nat)) (h0 : TriL t.ini) (h1 : ∀ r, r ∈ t.ins → TriL r) (hT : db a t = 0) : False := by
 obtain ⟨hC, hbad, hU⟩ := hK.ok rfl
 unfold db at hT
 split at hT
 ·rename_i hr
  split at hT
  ·rename_i hg
   have hR := rightT_iff.1 hr
   have hn : t.ins ≠ [] := fun e => by have := hR.n0; rw [e] at this; simp at this
   rw [hb] at hg
   have hil := hR.il
   have hp := (iJ gX a.l t.ini).1 hR.ip
   refine x9 a c bad hC hbad hU t.ins t.ini (bo t.ini) 0 hn hil h0 (RL.bo h0) (fun r hr => ⟨hR.rl r hr, h1 r hr⟩) (fun x hx => ?_) hg
   have hbl : (bo t.ini).length = (gro a c.g).l.length := by simp [bo, hil]
   refine vq hC.r hC.i0 hC.i1 (hU 0 (by decide)) (sk hC.r hx hbl) (fun j hj hrs => ?_)
   rw [sQ hC.r.i0 hx hbl hj]
   have hj' : j < a.l.length := hj
   have hs := hp.2 j hj'
   unfold gX at hs
   have hrs' : (a.l.getD j default).reset < 2 := hrs
   simp only [Bool.or_eq_true, decide_eq_true_eq] at hs
   have e : (bo t.ini).getD j false = decide (t.ini.getD j default = 1) := by
    have : j < t.ini.length := by omega
    simp [bo, this]
   rw [e]
   show decide (t.ini.getD j default = 1) = decide ((a.l.getD j default).reset = 1)
   rw [show t.ini.getD j default = (a.l.getD j default).reset by omega]
  ·cases hT
 ·cases hT
end Go.Vd
namespace Go.Vd
open Go.Proofs Go.RowKit
def XB : Nat → List V → Prop
 | 0, xs => xs = []
 | _, xs => xs = [.ifc 33 (bq a0)]
theorem DJ  : kw 9 [.str (bs [98, 105, 110, 97, 114, 121]), jZ [bM]] (fun v => ∃ l : List UInt8, v = .tup [cH l, .int .i64 1, .int .i64 0, .int .i64 0] ∧ l = bA) := by
 refine dJ ac (f := 9) (fn := Tryz.f9) (N := 86) (rs := [.tmp 4, .tmp 5, .tmp 6, .tmp 7]) (by kernel_rfl) rfl (by kernel_rfl) rfl rfl [(0, .v (.str (bs [98, 105, 110, 97, 114, 121]))), (1, .v (jZ [bM]))] ⟨rfl, rfl, aj⟩ rfl rfl ?_
 intro B
 refine ag<|af J<|af J<|af J<|af J<|ab<|ag<|ap [] (Al) J J J J J J aj (.inl J) J J J<|aa J<|so (n := 1) ac J J J Er J fH J rE J (vK (by decide)) J J ?_
 refine aa J<|aW J<|aW J<|bf (fun h24 => ?_) (fun h24 => ?_)
 ·refine bl (id := 8) kp J<|aR kp [] J aj J<|af J<|ab<|ae<|ag<|aa J<|bL J<|aa J<|aa J<|aI ac J J iy J aB J J<|ax kp J<|aC fH J<|dc ac J J fH J J J ?_
  refine ky J J J (decide_eq_false (by exact fun h => h rfl)) J J ?_
  refine aJ J<|ab<|ah J<|ao<|ak<|ag<|af J<|ab<|ae<|ag<|aa J<|aI ac J J iy J aB J J ?_
  refine aa J<|ab<|aw<|cg (gJ (t := 10) (id := 901) (e := 20) (sz := 1) J J (by decide)) ?_
  refine aZ (α := Nat × List V) (fun ⟨j, xs⟩ => mk [(0, .v (.str (bs [98, 105, 110, 97, 114, 121]))), (1, .v (jZ [bM])), (4, .nils), (5, .v (.int .i64 0)), (6, .v (.int .i64 0)), (7, .v (.int .i64 0)), (8, .ptr 8 0), (10, .own 901), (35, .v (jZ [bM])), (36, .v (.int .i64 1)), (37, .v (.int .i64 j))] [(8, .box [.v (.str (bs [97])), .v (.fn (.func 30) [] [])]), (901, .row 20 1 (xs.map fun x => [x]))] 0) (fun ⟨j, xs⟩ => j ≤ 1 ∧ XB j xs) (fun ⟨j, xs⟩ => 1 - j) ⟨0, []⟩ ⟨Nat.zero_le _, J⟩ (aL ⟨J, J, J, J, J, J, J, J, J, J, J, aj⟩ ⟨J, J, aj⟩ J J J J) ?_
  rintro ⟨j, xs⟩ ⟨hj1, hj2⟩
  refine ag<|bj J (fun h38 => ?_) (fun h38 => ?_)
  ·refine ab<|ae<|ai J<|ao<|ak<|ae<|aw<|ae ?_
   have hi0 : j = 0 := by omega
   subst hi0
   have hj3 : xs = [] := hj2
   subst hj3
   refine aF<|aa J<|fZ ac J J J iy J bG (by decide) J J J J ?_
   refine bu bG J<|af J<|af J<|ab<|ag<|ax kp J<|aC fH J<|aa J<|dR ac J J J fH J (by decide) J J J ?_
   refine aa J<|aa J<|iI (as' := [.tmp 46, .tmp 47]) (uY bM (by decide)) J J J J J J J J J ?_
   rintro _ ⟨a, p1, e, rfl, hA⟩
   refine aa J<|aW J<|aW J<|aW J<|af J<|af J<|af J<|ab<|ae<|ae ?_
   have he0 : e = 0 := hA.elim (fun h => h.1) (fun h => by have h2 := h.2; rw [Iv] at h2; cases h2)
   obtain ⟨q, hq⟩ : ∃ q, dk bM = some (a, q) := hA.elim (fun h => h.2) (fun h => absurd he0 h.1)
   have hae : a = a0 := by (rw [Iv] at hq; cases hq; rfl)
   subst he0
   subst hae
   refine aF<|aa J ?_
   refine ky J J J (decide_eq_false (by exact fun h => h rfl)) J J ?_
   refine ab<|ah J<|ao<|ak<|aF<|aa J<|aa J<|bZ iB iD [] J aj J ?_
   refine cw 61 [] ac J iB J iB J iD J J J J ⟨J, J, aj⟩ J (elOk.cons rfl rfl elOk.nil) cA (by constructor <;> simp <;> omega) J J J ?_
   refine af J<|ar<|aH<|ak<|aF<|bh J (by omega) (by omega) J ?_
   refine aa J<|ar ?_
   exact aT ⟨0 + 1, [.ifc 33 (bq a0)]⟩ ⟨by decide, rfl⟩ (by show (1 - 1 : Nat) < 1 - 0; decide) (cd [(901, 61)] ⟨J, J, J, J, J, J, J, J, J, J, J, aj⟩ ⟨J, J, aj⟩ J J J J J)
  ·refine ab<|ae<|ah J<|aO<|ba (a8 (aP ?_))
   refine ak<|ae ?_
   have hj3 : j = 1 := by omega
   subst hj3
   have hj4 : xs = [.ifc 33 (bq a0)] := hj2
   subst hj4
   refine cg (bp (id := 901) J)<|cT [(0, .v (.str (bs [98, 105, 110, 97, 114, 121]))), (1, .v (jZ [bM])), (4, .nils), (5, .v (.int .i64 0)), (6, .v (.int .i64 0)), (7, .v (.int .i64 0)), (8, .ptr 8 0), (10, .v (.sl ([V.ifc 33 (bq a0)].map fun x => [x])))] [(8, .box [.v (.str (bs [97])), .v (.fn (.func 30) [] [])])] ⟨J, J, J, J, J, J, J, J, aj⟩ ⟨J, aj⟩ J J J J<|aF<|ax kp J<|aC Eg J<|aa J<|ap [] (G9) J J J J J J aj (.inl J) J J J<|aa J<|aW J<|aW J<|af J<|af J<|ab<|ag ?_
   refine aa J<|aI ac J J iy J aB J J ?_
   refine bX J J J J (by show (-9223372036854775808 : Int) ≤ 1 - 1; decide) (by show (1 : Int) - 1 ≤ 9223372036854775807; decide) J J ?_
   refine af J<|ab<|ae<|ag<|aa J ?_
   refine ky J J J (decide_eq_false (by exact fun h => h rfl)) J J ?_
   refine ab<|ah J<|ao<|ak<|ag<|aa J<|oC ac J fH bG J eK J J J J J<|aa J<|aI ac J J iy J aB J J<|af J<|af J<|af J<|af J<|ar ?_
   refine ak<|am ?_
   refine aD J J ?_
   exact ⟨_, rfl, Io⟩
 ·exfalso; cases h24
theorem pce_4  : kw 4 [] (fun v => v = .bool true) := by
 refine dJ ac (f := 4) (fn := Tryz.f4) (N := 55) (rs := [.tmp 0]) (by kernel_rfl) rfl (by kernel_rfl) rfl rfl [] trivial rfl rfl ?_
 intro B
 refine ag<|af J<|ab<|ag<|fV (es := bM.map bV) 10 [] ac J bG J eK J J ⟨J, aj⟩ J J J J J J J J J<|jm ac J bG J eK J J J (by decide) J J J ?_
 refine bZ (es := [bM].map sL) iy bG [] J aj J<|dm [] (DJ) J J J J J J aj (.inl J) J J J ?_
 rintro _ ⟨l, rfl, hl⟩
 refine aa J<|aW J<|aW J<|aW J<|aW J<|af J<|af J<|af J<|af J<|ab<|ag<|fV (es := bM.map bV) 19 [] ac J bG J eK J J ⟨J, aj⟩ J J J J J J J J J<|jm ac J bG J eK J J J (by decide) J J J ?_
 refine fV (es := bP.map bV) 21 [] ac J bG J eK J J ⟨J, aj⟩ J J J J J J J J J<|jm ac J bG J eK J J J (by decide) J J J ?_
 refine fV (es := bN.map bV) 23 [] ac J bG J eK J J ⟨J, aj⟩ J J J J J J J J J<|jm ac J bG J eK J J J (by decide) J J J ?_
 refine bZ (es := [bM, bP, bN].map sL) iy bG [] J aj J<|dm [] (yV bM bP bN (by decide) (by decide) (by decide)) J J J J J J aj (.inl J) J J J ?_
 rintro _ ⟨out, k, at_, e, rfl, hR⟩
 refine aa J<|aW J<|aW J<|aW J<|aW J<|af J<|af J<|af J<|af J<|ab<|ae ?_
 have he : e = 0 := hR.sh ⟨a0, 20, c0, 38, Iv, I1, by rw [IJ], fun z hz => Iu z (by rw [IJ] at hz; exact hz)⟩
 have ho := (hR.ok he).1
 subst he
 subst ho
 subst hl
 refine aF<|aa J ?_
 refine jr J J J (decide_eq_true (by rfl)) J J ?_
 refine aa J<|aa J<|gV ac J bG fH J eK J J J J J ?_
 refine pa (z := true) J J J (by rfl) J J ?_
 refine aV J<|aa J<|aa J ?_
 refine jr J J J (decide_eq_true (by rfl)) J J ?_
 refine aV J<|aa J<|aa J ?_
 refine jr J J J (decide_eq_true (by rfl)) J J ?_
 refine aV J<|aa J<|aa J ?_
 refine jr J J J (decide_eq_true (by rfl)) J J ?_
 refine aV J<|aa J<|aa J<|gV ac J bG fH J eK J J J J J ?_
 refine pa (z := true) J J J (by rfl) J J ?_
 refine aV J<|af J<|ab<|am ?_
 refine aD J J ?_
 rfl
theorem Iy : dn 4 [] (.bool true) := pce_4.toCall fun _ h => h
theorem En (m p n : List UInt8) (hm : m.length ≤ 1000000000000) (hp : p.length ≤ 1000000000000) (hn : n.length ≤ 1000000000000) : kw 6 [.str (bs [99, 104, 101, 99, 107]), jZ [m, p, n]] (fun v => ∃ t : Bool, v = .bool t ∧ (t = true → ∃ a q c q2, dk m = some (a, q) ∧ fg a p = some (c, q2) ∧ (fh n).2.2 = 0 ∧ tE a (fh n).1.toNat c 0)) := by
 refine dJ ac (f := 6) (fn := Tryz.f6) (N := 24) (rs := [.tmp 4]) (by kernel_rfl) rfl (by kernel_rfl) rfl rfl [(0, .v (.str (bs [99, 104, 101, 99, 107]))), (1, .v (jZ [m, p, n]))] ⟨rfl, rfl, aj⟩ rfl rfl ?_
 intro B
 refine ag<|af J<|ab<|ag<|aa J<|aa J<|dm [] (yV m p n hm hp hn) J J J J J J aj (.inl J) J J J ?_
 rintro _ ⟨out, k, at_, e, rfl, hR⟩
 refine aa J<|aW J<|aW J<|aW J<|aW J<|af J<|af J<|af J<|af J<|ab<|ag<|aa J<|bc J J J J J (fun h18 => ?_) (fun h18 => ?_)
 ·refine aa J<|aa J<|gV ac J bG fH J eK J J J J J<|pa J J J J J J<|aV J<|af J<|ab<|am ?_
  refine aD J J ?_
  exact ⟨_, rfl, fun _ => (hR.ok h18).2⟩
 ·refine aa J<|al J<|al J<|al J<|aJ J<|af J<|ab<|am ?_
  refine aD J J ?_
  exact ⟨_, rfl, fun h => absurd h Bool.false_ne_true⟩
theorem Ec (m tb : List UInt8) (hm : m.length ≤ 1000000000000) (ht : tb.length ≤ 1000000000000) : kw 6 [.str (bs [114, 101, 112, 108, 97, 121]), jZ [m, tb]] (fun v => ∃ t : Bool, v = .bool t ∧ (t = true → ∃ a q t, dk m = some (a, q) ∧ ri a tb t ∧ db a t = 0)) := by
 refine dJ ac (f := 6) (fn := Tryz.f6) (N := 24) (rs := [.tmp 4]) (by kernel_rfl) rfl (by kernel_rfl) rfl rfl [(0, .v (.str (bs [114, 101, 112, 108, 97, 121]))), (1, .v (jZ [m, tb]))] ⟨rfl, rfl, aj⟩ rfl rfl ?_
 intro B
 refine ag<|af J<|ab<|ag<|aa J<|aa J<|dm [] (E3 m tb hm ht) J J J J J J aj (.inl J) J J J ?_
 rintro _ ⟨out, k, at_, e, rfl, hR⟩
 refine aa J<|aW J<|aW J<|aW J<|aW J<|af J<|af J<|af J<|af J<|ab<|ag<|aa J<|bc J J J J J (fun h18 => ?_) (fun h18 => ?_)
 ·refine aa J<|aa J<|gV ac J bG fH J eK J J J J J<|pa J J J J J J<|aV J<|af J<|ab<|am ?_
  refine aD J J ?_
  exact ⟨_, rfl, fun _ => hR h18⟩
 ·refine aa J<|al J<|al J<|al J<|aJ J<|af J<|ab<|am ?_
  refine aD J J ?_
  exact ⟨_, rfl, fun h => absurd h Bool.false_ne_true⟩
end Go.Vd
namespace Go.Vd
open Go.Proofs Go.RowKit
theorem zx : ∀ n : Fin 256, fh (cy ((n : Nat) : Int) ++ [10]) = (((n : Nat) : Int), (fh (cy ((n : Nat) : Int) ++ [10])).2.1, 0) := by decide +kernel
theorem yh {n : Int} (h0 : 0 ≤ n) (h1 : n ≤ 255) : (fh (cy n ++ [10])).1 = n := by
 have h := zx ⟨n.toNat, by omega⟩
 have e : ((n.toNat : Nat) : Int) = n := by omega
 simp only [e] at h
 rw [h]
theorem wd {n : Int} (h0 : 0 ≤ n) (h1 : n ≤ 255) : IntKind.i64.wrap n = n := by
 simp only [IntKind.wrap]
 simp [IntKind.bits, IntKind.signed]
 omega
theorem Bb {m tb : List UInt8} {bad : Int} (h0 : 0 ≤ bad) (h1 : bad ≤ 255) {a : Aig} {q : Nat} {c : gO} (ha : dk m = some (a, q)) (hc : tE a (fh (cy bad ++ [10])).1.toNat c 0) {t : dT}
 (ht : qs tb ((a.bad.length : Int) - 1) t.bad) (hb : t.bad = bad) (hr : ∃ a q t, dk m = some (a, q) ∧ ri a tb t ∧ db a t = 0) : False := by
 obtain ⟨a', q', t', ha', hw, htn⟩ := hr
 rw [ha] at ha'
 cases ha'
 have e : t'.bad = t.bad := hw.bad.2.2.trans ht.2.2.symm
 rw [yh h0 h1] at hc
 exact DK a c t' bad.toNat hc (by rw [e, hb]; omega) hw.ini hw.ins htn
theorem Gr (m p tb : List UInt8) (bad : Int) (hb0 : 0 ≤ bad) (hb1 : bad ≤ 255) : kw 3 [.agg [cH m, cH p, cH tb, .int .u8 bad]] (fun v => v = .bool true) := by
 refine dJ ac (f := 3) (fn := Tryz.f3) (N := 84) (rs := [.tmp 2]) (by kernel_rfl) rfl (by kernel_rfl) rfl rfl [(0, .v (.agg [cH m, cH p, cH tb, .int .u8 bad]))] ⟨rfl, aj⟩ rfl rfl ?_
 intro B
 have hwr : IntKind.i64.wrap bad = bad := wd hb0 hb1
 refine ag<|bE 1 [] J J J ⟨J, aj⟩ J J J<|af J<|ab<|ag<|ax Bv J<|aC bG J<|af J<|ab<|ag<|ax Bv J ?_
 refine aC bG J<|af J<|ab<|ag<|ax Bv J<|aC bG J<|af J<|ab<|ag<|ax Bv J<|aC eK J<|af J ?_
 refine ab<|ag<|ap [] (Iy) J J J J J J aj (.inl J) J J J<|af J<|ab<|ae<|ag<|aa J<|aI ac J J bG J aB J J<|bW J J J J J (fun h26 => ?_) (fun h26 => ?_)
 ·refine aa J<|al J<|al J<|al J<|aV J<|aa J<|al J<|al J<|al J<|aV J<|ab<|ai J<|ag<|aa J ?_
  refine af J<|ab<|am<|au (aD J J ?_)
  rfl
 ·refine aa J<|aa J<|aI ac J J bG J aB J J<|bW J J J J J (fun h30 => ?_) (fun h30 => ?_)
  ·refine aJ J<|aa J<|al J<|al J<|al J<|aV J<|ab<|ai J<|ag<|aa J<|af J<|ab<|am ?_
   refine au (aD J J ?_)
   rfl
  ·refine aJ J<|aa J<|aa J<|aI ac J J bG J aB J J<|bW J J J J J (fun h35 => ?_) (fun h35 => ?_)
   ·refine aJ J<|ab<|ai J<|ag<|aa J<|af J<|ab<|am<|au (aD J J ?_)
    rfl
   ·refine aJ J<|ab<|ah J<|ao<|ak<|ae ?_
    have hfl := fP bad (by omega) (by omega)
    refine aF<|aa J<|fR ac J J eK bm J J hwr J J<|ap [] (HG bad (by omega) (by omega)) J J J J J J aj (.inl J) J J J ?_
    refine gx J J J (by show _ + 1 ≤ _; omega) J J ?_
    refine oC ac J fH bG J eK J J J J J<|af J<|ab<|ae<|ag<|aa J<|aa J<|aa J<|bZ (es := [m, p, cy bad ++ [10]].map sL) iy bG [] J aj J ?_
    refine dm [] (En m p (cy bad ++ [10]) (by omega) (by omega) (by simp only [List.length_append, List.length_cons, List.length_nil]; omega)) J J J J J J aj (.inl rfl) J J J ?_
    rintro _ ⟨b1, rfl, hT⟩
    refine bf (fun h47 => ?_) (fun h47 => ?_)
    ·refine bL J<|ab<|ah J<|ao<|ak<|ae ?_
     obtain ⟨a, q, c, q2, ha, hc, hn0, hchk⟩ := hT h47
     have hok := kJ ha
     have hp7 : dn 7 [cH m] (.tup [bq a, .int .i64 q, .int .i64 0]) := by (have h := If m (by omega); rw [hok.ref] at h; exact h)
     refine aF<|aa J<|ap [] (hp7) J J J J J J aj (.inl J) J J J<|aa J<|aW J<|aW J<|aW J<|bl (id := 9) aK J<|aR aK [] J aj J<|af J<|af J<|ab<|ae<|ag ?_
     refine aa J ?_
     refine ky J J J (decide_eq_false (by exact fun h => h rfl)) J J ?_
     refine ab<|ah J<|ao<|ak<|ag<|a7 aK J<|aa J ?_
     refine dm [] (Gt a ⟨hok.s.i0, by have := hok.i1; omega, by have := hok.l; omega, by have := hok.o; omega, by have := hok.bd; omega, by have := hok.c; omega⟩ tb (by omega) _ rfl) J J J J J J aj (.inl rfl) J J J ?_
     rintro _ ⟨t8, p8, f8, rfl, h8⟩
     refine aa J<|aW J<|aW J<|aW J<|bl (id := 12) dF J<|aR dF [] J aj J<|af J<|af J<|ab<|ag<|aa J<|aa J<|aa J<|bt J J J J J (fun h68 => ?_) (fun h68 => ?_)
     ·refine aa J<|al J<|al J<|al J<|al J<|al J<|aV J<|aa J<|al J<|al J<|al J<|al J<|al J<|aV J<|aV J<|af J ?_
      refine ab<|am ?_
      refine aD J J ?_
      rfl
     ·refine aa J<|ax dF J<|aC bm J<|aa J<|fR ac J J eK bm J J hwr J J<|bt J J J J J (fun h74 => ?_) (fun h74 => ?_)
      ·refine aJ J<|aa J<|al J<|al J<|al J<|al J<|al J<|aV J<|aV J<|af J<|ab<|am ?_
       refine aD J J ?_
       rfl
      ·refine aJ J<|aa J<|aa J<|aa J<|bZ (es := [m, tb].map sL) iy bG [] J aj J<|dm [] (Ec m tb (by omega) (by omega)) J J J J J J aj (.inl J) J J J ?_
       rintro _ ⟨b2, rfl, hT2⟩
       refine bL J<|aJ J<|aV J<|af J<|ab<|am ?_
       refine aD J J ?_
       first
        | rfl
        | (cases b2 with
         | false => rfl
         | true => exact (Bb hb0 hb1 ha hchk (h8 (Classical.not_not.1 h68)) (Classical.not_not.1 h74) (hT2 rfl)).elim)
    ·refine bL J<|ab<|ai J<|ag<|aa J<|af J<|ab<|am<|au (aD J J ?_)
     rfl
theorem Ib (m p tb : List UInt8) (bad : Int) (hb0 : 0 ≤ bad) (hb1 : bad ≤ 255) : dn 3 [.agg [cH m, cH p, cH tb, .int .u8 bad]] (.bool true) := (Gr m p tb bad hb0 hb1).toCall fun _ h => h
end Go.Vd
namespace Go.Vd
open Go.Proofs Go.RowKit Go.ChangeShapes
theorem I4 : Reads Tryz.prog 5 bV (fun _ => True) := by
 intro H enc w spare held fuel cs x h
 obtain ⟨n, rfl, _, hw⟩ := DataW.trod_int (k := .u8) (by kernel_rfl) h
 simp only [Lit.wf, Bool.and_eq_true, decide_eq_true_eq] at hw
 have h0 : 0 ≤ n := hw.1
 have h1 : n ≤ 255 := hw.2
 refine ⟨UInt8.ofNat n.toNat, aj, ?_⟩
 have e : ((UInt8.ofNat n.toNat).toNat : Int) = n := by
  rw [UInt8.toNat_ofNat']
  have : n.toNat % 2 ^ 8 = n.toNat := Nat.mod_eq_of_lt (by omega)
  rw [this]; omega
 show PW _ [V.int .u8 ((UInt8.ofNat n.toNat).toNat : Int)] [Value.int .u8 n]
 rw [e]
 exact oy (.int _ _)
theorem I5 : Reads Tryz.prog 5 (fun n : Int => [V.int .u8 n]) (fun n => 0 ≤ n ∧ n ≤ 255) := (xF (k := .u8) (by kernel_rfl)).map (fun n => n) (fun _ => rfl) (fun n h => h)
theorem EG : Reads Tryz.prog 22 (fun xs => [cH xs]) (fun _ => True) := (sC (e := 5) (sz := 1) (by kernel_rfl) (by kernel_rfl) (by decide) I4 (fun _ => rfl)).map (fun x => x) (fun _ => rfl) (fun _ _ => trivial)
structure I3 where
 m : List UInt8
 p : List UInt8
 t : List UInt8
 b : Int
theorem H7 : Reads Tryz.prog 24 (fun x : I3 => [cH x.m, cH x.p, cH x.t, .int .u8 x.b]) (fun x => 0 ≤ x.b ∧ x.b ≤ 255) :=
 (rp (T := 24) (N := 4) (flds := [(0, 22), (1, 22), (2, 22), (3, 5)]) Tryz.underlying24 (by kernel_rfl) rfl (jf (sz := 1) (o' := 1) EG (by kernel_rfl) rfl (jf (sz := 1) (o' := 2) EG (by kernel_rfl) rfl (jf (sz := 1) (o' := 3) EG (by kernel_rfl) rfl (jf (sz := 1) (o' := 4) I5 (by kernel_rfl) rfl (vI (Nat.le_refl _))))))).map
  (fun p => ⟨p.1, p.2.1, p.2.2.1, p.2.2.2.1⟩) (fun _ => rfl) (fun _ h => h.2.2.2.1)
def Fo : Shelf.Ren := ⟨fun x => x, fun n => if n = 5 then 5 else if n = 119 then 458 else if n = 138 then 460 else 461, fun n => if n = 3 then 2 else 3⟩
theorem IT : U8Types Tryz.prog Fo := ⟨by kernel_rfl, by kernel_rfl, by kernel_rfl, by kernel_rfl⟩
theorem IU : U8Extra Tryz.prog Fo := ⟨by kernel_rfl, by kernel_rfl, by kernel_rfl, by kernel_rfl, by kernel_rfl, by kernel_rfl, by kernel_rfl⟩
theorem A1 : (Go.Proofs.YtgnbphnbdaphpaaGreatDoor.Rows.laid_unicode_utf8_first : DataW Unit) = Lib.firstData := by kernel_rfl
theorem yd : (Go.Proofs.YtgnbphnbdaphpaaGreatDoor.Rows.laid_unicode_utf8_acceptRanges : DataW Unit) = Lib.acceptData := by kernel_rfl
theorem E4 : (Go.Proofs.YtgnbphnbdaphpaaGreatDoor.Rows.laid_internal_strconv_uint64pow10 : DataW Unit) = Lib.tabData .u64 Lib.pow10Tab := by kernel_rfl
theorem yo {P : Program} {W : World} {name : String} {k : IntKind} {zs : List Int} {g : Nat} {t e : TypeId} {n : Nat}
 (hg : P.globalNamed name = some g) (hty : (P.globals[g]?).map (·.type) = some t) (ht : P.underlying t = some (.array n e)) (he : P.underlying e = some (.int k)) (hce : P.cellsOf e = 1) (hct : P.cellsOf t = n)
 (h : Lib.VarReads P W name (Lib.tabData k zs)) : Lib.TabIs P W name k zs := by
 obtain ⟨g', t', cs, fuel, p, hg', ht', hvar, hd⟩ := h
 obtain rfl := Option.some.inj (hg.symm.trans hg')
 obtain rfl := Option.some.inj (hty.symm.trans ht')
 unfold Lib.TabIs
 rw [hvar, ← Lib.cells_of_tab ht he hce hct hd]
theorem BA {W : World} (hS : W.ShapedOpen Tryz.prog) (hL : laidMet Tryz.prog Go.Proofs.YtgnbphnbdaphpaaGreatDoor.Rows.topSoundRow.laid W) : Glob W := by
 have hU : Lib.Utf8Tabs 2 3 W := utf8Tabs_of_readsT (ρ := Fo) IT IU (A1 ▸ Lib.laidMet.reads hL (by simp [Go.Proofs.YtgnbphnbdaphpaaGreatDoor.Rows.topSoundRow])) (yd ▸ Lib.laidMet.reads hL (by simp [Go.Proofs.YtgnbphnbdaphpaaGreatDoor.Rows.topSoundRow]))
 have hP : Lib.TabIs Tryz.prog W "internal/strconv.uint64pow10" .u64 Lib.pow10Tab := yo (g := 1) (t := 453) (e := 418) (n := 20) (by kernel_rfl) (by kernel_rfl) (by kernel_rfl) (by kernel_rfl) (by kernel_rfl) (by kernel_rfl) (E4 ▸ Lib.laidMet.reads hL (by simp [Go.Proofs.YtgnbphnbdaphpaaGreatDoor.Rows.topSoundRow]))
 refine ⟨?_, ?_, ?_, hU⟩
 ·obtain ⟨cs, hh, _, _⟩ := hS.1 8 #[.pointer none] 472 (of_decide_eq_true (by kernel_rfl)) (by kernel_rfl)
  exact (Array.getElem?_eq_some_iff.1 hh).1
 ·obtain ⟨m, hm⟩ := cell_of_shapedOpen_int (g := 0) (t := 3) (zero := #[.int .i64 0]) (k := .i64) hS (of_decide_eq_true (by kernel_rfl)) (by kernel_rfl) rfl (by kernel_rfl) (by kernel_rfl) (by kernel_rfl)
  obtain ⟨cs, hh, hsz, _⟩ := hS.1 0 #[.int .i64 0] 3 (of_decide_eq_true (by kernel_rfl)) (by kernel_rfl)
  refine ⟨m, 3, (0, 0), ?_⟩
  rw [hh]
  have h1 : cs.size = 1 := hsz
  have h2 : cs[0]? = some (.int .i64 m) := by simpa [World.cell?, hh] using hm
  have h3 : cs = #[.int .i64 m] := by
   refine Array.ext (by simp [h1]) fun i hi hj => ?_
   have : i = 0 := by simp at hj; omega
   subst this
   rw [Array.getElem?_eq_getElem hi] at h2
   simpa using h2
  rw [h3]
 ·obtain ⟨cs, hh, hsz, _⟩ := hS.1 1 (Array.replicate 20 (.int .u64 0)) 453 (of_decide_eq_true (by kernel_rfl)) (by kernel_rfl)
  refine ⟨453, (0, 0), ?_⟩
  rw [hh]
  have hg : Tryz.prog.globalNamed "internal/strconv.uint64pow10" = some 1 := by kernel_rfl
  unfold Lib.TabIs World.var? at hP
  rw [hg] at hP
  have h4 : (match W.heap[1]? with | some (Obj.cells cs _ _) => some cs | _ => none) = some (Lib.pow10Tab.map fun z => Value.int .u64 z).toArray := hP
  rw [hh] at h4
  have h5 : cs = (Lib.pow10Tab.map fun z => Value.int .u64 z).toArray := Option.some.inj h4
  rw [h5]
theorem mx {H : Type} {enc : TypeId × Value → H} {a : Assume} {C : Checked} {os : Os} {f : FuncId} {fn : Func} {s : ChangeSpec} {conds : List PathCond} {apart fresh handsOn again : Bool} {X : World → Array Value → Prop}
 (hX : ∀ (w w' : World) (args : Array Value), w.heap = w'.heap → X w args → X w' args)
 (own : ownKnob C.prog.godebug = none) (started : os.Started) (noInit : C.prog.inits.idxOf? f = none) (hfn : C.prog.funcs[f]? = some fn)
 (witness : ∃ (w : World) (tape : Tape) (i : Input), w.os = os ∧ (w.forCall tape i).Shaped C.prog ∧ i.vars = [] ∧ Input.okWide C.prog (w.forCall tape i) .any w.heap.size f i ∧
  ((s.pre enc C.prog fn conds apart (w.forCall tape i).memory i.args ∧ X (w.forCall tape i).memory i.args) ∧ sizedMet enc C.prog fn (OpenSpec.ofChange s) apart (w.forCall tape i).memory i.args) ∧ a.holds C.prog (lone (Frame.enter C.prog f i.args .normal) [] (w.forCall tape i)))
 (contract : ∀ (W : World) (base : Nat) (args : Array Value) (ds gs : List (DataW H)) (before : List MemPlace),
  (∀ (j : Nat) t v, fn.params[j]? = some t → args[j]? = some v → Value.okWide C.prog W .any base t v) →
  DataW.Whole enc C.prog fn.params.toList s.vars apart W args.toList ds gs before → X W args → W.ShapedOpen C.prog →
  Calls C.prog f args W fun e W' => ∃ v, e = .returned v ∧ s.post enc C.prog fn apart fresh handsOn again W args v W') :
 ReturnsInHanded a C os f .any (fun w args => (s.pre enc C.prog fn conds apart w args ∧ X w args) ∧ sizedMet enc C.prog fn (OpenSpec.ofChange s) apart w args) (s.post enc C.prog fn apart fresh handsOn again) := by
 refine returnsInHanded_of_calls own started noInit witness ?_
 intro w tape i _ hsh _ hok hpre _
 obtain ⟨_, _, _, fn', hfn', _, _, _, _, hval⟩ := hok
 have e : fn' = fn := Option.some.inj (hfn'.symm.trans hfn)
 subst e
 obtain ⟨⟨⟨ds, gs, before, hw, hc⟩, hx⟩, hz⟩ := hpre
 have hw' := DataW.Whole.of_heap (w' := w.forCall tape i) (by rfl) hw
 refine (contract (w.forCall tape i) w.heap.size i.args ds gs before hval hw' (hX _ _ _ (by rfl) hx) hsh).mono fun e W' ⟨v, he, hp⟩ => ?_
 subst he
 exact ChangeSpec.post_blind hp
theorem Iq : ownKnob Tryz.prog.godebug = none := by kernel_rfl
theorem CZ : laidOutB Tryz.prog = true := by kernel_rfl
theorem dX {a b : Bool} (h : a = true) (h' : b = true) : (a && b) = true := by rw [h, h']; rfl
theorem stays {H : Type} {enc : TypeId × Value → H} {t : TypeId} (hr : Tryz.prog.readableRec t = true) (hrow : t < Tryz.prog.types.size) {W W' : World} {v : Value} {d : DataW H} {ps : List MemPlace}
 (h : DataW.Trod enc Tryz.prog W 0 (fun _ => true) true t v d ps) (hb : Below W.heap.size W W') (hlt : ∀ x ∈ ps, x.block < W.heap.size) {sp : Nat → Bool} (hs : ∀ x ∈ ps, sp x.block = true) : DataW.Trod enc Tryz.prog W' 0 sp true t v d ps :=
 WideElems.Trod_stays CZ hr hrow h (fun x hx => hb.same (hlt x hx)) hs
end Go.Vd
namespace Go.Proofs.YtgnbphnbdaphpaaGreatDoor
open Go.ChangeShapes Go.WideShapes Go.ChangeAt Go.RowKit Go.Vd
theorem oP (W : World) : laidMetH Tryz.prog Rows.topSoundRow.laid W = laidMet Tryz.prog Rows.topSoundRow.laid W := MakeChecks.laidMetH_plain _ _ _ (by kernel_rfl)
set_option maxRecDepth 100000 in
theorem nk (os : Os) (H : Type) (enc : TypeId × Value → H) : ∃ (w : World) (tape : Tape) (i : Input), w.os = os ∧ (w.forCall tape i).Shaped Tryz.checked.prog ∧ i.vars = [] ∧ Input.okWide Tryz.checked.prog (w.forCall tape i) .any w.heap.size 3 i ∧
 ((Rows.topSoundSpec.pre enc Tryz.checked.prog Tryz.f3 Rows.topSoundRow.domain false (w.forCall tape i).memory i.args ∧ laidMetH Tryz.prog Rows.topSoundRow.laid (w.forCall tape i).memory) ∧ sizedMet enc Tryz.checked.prog Tryz.f3 (OpenSpec.ofChange Rows.topSoundSpec) false (w.forCall tape i).memory i.args) ∧ ({} : Assume).holds Tryz.checked.prog (lone (Frame.enter Tryz.checked.prog 3 i.args .normal) [] (w.forCall tape i)) :=
 ChangeSpec.witness_shaped (enc := enc) (C := Tryz.checked) (os := os) (X := fun w _ => laidMetH Tryz.prog Rows.topSoundRow.laid w) false (World.laidAll Tryz.prog os Rows.topSoundRow.laid) #[.agg #[.slice none 0 0, .slice none 0 0, .slice none 0 0, .int .u8 0]] 8 (World.laidAll_os _ _ _)
  (World.shaped_of_ZipB (by kernel_rfl) (by kernel_rfl)) (by kernel_rfl) (by kernel_rfl) (by kernel_rfl)
  (by rw [oP]; exact laidMet_laidAll _ (by kernel_rfl) (by kernel_rfl))
set_option maxRecDepth 100000 in
theorem nU (os : Os) (started : os.Started) (H : Type) (enc : TypeId × Value → H) :
 ReturnsInHanded {} Tryz.checked os 3 .any (fun w args => (Rows.topSoundSpec.pre enc Tryz.prog Tryz.f3 Rows.topSoundRow.domain false w args ∧ laidMetH Tryz.prog Rows.topSoundRow.laid w) ∧ sizedMet enc Tryz.prog Tryz.f3 (OpenSpec.ofChange Rows.topSoundSpec) false w args)
  (Rows.topSoundSpec.post enc Tryz.prog Tryz.f3 false true false false) := by
 refine mx (C := Tryz.checked) (X := fun w _ => laidMetH Tryz.prog Rows.topSoundRow.laid w) (fun _ _ _ hh h => h.of_heap hh) Iq started (by kernel_rfl) Tryz.func3 (nk os H enc) ?_
 intro W base args ds gs before hval0 hW hL hS
 have hval : ∀ (j : Nat) t v, Tryz.f3.params[j]? = some t → args[j]? = some v → Value.okWide Tryz.prog W .any base t v := hval0
 have hW' := hW
 obtain ⟨p, q, hA0, hV, rfl, hfz, hnd⟩ := hW
 have hA : DataW.TrodAll enc Tryz.prog W 0 (fun _ => true) true Tryz.f3.params.toList args.toList ds p := hA0
 rw [Tryz.params3] at hA hval
 obtain ⟨v0, d0, rfl, rfl, h0⟩ := trodAll_one hA
 obtain ⟨rfl, rfl⟩ := trodVars_none hV
 obtain ⟨cs0, hv0, _⟩ := okWide_struct Tryz.underlying24 (hval 0 24 v0 rfl rfl)
 obtain ⟨x, hx, hr0⟩ := Ck H7 h0 hv0
 have hlt := hW'.lt
 have hG : Glob W := BA hS (by rw [← oP]; exact hL)
 refine ((Ib x.m x.p x.t x.b hx.1 hx.2).2 W (fun _ => True) #[v0] hG ⟨rfl, fun i y u hy hu => ?_⟩).mono fun e W' ⟨u, he, hb, hu⟩ => ?_
 ·match i with
  | 0 => cases hy; cases hu; exact hr0
  | i + 1 => simp at hy
 ·cases hu
  refine ⟨_, he, yl hW' hb Tryz.underlying4 rfl rfl (fun sp hsp => ?_) (fun _ => rfl)⟩
  have e0 : ∀ x ∈ p, x ∈ (p) ++ [] := fun x hx => by simp [hx]
  have := trodAll_mk1 (stays (by kernel_rfl) (of_decide_eq_true (by kernel_rfl)) h0 hb (fun x hx => hlt x (e0 x hx)) (fun x hx => hsp x (e0 x hx)))
  simp only [List.append_nil] at this ⊢
  exact this
end Go.Proofs.YtgnbphnbdaphpaaGreatDoor
namespace Go.Proofs.YtgnbphnbdaphpaaGreatDoor
open Go.ChangeShapes Go.WideShapes Go.ChangeAt Go.RowKit Go.Vd
theorem m9 : (Rows.topSoundRow.inPlace == Tryz.prog.inPlace 3) = true := by kernel_rfl
theorem lz : (Rows.topSoundRow.unfollowed == Tryz.prog.unfollowed 3) = true := by kernel_rfl
theorem mB : (Rows.topSoundRow.recurses == Tryz.prog.recurses 3) = true := by kernel_rfl
theorem oN : (Rows.topSoundRow.named == Tryz.prog.varsNamed 3) = true := by kernel_rfl
theorem sH : Rows.topSoundRow.wf (OpenSpec.ofChange Rows.topSoundSpec) = true := by kernel_rfl
theorem nP : joinedFacts Tryz.prog 3 Tryz.f3 Rows.topSoundSpec Rows.topSoundRow = true := by
 unfold joinedFacts
 exact (dX (dX (dX (dX (dX (dX (dX (dX (dX (dX (dX (dX (dX (dX (dX (dX (dX (dX (dX (dX (dX (dX (dX (dX (dX (dX (dX (dX (dX (dX (dX sH CZ) (by kernel_rfl)) (by kernel_rfl)) (by kernel_rfl)) (by kernel_rfl)) (by kernel_rfl)) (by kernel_rfl)) (by kernel_rfl)) m9) lz) mB) oN) (by kernel_rfl)) (by kernel_rfl)) (by kernel_rfl)) (by kernel_rfl)) (by kernel_rfl)) (by kernel_rfl)) (by kernel_rfl)) (by kernel_rfl)) (by kernel_rfl)) (by kernel_rfl)) (by kernel_rfl)) (by kernel_rfl)) (by kernel_rfl)) (by kernel_rfl)) (by kernel_rfl)) (by kernel_rfl)) (by kernel_rfl)) (by kernel_rfl)) (by kernel_rfl))
theorem topSound_fn : Tryz.prog.funcNamed Rows.topSoundRow.func = some 3 := by kernel_rfl
theorem pX : Rows.TopSoundSaid :=
 OpenClaim.holds_of_wide 3 Tryz.f3 rfl rfl rfl rfl rfl rfl rfl ⟨rfl, rfl, rfl, rfl, rfl⟩ rfl rfl rfl rfl rfl topSound_fn Tryz.func3 nP
  (of_decide_eq_true (by kernel_rfl)) (by unfold Func.isWrapper; first | (rw [if_pos (by decide +kernel)]; kernel_rfl) | (rw [if_neg (by decide +kernel)]; exact ⟨rfl, rfl⟩))
  (fun os started H enc _ => nU os started H enc)
end Go.Proofs.YtgnbphnbdaphpaaGreatDoor
