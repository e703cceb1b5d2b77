/- Walks over data, merged (part 1): what the laws of this claim use. -/
import Derived.Below
import Derived.Lib.ItoaNum
import Derived.Lib.LaidTab
import Derived.OrdersIn
import Derived.RangeFuncIn
import Derived.RangeFuncLeaves
import Derived.RangeFuncRecord
import Derived.Shelf.Unicode.DecodeSlow
import Derived.WalkKit
set_option linter.unusedSimpArgs false
set_option linter.unusedVariables false
namespace Go.Vd
open Go.RowKit
inductive V where
 | int (k : IntKind) (n : Int)
 | bool (b : Bool)
 | str (s : ByteArray)
 | sl (es : List (List V))
 | agg (cs : List V)
 | ref (cs : List V)
 | fn (f : Fn) (first cap : List V)
 | tup (vs : List V)
 | hdr (g n : Nat)
 | adr (g i : Nat)
 | ifc (t : Nat) (x : V)
 | nilI
 | mp (es : List (List V))
 | nilP
inductive RepV (w : World) (im : Nat → Prop) : V → Value → Prop where
 | int (k : IntKind) (n : Int) : RepV w im (.int k n) (.int k n)
 | bool (b : Bool) : RepV w im (.bool b) (.bool b)
 | str (s : ByteArray) : RepV w im (.str s) (.string s)
 | sl0 (a : Option Addr) (c : Nat) : RepV w im (.sl []) (.slice a 0 c)
 | sl (es : List (List V)) (b o sz c : Nat) (hb : im b) (hl : b < w.heap.size) (hcap : es.length ≤ c) (hs : ∀ e ∈ es, e.length = sz)
    (hc : ∀ i j, i < es.length → j < sz → (w.cell? ⟨b, o + i * sz + j, none⟩).isSome = true)
    (hv : ∀ i j e v u, es[i]? = some e → e[j]? = some v → w.cell? ⟨b, o + i * sz + j, none⟩ = some u → RepV w im v u) :
    RepV w im (.sl es) (.slice (some ⟨b, o, none⟩) es.length c)
 | agg (cs : List V) (us : Array Value) (hs : us.size = cs.length)
    (hv : ∀ (i : Nat) v u, cs[i]? = some v → us[i]? = some u → RepV w im v u) : RepV w im (.agg cs) (.agg us)
 | ref (cs : List V) (b o : Nat) (hb : im b) (hl : b < w.heap.size)
    (hc : ∀ j, j < cs.length → (w.cell? ⟨b, o + j, none⟩).isSome = true)
    (hv : ∀ (j : Nat) v u, cs[j]? = some v → w.cell? ⟨b, o + j, none⟩ = some u → RepV w im v u) : RepV w im (.ref cs) (.pointer (some ⟨b, o, none⟩))
 | fn (f : Fn) (first cap : List V) (us ws : Array Value) (hs : us.size = first.length) (hs' : ws.size = cap.length)
    (hv : ∀ (i : Nat) v u, first[i]? = some v → us[i]? = some u → RepV w im v u)
    (hv' : ∀ (i : Nat) v u, cap[i]? = some v → ws[i]? = some u → RepV w im v u) : RepV w im (.fn f first cap) (.func f us ws)
 | tup (vs : List V) (us : Array Value) (hs : us.size = vs.length)
    (hv : ∀ (i : Nat) v u, vs[i]? = some v → us[i]? = some u → RepV w im v u) : RepV w im (.tup vs) (.tuple us)
 | hdr (g n c : Nat) (h : n ≤ c) : RepV w im (.hdr g n) (.slice (some ⟨g, 0, none⟩) n c)
 | adr (g i : Nat) : RepV w im (.adr g i) (.pointer (some ⟨g, i, none⟩))
 | ifc (t : Nat) (x : V) (u : Value) (h : RepV w im x u) : RepV w im (.ifc t x) (.iface t u)
 | nilI : RepV w im .nilI .nilIface
 | nilP : RepV w im .nilP (.pointer none)
 | mp (es : List (List V)) (b clk : Nat) (arr : Array MapEntry) (hb : im b) (hw : w.heap[b]? = some (.map arr clk)) (hl : arr.size = es.length)
    (hs : ∀ e ∈ es, e.length = 2)
    (hk : ∀ (i : Nat) e x m, es[i]? = some e → e[0]? = some x → arr[i]? = some m → RepV w im x m.key)
    (hv : ∀ (i : Nat) e x m, es[i]? = some e → e[1]? = some x → arr[i]? = some m → RepV w im x m.val) : RepV w im (.mp es) (.map (some b))
theorem RepV.mono {w w' : World} {im im' : Nat → Prop} (hk : ∀ b, im b → b < w.heap.size → im' b ∧ w'.heap[b]? = w.heap[b]?) {v : V} {u : Value}
 (h : RepV w im v u) : RepV w' im' v u := by
 induction h with
 | int k n => exact .int k n
 | bool b => exact .bool b
 | str s => exact .str s
 | sl0 a c => exact .sl0 a c
 | sl es b o sz c hb hl hcap hs hc hv ih =>
   obtain ⟨h1, h2⟩ := hk b hb hl
   have hcell : ∀ j, w'.cell? ⟨b, j, none⟩ = w.cell? ⟨b, j, none⟩ := fun j => World.cell?_of_block h2
   have hl' : b < w'.heap.size := by
    have : w.heap[b]?.isSome := by simp [hl]
    rw [← h2] at this; simpa using this
   exact .sl es b o sz c h1 hl' hcap hs (fun i j hi hj => by rw [hcell]; exact hc i j hi hj) (fun i j e v u he hv' hu => ih i j e v u he hv' (by rw [← hcell]; exact hu))
 | agg cs us hs hv ih => exact .agg cs us hs ih
 | ref cs b o hb hl hc hv ih =>
   obtain ⟨h1, h2⟩ := hk b hb hl
   have hcell : ∀ j, w'.cell? ⟨b, j, none⟩ = w.cell? ⟨b, j, none⟩ := fun j => World.cell?_of_block h2
   have hl' : b < w'.heap.size := by
    have : w.heap[b]?.isSome := by simp [hl]
    rw [← h2] at this; simpa using this
   exact .ref cs b o h1 hl' (fun j hj => by rw [hcell]; exact hc j hj) (fun j v u he hu => ih j v u he (by rw [← hcell]; exact hu))
 | fn f first cap us ws hs hs' hv hv' ih ih' => exact .fn f first cap us ws hs hs' ih ih'
 | tup vs us hs hv ih => exact .tup vs us hs ih
 | hdr g n c h => exact .hdr g n c h
 | adr g i => exact .adr g i
 | ifc t x u h ih => exact .ifc t x u ih
 | nilI => exact .nilI
 | nilP => exact .nilP
 | mp es b clk arr hb hw hl hs hk' hv ih ih' =>
   obtain ⟨h1, h2⟩ := hk b hb (Array.getElem?_eq_some_iff.1 hw).1
   exact .mp es b clk arr h1 (h2.trans hw) hl hs ih ih'
theorem RepV.int_inv {w : World} {im : Nat → Prop} {k : IntKind} {n : Int} {u : Value} (h : RepV w im (.int k n) u) : u = .int k n := by cases h; rfl
theorem RepV.bool_inv {w : World} {im : Nat → Prop} {b : Bool} {u : Value} (h : RepV w im (.bool b) u) : u = .bool b := by cases h; rfl
theorem RepV.str_inv {w : World} {im : Nat → Prop} {s : ByteArray} {u : Value} (h : RepV w im (.str s) u) : u = .string s := by cases h; rfl
def V.one : V → Bool
 | .agg _ | .tup _ => false
 | _ => true
theorem RepV.oneCell {w : World} {im : Nat → Prop} {v : V} {u : Value} (h : RepV w im v u) (h1 : v.one = true) : u.oneCell' = true := by
 cases h <;> first | rfl | (simp [V.one] at h1)
inductive D where
 | v (x : V)
 | nils
 | own (id : Nat)
 | ptr (id off : Nat)
 | eptr (id i : Nat)
 | agg (cs : List D)
 | fn (f : Fn) (first cap : List D)
 | tup (ds : List D)
 | any
inductive Con where
 | res | dead
 | box (b : Nat)
 | row (g : Option Nat) (n cap : Nat)
def lP : Option Nat → Nat → Nat → Value
 | none, _, _ => .slice none 0 0
 | some g, n, cap => .slice (some ⟨g, 0, none⟩) n cap
inductive RepD (w : World) (im : Nat → Prop) (ι : Nat → Con) : D → Value → Prop where
 | v {x : V} {u : Value} (h : RepV w im x u) : RepD w im ι (.v x) u
 | nils : RepD w im ι .nils (.slice none 0 0)
 | own (id : Nat) (u : Value) (h0 : ι id ≠ .res) (h : ∀ g n c, ι id = .row g n c → u = lP g n c) : RepD w im ι (.own id) u
 | ptr (id off : Nat) (u : Value) (h0 : ι id ≠ .res) (h : ∀ b, ι id = .box b → u = .pointer (some ⟨b, off, none⟩)) : RepD w im ι (.ptr id off) u
 | eptr (id i : Nat) (u : Value) (h0 : ι id ≠ .res) (h : ∀ g n c, ι id = .row (some g) n c → u = .pointer (some ⟨g, i, none⟩)) : RepD w im ι (.eptr id i) u
 | agg (cs : List D) (us : Array Value) (hs : us.size = cs.length)
    (hv : ∀ (i : Nat) v u, cs[i]? = some v → us[i]? = some u → RepD w im ι v u) : RepD w im ι (.agg cs) (.agg us)
 | fn (f : Fn) (first cap : List D) (us ws : Array Value) (hs : us.size = first.length) (hs' : ws.size = cap.length)
    (hv : ∀ (i : Nat) v u, first[i]? = some v → us[i]? = some u → RepD w im ι v u)
    (hv' : ∀ (i : Nat) v u, cap[i]? = some v → ws[i]? = some u → RepD w im ι v u) : RepD w im ι (.fn f first cap) (.func f us ws)
 | tup (vs : List D) (us : Array Value) (hs : us.size = vs.length)
    (hv : ∀ (i : Nat) v u, vs[i]? = some v → us[i]? = some u → RepD w im ι v u) : RepD w im ι (.tup vs) (.tuple us)
 | any (u : Value) : RepD w im ι .any u
theorem RepD.mono {w w' : World} {im im' : Nat → Prop} {ι ι' : Nat → Con} (hk : ∀ b, im b → b < w.heap.size → im' b ∧ w'.heap[b]? = w.heap[b]?)
 (hi : ∀ id, ι id ≠ .res → ι' id = ι id ∨ ι' id = .dead) {d : D} {u : Value} (h : RepD w im ι d u) : RepD w' im' ι' d u := by
 induction h with
 | v h => exact .v (h.mono hk)
 | nils => exact .nils
 | own id u h0 h =>
   rcases hi id h0 with e | e
   ·exact .own id u (by rw [e]; exact h0) (by rw [e]; exact h)
   ·exact .own id u (by rw [e]; simp) (by rw [e]; intro g n c h; cases h)
 | ptr id n u h0 h =>
   rcases hi id h0 with e | e
   ·exact .ptr id n u (by rw [e]; exact h0) (by rw [e]; exact h)
   ·exact .ptr id n u (by rw [e]; simp) (by rw [e]; intro g h; cases h)
 | eptr id n u h0 h =>
   rcases hi id h0 with e | e
   ·exact .eptr id n u (by rw [e]; exact h0) (by rw [e]; exact h)
   ·exact .eptr id n u (by rw [e]; simp) (by rw [e]; intro g m c h; cases h)
 | agg cs us hs hv ih => exact .agg cs us hs ih
 | fn f first cap us ws hs hs' hv hv' ih ih' => exact .fn f first cap us ws hs hs' ih ih'
 | tup vs us hs hv ih => exact .tup vs us hs ih
 | any u => exact .any u
def ks : List D → Option (List V)
 | [] => some []
 | .v x :: r => (ks r).map (x :: ·)
 | _ :: _ => none
theorem gc : ∀ {ds : List D} {vs : List V}, ks ds = some vs → ds = vs.map .v
 | [], vs, h => by simp [ks] at h; subst h; rfl
 | d :: r, vs, h => by
   cases d with
   | v x =>
     simp only [ks, Option.map_eq_some_iff] at h
     obtain ⟨ys, h1, rfl⟩ := h
     simp [gc h1]
   | _ => simp [ks] at h
theorem aA {w : World} {im : Nat → Prop} {ι : Nat → Con} {x : V} {u : Value} (h : RepD w im ι (.v x) u) : RepV w im x u := by
 cases h with | v h => exact h
theorem lS {w : World} {im : Nat → Prop} {ι : Nat → Con} {vs : List V} {us : Array Value}
 (hv : ∀ (i : Nat) v u, (vs.map D.v)[i]? = some v → us[i]? = some u → RepD w im ι v u) :
 ∀ (i : Nat) v u, vs[i]? = some v → us[i]? = some u → RepV w im v u := fun i v u h hu =>
 aA (hv i (.v v) u (by simp [h]) hu)
def mkAgg (cs : List D) : D := match ks cs with
 | some vs => .v (.agg vs)
 | none => .agg cs
theorem RepD.mkAgg {w : World} {im : Nat → Prop} {ι : Nat → Con} {cs : List D} {u : Value} (h : RepD w im ι (.agg cs) u) : RepD w im ι (mkAgg cs) u := by
 unfold Vd.mkAgg
 cases ha : ks cs with
 | none => exact h
 | some vs =>
   have := gc ha; subst this
   cases h with
   | agg _ us hs hv => exact .v (.agg vs us (by simpa using hs) (lS hv))
def IF (cs : List D) : D := match ks cs with
 | some vs => .v (.tup vs)
 | none => .tup cs
def V.cells : V → List V
 | .agg cs => cs
 | x => [x]
def D.cells : D → List D
 | .agg cs => cs
 | .v x => x.cells.map .v
 | d => [d]
theorem RepV.cells {w : World} {im : Nat → Prop} {v : V} {u : Value} (h : RepV w im v u) (ht : ∀ vs, v ≠ .tup vs) :
 u.cells.size = v.cells.length ∧ ∀ (i : Nat) x y, v.cells[i]? = some x → u.cells[i]? = some y → RepV w im x y := by
 have h0 := h
 cases h with
 | agg cs us hs hv => exact ⟨hs, hv⟩
 | tup vs us hs hv => exact absurd rfl (ht vs)
 | _ =>
   refine ⟨rfl, fun i x y hx hy => ?_⟩
   cases i with
   | zero =>
     simp [V.cells, Value.cells] at hx hy
     subst hx; subst hy; exact h0
   | succ i => simp [V.cells] at hx
end Go.Vd
namespace Go.Vd
open Go.RowKit
inductive Blk where
 | res | dead
 | box (cs : List D)
 | row (e sz : Nat) (es : List (List V))
 | rowh (e : Nat) (es : List (List V)) (id : Nat)
 | tbox (T : Nat) (cs : List D)
structure MM where
 d : Nat
 k : Nat
 pins : List (Nat × Nat)
instance (n : Nat) : OfNat MM n := ⟨⟨n, 0, []⟩⟩
structure St where
 t : Nat → Option D
 h : Nat → Blk
 m : MM := 0
def d8 {α : Type} (f : Nat → α) (n : Nat) (x : α) : Nat → α := fun m => bif Nat.beq m n then x else f m
theorem aE {α : Type} (f : Nat → α) (n : Nat) (x : α) : d8 f n x n = x := by simp [d8]
theorem aN {α : Type} (f : Nat → α) {n m : Nat} (x : α) (h : m ≠ n) : d8 f n x m = f m := by
 have : (m.beq n) = false := by
  cases hb : m.beq n with
  | false => rfl
  | true => exact absurd (Nat.eq_of_beq_eq_true hb) h
 simp [d8, this]
theorem tV {α : Type} (f : Nat → α) {n m : Nat} (x y : α) (h : n ≠ m) : d8 (d8 f n x) m y = d8 (d8 f m y) n x := by
 funext k
 by_cases h1 : k = n
 ·subst h1; rw [aN _ _ h, aE, aE]
 ·by_cases h2 : k = m
  ·subst h2; rw [aE, aN _ _ h1, aE]
  ·rw [aN _ _ h2, aN _ _ h1, aN _ _ h1, aN _ _ h2]
def St.put (s : St) (dst : Option Nat) (d : D) : St := match dst with
 | some n => { s with t := d8 s.t n (some d) }
 | none => s
def jQ : List (Nat × Blk) → (Nat → Blk) → (Nat → Blk)
 | [], h => h
 | (i, b) :: r, h => jQ r (d8 h i b)
def St.eff (s : St) (e : List (Nat × Blk)) : St := { s with h := jQ e s.h }
def Con.blk : Con → Option Nat
 | .box b => some b
 | .row g _ _ => g
 | _ => none
def IS : Option Nat → Nat → V
 | some g, n + 1 => .hdr g (n + 1)
 | _, _ => .sl []
def RowRel (w : World) (im : Nat → Prop) (e sz : Nat) (es : List (List V)) (c : Con) : Prop :=
 0 < sz ∧ (∀ el ∈ es, el.length = sz) ∧ ((c = .row none 0 0 ∧ es = []) ∨
     ∃ g cap arr, c = .row (some g) es.length cap ∧ w.heap[g]? = some (.cells arr e (0, 0)) ∧ es.length ≤ cap ∧ cap ≤ maxLen ∧ arr.size = cap * sz ∧
       ∀ (i j : Nat) el v u, es[i]? = some el → el[j]? = some v → arr[i * sz + j]? = some u → RepV w im v u)
theorem RowRel.mono {w w' : World} {im im' : Nat → Prop} (hk : ∀ b, im b → b < w.heap.size → im' b ∧ w'.heap[b]? = w.heap[b]?) {e sz : Nat} {es : List (List V)} {c : Con}
 (hc : ∀ k, c.blk = some k → w'.heap[k]? = w.heap[k]?) (h : RowRel w im e sz es c) : RowRel w' im' e sz es c := by
 obtain ⟨h0, h1, h⟩ := h
 refine ⟨h0, h1, ?_⟩
 rcases h with h | ⟨g, cap, arr, rfl, hg, h2, h3, h4, h5⟩
 ·exact .inl h
 ·exact .inr ⟨g, cap, arr, rfl, by rw [hc g rfl]; exact hg, h2, h3, h4, fun i j el v u a b c => (h5 i j el v u a b c).mono hk⟩
def BlkRel (w : World) (im : Nat → Prop) (ι : Nat → Con) : Blk → Con → Prop
 | .res, c => c = .res
 | .dead, c => c = .dead
 | .box cs, c => ∃ b arr ty, c = .box b ∧ w.heap[b]? = some (.cells arr ty (0, 0)) ∧ arr.size = cs.length ∧
    ∀ (i : Nat) d u, cs[i]? = some d → arr[i]? = some u → RepD w im ι d u
 | .row e sz es, c => 0 < sz ∧ (∀ el ∈ es, el.length = sz) ∧ ((c = .row none 0 0 ∧ es = []) ∨
    ∃ g cap arr, c = .row (some g) es.length cap ∧ w.heap[g]? = some (.cells arr e (0, 0)) ∧ es.length ≤ cap ∧ cap ≤ maxLen ∧ arr.size = cap * sz ∧
      ∀ (i j : Nat) el v u, es[i]? = some el → el[j]? = some v → arr[i * sz + j]? = some u → RepV w im v u)
 | .rowh e es id, c => ∃ g n, ι id ≠ .res ∧ (∀ x y z, ι id = .row x y z → x = g ∧ y = n) ∧ RowRel w im e 1 (es ++ [[IS g n]]) c
 | .tbox T cs, c => ∃ b arr, c = .box b ∧ w.heap[b]? = some (.cells arr T (0, 0)) ∧ arr.size = cs.length ∧
    ∀ (i : Nat) d u, cs[i]? = some d → arr[i]? = some u → RepD w im ι d u
def Glob (w : World) : Prop := 9 ≤ w.heap.size ∧ (∃ m ty f, w.heap[0]? = some (.cells #[.int .i64 m] ty f)) ∧ (∃ ty f, w.heap[1]? = some (.cells (Lib.pow10Tab.map fun z => Value.int .u64 z).toArray ty f)) ∧ Lib.Utf8Tabs 2 3 w
theorem Glob.stays {w w' : World} (h : Glob w) (hs : w.heap.size ≤ w'.heap.size) (hk : ∀ g, g < 9 → w'.heap[g]? = w.heap[g]?) : Glob w' := by
 obtain ⟨h1, h2, h3, h4⟩ := h
 refine ⟨Nat.le_trans h1 hs, by rw [hk 0 (by decide)]; exact h2, by rw [hk 1 (by decide)]; exact h3, ?_, ?_⟩
 ·intro c hc; rw [World.cell?_of_block (hk 2 (by decide))]; exact h4.1 c hc
 ·intro i hi; have hc : ∀ j, w'.cell? ⟨3, j, none⟩ = w.cell? ⟨3, j, none⟩ := fun j => World.cell?_of_block (hk 3 (by decide))
  rw [hc, hc]; exact h4.2 i hi
structure dt where
 w0 : World
 im0 : Nat → Prop
 own0 : Nat → Prop
structure CY (B : dt) : Prop where
 w : Glob B.w0
 o : ∀ b, B.own0 b → 9 ≤ b
def cx (B : dt) (ι : Nat → Con) (b : Nat) : Prop := (B.im0 b ∨ B.w0.heap.size ≤ b ∨ B.own0 b) ∧ ∀ id, (ι id).blk ≠ some b
structure Sim (B : dt) (s : St) (ι : Nat → Con) (a : Act) (w : World) : Prop where
 os : w.os = B.w0.os
 tape : w.tape = B.w0.tape
 output : w.output = B.w0.output
 size : B.w0.heap.size ≤ w.heap.size
 frame : ∀ b, b < B.w0.heap.size → ¬ B.own0 b → w.heap[b]? = B.w0.heap[b]?
 inj : ∀ id id' b, (ι id).blk = some b → (ι id').blk = some b → id = id'
 bnd : ∀ id b, (ι id).blk = some b → b < w.heap.size ∧ (B.w0.heap.size ≤ b ∨ B.own0 b)
 blks : ∀ id, BlkRel w (cx B ι) ι (s.h id) (ι id)
 tmps : ∀ n d, s.t n = some d → ∃ u, a.tmps[n]? = some u ∧ RepD w (cx B ι) ι d u
 marks : a.defers.length = s.m.d
 pins : ∀ p ∈ s.m.pins, ι p.1 = .box p.2 ∨ ι p.1 = .dead
 defs : ∀ d ∈ a.defers, ∃ b, d = { target := .collected b, args := #[] } ∧ B.w0.heap.size ≤ b ∧ w.heap[b]? = some (.deferred (some []))
 glob : CY B
theorem Sim.globW {B : dt} {s : St} {ι : Nat → Con} {a : Act} {w : World} (S : Sim B s ι a w) : Glob w :=
 S.glob.w.stays S.size fun g hg => S.frame g (Nat.lt_of_lt_of_le hg S.glob.w.1) fun ho => Nat.lt_irrefl _ (Nat.lt_of_lt_of_le hg (S.glob.o g ho))
theorem Sim.glob9 {B : dt} {s : St} {ι : Nat → Con} {a : Act} {w : World} (S : Sim B s ι a w) {id b : Nat} (h : (ι id).blk = some b) : 9 ≤ b := by
 rcases (S.bnd id b h).2 with h1 | h1
 ·exact Nat.le_trans S.glob.w.1 h1
 ·exact S.glob.o b h1
theorem Sim.own_cells {B : dt} {s : St} {ι : Nat → Con} {a : Act} {w : World} (S : Sim B s ι a w) {id b : Nat} (h : (ι id).blk = some b) : ∃ c t f, w.heap[b]? = some (.cells c t f) := by
 have h1 := S.blks id
 cases hb : s.h id with
 | res => rw [hb] at h1; rw [show ι id = .res from h1] at h; cases h
 | dead => rw [hb] at h1; rw [show ι id = .dead from h1] at h; cases h
 | box cs =>
   rw [hb] at h1
   obtain ⟨b', arr, ty, h2, h3, _⟩ := h1
   rw [h2] at h; cases h; exact ⟨_, _, _, h3⟩
 | row e sz es =>
   rw [hb] at h1
   obtain ⟨_, _, ⟨h2, _⟩ | ⟨g, cap, arr, h2, h3, _⟩⟩ := h1
   ·rw [h2] at h; cases h
   ·rw [h2] at h; cases h; exact ⟨_, _, _, h3⟩
 | rowh e es id' =>
   rw [hb] at h1
   obtain ⟨_, _, _, _, _, _, ⟨h2, _⟩ | ⟨g, cap, arr, h2, h3, _⟩⟩ := h1
   ·rw [h2] at h; cases h
   ·rw [h2] at h; cases h; exact ⟨_, _, _, h3⟩
 | tbox T cs =>
   rw [hb] at h1
   obtain ⟨b', arr, h2, h3, _⟩ := h1
   rw [h2] at h; cases h; exact ⟨_, _, _, h3⟩
theorem BlkRel.mono {w w' : World} {im im' : Nat → Prop} {ι ι' : Nat → Con} (hk : ∀ b, im b → b < w.heap.size → im' b ∧ w'.heap[b]? = w.heap[b]?)
 (hi : ∀ id, ι id ≠ .res → ι' id = ι id ∨ ι' id = .dead) {b : Blk} {c : Con} (hc : ∀ k, c.blk = some k → w'.heap[k]? = w.heap[k]?) (h : BlkRel w im ι b c) : BlkRel w' im' ι' b c := by
 cases b with
 | res => exact h
 | dead => exact h
 | box cs =>
   obtain ⟨b, arr, ty, rfl, hb, hs, hv⟩ := h
   exact ⟨b, arr, ty, rfl, by rw [hc b rfl]; exact hb, hs, fun i d u h1 h2 => (hv i d u h1 h2).mono hk hi⟩
 | row e sz es =>
   obtain ⟨h0, h1, h⟩ := h
   refine ⟨h0, h1, ?_⟩
   rcases h with h | ⟨g, cap, arr, rfl, hg, h2, h3, h4, h5⟩
   ·exact .inl h
   ·exact .inr ⟨g, cap, arr, rfl, by rw [hc g rfl]; exact hg, h2, h3, h4, fun i j el v u a b c => (h5 i j el v u a b c).mono hk⟩
 | rowh e es id =>
   obtain ⟨g, n, h0, h1, h⟩ := h
   refine ⟨g, n, ?_, fun x y z hz => ?_, h.mono hk hc⟩
   ·rcases hi id h0 with h | h <;> rw [h]
    ·exact h0
    ·simp
   ·rcases hi id h0 with h | h
    ·rw [h] at hz; exact h1 x y z hz
    ·rw [h] at hz; cases hz
 | tbox T cs =>
   obtain ⟨b, arr, rfl, hb, hs, hv⟩ := h
   exact ⟨b, arr, rfl, by rw [hc b rfl]; exact hb, hs, fun i d u h1 h2 => (hv i d u h1 h2).mono hk hi⟩
theorem Sim.evolve {B : dt} {s : St} {ι : Nat → Con} {a : Act} {w : World} (S : Sim B s ι a w) (w' : World) (ι' : Nat → Con) (h' : Nat → Blk) (X : Nat → Prop)
 (hos : w'.os = w.os) (htape : w'.tape = w.tape) (hout : w'.output = w.output) (hsize : w.heap.size ≤ w'.heap.size)
 (hX : ∀ b, X b → ∃ id, (ι id).blk = some b) (hw : ∀ b, b < w.heap.size → ¬ X b → w'.heap[b]? = w.heap[b]?)
 (hι : ∀ id, ι id ≠ .res → ι' id = ι id ∨ ι' id = .dead)
 (hown : ∀ id b, (ι' id).blk = some b → b < w.heap.size → ∃ id0, (ι id0).blk = some b)
 (hinj : ∀ id id' b, (ι' id).blk = some b → (ι' id').blk = some b → id = id')
 (hbnd : ∀ id b, (ι' id).blk = some b → b < w'.heap.size)
 (hblk : ∀ id, (h' id = s.h id ∧ ι' id = ι id ∧ ∀ b, (ι id).blk = some b → ¬ X b) ∨
  ((∀ b, cx B ι b → b < w.heap.size → cx B ι' b ∧ w'.heap[b]? = w.heap[b]?) → BlkRel w' (cx B ι') ι' (h' id) (ι' id))) :
 Sim B { s with h := h' } ι' a w' ∧ (∀ b, cx B ι b → b < w.heap.size → cx B ι' b ∧ w'.heap[b]? = w.heap[b]?) := by
 have hk : ∀ b, cx B ι b → b < w.heap.size → cx B ι' b ∧ w'.heap[b]? = w.heap[b]? := by
  intro b hb hlt
  refine ⟨⟨hb.1, fun id hid => ?_⟩, hw b hlt fun hx => ?_⟩
  ·obtain ⟨id0, h0⟩ := hown id b hid hlt
   exact hb.2 id0 h0
  ·obtain ⟨id0, h0⟩ := hX b hx
   exact hb.2 id0 h0
 have hdefs : ∀ d ∈ a.defers, ∃ b, d = { target := .collected b, args := #[] } ∧ B.w0.heap.size ≤ b ∧ w'.heap[b]? = some (.deferred (some [])) := by
  intro d hd
  obtain ⟨b, h1, h2, h3⟩ := S.defs d hd
  refine ⟨b, h1, h2, ?_⟩
  rw [hw b (Array.getElem?_eq_some_iff.1 h3).1 fun hx => ?_]
  ·exact h3
  ·obtain ⟨id, hid⟩ := hX b hx
   obtain ⟨c, t, f, hc⟩ := S.own_cells hid
   rw [h3] at hc; cases hc
 have hpins : ∀ p ∈ s.m.pins, ι' p.1 = .box p.2 ∨ ι' p.1 = .dead := by
  intro p hp
  rcases S.pins p hp with h | h
  ·rcases hι p.1 (by rw [h]; simp) with h1 | h1
   ·exact .inl (h1.trans h)
   ·exact .inr h1
  ·rcases hι p.1 (by rw [h]; simp) with h1 | h1
   ·exact .inr (h1.trans h)
   ·exact .inr h1
 refine ⟨⟨hos.trans S.os, htape.trans S.tape, hout.trans S.output, Nat.le_trans S.size hsize, ?_, hinj, ?_, ?_, ?_, S.marks, hpins, hdefs, S.glob⟩, hk⟩
 ·intro b hb hno
  rw [hw b (Nat.lt_of_lt_of_le hb S.size) fun hx => ?_]
  ·exact S.frame b hb hno
  ·obtain ⟨id0, h0⟩ := hX b hx
   rcases (S.bnd id0 b h0).2 with h1 | h1
   ·omega
   ·exact hno h1
 ·intro id b hid
  refine ⟨hbnd id b hid, ?_⟩
  by_cases hlt : b < w.heap.size
  ·obtain ⟨id0, h0⟩ := hown id b hid hlt
   exact (S.bnd id0 b h0).2
  ·exact .inl (Nat.le_trans S.size (by omega))
 ·intro id
  rcases hblk id with ⟨h1, h2, h3⟩ | h1
  ·show BlkRel w' (cx B ι') ι' (h' id) (ι' id)
   rw [h1, h2]
   exact (S.blks id).mono hk hι fun k hkk => hw k (S.bnd id k hkk).1 (h3 k hkk)
  ·exact h1 hk
 ·intro n d hn
  obtain ⟨u, h1, h2⟩ := S.tmps n d hn
  exact ⟨u, h1, h2.mono hk hι⟩
theorem Sim.put {B : dt} {s : St} {ι : Nat → Con} {a : Act} {w : World} (S : Sim B s ι a w) {n : Nat} (hn : n < a.tmps.size) {d : D} {u : Value}
 (h : RepD w (cx B ι) ι d u) : Sim B (s.put (some n) d) ι (a.put (some n) u) w := by
 refine { S with tmps := ?_ }
 intro m e hm
 simp only [St.put, Act.put] at hm ⊢
 by_cases hmn : m = n
 ·subst hmn
  rw [aE] at hm; cases hm
  exact ⟨u, by simp [hn], h⟩
 ·rw [aN _ _ hmn] at hm
  obtain ⟨v, h1, h2⟩ := S.tmps m e hm
  exact ⟨v, by rw [Array.getElem?_setIfInBounds_ne (Ne.symm hmn)]; exact h1, h2⟩
theorem Sim.grow {B : dt} {s : St} {ι : Nat → Con} {a : Act} {w w' : World} (S : Sim B s ι a w)
 (hos : w'.os = w.os) (htape : w'.tape = w.tape) (hout : w'.output = w.output) (hsize : w.heap.size ≤ w'.heap.size)
 (hw : ∀ b, b < w.heap.size → w'.heap[b]? = w.heap[b]?) :
 Sim B s ι a w' ∧ (∀ b, cx B ι b → b < w.heap.size → cx B ι b ∧ w'.heap[b]? = w.heap[b]?) :=
 S.evolve w' ι s.h (fun _ => False) hos htape hout hsize (fun _ h => h.elim) (fun _ hb _ => hw _ hb) (fun _ _ => .inl rfl) (fun id _ h _ => ⟨id, h⟩) S.inj
  (fun id b h => Nat.lt_of_lt_of_le (S.bnd id b h).1 hsize) (fun _ => .inl ⟨rfl, rfl, fun _ _ h => h⟩)
theorem Sim.drew {B : dt} {s : St} {ι : Nat → Con} {a : Act} {w : World} (S : Sim B s ι a w) : Sim B s ι a { w with drawn := w.drawn + 1 } :=
 (S.grow (w' := { w with drawn := w.drawn + 1 }) rfl rfl rfl (Nat.le_refl _) (fun _ _ => rfl)).1
theorem Sim.fresh {B : dt} {s : St} {ι : Nat → Con} {a : Act} {w w' : World} (S : Sim B s ι a w) {id : Nat} (hid : s.h id = .res) (c : Con) (blk : Blk)
 (hc : ∀ b, c.blk = some b → w.heap.size ≤ b ∧ b < w'.heap.size)
 (hos : w'.os = w.os) (htape : w'.tape = w.tape) (hout : w'.output = w.output) (hsize : w.heap.size ≤ w'.heap.size)
 (hw : ∀ b, b < w.heap.size → w'.heap[b]? = w.heap[b]?)
 (hblk : (∀ b, cx B ι b → b < w.heap.size → cx B (d8 ι id c) b ∧ w'.heap[b]? = w.heap[b]?) → BlkRel w' (cx B (d8 ι id c)) (d8 ι id c) blk c) :
 Sim B { s with h := d8 s.h id blk } (d8 ι id c) a w' ∧ (∀ b, cx B ι b → b < w.heap.size → cx B (d8 ι id c) b ∧ w'.heap[b]? = w.heap[b]?) := by
 have hres : ι id = .res := by have := S.blks id; rw [hid] at this; exact this
 have hcase : ∀ k b, (d8 ι id c k).blk = some b → (k = id ∧ c.blk = some b) ∨ (k ≠ id ∧ (ι k).blk = some b) := by
  intro k b h
  by_cases hk : k = id
  ·subst hk; rw [aE] at h; exact .inl ⟨rfl, h⟩
  ·rw [aN _ _ hk] at h; exact .inr ⟨hk, h⟩
 refine S.evolve w' (d8 ι id c) (d8 s.h id blk) (fun _ => False) hos htape hout hsize (fun _ h => h.elim) (fun _ hb _ => hw _ hb) ?_ ?_ ?_ ?_ ?_
 ·intro k hk
  by_cases h : k = id
  ·subst h; exact absurd hres hk
  ·exact .inl (aN _ _ h)
 ·intro k b h hlt
  rcases hcase k b h with ⟨_, h1⟩ | ⟨_, h1⟩
  ·have := (hc b h1).1; omega
  ·exact ⟨k, h1⟩
 ·intro k k' b h h'
  rcases hcase k b h with ⟨h0, h1⟩ | ⟨h0, h1⟩ <;> rcases hcase k' b h' with ⟨h2, h3⟩ | ⟨h2, h3⟩
  ·rw [h0, h2]
  ·have := (hc b h1).1; have := (S.bnd k' b h3).1; omega
  ·have := (hc b h3).1; have := (S.bnd k b h1).1; omega
  ·exact S.inj k k' b h1 h3
 ·intro k b h
  rcases hcase k b h with ⟨_, h1⟩ | ⟨_, h1⟩
  ·exact (hc b h1).2
  ·exact Nat.lt_of_lt_of_le (S.bnd k b h1).1 hsize
 ·intro k
  by_cases h : k = id
  ·subst h
   exact .inr fun hk => by rw [aE, aE]; exact hblk hk
  ·exact .inl ⟨aN _ _ h, aN _ _ h, fun _ _ h => h⟩
theorem Sim.turn {B : dt} {s : St} {ι : Nat → Con} {a : Act} {w w' : World} (S : Sim B s ι a w) {id g : Nat} (blk : Blk) (hg : (ι id).blk = some g)
 (hos : w'.os = w.os) (htape : w'.tape = w.tape) (hout : w'.output = w.output) (hsize : w.heap.size ≤ w'.heap.size)
 (hw : ∀ b, b < w.heap.size → b ≠ g → w'.heap[b]? = w.heap[b]?)
 (hblk : (∀ b, cx B ι b → b < w.heap.size → cx B ι b ∧ w'.heap[b]? = w.heap[b]?) → BlkRel w' (cx B ι) ι blk (ι id)) :
 Sim B { s with h := d8 s.h id blk } ι a w' := by
 refine (S.evolve w' ι (d8 s.h id blk) (fun b => b = g) hos htape hout hsize (fun b h => ⟨id, by rw [h]; exact hg⟩) (fun b hb hx => hw b hb hx) (fun _ _ => .inl rfl) (fun id b h _ => ⟨id, h⟩) S.inj
  (fun id b h => Nat.lt_of_lt_of_le (S.bnd id b h).1 hsize) ?_).1
 intro k
 by_cases h : k = id
 ·subst h
  exact .inr fun hk => by rw [aE]; exact hblk hk
 ·refine .inl ⟨aN _ _ h, rfl, fun b hb hx => h (S.inj k id b hb (by rw [hx]; exact hg))⟩
theorem Sim.kill {B : dt} {s : St} {ι : Nat → Con} {a : Act} {w : World} (S : Sim B s ι a w) {id : Nat} (hid : ι id ≠ .res) :
 Sim B { s with h := d8 s.h id .dead } (d8 ι id .dead) a w ∧ (∀ b, cx B ι b → b < w.heap.size → cx B (d8 ι id .dead) b ∧ w.heap[b]? = w.heap[b]?) := by
 have hcase : ∀ k b, (d8 ι id .dead k).blk = some b → k ≠ id ∧ (ι k).blk = some b := by
  intro k b h
  by_cases hk : k = id
  ·subst hk; rw [aE] at h; cases h
  ·rw [aN _ _ hk] at h; exact ⟨hk, h⟩
 refine S.evolve w (d8 ι id .dead) (d8 s.h id .dead) (fun _ => False) rfl rfl rfl (Nat.le_refl _) (fun _ h => h.elim) (fun _ _ _ => rfl) ?_ (fun k b h _ => ⟨k, (hcase k b h).2⟩)
  (fun k k' b h h' => S.inj k k' b (hcase k b h).2 (hcase k' b h').2) (fun k b h => (S.bnd k b (hcase k b h).2).1) ?_
 ·intro k hk
  by_cases h : k = id
  ·subst h; exact .inr (aE _ _ _)
  ·exact .inl (aN _ _ h)
 ·intro k
  by_cases h : k = id
  ·subst h
   exact .inr fun _ => by rw [aE, aE]; rfl
  ·exact .inl ⟨aN _ _ h, aN _ _ h, fun _ _ h => h⟩
theorem BlkRel.row_repV {w : World} {im : Nat → Prop} {ι : Nat → Con} {e sz : Nat} {es : List (List V)} {c : Con} (h : BlkRel w im ι (.row e sz es) c)
 {im' : Nat → Prop} (hm : ∀ b, c.blk = some b → im' b) (hi : ∀ b, im b → im' b) (u : Value) (hu : ∀ g n cap, c = .row g n cap → u = lP g n cap) :
 RepV w im' (.sl es) u := by
 obtain ⟨h0, h1, h⟩ := h
 rcases h with ⟨hc, rfl⟩ | ⟨g, cap, arr, hc, hg, h2, h3, h4, h5⟩
 ·rw [hu _ _ _ hc]; exact .sl0 _ _
 ·rw [hu _ _ _ hc]
  have hcell : ∀ j, w.cell? ⟨g, 0 + j, none⟩ = arr[j]? := fun j => by rw [Nat.zero_add]; exact cell_of_row w g j arr e (0, 0) hg
  refine .sl es g 0 sz cap (hm g (by rw [hc]; rfl)) (Array.getElem?_eq_some_iff.1 hg).1 h2 h1 ?_ ?_
  ·intro i j hi' hj
   have := hcell (i * sz + j)
   rw [← Nat.add_assoc] at this
   rw [this]
   have : i * sz + j < arr.size := by
    rw [h4]
    calc i * sz + j < i * sz + sz := by omega
     _ = (i + 1) * sz := by rw [Nat.add_mul, Nat.one_mul]
     _ ≤ cap * sz := Nat.mul_le_mul_right _ (by omega)
   simp [this]
  ·intro i j el v u' he hv hu'
   have h6 := hcell (i * sz + j)
   rw [← Nat.add_assoc] at h6
   rw [h6] at hu'
   exact (h5 i j el v u' he hv hu').mono fun b hb _ => ⟨hi b hb, rfl⟩
theorem RepD.own_inv {w : World} {im : Nat → Prop} {ι : Nat → Con} {id : Nat} {u : Value} (h : RepD w im ι (.own id) u) : ι id ≠ .res ∧ ∀ g n c, ι id = .row g n c → u = lP g n c := by
 cases h with | own _ _ h0 h => exact ⟨h0, h⟩
theorem RepD.ptr_inv {w : World} {im : Nat → Prop} {ι : Nat → Con} {id n : Nat} {u : Value} (h : RepD w im ι (.ptr id n) u) : ι id ≠ .res ∧ ∀ b, ι id = .box b → u = .pointer (some ⟨b, n, none⟩) := by
 cases h with | ptr _ _ _ h0 h => exact ⟨h0, h⟩
theorem RepD.eptr_inv {w : World} {im : Nat → Prop} {ι : Nat → Con} {id n : Nat} {u : Value} (h : RepD w im ι (.eptr id n) u) : ι id ≠ .res ∧ ∀ g m c, ι id = .row (some g) m c → u = .pointer (some ⟨g, n, none⟩) := by
 cases h with | eptr _ _ _ h0 h => exact ⟨h0, h⟩
theorem RepD.nils_inv {w : World} {im : Nat → Prop} {ι : Nat → Con} {u : Value} (h : RepD w im ι .nils u) : u = .slice none 0 0 := by
 cases h with | nils => rfl
end Go.Vd
namespace Go.Vd
open Go.RowKit
inductive Z where
 | i (k : IntKind) | b | s | n | o | p
 deriving DecidableEq
inductive TK where
 | slice (e : Nat) | struct (fos : List (Nat × Nat)) | array (len e : Nat) | bool | int (k : IntKind) | string | other | ptr (e : Nat) | map (k e : Nat) | iface
 deriving DecidableEq
structure TI where
 kind : TK
 size : Nat
 bytes : Nat
 zero : List Z
abbrev kt := List (Nat × TI)
def lk {α : Type} : List (Nat × α) → Nat → Option α
 | [], _ => none
 | (k, a) :: r, n => bif Nat.beq n k then some a else lk r n
def lW : Value → Z
 | .int k 0 => .i k
 | .bool false => .b
 | .string s => if s.size = 0 then .s else .o
 | .slice none 0 0 => .n
 | .pointer none => .p
 | _ => .o
def Z.toD : Z → D
 | .i k => .v (.int k 0)
 | .b => .v (.bool false)
 | .s => .v (.str .empty)
 | .n => .nils
 | .o => .any
 | .p => .v .nilP
theorem jM {w : World} {im : Nat → Prop} {ι : Nat → Con} (u : Value) : RepD w im ι (lW u).toD u := by
 unfold lW
 split
 ·exact .v (.int _ _)
 ·exact .v (.bool _)
 ·rename_i s
  split
  ·rename_i h
   have : s = .empty := by
    cases s with | mk d => cases d with | mk l => cases l with
     | nil => rfl
     | cons x l => simp [ByteArray.size] at h
   subst this
   exact .v (.str _)
  ·exact .any _
 ·exact .nils
 ·exact .v .nilP
 ·exact .any _
def xX (P : Program) (T : TypeId) (ti : TI) : Bool :=
 match P.info? T with
 | none => false
 | some i => i.size == ti.size && i.bytes == ti.bytes &&
   (match i.zero with
    | some z => z.cells.toList.map lW == ti.zero && z.cells.size == ti.size
    | none => false) &&
   (match ti.kind, P.underlying T with
    | .slice e, some (.slice e') => e == e'
    | .struct fos, some (.struct fs) => fs.toList.map (fun f => (f.offset, P.cellsOf f.type)) == fos && fs.toList.all (fun f => match P.info? f.type with | some j => j.size != 0 | none => false)
    | .array l e, some (.array l' e') => l == l' && e == e'
    | .bool, some .bool => true
    | .int k, some (.int k') => k == k'
    | .string, some .string => true
    | .other, some (.func _ _ _) => true
    | .ptr e, some (.pointer e') => e == e'
    | .map k e, some (.map k' e') => k == k' && e == e'
    | .iface, some (.interface _) => true
    | _, _ => false)
def bg (P : Program) (tab : kt) : Bool := tab.all fun p => xX P p.1 p.2
theorem eM {α : Type} : ∀ {l : List (Nat × α)} {n : Nat} {x : α}, lk l n = some x → (n, x) ∈ l
 | [], _, _, h => by cases h
 | (k, a) :: r, n, x, h => by
  simp only [lk] at h
  cases hb : n.beq k with
  | true =>
    rw [hb] at h
    simp only [cond_true, Option.some.injEq] at h
    have := Nat.eq_of_beq_eq_true hb
    subst this; subst h; exact List.mem_cons_self
  | false =>
    rw [hb] at h
    exact List.mem_cons_of_mem _ (eM (by simpa using h))
theorem bT {P : Program} {tab : kt} (h : bg P tab = true) {T : Nat} {ti : TI} (hl : lk tab T = some ti) : xX P T ti = true :=
 (List.all_eq_true.1 h) (T, ti) (eM hl)
theorem dB {P : Program} {T : Nat} {ti : TI} (h : xX P T ti = true) : ∃ i z, P.info? T = some i ∧ i.size = ti.size ∧ i.bytes = ti.bytes ∧ i.zero = some z ∧ z.cells.toList.map lW = ti.zero ∧ z.cells.size = ti.size := by
 unfold xX at h
 cases hi : P.info? T with
 | none => rw [hi] at h; cases h
 | some i =>
   rw [hi] at h
   simp only [Bool.and_eq_true, beq_iff_eq] at h
   cases hz : i.zero with
   | none => rw [hz] at h; simp at h
   | some z =>
     rw [hz] at h
     simp only [Bool.and_eq_true, beq_iff_eq] at h
     exact ⟨i, z, rfl, h.1.1.1, h.1.1.2, hz, h.1.2.1, h.1.2.2⟩
theorem dl {P : Program} {T : Nat} {ti : TI} (h : xX P T ti = true) : match ti.kind with
 | .slice e => P.underlying T = some (.slice e)
 | .struct fos => ∃ fs, P.underlying T = some (.struct fs) ∧ fs.toList.map (fun f => (f.offset, P.cellsOf f.type)) = fos ∧ ∀ f ∈ fs.toList, ∃ j, P.info? f.type = some j ∧ j.size ≠ 0
 | .array l e => P.underlying T = some (.array l e)
 | .bool => P.underlying T = some .bool
 | .int k => P.underlying T = some (.int k)
 | .string => P.underlying T = some .string
 | .other => ∃ a b c, P.underlying T = some (.func a b c)
 | .ptr e => P.underlying T = some (.pointer e)
 | .map k e => P.underlying T = some (.map k e)
 | .iface => ∃ a, P.underlying T = some (.interface a) := by
 unfold xX at h
 cases hi : P.info? T with
 | none => rw [hi] at h; cases h
 | some i =>
   rw [hi] at h
   simp only [Bool.and_eq_true] at h
   have h2 := h.2
   clear h
   generalize P.underlying T = u at *
   cases hk : ti.kind <;> rw [hk] at h2 <;> cases u with
   | none => simp at h2
   | some u => cases u <;> simp at h2 <;> first
     | (simp [h2]; done)
     | trivial
     | (refine ⟨_, rfl, h2.1, fun f hf => ?_⟩
        obtain ⟨k, hk', rfl⟩ := List.mem_iff_getElem.1 hf
        have h3 := h2.2 k (by simpa using hk')
        simp only [Array.getElem_toList]
        generalize P.info? (Field.type _) = j at h3 ⊢
        cases j with
        | none => simp at h3
        | some j => exact ⟨j, rfl, by simpa using h3⟩)
     | exact ⟨_, _, _, rfl⟩
     | exact ⟨_, rfl⟩
def uU : Value → Option D
 | .int k n => some (.v (.int k n))
 | .bool b => some (.v (.bool b))
 | .string s => some (.v (.str s))
 | .slice none 0 0 => some .nils
 | _ => none
def St.ev (s : St) : Operand → Option D
 | .tmp t => s.t t
 | .const v => uU v
 | .func f => some (.v (.fn (.func f) [] []))
 | .global _ => none
theorem uS {w : World} {im : Nat → Prop} {ι : Nat → Con} {u : Value} {d : D} (h : uU u = some d) : RepD w im ι d u := by
 unfold uU at h
 split at h
 ·cases h; exact .v (.int _ _)
 ·cases h; exact .v (.bool _)
 ·cases h; exact .v (.str _)
 ·cases h; exact .nils
 ·cases h
theorem Sim.ev {B : dt} {s : St} {ι : Nat → Con} {a : Act} {w : World} (S : Sim B s ι a w) {x : Operand} {d : D} (h : s.ev x = some d) : RepD w (cx B ι) ι d (a.eval x) := by
 cases x with
 | tmp t =>
   obtain ⟨u, h1, h2⟩ := S.tmps _ _ h
   show RepD w _ ι d (a.tmps.getD _ undef)
   rw [Array.getD_eq_getD_getElem?, h1]
   exact h2
 | const v => exact uS h
 | func f => cases h; exact .v (.fn _ _ _ _ _ rfl rfl (by simp) (by simp))
 | global g => cases h
def D.flat (h : Nat → Blk) : D → Option (List D)
 | .agg cs => some cs
 | .v (.tup _) => none
 | .v x => some (x.cells.map .v)
 | .nils => some [.nils]
 | .own id => match h id with | .row _ _ _ => some [.own id] | .rowh _ _ _ => some [.own id] | _ => none
 | .ptr id o => match h id with | .box _ => some [.ptr id o] | _ => none
 | .eptr _ _ => none
 | .fn f a b => some [.fn f a b]
 | .tup _ => none
 | .any => none
def D.one (h : Nat → Blk) : D → Bool
 | .v x => x.one
 | .nils => true
 | .own id => match h id with | .row _ _ _ => true | .rowh _ _ _ => true | _ => false
 | .ptr id _ => match h id with | .box _ => true | _ => false
 | .fn _ _ _ => true
 | _ => false
theorem jd {B : dt} {s : St} {ι : Nat → Con} {a : Act} {w : World} (S : Sim B s ι a w) {id e sz : Nat} {es : List (List V)} (h : s.h id = .row e sz es) : ∃ g c, ι id = .row g es.length c := by
 have := S.blks id
 rw [h] at this
 obtain ⟨_, _, h | ⟨g, cap, arr, h, _⟩⟩ := this
 ·exact ⟨none, 0, by rw [h.2]; exact h.1⟩
 ·exact ⟨some g, cap, h⟩
theorem tz {B : dt} {s : St} {ι : Nat → Con} {a : Act} {w : World} (S : Sim B s ι a w) {id e i0 : Nat} {es : List (List V)} (h : s.h id = .rowh e es i0) : ∃ g n c, ι id = .row g n c := by
 have := S.blks id
 rw [h] at this
 obtain ⟨_, _, _, _, _, _, h | ⟨g, cap, arr, h, _⟩⟩ := this
 ·exact ⟨none, 0, 0, h.1⟩
 ·exact ⟨some g, _, cap, h⟩
theorem eZ {B : dt} {s : St} {ι : Nat → Con} {a : Act} {w : World} (S : Sim B s ι a w) {id : Nat} {cs : List D} (h : s.h id = .box cs) :
 ∃ b arr ty, ι id = .box b ∧ w.heap[b]? = some (.cells arr ty (0, 0)) ∧ arr.size = cs.length ∧ ∀ (i : Nat) d u, cs[i]? = some d → arr[i]? = some u → RepD w (cx B ι) ι d u := by
 have := S.blks id
 rw [h] at this
 exact this
theorem sa {B : dt} {s : St} {ι : Nat → Con} {a : Act} {w : World} (S : Sim B s ι a w) {id e sz : Nat} {es : List (List V)} (h : s.h id = .row e sz es) {u : Value}
 (hr : RepD w (cx B ι) ι (.own id) u) : ∃ g c, ι id = .row g es.length c ∧ u = lP g es.length c := by
 obtain ⟨g, c, h1⟩ := jd S h
 exact ⟨g, c, h1, hr.own_inv.2 g _ c h1⟩
theorem tw {B : dt} {s : St} {ι : Nat → Con} {a : Act} {w : World} (S : Sim B s ι a w) {d : D} {u : Value} (h : d.one s.h = true) (hr : RepD w (cx B ι) ι d u) : u.oneCell' = true := by
 cases hr with
 | v h1 => exact h1.oneCell h
 | nils => rfl
 | own id u h0 h1 =>
   simp only [D.one] at h
   split at h
   ·rename_i hb
    obtain ⟨g, c, h2⟩ := jd S hb
    rw [h1 _ _ _ h2]; cases g <;> rfl
   ·rename_i hb
    obtain ⟨g, n, c, h2⟩ := tz S hb
    rw [h1 _ _ _ h2]; cases g <;> rfl
   ·cases h
 | ptr id n u h0 h1 =>
   simp only [D.one] at h
   split at h
   ·rename_i hb
    obtain ⟨b, _, _, h2, _⟩ := eZ S hb
    rw [h1 _ h2]; rfl
   ·cases h
 | eptr id i u h0 h1 => simp [D.one] at h
 | agg => simp [D.one] at h
 | fn => rfl
 | tup => simp [D.one] at h
 | any => simp [D.one] at h
theorem lO {B : dt} {s : St} {ι : Nat → Con} {a : Act} {w : World} (S : Sim B s ι a w) {d : D} {u : Value} {ds : List D} (h : d.flat s.h = some ds) (hr : RepD w (cx B ι) ι d u) :
 u.cells.size = ds.length ∧ ∀ (i : Nat) x y, ds[i]? = some x → u.cells[i]? = some y → RepD w (cx B ι) ι x y := by
 have single : ∀ (v : Value), v.cells = #[v] → ds = [d] → v = u → u.cells.size = ds.length ∧ ∀ (i : Nat) x y, ds[i]? = some x → u.cells[i]? = some y → RepD w (cx B ι) ι x y := by
  intro v hv hd hu
  subst hd; subst hu
  rw [hv]
  refine ⟨rfl, fun i x y hx hy => ?_⟩
  cases i with
  | zero => simp at hx hy; subst hx; subst hy; exact hr
  | succ i => simp at hx
 cases d with
 | v x =>
   have hx := aA hr
   have hnt : ∀ vs, x ≠ .tup vs := by
    intro vs e; subst e; simp [D.flat] at h
   obtain ⟨h1, h2⟩ := hx.cells hnt
   have hds : ds = x.cells.map .v := by
    cases x <;> simp_all [D.flat]
   subst hds
   refine ⟨by simpa using h1, fun i a b ha hb => ?_⟩
   rw [List.getElem?_map] at ha
   cases hc : x.cells[i]? with
   | none => rw [hc] at ha; cases ha
   | some c => rw [hc] at ha; cases ha; exact .v (h2 i c b hc hb)
 | nils =>
   simp [D.flat] at h
   exact single _ rfl h.symm hr.nils_inv.symm
 | own id =>
   simp only [D.flat] at h
   split at h
   ·rename_i hb
    obtain ⟨g, c, _, h2⟩ := sa S hb hr
    cases h
    exact single u (by rw [h2]; cases g <;> rfl) rfl rfl
   ·rename_i hb
    obtain ⟨g, n, c, h2⟩ := tz S hb
    cases h
    exact single u (by rw [hr.own_inv.2 g n c h2]; cases g <;> rfl) rfl rfl
   ·cases h
 | ptr id n =>
   simp only [D.flat] at h
   split at h
   ·rename_i hb
    obtain ⟨b, _, _, h2, _⟩ := eZ S hb
    cases h
    exact single u (by rw [hr.ptr_inv.2 b h2]; rfl) rfl rfl
   ·cases h
 | eptr id i => simp [D.flat] at h
 | agg cs =>
   simp [D.flat] at h; subst h
   cases hr with | agg _ us hs hv => exact ⟨hs, hv⟩
 | fn f a b =>
   simp [D.flat] at h
   cases hr with | fn _ _ _ us ws hs hs' hv hv' => exact single _ rfl h.symm rfl
 | tup ds => simp [D.flat] at h
 | any => simp [D.flat] at h
end Go.Vd
namespace Go.Vd
open Go.RowKit
def TI.isAgg (t : TI) : Bool := match t.kind with | .struct _ | .array _ _ => true | _ => false
def TI.sliceElem (t : TI) : Option Nat := match t.kind with | .slice e => some e | _ => none
def TI.field (t : TI) (f : Nat) : Option Nat := match t.kind with | .struct fos => (fos[f]?).map (·.1) | _ => none
def TI.arr (t : TI) : Option (Nat × Nat) := match t.kind with | .array l e => some (l, e) | _ => none
def hF (F : List (Nat × Blk)) (id : Nat) : Blk := (lk F id).getD .dead
def cV (P : Program) (o : Oper) (s : St) (d : D) (e : List (Nat × Blk)) : Prop :=
 ∀ (B : dt) (ι : Nat → Con) (a : Act) (w : World), Sim B s ι a w →
   ∃ u w' ι', ((execOp a.eval o).run P w = .ok (.value u) w' ∨ ((execOp a.eval o).run P w = .ok .skip w' ∧ u = undef)) ∧ Sim B (s.eff e) ι' a w' ∧ RepD w' (cx B ι') ι' d u
theorem bi {P : Program} {o : Oper} {s : St} {d : D}
 (h : ∀ (B : dt) (ι : Nat → Con) (a : Act) (w : World), Sim B s ι a w → ∃ u, (execOp a.eval o).run P w = .ok (.value u) w ∧ RepD w (cx B ι) ι d u) : cV P o s d [] := by
 intro B ι a w S
 obtain ⟨u, h1, h2⟩ := h B ι a w S
 exact ⟨u, w, ι, .inl h1, S, h2⟩
section
variable {P : Program} {tab : kt} {o : Oper} {s : St}
theorem qM {x : Operand} {d : D} (ho : o.op = .move x ∨ o.op = .assign x) (hx : s.ev x = some d) : cV P o s d [] :=
 bi fun B ι a w S => ⟨a.eval x, by rcases ho with ho | ho <;> simp [execOp, ho], S.ev hx⟩
theorem qN {c x y : Operand} {d : D} {b : Bool} (ho : o.op = .pick c x y) (hc : s.ev c = some (.v (.bool b))) (hx : s.ev (if b then x else y) = some d) : cV P o s d [] :=
 bi fun B ι a w S => by
  have h2 := (aA (S.ev hc)).bool_inv
  refine ⟨a.eval (if b then x else y), ?_, S.ev hx⟩
  cases b <;> simp [execOp, ho, h2, asBool]
theorem An {x : Operand} {T : TypeId} {b : Bool} (ho : o.op = .unOp .not T x) (hx : s.ev x = some (.v (.bool b))) : cV P o s (.v (.bool (!b))) [] :=
 bi fun B ι a w S => by
  have h2 := (aA (S.ev hx)).bool_inv
  exact ⟨.bool (!b), by simp [execOp, ho, h2, Op.unary], .v (.bool _)⟩
theorem je {w : World} {im : Nat → Prop} {es : List (List V)} {u : Value} (h : RepV w im (.sl es) u) : ∃ a c, u = .slice a es.length c := by
 cases h with
 | sl0 a c => exact ⟨a, c, rfl⟩
 | sl _ b o sz c => exact ⟨_, c, rfl⟩
theorem rf {t : TypeId} {x : Operand} {a : Act} {w : World} {e n c : Nat} {b : Option Addr} (ho : o.op = .call { callee := .builtin .len, args := #[x], argTypes := #[t] })
 (ht : P.underlying t = some (.slice e)) (hx : a.eval x = .slice b n c) : (execOp a.eval o).run P w = .ok (.value (.int .i64 n)) w := by
 simp [execOp, ho, resolve, invoke, builtin, Builtin.len_, hx, run_underlying ht, goInt]
theorem ct (hT : bg P tab = true) {t e : Nat} {ti : TI} (hl : lk tab t = some ti) (he : ti.sliceElem = some e) : P.underlying t = some (.slice e) := by
 have h := dl (bT hT hl)
 unfold TI.sliceElem at he
 cases hk : ti.kind <;> rw [hk] at he h <;> simp at he
 subst he; exact h
theorem uN (hT : bg P tab = true) {t e : Nat} {ti : TI} {x : Operand} {es : List (List V)} (ho : o.op = .call { callee := .builtin .len, args := #[x], argTypes := #[t] })
 (hl : lk tab t = some ti) (he : ti.sliceElem = some e) (hx : s.ev x = some (.v (.sl es))) : cV P o s (.v (.int .i64 es.length)) [] :=
 bi fun B ι a w S => by
  obtain ⟨b, c, h1⟩ := je (aA (S.ev hx))
  exact ⟨_, rf ho (ct hT hl he) h1, .v (.int _ _)⟩
theorem qZ (hT : bg P tab = true) {t e : Nat} {ti : TI} {x : Operand} {id e' sz : Nat} {es : List (List V)} (ho : o.op = .call { callee := .builtin .len, args := #[x], argTypes := #[t] })
 (hl : lk tab t = some ti) (he : ti.sliceElem = some e) (hx : s.ev x = some (.own id)) (hb : s.h id = .row e' sz es) : cV P o s (.v (.int .i64 es.length)) [] :=
 bi fun B ι a w S => by
  obtain ⟨g, c, h1, h2⟩ := sa S hb (S.ev hx)
  refine ⟨_, ?_, .v (.int _ _)⟩
  cases g with
  | some g => exact rf ho (ct hT hl he) h2
  | none =>
    have h3 := S.blks id
    rw [hb] at h3
    obtain ⟨_, _, ⟨_, h4⟩ | ⟨g, cap, arr, h4, _⟩⟩ := h3
    ·subst h4
     exact rf (n := 0) ho (ct hT hl he) h2
    ·rw [h1] at h4; cases h4
theorem rQ (hT : bg P tab = true) {t : Nat} {ti : TI} {x : Operand} {b : ByteArray} (ho : o.op = .call { callee := .builtin .len, args := #[x], argTypes := #[t] })
 (hl : lk tab t = some ti) (he : ti.kind = .string) (hx : s.ev x = some (.v (.str b))) : cV P o s (.v (.int .i64 b.size)) [] :=
 bi fun B ι a w S => by
  have h2 := (aA (S.ev hx)).str_inv
  have h3 := dl (bT hT hl)
  rw [he] at h3
  exact ⟨.int .i64 b.size, by simp [execOp, ho, resolve, invoke, builtin, Builtin.len_, h2, run_underlying h3, goInt], .v (.int _ _)⟩
theorem ww (hT : bg P tab = true) {t f k : Nat} {ti : TI} (hl : lk tab t = some ti) (he : ti.field f = some k) :
 ∃ fs fl j, P.underlying t = some (.struct fs) ∧ fs[f]? = some fl ∧ fl.offset = k ∧ P.info? fl.type = some j ∧ j.size ≠ 0 := by
 have h := dl (bT hT hl)
 unfold TI.field at he
 cases hk : ti.kind <;> rw [hk] at he h <;> try (cases he; done)
 obtain ⟨fs, h1, h2, h3⟩ := h
 rw [← h2] at he
 simp only [List.getElem?_map, Option.map_eq_some_iff] at he
 obtain ⟨_, ⟨fl, h4, rfl⟩, h5⟩ := he
 obtain ⟨j, h6, h7⟩ := h3 fl (List.mem_of_getElem? h4)
 exact ⟨fs, fl, j, h1, by simpa using h4, h5, h6, h7⟩
theorem lD (hT : bg P tab = true) {T f k : Nat} {ti : TI} {x : Operand} {a : Act} {w : World} {b n : Nat} (ho : o.op = .fieldAddr T x f)
 (hl : lk tab T = some ti) (he : ti.field f = some k) (hx : a.eval x = .pointer (some ⟨b, n, none⟩)) :
 (execOp a.eval o).run P w = .ok (.value (.pointer (some ⟨b, n + k, none⟩))) w := by
 obtain ⟨fs, fl, j, h1, h2, h3, h4, h5⟩ := ww hT hl he
 simp [execOp, ho, Instr.fieldAt, run_underlying h1, h2, Instr.sureAddr, hx, fieldPlace, sizeOf, typeInfo, h4, h5, Addr.add_lit, h3]
theorem sO (hT : bg P tab = true) {T f k : Nat} {ti : TI} {x : Operand} {id n : Nat} {cs : List D} (ho : o.op = .fieldAddr T x f)
 (hl : lk tab T = some ti) (he : ti.field f = some k) (hx : s.ev x = some (.ptr id n)) (hb : s.h id = .box cs) : cV P o s (.ptr id (n + k)) [] :=
 bi fun B ι a w S => by
  obtain ⟨b, arr, ty, h1, _⟩ := eZ S hb
  have h2 := (S.ev hx).ptr_inv
  refine ⟨_, lD hT ho hl he (h2.2 b h1), .ptr id _ _ h2.1 fun b' hb' => ?_⟩
  rw [h1] at hb'; cases hb'; rfl
theorem uC (hT : bg P tab = true) {T f k : Nat} {ti : TI} {x : Operand} {cs : List V} (ho : o.op = .fieldAddr T x f)
 (hl : lk tab T = some ti) (he : ti.field f = some k) (hx : s.ev x = some (.v (.ref cs))) : cV P o s (.v (.ref (cs.drop k))) [] :=
 bi fun B ι a w S => by
  have h1 := aA (S.ev hx)
  generalize hu : a.eval x = u at h1
  cases h1 with
  | ref _ b n hb hlt hc hv =>
    refine ⟨_, lD hT ho hl he hu, .v (.ref _ b (n + k) hb hlt ?_ ?_)⟩
    ·intro j hj
     have := hc (k + j) (by simp at hj; omega)
     rwa [← Nat.add_assoc] at this
    ·intro j v u' hj hu'
     refine hv (k + j) v u' (by simpa using hj) ?_
     rwa [← Nat.add_assoc]
theorem la (hT : bg P tab = true) {T : Nat} {ti : TI} (hl : lk tab T = some ti) (w : World) : (isAgg T).run P w = .ok ti.isAgg w := by
 have h := dl (bT hT hl)
 unfold TI.isAgg
 cases hk : ti.kind <;> rw [hk] at h
 case struct fos => obtain ⟨fs, h1, _⟩ := h; simp [isAgg, run_underlying h1]
 case other => obtain ⟨_, _, _, h1⟩ := h; simp [isAgg, run_underlying h1]
 case iface => obtain ⟨_, h1⟩ := h; simp [isAgg, run_underlying h1]
 all_goals simp [isAgg, run_underlying h]
theorem gw (hT : bg P tab = true) {T : Nat} {ti : TI} (hl : lk tab T = some ti) (ha : ti.isAgg = false) {w : World} {b n : Nat} {u : Value} (hc : w.cell? ⟨b, n, none⟩ = some u) :
 (loadVar T ⟨b, n, none⟩).run P w = .ok u w := by
 simp [loadVar, la hT hl, ha, hc]
theorem fN (hT : bg P tab = true) {T : Nat} {ti : TI} (hl : lk tab T = some ti) (ha : ti.isAgg = true) {w : World} {b n : Nat} (f : Nat → Value)
 (hc : ∀ j, j < ti.size → w.cell? ⟨b, n + j, none⟩ = some (f j)) : (loadVar T ⟨b, n, none⟩).run P w = .ok (.agg ((List.range ti.size).map f).toArray) w := by
 obtain ⟨i, z, h1, h2, _⟩ := dB (bT hT hl)
 have := run_loadCells (P := P) w ⟨b, n, none⟩ ti.size f (fun j hj => by rw [Addr.add_lit]; exact hc j hj)
 simp [loadVar, la hT hl, ha, sizeOf, typeInfo, h1, h2, this]
theorem gb {T : Nat} {x : Operand} {a : Act} {w : World} {b n : Nat} {u : Value} (ho : o.op = .load T x) (hx : a.eval x = .pointer (some ⟨b, n, none⟩))
 (h : (loadVar T ⟨b, n, none⟩).run P w = .ok u w) : (execOp a.eval o).run P w = .ok (.value u) w := by
 simp [execOp, ho, Instr.loadAt, Instr.sureAddr, hx, h]
theorem uQ (hT : bg P tab = true) {T : Nat} {ti : TI} {x : Operand} {id n : Nat} {cs : List D} {d : D} (ho : o.op = .load T x) (hl : lk tab T = some ti) (ha : ti.isAgg = false)
 (hx : s.ev x = some (.ptr id n)) (hb : s.h id = .box cs) (hd : cs[n]? = some d) : cV P o s d [] :=
 bi fun B ι a w S => by
  obtain ⟨b, arr, ty, h1, h2, h3, h4⟩ := eZ S hb
  have h5 := (S.ev hx).ptr_inv.2 b h1
  have hlt : n < arr.size := by rw [h3]; exact (List.getElem?_eq_some_iff.1 hd).1
  have hc : w.cell? ⟨b, n, none⟩ = some arr[n] := by rw [cell_of_row w b n arr ty (0, 0) h2]; simp [hlt]
  exact ⟨arr[n], gb ho h5 (gw hT hl ha hc), h4 n d _ hd (by simp [hlt])⟩
theorem rd (hT : bg P tab = true) {T : Nat} {ti : TI} {x : Operand} {id n : Nat} {cs : List D} (ho : o.op = .load T x) (hl : lk tab T = some ti) (ha : ti.isAgg = true)
 (hx : s.ev x = some (.ptr id n)) (hb : s.h id = .box cs) (hs : n + ti.size ≤ cs.length) : cV P o s (mkAgg ((cs.drop n).take ti.size)) [] :=
 bi fun B ι a w S => by
  obtain ⟨b, arr, ty, h1, h2, h3, h4⟩ := eZ S hb
  have h5 := (S.ev hx).ptr_inv.2 b h1
  have hc : ∀ j, j < ti.size → w.cell? ⟨b, n + j, none⟩ = some (arr.getD (n + j) undef) := fun j hj => by
   rw [cell_of_row w b (n + j) arr ty (0, 0) h2]
   have : n + j < arr.size := by omega
   simp [this, Array.getD]
  refine ⟨_, gb ho h5 (fN hT hl ha _ hc), RepD.mkAgg (.agg _ _ ?_ ?_)⟩
  ·simp; omega
  ·intro i v u hv hu
   rw [List.getElem?_take] at hv
   split at hv
   ·rename_i hi
    have hlt : n + i < arr.size := by omega
    simp only [List.getElem?_drop] at hv
    have : arr[n + i]? = some u := by
     simp [hi, Array.getD, hlt] at hu
     simp [hlt, hu]
    exact h4 (n + i) v u hv this
   ·cases hv
theorem j9 {w : World} {im : Nat → Prop} {cs : List V} {u : Value} (h : RepV w im (.ref cs) u) : ∃ b n, u = .pointer (some ⟨b, n, none⟩) ∧ im b ∧ b < w.heap.size ∧
 (∀ j, j < cs.length → (w.cell? ⟨b, n + j, none⟩).isSome = true) ∧ ∀ (j : Nat) v u, cs[j]? = some v → w.cell? ⟨b, n + j, none⟩ = some u → RepV w im v u := by
 cases h with | ref _ b n hb hlt hc hv => exact ⟨b, n, rfl, hb, hlt, hc, hv⟩
theorem tu (hT : bg P tab = true) {T : Nat} {ti : TI} {x : Operand} {cs : List V} {y : V} (ho : o.op = .load T x) (hl : lk tab T = some ti) (ha : ti.isAgg = false)
 (hx : s.ev x = some (.v (.ref cs))) (hd : cs[0]? = some y) : cV P o s (.v y) [] :=
 bi fun B ι a w S => by
  obtain ⟨b, n, h1, _, _, hc, hv⟩ := j9 (aA (S.ev hx))
  have h2 := hc 0 (List.getElem?_eq_some_iff.1 hd).1
  obtain ⟨u, h3⟩ := Option.isSome_iff_exists.1 h2
  exact ⟨u, gb ho h1 (gw hT hl ha h3), .v (hv 0 y u hd h3)⟩
theorem rK (hT : bg P tab = true) {T : Nat} {ti : TI} {x : Operand} {cs : List V} (ho : o.op = .load T x) (hl : lk tab T = some ti) (ha : ti.isAgg = true)
 (hx : s.ev x = some (.v (.ref cs))) (hs : ti.size ≤ cs.length) : cV P o s (.v (.agg (cs.take ti.size))) [] :=
 bi fun B ι a w S => by
  obtain ⟨b, n, h1, _, _, hc, hv⟩ := j9 (aA (S.ev hx))
  have hc' : ∀ j, j < ti.size → w.cell? ⟨b, n + j, none⟩ = some ((w.cell? ⟨b, n + j, none⟩).getD undef) := fun j hj => by
   obtain ⟨u, h3⟩ := Option.isSome_iff_exists.1 (hc j (by omega))
   rw [h3]; rfl
  refine ⟨_, gb ho h1 (fN hT hl ha _ hc'), .v (.agg _ _ (by simp; omega) ?_)⟩
  intro i v u hv' hu
  rw [List.getElem?_take] at hv'
  split at hv'
  ·rename_i hi
   refine hv i v u hv' ?_
   simp [hi] at hu
   rw [← hu]; exact hc' i hi
  ·cases hv'
theorem jx {w : World} {im : Nat → Prop} {ι : Nat → Con} {e sz : Nat} {es : List (List V)} {c : Con} (h : BlkRel w im ι (.row e sz es) c) (hne : es ≠ []) :
 ∃ g cap arr, c = .row (some g) es.length cap ∧ w.heap[g]? = some (.cells arr e (0, 0)) ∧ es.length ≤ cap ∧ cap ≤ maxLen ∧ arr.size = cap * sz ∧
     ∀ (i j : Nat) el v u, es[i]? = some el → el[j]? = some v → arr[i * sz + j]? = some u → RepV w im v u := by
 obtain ⟨_, _, h | h⟩ := h
 ·exact absurd h.2 hne
 ·exact h
theorem rb (hT : bg P tab = true) {T : Nat} {ti : TI} {x : Operand} {id n e : Nat} {es : List (List V)} {y : V} (ho : o.op = .load T x) (hl : lk tab T = some ti) (ha : ti.isAgg = false)
 (hx : s.ev x = some (.eptr id n)) (hb : s.h id = .row e 1 es) (hd : es[n]? = some [y]) : cV P o s (.v y) [] :=
 bi fun B ι a w S => by
  have h0 := S.blks id
  rw [hb] at h0
  obtain ⟨g, cap, arr, h1, h2, h3, h4, h5, h6⟩ := jx h0 (by intro h; rw [h] at hd; cases hd)
  have h7 := (S.ev hx).eptr_inv.2 g _ cap h1
  have hn : n < es.length := (List.getElem?_eq_some_iff.1 hd).1
  have hlt : n < arr.size := by omega
  have hc : w.cell? ⟨g, n, none⟩ = some arr[n] := by rw [cell_of_row w g n arr e (0, 0) h2]; simp [hlt]
  exact ⟨arr[n], gb ho h7 (gw hT hl ha hc), .v (h6 n 0 [y] y _ hd rfl (by simp [hlt]))⟩
theorem fL {T e : Nat} {x i : Operand} {a : Act} {w : World} {b q len c : Nat} {k : IntKind} {n : Int} {j : TypeInfo} (ho : o.op = .indexAddr T x i)
 (ht : P.underlying T = some (.slice e)) (hj : P.info? e = some j) (hx : a.eval x = .slice (some ⟨b, q, none⟩) len c) (hi : a.eval i = .int k n) (h0 : 0 ≤ n) (h1 : n < len) :
 (execOp a.eval o).run P w = .ok (.value (.pointer (some ⟨b, q + n.toNat * j.size, none⟩))) w := by
 simp [execOp, ho, Instr.indexAt, run_underlying ht, hx, hi, asIntOf, h0, h1, sizeOf, typeInfo, hj, Addr.add_lit]
theorem uW (hT : bg P tab = true) {T e : Nat} {ti te : TI} {x i : Operand} {es : List (List V)} {el : List V} {k : IntKind} {n : Int} (ho : o.op = .indexAddr T x i)
 (hl : lk tab T = some ti) (he : ti.sliceElem = some e) (hle : lk tab e = some te) (hx : s.ev x = some (.v (.sl es))) (hi : s.ev i = some (.v (.int k n)))
 (h0 : 0 ≤ n) (hel : es[n.toNat]? = some el) (hsz : te.size = el.length) : cV P o s (.v (.ref el)) [] :=
 bi fun B ι a w S => by
  have hi' : a.eval i = .int k n := (aA (S.ev hi)).int_inv
  have h1 := aA (S.ev hx)
  obtain ⟨hn, hel'⟩ := List.getElem?_eq_some_iff.1 hel
  obtain ⟨j, z, hj, hjs, _⟩ := dB (bT hT hle)
  generalize hu : a.eval x = u at h1
  cases h1 with
  | sl0 => simp at hn
  | sl _ b q sz c hb hlt hcap hs hc hv =>
    have hsz' : sz = el.length := (hs el (List.mem_of_getElem? hel)).symm
    refine ⟨_, fL ho (ct hT hl he) hj hu hi' h0 (by omega), .v (.ref _ b _ hb hlt ?_ ?_)⟩
    ·intro m hm
     have := hc n.toNat m hn (by omega)
     rw [hjs, hsz, ← hsz']; exact this
    ·intro m v u' hm hu'
     refine hv n.toNat m el v u' hel hm ?_
     rw [hjs, hsz, ← hsz'] at hu'; exact hu'
theorem tQ (hT : bg P tab = true) {T e : Nat} {ti te : TI} {x i : Operand} {id e' : Nat} {es : List (List V)} {k : IntKind} {n : Int} (ho : o.op = .indexAddr T x i)
 (hl : lk tab T = some ti) (he : ti.sliceElem = some e) (hle : lk tab e = some te) (hsz : te.size = 1) (hx : s.ev x = some (.own id)) (hi : s.ev i = some (.v (.int k n)))
 (hb : s.h id = .row e' 1 es) (h0 : 0 ≤ n) (h1 : n < es.length) : cV P o s (.eptr id n.toNat) [] :=
 bi fun B ι a w S => by
  have hi' : a.eval i = .int k n := (aA (S.ev hi)).int_inv
  obtain ⟨j, z, hj, hjs, _⟩ := dB (bT hT hle)
  have hb0 := S.blks id
  rw [hb] at hb0
  obtain ⟨g, cap, arr, h2, _⟩ := jx hb0 (by intro h; rw [h] at h1; simp at h1; omega)
  have hx' := (S.ev hx).own_inv
  refine ⟨_, fL ho (ct hT hl he) hj (hx'.2 _ _ _ h2) hi' h0 h1, .eptr id _ _ hx'.1 fun g' m' c' h => ?_⟩
  rw [h2] at h; cases h
  rw [hjs, hsz]; simp
theorem mg (hT : bg P tab = true) {t l e : Nat} {ti : TI} (hl : lk tab t = some ti) (he : ti.arr = some (l, e)) : P.underlying t = some (.array l e) := by
 have h := dl (bT hT hl)
 unfold TI.arr at he
 cases hk : ti.kind <;> rw [hk] at he h <;> simp at he
 obtain ⟨rfl, rfl⟩ := he; exact h
theorem mD {T l e : Nat} {x i : Operand} {a : Act} {w : World} {b q : Nat} {k : IntKind} {n : Int} {j : TypeInfo} (ho : o.op = .indexAddr T x i)
 (ht : P.underlying T = some (.array l e)) (hj : P.info? e = some j) (hx : a.eval x = .pointer (some ⟨b, q, none⟩)) (hi : a.eval i = .int k n) (h0 : 0 ≤ n) (h1 : n < l) :
 (execOp a.eval o).run P w = .ok (.value (.pointer (some ⟨b, q + n.toNat * j.size, none⟩))) w := by
 simp [execOp, ho, Instr.indexAt, run_underlying ht, hx, hi, asIntOf, h0, h1, sizeOf, typeInfo, hj, Addr.add_lit, Instr.sureAddr]
theorem uz (hT : bg P tab = true) {T l e : Nat} {ti te : TI} {x i : Operand} {id q : Nat} {cs : List D} {k : IntKind} {n : Int} (ho : o.op = .indexAddr T x i)
 (hl : lk tab T = some ti) (he : ti.arr = some (l, e)) (hle : lk tab e = some te) (hx : s.ev x = some (.ptr id q)) (hi : s.ev i = some (.v (.int k n)))
 (hb : s.h id = .box cs) (h0 : 0 ≤ n) (h1 : n < l) : cV P o s (.ptr id (q + n.toNat * te.size)) [] :=
 bi fun B ι a w S => by
  have hi' : a.eval i = .int k n := (aA (S.ev hi)).int_inv
  obtain ⟨j, z, hj, hjs, _⟩ := dB (bT hT hle)
  obtain ⟨b, arr, ty, h2, _⟩ := eZ S hb
  have hx' := (S.ev hx).ptr_inv
  refine ⟨_, mD ho (mg hT hl he) hj (hx'.2 b h2) hi' h0 h1, .ptr id _ _ hx'.1 fun b' hb' => ?_⟩
  rw [h2] at hb'; cases hb'; rw [hjs]
theorem sU (hT : bg P tab = true) {T l e : Nat} {ti te : TI} {x i : Operand} {cs : List V} {y : V} {k : IntKind} {n : Int} (ho : o.op = .index T x i)
 (hl : lk tab T = some ti) (he : ti.arr = some (l, e)) (hle : lk tab e = some te) (ha : te.isAgg = false) (hsz : te.size = 1) (hx : s.ev x = some (.v (.agg cs))) (hi : s.ev i = some (.v (.int k n)))
 (h0 : 0 ≤ n) (h1 : n < l) (hy : cs[n.toNat]? = some y) : cV P o s (.v y) [] :=
 bi fun B ι a w S => by
  have hi' : a.eval i = .int k n := (aA (S.ev hi)).int_inv
  obtain ⟨j, z, hj, hjs, _⟩ := dB (bT hT hle)
  have hx' := aA (S.ev hx)
  generalize hu : a.eval x = u at hx'
  cases hx' with
  | agg _ us hs hv =>
    have hlt : n.toNat < us.size := by rw [hs]; exact (List.getElem?_eq_some_iff.1 hy).1
    refine ⟨us[n.toNat], ?_, .v (hv n.toNat y _ hy (by simp [hlt]))⟩
    simp [execOp, ho, Instr.index, run_underlying (mg hT hl he), hu, hi', asIntOf, h0, h1, part, la hT hle, ha, sizeOf, typeInfo, hj, hjs, hsz, hlt]
theorem tx (hT : bg P tab = true) {T : Nat} {ti : TI} {x i : Operand} {b : ByteArray} {k : IntKind} {n : Int} {c : UInt8} (ho : o.op = .index T x i)
 (hl : lk tab T = some ti) (he : ti.kind = .string) (hx : s.ev x = some (.v (.str b))) (hi : s.ev i = some (.v (.int k n)))
 (h0 : 0 ≤ n) (hc : b[n.toNat]? = some c) : cV P o s (.v (.int .u8 c.toNat)) [] :=
 bi fun B ι a w S => by
  have hi' : a.eval i = .int k n := (aA (S.ev hi)).int_inv
  have hx' : a.eval x = .string b := (aA (S.ev hx)).str_inv
  have h3 := dl (bT hT hl)
  rw [he] at h3
  exact ⟨_, by simp [execOp, ho, Instr.index, run_underlying h3, hx', hi', asIntOf, h0, hc], .v (.int _ _)⟩
end
end Go.Vd
namespace Go.Vd
open Go.RowKit
section
variable {P : Program} {tab : kt} {o : Oper} {s : St}
theorem eG {op : BinOp} {T T' : TypeId} {x y : Operand} {k k' : IntKind} {a b : Int} {r : V} (ho : o.op = .binOp op T x y T') (hx : s.ev x = some (.v (.int k a))) (hy : s.ev y = some (.v (.int k' b)))
 (h : ∀ (w : World), ∃ u, (binOp op T (.int k a) (.int k' b)).run P w = .ok u w ∧ ∀ im, RepV w im r u) : cV P o s (.v r) [] :=
 bi fun B ι c w S => by
  have h1 := (aA (S.ev hx)).int_inv
  have h2 := (aA (S.ev hy)).int_inv
  obtain ⟨u, h3, h4⟩ := h w
  exact ⟨u, by simp [execOp, ho, h1, h2, eqGuard_at_int, h3], .v (h4 _)⟩
theorem zr {T T' : TypeId} {x y : Operand} {k : IntKind} {a b r : Int} (ho : o.op = .binOp .add T x y T') (hx : s.ev x = some (.v (.int k a))) (hy : s.ev y = some (.v (.int k b)))
 (hr : k.wrap (a + b) = r) : cV P o s (.v (.int k r)) [] :=
 eG ho hx hy fun w => ⟨.int k r, by simp [binOp_add, Op.intArith, hr], fun _ => .int _ _⟩
theorem ud {T T' : TypeId} {x y : Operand} {k : IntKind} {a b r : Int} (ho : o.op = .binOp .sub T x y T') (hx : s.ev x = some (.v (.int k a))) (hy : s.ev y = some (.v (.int k b)))
 (hr : k.wrap (a - b) = r) : cV P o s (.v (.int k r)) [] :=
 eG ho hx hy fun w => ⟨.int k r, by simp [binOp_sub, Op.intArith, hr], fun _ => .int _ _⟩
theorem zu {T T' : TypeId} {x y : Operand} {k : IntKind} {a b r : Int} (ho : o.op = .binOp .mul T x y T') (hx : s.ev x = some (.v (.int k a))) (hy : s.ev y = some (.v (.int k b)))
 (hr : k.wrap (a * b) = r) : cV P o s (.v (.int k r)) [] :=
 eG ho hx hy fun w => ⟨.int k r, by simp [binOp_mul, Op.intArith, hr], fun _ => .int _ _⟩
theorem AE {T T' : TypeId} {x y : Operand} {k : IntKind} {a b r : Int} (ho : o.op = .binOp .quo T x y T') (hx : s.ev x = some (.v (.int k a))) (hy : s.ev y = some (.v (.int k b)))
 (h0 : b ≠ 0) (hr : k.wrap (a.tdiv b) = r) : cV P o s (.v (.int k r)) [] :=
 eG ho hx hy fun w => ⟨.int k r, by simp [binOp_quo, Op.intDiv, hr, h0], fun _ => .int _ _⟩
theorem zZ {T T' : TypeId} {x y : Operand} {k : IntKind} {a b r : Int} (ho : o.op = .binOp .rem T x y T') (hx : s.ev x = some (.v (.int k a))) (hy : s.ev y = some (.v (.int k b)))
 (h0 : b ≠ 0) (hr : a.tmod b = r) : cV P o s (.v (.int k r)) [] :=
 eG ho hx hy fun w => ⟨.int k r, by simp [binOp_rem, Op.intDiv, hr, h0], fun _ => .int _ _⟩
theorem zt {T T' : TypeId} {x y : Operand} {k : IntKind} {a b : Int} (ho : o.op = .binOp .eql T x y T') (hx : s.ev x = some (.v (.int k a))) (hy : s.ev y = some (.v (.int k b))) :
 cV P o s (.v (.bool (decide (a = b)))) [] :=
 eG ho hx hy fun w => ⟨.bool (decide (a = b)), by simp [binOp_eql]; rfl, fun _ => .bool _⟩
theorem zo {T T' : TypeId} {x y : Operand} {k : IntKind} {a b : Int} (ho : o.op = .binOp .neq T x y T') (hx : s.ev x = some (.v (.int k a))) (hy : s.ev y = some (.v (.int k b))) :
 cV P o s (.v (.bool (decide (a ≠ b)))) [] :=
 eG ho hx hy fun w => ⟨.bool (decide (a ≠ b)), by simp [binOp_neq, bne, BEq.beq], fun _ => .bool _⟩
theorem y8 {T T' : TypeId} {x y : Operand} {k : IntKind} {a b : Int} (ho : o.op = .binOp .lss T x y T') (hx : s.ev x = some (.v (.int k a))) (hy : s.ev y = some (.v (.int k b))) :
 cV P o s (.v (.bool (decide (a < b)))) [] :=
 eG ho hx hy fun w => ⟨.bool (decide (a < b)), by simp [binOp_lss], fun _ => .bool _⟩
theorem Ay {T T' : TypeId} {x y : Operand} {k : IntKind} {a b : Int} (ho : o.op = .binOp .leq T x y T') (hx : s.ev x = some (.v (.int k a))) (hy : s.ev y = some (.v (.int k b))) :
 cV P o s (.v (.bool (decide (a ≤ b)))) [] :=
 eG ho hx hy fun w => ⟨.bool (decide (a ≤ b)), by simp [binOp_leq], fun _ => .bool _⟩
theorem Ar {T T' : TypeId} {x y : Operand} {k : IntKind} {a b : Int} (ho : o.op = .binOp .gtr T x y T') (hx : s.ev x = some (.v (.int k a))) (hy : s.ev y = some (.v (.int k b))) :
 cV P o s (.v (.bool (decide (a > b)))) [] :=
 eG ho hx hy fun w => ⟨.bool (decide (a > b)), by simp [binOp_gtr], fun _ => .bool _⟩
theorem Ak {T T' : TypeId} {x y : Operand} {k : IntKind} {a b : Int} (ho : o.op = .binOp .geq T x y T') (hx : s.ev x = some (.v (.int k a))) (hy : s.ev y = some (.v (.int k b))) :
 cV P o s (.v (.bool (decide (a ≥ b)))) [] :=
 eG ho hx hy fun w => ⟨.bool (decide (a ≥ b)), by simp [binOp_geq], fun _ => .bool _⟩
theorem qH {op : BinOp} {T T' : TypeId} {x y : Operand} {k : IntKind} {a b r : Int} (ho : o.op = .binOp op T x y T') (hop : op = .and ∨ op = .or ∨ op = .xor) (hx : s.ev x = some (.v (.int k a))) (hy : s.ev y = some (.v (.int k b)))
 (hr : bits op k a b = r) : cV P o s (.v (.int k r)) [] :=
 eG ho hx hy fun w => ⟨.int k r, by rcases hop with rfl | rfl | rfl <;> simp [binOp_and, binOp_or, binOp_xor, intBits_and, intBits_or, intBits_xor, hr], fun _ => .int _ _⟩
theorem AS {T T' : TypeId} {x y : Operand} {k k' : IntKind} {a b r : Int} (ho : o.op = .binOp .shr T x y T') (hx : s.ev x = some (.v (.int k a))) (hy : s.ev y = some (.v (.int k' b)))
 (h0 : 0 ≤ b) (h1 : b ≤ k.bits) (hr : a / 2 ^ b.toNat = r) : cV P o s (.v (.int k r)) [] :=
 eG ho hx hy fun w => ⟨.int k r, by simp [binOp_shr, shift_shr k k' a b h0 h1, hr], fun _ => .int _ _⟩
theorem yf (hT : bg P tab = true) {t : Nat} {ti : TI} (hl : lk tab t = some ti) (he : ti.kind = .bool) : P.underlying t = some .bool := by
 have h := dl (bT hT hl)
 rw [he] at h; exact h
theorem yA (hT : bg P tab = true) {T T' : TypeId} {ti : TI} {x y : Operand} {a b : Bool} (ho : o.op = .binOp .eql T x y T') (hl : lk tab T = some ti) (he : ti.kind = .bool)
 (hx : s.ev x = some (.v (.bool a))) (hy : s.ev y = some (.v (.bool b))) : cV P o s (.v (.bool (a == b))) [] :=
 bi fun B ι c w S => by
  have h1 := (aA (S.ev hx)).bool_inv
  have h2 := (aA (S.ev hy)).bool_inv
  exact ⟨.bool (a == b), by simp [execOp, ho, h1, h2, eqGuard_at_bool, run_eql_bool w T a b (yf hT hl he)], .v (.bool _)⟩
theorem xM {T T' : TypeId} {x y : Operand} {a b : ByteArray} (ho : o.op = .binOp .eql T x y T')
 (hx : s.ev x = some (.v (.str a))) (hy : s.ev y = some (.v (.str b))) : cV P o s (.v (.bool (a.toList == b.toList))) [] :=
 bi fun B ι c w S => by
  have h1 := (aA (S.ev hx)).str_inv
  have h2 := (aA (S.ev hy)).str_inv
  exact ⟨.bool (a.toList == b.toList), by simp [execOp, ho, h1, h2, eqGuard_at_string, binOp, Op.stringOp], .v (.bool _)⟩
theorem x8 {T T' : TypeId} {x y : Operand} {a b : ByteArray} (ho : o.op = .binOp .add T x y T')
 (hx : s.ev x = some (.v (.str a))) (hy : s.ev y = some (.v (.str b))) (hs : a.size + b.size ≤ 9223372036854775807) : cV P o s (.v (.str (a ++ b))) [] :=
 bi fun B ι c w S => by
  have h1 := (aA (S.ev hx)).str_inv
  have h2 := (aA (S.ev hy)).str_inv
  have h3 : ¬ (9223372036854775807 < ((a.size : Int) + (b.size : Int))) := by omega
  exact ⟨.string (a ++ b), by simp [execOp, ho, h1, h2, eqGuard_at_string, binOp, Op.stringOp, h3], .v (.str _)⟩
theorem pW (hT : bg P tab = true) {src dst : TypeId} {ts td : TI} {x : Operand} {k k' : IntKind} {n r : Int} (ho : o.op = .convert src dst x)
 (hs : lk tab src = some ts) (hd : lk tab dst = some td) (hk : ts.kind = .int k) (hk' : td.kind = .int k') (hx : s.ev x = some (.v (.int k n))) (hr : k'.wrap n = r) : cV P o s (.v (.int k' r)) [] :=
 bi fun B ι c w S => by
  have h1 := (aA (S.ev hx)).int_inv
  have h2 := dl (bT hT hs)
  rw [hk] at h2
  have h3 := dl (bT hT hd)
  rw [hk'] at h3
  exact ⟨.int k' r, by simp [execOp, ho, h1, convert, run_underlying h2, run_underlying h3, Conv.intToInt, hr], .v (.int _ _)⟩
theorem zO {t : TypeId} {x y : Operand} {ats : Array TypeId} {k : IntKind} {a b : Int} (ho : o.op = .call { callee := .builtin .min, args := #[x, y], argTypes := ats })
 (hx : s.ev x = some (.v (.int k a))) (hy : s.ev y = some (.v (.int k b))) (_ : t = t := by rfl) : cV P o s (.v (.int k (min a b))) [] :=
 bi fun B ι c w S => by
  have h1 := (aA (S.ev hx)).int_inv
  have h2 := (aA (S.ev hy)).int_inv
  refine ⟨.int k (if b < a then b else a), by simp [execOp, ho, resolve, invoke, builtin, Builtin.min_, h1, h2, Builtin.min2], ?_⟩
  have : (if b < a then b else a) = min a b := by split <;> omega
  rw [this]; exact .v (.int _ _)
theorem mL {x : Operand} {id n : Nat} {cs : List D} (ho : o.op = .nilCheck x) (hx : s.ev x = some (.ptr id n)) (hb : s.h id = .box cs) : cV P o s (.ptr id n) [] :=
 bi fun B ι c w S => by
  obtain ⟨b, arr, ty, h2, _⟩ := eZ S hb
  have h1 := (S.ev hx).ptr_inv.2 b h2
  exact ⟨c.eval x, by simp [execOp, ho, h1], S.ev hx⟩
theorem rD {x : Operand} {i : Nat} {vs : List V} {v : V} (ho : o.op = .extract x i) (hx : s.ev x = some (.v (.tup vs))) (hv : vs[i]? = some v) : cV P o s (.v v) [] :=
 bi fun B ι c w S => by
  have h1 := aA (S.ev hx)
  generalize hu : c.eval x = u at h1
  cases h1 with
  | tup _ us hs h =>
    have hlt : i < us.size := by rw [hs]; exact (List.getElem?_eq_some_iff.1 hv).1
    exact ⟨us[i], by simp [execOp, ho, hu, Instr.extract, hlt], .v (h i v _ hv (by simp [hlt]))⟩
theorem pS {x : Operand} {i : Nat} {vs : List D} {v : D} (ho : o.op = .extract x i) (hx : s.ev x = some (.tup vs)) (hv : vs[i]? = some v) : cV P o s v [] :=
 bi fun B ι c w S => by
  have h1 := S.ev hx
  generalize hu : c.eval x = u at h1
  cases h1 with
  | tup _ us hs h =>
    have hlt : i < us.size := by rw [hs]; exact (List.getElem?_eq_some_iff.1 hv).1
    exact ⟨us[i], by simp [execOp, ho, hu, Instr.extract, hlt], h i v _ hv (by simp [hlt])⟩
def St.evs (s : St) : List Operand → Option (List D)
 | [] => some []
 | x :: r => match s.ev x, s.evs r with
   | some d, some ds => some (d :: ds)
   | _, _ => none
theorem Sim.evs {B : dt} {s : St} {ι : Nat → Con} {a : Act} {w : World} (S : Sim B s ι a w) : ∀ {xs : List Operand} {ds : List D}, s.evs xs = some ds →
 xs.length = ds.length ∧ ∀ (i : Nat) d u, ds[i]? = some d → (xs.map a.eval)[i]? = some u → RepD w (cx B ι) ι d u
 | [], ds, h => by simp [St.evs] at h; subst h; simp
 | x :: r, ds, h => by
   simp only [St.evs] at h
   split at h
   ·rename_i d ds' h1 h2
    cases h
    obtain ⟨h3, h4⟩ := S.evs h2
    refine ⟨by simp [h3], fun i e u he hu => ?_⟩
    cases i with
    | zero => simp at he hu; subst he; subst hu; exact S.ev h1
    | succ i => exact h4 i e u (by simpa using he) (by simpa using hu)
   ·cases h
def mkFn (f : Fn) (a b : List D) : D := match ks a, ks b with
 | some x, some y => .v (.fn f x y)
 | _, _ => .fn f a b
theorem RepD.mkFn {w : World} {im : Nat → Prop} {ι : Nat → Con} {f : Fn} {fas bs : List D} {u : Value} (h : RepD w im ι (.fn f fas bs) u) : RepD w im ι (mkFn f fas bs) u := by
 unfold Vd.mkFn
 split
 ·rename_i x y hx hy
  have h1 := gc hx; have h2 := gc hy; subst h1; subst h2
  cases h with
  | fn _ _ _ us ws hs hs' hv hv' => exact .v (.fn _ _ _ us ws (by simpa using hs) (by simpa using hs') (lS hv) (lS hv'))
 ·exact h
theorem pP {f : Fn} {first cap : Array Operand} {fas bs : List D} (ho : o.op = .makeFunc f first cap) (ha : s.evs first.toList = some fas) (hb : s.evs cap.toList = some bs) : cV P o s (mkFn f fas bs) [] :=
 bi fun B ι c w S => by
  obtain ⟨h1, h2⟩ := S.evs ha
  obtain ⟨h3, h4⟩ := S.evs hb
  refine ⟨.func f (first.map c.eval) (cap.map c.eval), by simp [execOp, ho, Instr.makeFunc], RepD.mkFn (.fn _ _ _ _ _ (by simpa using h1) (by simpa using h3) ?_ ?_)⟩
  ·intro i d u hd hu
   exact h2 i d u hd (by simpa using hu)
  ·intro i d u hd hu
   exact h4 i d u hd (by simpa using hu)
theorem mT {T e : Nat} {x : Operand} {lo hi : Option Operand} {a : Act} {w : World} {ad : Option Addr} {len cap l h : Nat} {j : TypeInfo} (ho : o.op = .slice T x lo hi none)
 (ht : P.underlying T = some (.slice e)) (hj : P.info? e = some j) (hx : a.eval x = .slice ad len cap)
 (hl : lo = none ∧ l = 0 ∨ ∃ y k n, lo = some y ∧ a.eval y = .int k n ∧ n = (l : Int)) (hh : hi = none ∧ h = len ∨ ∃ y k n, hi = some y ∧ a.eval y = .int k n ∧ n = (h : Int))
 (h1 : l ≤ h) (h2 : h ≤ cap) : (execOp a.eval o).run P w = .ok (.value (.slice (if cap = l then ad else ad.map (·.add (l * j.size))) (h - l) (cap - l))) w := by
 have e1 : ((l : Int) ≤ (h : Int)) := by omega
 have e2 : ((h : Int) ≤ (cap : Int)) := by omega
 have e3 : (0 : Int) ≤ (l : Int) := by omega
 have e4 : (0 : Int) ≤ (h : Int) := by omega
 rcases hl with ⟨rfl, rfl⟩ | ⟨y, k, n, rfl, hy, rfl⟩ <;> rcases hh with ⟨rfl, rfl⟩ | ⟨y', k', n', rfl, hy', rfl⟩ <;>
  simp [execOp, Instr.sliceAt, Instr.slice, run_underlying ht, Instr.sliceBounds, run_sliceBound, sizeOf, typeInfo, *]
theorem ox (hT : bg P tab = true) {T e : Nat} {ti te : TI} {x : Operand} {lo hi : Option Operand} {es : List (List V)} {l h : Nat} (ho : o.op = .slice T x lo hi none)
 (hl : lk tab T = some ti) (he : ti.sliceElem = some e) (hle : lk tab e = some te) (hx : s.ev x = some (.v (.sl es)))
 (hlo : lo = none ∧ l = 0 ∨ ∃ y k n, lo = some y ∧ s.ev y = some (.v (.int k n)) ∧ n = (l : Int)) (hhi : hi = none ∧ h = es.length ∨ ∃ y k n, hi = some y ∧ s.ev y = some (.v (.int k n)) ∧ n = (h : Int))
 (h1 : l ≤ h) (h2 : h ≤ es.length) (hsz : ∀ el ∈ es, el.length = te.size) : cV P o s (.v (.sl ((es.take h).drop l))) [] :=
 bi fun B ι a w S => by
  have hx' := aA (S.ev hx)
  obtain ⟨j, z, hj, hjs, _⟩ := dB (bT hT hle)
  have hlo' : lo = none ∧ l = 0 ∨ ∃ y k n, lo = some y ∧ a.eval y = .int k n ∧ n = (l : Int) := by
   rcases hlo with h | ⟨y, k, n, h, h', h''⟩
   ·exact .inl h
   ·exact .inr ⟨y, k, n, h, (aA (S.ev h')).int_inv, h''⟩
  have hhi' : hi = none ∧ h = es.length ∨ ∃ y k n, hi = some y ∧ a.eval y = .int k n ∧ n = (h : Int) := by
   rcases hhi with h | ⟨y, k, n, h, h', h''⟩
   ·exact .inl h
   ·exact .inr ⟨y, k, n, h, (aA (S.ev h')).int_inv, h''⟩
  have hlen : ((es.take h).drop l).length = h - l := by simp; omega
  generalize hu : a.eval x = u at hx'
  cases hx' with
  | sl0 ad c =>
    have h0 : h = 0 := by simpa using h2
    subst h0
    refine ⟨_, mT ho (ct hT hl he) hj hu hlo' hhi' h1 (by omega), ?_⟩
    simp only [List.take_nil, List.drop_nil, Nat.zero_sub]; exact .v (.sl0 _ _)
  | sl _ b q sz c hb hlt hcap hs hc hv =>
    refine ⟨_, mT ho (ct hT hl he) hj hu hlo' hhi' h1 (by omega), ?_⟩
    by_cases hz : h - l = 0
    ·rw [List.eq_nil_of_length_eq_zero (hlen.trans hz), hz]; exact .v (.sl0 _ _)
    ·have hne : es ≠ [] := List.length_pos_iff.1 (by omega)
     have hsz' : sz = te.size := by
      obtain ⟨el, hel⟩ := List.exists_mem_of_ne_nil _ hne
      rw [← hs el hel, hsz el hel]
     have hcl : c ≠ l := by omega
     rw [if_neg hcl, ← hlen]
     have hget : ∀ (i : Nat) e, ((es.take h).drop l)[i]? = some e → es[l + i]? = some e := by
      intro i e hi
      rw [List.getElem?_drop, List.getElem?_take] at hi
      split at hi
      ·exact hi
      ·cases hi
     have hadd : ∀ i j' : Nat, q + l * j.size + i * sz + j' = q + (l + i) * sz + j' := by
      intro i j'
      rw [hjs, ← hsz', Nat.add_mul]; omega
     simp only [Option.map_some, Addr.add_lit]
     refine .v (.sl _ b _ sz _ hb hlt (by omega) (fun e he' => hs e (List.mem_of_mem_take (List.mem_of_mem_drop he'))) ?_ ?_)
     ·intro i j' hi hj'
      rw [hadd]; exact hc (l + i) j' (by omega) hj'
     ·intro i j' e v u' he' hv' hu'
      rw [hadd] at hu'
      exact hv (l + i) j' e v u' (hget i e he') hv' hu'
end
end Go.Vd
namespace Go.Vd
open Go.RowKit
def PW {α β : Type} (R : α → β → Prop) (xs : List α) (ys : List β) : Prop := ys.length = xs.length ∧ ∀ (i : Nat) x y, xs[i]? = some x → ys[i]? = some y → R x y
section
variable {α β : Type} {R R' : α → β → Prop}
theorem PW.nil : PW R [] [] := ⟨rfl, by simp⟩
theorem PW.mono (h : ∀ x y, R x y → R' x y) {xs : List α} {ys : List β} (p : PW R xs ys) : PW R' xs ys := ⟨p.1, fun i x y a b => h _ _ (p.2 i x y a b)⟩
theorem PW.append {xs xs' : List α} {ys ys' : List β} (p : PW R xs ys) (q : PW R xs' ys') : PW R (xs ++ xs') (ys ++ ys') := by
 refine ⟨by simp [p.1, q.1], fun i x y a b => ?_⟩
 by_cases h : i < xs.length
 ·rw [List.getElem?_append_left h] at a
  rw [List.getElem?_append_left (by rw [p.1]; exact h)] at b
  exact p.2 i x y a b
 ·rw [List.getElem?_append_right (by omega)] at a
  rw [List.getElem?_append_right (by rw [p.1]; omega), p.1] at b
  exact q.2 _ x y a b
theorem PW.take {xs : List α} {ys : List β} (p : PW R xs ys) (n : Nat) : PW R (xs.take n) (ys.take n) := by
 refine ⟨by simp [p.1], fun i x y a b => ?_⟩
 rw [List.getElem?_take] at a b
 split at a
 ·rename_i h; rw [if_pos h] at b; exact p.2 i x y a b
 ·cases a
theorem PW.drop {xs : List α} {ys : List β} (p : PW R xs ys) (n : Nat) : PW R (xs.drop n) (ys.drop n) := by
 refine ⟨by simp [p.1], fun i x y a b => ?_⟩
 rw [List.getElem?_drop] at a b
 exact p.2 _ x y a b
theorem PW.splice {xs xs' : List α} {ys ys' : List β} (p : PW R xs ys) (q : PW R xs' ys') (n : Nat) : PW R (xs.take n ++ xs' ++ xs.drop (n + xs'.length)) (ys.take n ++ ys' ++ ys.drop (n + ys'.length)) := by
 rw [q.1]
 exact ((p.take n).append q).append (p.drop _)
end
theorem kF {sz : Nat} : ∀ {es : List (List V)}, (∀ e ∈ es, e.length = sz) → es.flatten.length = es.length * sz
 | [], _ => by simp
 | e :: r, h => by
   rw [List.flatten_cons, List.length_append, kF (fun x hx => h x (List.mem_cons_of_mem _ hx)), h e List.mem_cons_self, List.length_cons, Nat.add_mul]; omega
theorem kR {sz : Nat} : ∀ {es : List (List V)} (_ : ∀ e ∈ es, e.length = sz) (i j : Nat), j < sz → es.flatten[i * sz + j]? = (es[i]?).bind (·[j]?)
 | [], _, i, j, _ => by simp
 | e :: r, h, 0, j, hj => by
   have he := h e List.mem_cons_self
   simp only [List.flatten_cons, Nat.zero_mul, Nat.zero_add, List.getElem?_cons_zero, Option.bind_some]
   rw [List.getElem?_append_left (by omega)]
 | e :: r, h, i + 1, j, hj => by
   have he := h e List.mem_cons_self
   simp only [List.flatten_cons, List.getElem?_cons_succ]
   rw [List.getElem?_append_right (by rw [Nat.add_mul]; omega), he, show (i + 1) * sz + j - sz = i * sz + j by rw [Nat.add_mul]; omega]
   exact kR (fun x hx => h x (List.mem_cons_of_mem _ hx)) i j hj
theorem dI {R : V → Value → Prop} {sz : Nat} {es : List (List V)} (hs : ∀ e ∈ es, e.length = sz) {us : List Value} (hl : us.length = es.length * sz) :
 PW R es.flatten us ↔ ∀ (i j : Nat) el v u, es[i]? = some el → el[j]? = some v → us[i * sz + j]? = some u → R v u := by
 constructor
 ·intro p i j el v u he hv hu
  have hj : j < sz := by rw [← hs el (List.mem_of_getElem? he)]; exact (List.getElem?_eq_some_iff.1 hv).1
  exact p.2 (i * sz + j) v u (by rw [kR hs i j hj, he]; exact hv) hu
 ·intro h
  refine ⟨by rw [hl, kF hs], fun k v u hv hu => ?_⟩
  have hk : k < es.length * sz := by rw [← kF hs]; exact (List.getElem?_eq_some_iff.1 hv).1
  have hsz : 0 < sz := by
   rcases Nat.eq_zero_or_pos sz with h0 | h0
   ·subst h0; simp at hk
   ·exact h0
  have hj : k % sz < sz := Nat.mod_lt _ hsz
  have hk' : k / sz * sz + k % sz = k := by rw [Nat.mul_comm]; exact Nat.div_add_mod k sz
  have h1 := kR hs (k / sz) (k % sz) hj
  rw [hk', hv] at h1
  cases he : es[k / sz]? with
  | none => rw [he] at h1; cases h1
  | some el =>
    rw [he] at h1
    exact h (k / sz) (k % sz) el v u he h1.symm (by rw [hk']; exact hu)
theorem nD {R : D → Value → Prop} {cs : List D} {arr : Array Value} (hs : arr.size = cs.length) (h : ∀ (i : Nat) d u, cs[i]? = some d → arr[i]? = some u → R d u) : PW R cs arr.toList :=
 ⟨by simpa using hs, fun i d u a b => h i d u a (by simpa using b)⟩
theorem om {F : List (Nat × Blk)} {s : St} (hf : ∀ p ∈ F, s.h p.1 = p.2) (id : Nat) : hF F id = .dead ∨ hF F id = s.h id := by
 unfold hF
 cases h : lk F id with
 | none => exact .inl rfl
 | some b => exact .inr (hf (id, b) (eM h)).symm
section
variable {P : Program} {tab : kt} {o : Oper} {s : St}
theorem mi {T : Nat} {x y : Operand} {a : Act} {w : World} {b n : Nat} {arr : Array Value} {ty : TypeId} {i : TypeInfo} (ho : o.op = .store T x y) (hi : P.info? T = some i)
 (hx : a.eval x = .pointer (some ⟨b, n, none⟩)) (hg : w.heap[b]? = some (.cells arr ty (0, 0))) (hs : (a.eval y).cells.size = i.size) (hfit : n + i.size ≤ arr.size)
 (h1 : ∀ v ∈ (a.eval y).cells.toList, v.oneCell' = true) :
 (execOp a.eval o).run P w = .ok .skip (w.setRow b (arr.toList.take n ++ (a.eval y).cells.toList ++ arr.toList.drop (n + (a.eval y).cells.toList.length)).toArray) := by
 have h := run_storeCells_at P b n ty (a.eval y).cells.toList 0 arr w hg (by simp; omega) h1
 simp only [Nat.add_zero] at h
 simp only [execOp, ho, Instr.storeAt, Instr.sureAddr, hx, storeVar, sizeOf, typeInfo, Sem.run_bind, Sem.run_pure, Result.andThen_ok, run_program, hi, hs]
 simp [h]
theorem uF (hT : bg P tab = true) {T : Nat} {ti : TI} {x y : Operand} {id n : Nat} {cs ds : List D} {d : D} (ho : o.op = .store T x y) (hl : lk tab T = some ti)
 (hx : s.ev x = some (.ptr id n)) (hy : s.ev y = some d) (hb : s.h id = .box cs) (hd : d.flat s.h = some ds) (h1 : ds.all (·.one s.h) = true) (hs : ti.size = ds.length)
 (hfit : n + ds.length ≤ cs.length) : cV P o s (.v (.tup [])) [(id, .box (cs.take n ++ ds ++ cs.drop (n + ds.length)))] := by
 intro B ι a w S
 obtain ⟨b, arr, ty, h2, h3, h4, h5⟩ := eZ S hb
 obtain ⟨i, z, hi, his, _⟩ := dB (bT hT hl)
 obtain ⟨h6, h7⟩ := lO S hd (S.ev hy)
 have h8 := (S.ev hx).ptr_inv.2 b h2
 have hone : ∀ v ∈ (a.eval y).cells.toList, v.oneCell' = true := by
  intro v hv
  obtain ⟨k, hk, hkv⟩ := List.mem_iff_getElem.1 hv
  have hk' : k < ds.length := by rw [← h6]; simpa using hk
  have hdk : ds[k]? = some ds[k] := List.getElem?_eq_getElem hk'
  refine tw S (List.all_eq_true.1 h1 _ (List.getElem_mem hk')) (h7 k ds[k] v hdk ?_)
  rw [← Array.getElem?_toList, List.getElem?_eq_getElem hk, hkv]
 refine ⟨undef, _, ι, .inr ⟨mi ho hi h8 h3 (by omega) (by omega) hone, rfl⟩, ?_, .v (.tup [] #[] rfl (by simp))⟩
 refine S.turn _ (g := b) (by rw [h2]; rfl) rfl rfl rfl (by simp) (fun k _ hk => setRow_other w b k _ hk) fun hkr => ?_
 rw [h2]
 refine ⟨b, _, ty, rfl, setRow_heap w b arr _ ty _ h3, ?_, ?_⟩
 ·simp only [List.size_toArray, List.length_append, List.length_take, List.length_drop, Array.length_toList]
  omega
 ·have p := ((nD h4 h5).splice (nD h6 h7) n).mono (R' := RepD (w.setRow b (arr.toList.take n ++ (a.eval y).cells.toList ++ arr.toList.drop (n + (a.eval y).cells.toList.length)).toArray) (cx B ι) ι)
   (fun x y h => h.mono hkr (fun _ _ => .inl rfl))
  intro k d' u hd' hu
  exact p.2 k d' u hd' (by simpa using hu)
theorem si (hT : bg P tab = true) {T : Nat} {ti : TI} {x y : Operand} {id n e : Nat} {es : List (List V)} {v : V} (ho : o.op = .store T x y) (hl : lk tab T = some ti)
 (hx : s.ev x = some (.eptr id n)) (hy : s.ev y = some (.v v)) (hb : s.h id = .row e 1 es) (h1 : v.one = true) (hs : ti.size = 1) (hn : n < es.length) :
 cV P o s (.v (.tup [])) [(id, .row e 1 (es.set n [v]))] := by
 intro B ι a w S
 have h0 := S.blks id
 rw [hb] at h0
 have hall := h0.2.1
 obtain ⟨g, cap, arr, h2, h3, h4, h5, h6, h7⟩ := jx h0 (List.length_pos_iff.1 (by omega))
 obtain ⟨i, z, hi, his, _⟩ := dB (bT hT hl)
 have hv := aA (S.ev hy)
 have h8 := (S.ev hx).eptr_inv.2 g _ cap h2
 have hcells : (a.eval y).cells = #[a.eval y] := by
  have := hv.oneCell h1
  generalize a.eval y = u at *
  cases u <;> first | rfl | cases this
 have hst := mi (P := P) (o := o) (w := w) ho hi h8 h3 (by rw [hcells, his, hs]; rfl) (by omega) (by rw [hcells]; intro u hu; simp at hu; subst hu; exact hv.oneCell h1)
 rw [hcells] at hst
 refine ⟨undef, _, ι, .inr ⟨hst, rfl⟩, ?_, .v (.tup [] #[] rfl (by simp))⟩
 refine S.turn _ (g := g) (by rw [h2]; rfl) rfl rfl rfl (by simp) (fun k _ hk => setRow_other w g k _ hk) fun hkr => ?_
 rw [h2]
 refine ⟨by omega, ?_, .inr ⟨g, cap, _, by simp, setRow_heap w g arr _ e _ h3, by simpa using h4, h5, ?_, ?_⟩⟩
 ·intro el hel
  rcases List.mem_or_eq_of_mem_set hel with h | h
  ·exact hall el h
  ·rw [h]; rfl
 ·simp; omega
 ·intro k j el v' u he hv' hu
  have hj : j = 0 := by
   have h9 : el.length = 1 := by
    rcases List.mem_or_eq_of_mem_set (List.mem_of_getElem? he) with h | h
    ·exact hall el h
    ·rw [h]; rfl
   have := (List.getElem?_eq_some_iff.1 hv').1
   omega
  subst hj
  simp only [Nat.mul_one, Nat.add_zero] at hu
  have hk : k < es.length := by have := (List.getElem?_eq_some_iff.1 he).1; simpa using this
  by_cases hkn : k = n
  ·subst hkn
   rw [List.getElem?_set_self hk] at he
   cases he
   simp at hv'
   subst hv'
   have : u = a.eval y := by
    rw [List.getElem?_toArray, List.append_assoc, List.getElem?_append_right (by simp; omega)] at hu
    have hmin : min k arr.size = k := by omega
    simp [hmin] at hu
    exact hu.symm
   subst this
   exact hv.mono hkr
  ·rw [List.getElem?_set_ne (Ne.symm hkn)] at he
   have : arr[k]? = some u := by
    rw [List.getElem?_toArray] at hu
    have hsp : (arr.toList.take n ++ [a.eval y] ++ arr.toList.drop (n + 1)) = arr.toList.set n (a.eval y) := by
     rw [List.set_eq_take_append_cons_drop]
     simp; intro h; omega
    simp only [List.length_cons, List.length_nil, Nat.zero_add] at hu
    rw [hsp, List.getElem?_set_ne (Ne.symm hkn)] at hu
    simpa using hu
   exact (h7 k 0 el v' u he hv' (by simpa using this)).mono hkr
theorem vt (hT : bg P tab = true) {T : Nat} {ti : TI} {id : Nat} (ho : o.op = .alloc T) (hl : lk tab T = some ti) (hr : s.h id = .res) :
 cV P o s (.ptr id 0) [(id, .box (ti.zero.map Z.toD))] := by
 intro B ι a w S
 obtain ⟨i, z, hi, his, _, hz, hz1, hz2⟩ := dB (bT hT hl)
 have hrun : (execOp a.eval o).run P w = .ok (.value (.pointer (some ⟨w.heap.size, 0, none⟩))) (w.alloc (.cells z.cells T)) := by
  simp [execOp, ho, Instr.alloc, zeroValue, typeInfo, hi, hz, newVar, newRow]
 have S' := S.fresh (w' := w.alloc (.cells z.cells T)) hr (.box w.heap.size) (.box (ti.zero.map Z.toD)) (fun b hb => by cases hb; simp) rfl rfl rfl (by simp) (fun b hb => Below.heap_alloc w _ b hb)
  (fun hk => ⟨w.heap.size, z.cells, T, rfl, heap_alloc_new w _, by rw [← hz1]; simp, fun k d u hd hu => ?_⟩)
 ·refine ⟨_, _, _, .inl hrun, S'.1, .ptr id 0 _ (by rw [aE]; simp) fun b hb => ?_⟩
  rw [aE] at hb; cases hb; rfl
 ·rw [← hz1, List.map_map, List.getElem?_map] at hd
  rw [← Array.getElem?_toList] at hu
  rw [hu] at hd
  simp only [Option.map_some, Option.some.injEq, Function.comp] at hd
  subst hd
  exact jM u
theorem yM {T : Nat} {x : Operand} {id : Nat} {d : D} {ds : List D} (ho : o.op = .box T x) (hx : s.ev x = some d) (hd : d.flat s.h = some ds) (hr : s.h id = .res) :
 cV P o s (.ptr id 0) [(id, .box ds)] := by
 intro B ι a w S
 obtain ⟨h6, h7⟩ := lO S hd (S.ev hx)
 have hrun : (execOp a.eval o).run P w = .ok (.value (.pointer (some ⟨w.heap.size, 0, none⟩))) (w.alloc (.cells (a.eval x).cells T)) := by
  simp [execOp, ho, Instr.box, newVar, newRow]
 have hres : ι id = .res := by have := S.blks id; rw [hr] at this; exact this
 have S' := S.fresh (w' := w.alloc (.cells (a.eval x).cells T)) hr (.box w.heap.size) (.box ds) (fun b hb => by cases hb; simp) rfl rfl rfl (by simp) (fun b hb => Below.heap_alloc w _ b hb)
  (fun hk => ⟨w.heap.size, _, T, rfl, heap_alloc_new w _, h6, fun k d u hd hu => (h7 k d u hd hu).mono hk fun id' h' => ?_⟩)
 ·refine ⟨_, _, _, .inl hrun, S'.1, .ptr id 0 _ (by rw [aE]; simp) fun b hb => ?_⟩
  rw [aE] at hb; cases hb; rfl
 ·by_cases h : id' = id
  ·subst h; exact absurd hres h'
  ·exact .inl (aN _ _ h)
end
end Go.Vd
namespace Go.Vd
open Go.RowKit
section
variable {P : Program} {tab : kt} {o : Oper} {s : St}
theorem Au {w : World} {im : Nat → Prop} {es : List (List V)} {u : Value} {sz : Nat} (h : RepV w im (.sl es) u) (hs : ∀ e ∈ es, e.length = sz) (hne : es ≠ []) :
 ∃ ad c news, u = .slice (some ad) es.length c ∧ news.length = es.length * sz ∧ (∀ j v, news[j]? = some v → w.cell? (ad.add j) = some v) ∧ PW (RepV w im) es.flatten news := by
 cases h with
 | sl0 => exact absurd rfl hne
 | sl _ b q sz' c hb hl hcap hs' hc hv =>
   have e1 : sz' = sz := by
    obtain ⟨e, he⟩ := List.exists_mem_of_ne_nil _ hne
    rw [← hs' e he, hs e he]
   subst e1
   have hsz : ∀ k, k < es.length * sz' → 0 < sz' := fun k hk => by
    rcases Nat.eq_zero_or_pos sz' with h0 | h0
    ·subst h0; simp at hk
    ·exact h0
   have hcell : ∀ k, k < es.length * sz' → (w.cell? ⟨b, q + k, none⟩).isSome = true := fun k hk => by
    have h0 := hsz k hk
    have h1 : k / sz' < es.length := (Nat.div_lt_iff_lt_mul h0).2 hk
    have h2 := hc (k / sz') (k % sz') h1 (Nat.mod_lt _ h0)
    have h3 : k / sz' * sz' + k % sz' = k := by rw [Nat.mul_comm]; exact Nat.div_add_mod k sz'
    rw [Nat.add_assoc, h3] at h2; exact h2
   have hlen : ((List.range (es.length * sz')).map fun k => (w.cell? ⟨b, q + k, none⟩).getD undef).length = es.length * sz' := by simp
   refine ⟨⟨b, q, none⟩, c, (List.range (es.length * sz')).map fun k => (w.cell? ⟨b, q + k, none⟩).getD undef, rfl, hlen, ?_, (dI hs hlen).2 ?_⟩
   ·intro j v hj
    rw [List.getElem?_map] at hj
    by_cases hlt : j < es.length * sz'
    ·obtain ⟨u, hu⟩ := Option.isSome_iff_exists.1 (hcell j hlt)
     rw [List.getElem?_range hlt] at hj
     simp only [Option.map_some, hu, Option.getD_some, Option.some.injEq] at hj
     rw [Addr.add_lit, hu, hj]
    ·rw [List.getElem?_eq_none (by simp; omega)] at hj; cases hj
   ·intro i j el v u he hv' hu
    rw [List.getElem?_map] at hu
    by_cases hlt : i * sz' + j < es.length * sz'
    ·obtain ⟨u', hu'⟩ := Option.isSome_iff_exists.1 (hcell _ hlt)
     rw [List.getElem?_range hlt] at hu
     simp only [Option.map_some, hu', Option.getD_some, Option.some.injEq] at hu
     subst hu
     exact hv i j el v _ he hv' (by rw [Nat.add_assoc]; exact hu')
    ·rw [List.getElem?_eq_none (by simp; omega)] at hu; cases hu
theorem qQ {w : World} {im : Nat → Prop} {vs : List V} {us : List Value} (p : PW (RepV w im) vs us) (h : ∀ v ∈ vs, v.one = true) : ∀ u ∈ us, u.oneCell' = true := by
 intro u hu
 obtain ⟨k, hk, rfl⟩ := List.mem_iff_getElem.1 hu
 have hk' : k < vs.length := by rw [← p.1]; exact hk
 exact (p.2 k vs[k] us[k] (by simp [hk']) (by simp [hk])).oneCell (h _ (List.getElem_mem hk'))
variable {t t' e e' : Nat} {i : TypeInfo} {z : Value}
theorem fu {w : World} {ty : TypeId} {ad ad' : Option Addr} {n cap c : Nat} (ht : P.underlying t = some (.slice e)) (ht' : P.underlying t' = some (.slice e')) (hi : P.info? e = some i)
 (hn : n ≤ cap) : (Builtin.append_ #[t, t'] ty #[.slice ad n cap, .slice ad' 0 c]).run P w = .ok (.slice ad n cap) w := by
 cases ad <;> cases ad' <;> simp [Builtin.append_, run_underlying ht, run_underlying ht', sizeOf, typeInfo, hi, Builtin.lenOf, Builtin.firstCells, loadCells, loadCellsFrom, storeCells, hn]
theorem jj {w : World} {ty : TypeId} (ht : P.underlying t = some (.slice e)) (ht' : P.underlying t' = some (.slice e')) (hi : P.info? e = some i) (hz : i.zero = some z)
 (a : Addr) (n c : Nat) (news : List Value) (hl : news.length = n * i.size) (hnews : ∀ j v, news[j]? = some v → w.cell? (a.add j) = some v)
 (h0 : 0 < n) (h63 : (n : Int) ≤ 9223372036854775807) (h48 : n * i.bytes ≤ 281474976710656) :
 (Builtin.append_ #[t, t'] ty #[.slice none 0 0, .slice (some a) n c]).run P w =
  .ok (.slice (some ⟨w.heap.size, 0, none⟩) n (grownCap w n 0 e)) (w.drew.alloc (.cells (news.toArray ++ Builtin.zeroCells z.cells (grownCap w n 0 e - n)) e)) := by
 have hn : n ≠ 0 := by omega
 have h63' : ¬ (9223372036854775807 < (n : Int)) := by omega
 have h48' : ¬ (281474976710656 < Builtin.nextslicecap n 0 * i.bytes) := by rw [nextslicecap_zero h0]; omega
 have hf := run_firstCells_some (P := P) w.drew i.size n a n c news hl (by simpa using hnews)
 simp [Builtin.append_, run_underlying ht, run_underlying ht', sizeOf, typeInfo, zeroValue, hi, hz, Builtin.lenOf, hn, h63', h48', Question.forced, run_firstCells_none, hf, newRow, grownCap]
theorem iw {w : World} {ty : TypeId} (ht : P.underlying t = some (.slice e)) (ht' : P.underlying t' = some (.slice e')) (hi : P.info? e = some i) (hz : i.zero = some z)
 (b : Addr) (sLen sCap : Nat) (olds : List Value) (hlo : olds.length = sLen * i.size) (holds : ∀ j v, olds[j]? = some v → w.cell? (b.add j) = some v)
 (a : Addr) (n c : Nat) (news : List Value) (hl : news.length = n * i.size) (hnews : ∀ j v, news[j]? = some v → w.cell? (a.add j) = some v)
 (hg : sCap < sLen + n) (h63 : ((sLen + n : Nat) : Int) ≤ 9223372036854775807) (hfit : Builtin.nextslicecap (sLen + n) sCap * i.bytes ≤ 281474976710656) :
 (Builtin.append_ #[t, t'] ty #[.slice (some b) sLen sCap, .slice (some a) n c]).run P w =
  .ok (.slice (some ⟨w.heap.size, 0, none⟩) (sLen + n) (grownCap w (sLen + n) sCap e))
   (w.drew.alloc (.cells ((olds ++ news).toArray ++ Builtin.zeroCells z.cells (grownCap w (sLen + n) sCap e - (sLen + n))) e)) := by
 have hn : ¬ (sLen + n ≤ sCap) := by omega
 have h63' : ¬ (9223372036854775807 < ((sLen : Int) + (n : Int))) := by omega
 have h48' : ¬ (281474976710656 < Builtin.nextslicecap (sLen + n) sCap * i.bytes) := by omega
 have hf := run_firstCells_some (P := P) w.drew i.size n a n c news hl (by simpa using hnews)
 have hfo := run_firstCells_some (P := P) w.drew i.size sLen b sLen sCap olds hlo (by simpa using holds)
 simp [Builtin.append_, run_underlying ht, run_underlying ht', sizeOf, typeInfo, zeroValue, hi, hz, Builtin.lenOf, hn, h63', h48', Question.forced, hf, hfo, newRow, grownCap]
 congr 2
 apply Array.ext'
 simp [List.append_assoc]
theorem mo {w : World} {ty : TypeId} (ht : P.underlying t = some (.slice e)) (ht' : P.underlying t' = some (.slice e')) (hi : P.info? e = some i)
 (g sLen sCap : Nat) (cur : Array Value) (hg : w.heap[g]? = some (.cells cur e (0, 0)))
 (a : Addr) (m c : Nat) (news : List Value) (hl : news.length = m * i.size) (hnews : ∀ j u, news[j]? = some u → w.cell? (a.add j) = some u) (h1 : ∀ u ∈ news, u.oneCell' = true)
 (hroom : sLen + m ≤ sCap) (hfit : sLen * i.size + news.length ≤ cur.size) :
 (Builtin.append_ #[t, t'] ty #[.slice (some ⟨g, 0, none⟩) sLen sCap, .slice (some a) m c]).run P w =
  .ok (.slice (some ⟨g, 0, none⟩) (sLen + m) sCap) (w.setRow g (cur.toList.take (sLen * i.size) ++ news ++ cur.toList.drop (sLen * i.size + news.length)).toArray) := by
 have hf := run_firstCells_some (P := P) w i.size m a m c news hl hnews
 have hst := run_storeCells_at P g (sLen * i.size) e news 0 cur w hg (by simpa using hfit) h1
 simp only [Nat.add_zero] at hst
 simp [Builtin.append_, run_underlying ht, run_underlying ht', sizeOf, typeInfo, hi, Builtin.lenOf, hroom, hf, Addr.add_lit, hst]
theorem ce {x y : Operand} {a : Act} {w w' : World} {u : Value} (ho : o.op = .call { callee := .builtin .append, args := #[x, y], argTypes := #[t, t'] })
 (h : (Builtin.append_ #[t, t'] o.type #[a.eval x, a.eval y]).run P w = .ok u w') : (execOp a.eval o).run P w = .ok (.value u) w' := by
 simp [execOp, ho, resolve, invoke, builtin, h]
theorem Sim.moveRow {B : dt} {s : St} {ι : Nat → Con} {a : Act} {w w' : World} (S : Sim B s ι a w) {id nid : Nat} {e sz : Nat} {es : List (List V)} (hid : s.h id = .row e sz es) (hn : s.h nid = .res) (c' : Con) (hc' : c'.blk = (ι id).blk) (blk : Blk)
 (hos : w'.os = w.os) (htape : w'.tape = w.tape) (hout : w'.output = w.output) (hsize : w'.heap.size = w.heap.size)
 (hw : ∀ b, b < w.heap.size → (ι id).blk ≠ some b → w'.heap[b]? = w.heap[b]?)
 (hblk : (∀ b, cx B ι b → b < w.heap.size → cx B (d8 (d8 ι id .dead) nid c') b ∧ w'.heap[b]? = w.heap[b]?) → BlkRel w' (cx B (d8 (d8 ι id .dead) nid c')) (d8 (d8 ι id .dead) nid c') blk c') :
 Sim B { s with h := d8 (d8 s.h id .dead) nid blk } (d8 (d8 ι id .dead) nid c') a w' := by
 have hne : nid ≠ id := by intro e; subst e; rw [hid] at hn; cases hn
 have hres : ι nid = .res := by have := S.blks nid; rw [hn] at this; exact this
 have hcase : ∀ k b, (d8 (d8 ι id .dead) nid c' k).blk = some b → (k = nid ∧ (ι id).blk = some b) ∨ (k ≠ nid ∧ k ≠ id ∧ (ι k).blk = some b) := by
  intro k b h
  by_cases hk : k = nid
  ·subst hk; rw [aE] at h; exact .inl ⟨rfl, hc' ▸ h⟩
  ·rw [aN _ _ hk] at h
   by_cases hk' : k = id
   ·subst hk'; rw [aE] at h; cases h
   ·rw [aN _ _ hk'] at h; exact .inr ⟨hk, hk', h⟩
 refine (S.evolve w' (d8 (d8 ι id .dead) nid c') (d8 (d8 s.h id .dead) nid blk) (fun b => (ι id).blk = some b) hos htape hout (by omega) (fun b h => ⟨id, h⟩) (fun b hb hx => hw b hb hx) ?_ ?_ ?_ ?_ ?_).1
 ·intro k hk
  by_cases h : k = nid
  ·subst h; exact absurd hres hk
  ·rw [aN _ _ h]
   by_cases h' : k = id
   ·subst h'; exact .inr (aE _ _ _)
   ·exact .inl (aN _ _ h')
 ·intro k b h _
  rcases hcase k b h with ⟨_, h1⟩ | ⟨_, _, h1⟩
  ·exact ⟨id, h1⟩
  ·exact ⟨k, h1⟩
 ·intro k k' b h h'
  rcases hcase k b h with ⟨h0, h1⟩ | ⟨h0, h0', h1⟩ <;> rcases hcase k' b h' with ⟨h2, h3⟩ | ⟨h2, h2', h3⟩
  ·rw [h0, h2]
  ·exact absurd (S.inj _ _ b h1 h3).symm h2'
  ·exact absurd (S.inj _ _ b h1 h3) h0'
  ·exact S.inj k k' b h1 h3
 ·intro k b h
  rw [hsize]
  rcases hcase k b h with ⟨_, h1⟩ | ⟨_, _, h1⟩
  ·exact (S.bnd id b h1).1
  ·exact (S.bnd k b h1).1
 ·intro k
  by_cases h : k = nid
  ·subst h
   exact .inr fun hk => by rw [aE, aE]; exact hblk hk
  ·by_cases h' : k = id
   ·subst h'
    exact .inr fun _ => by rw [aN _ _ h, aE, aN _ _ h, aE]; rfl
   ·exact .inl ⟨by rw [aN _ _ h, aN _ _ h'], by rw [aN _ _ h, aN _ _ h'], fun b hb hx => h' (S.inj k id b hb hx)⟩
theorem fA {w : World} {e need old sz m0 : Nat} {z : Value} {vs : List Value} (hv : vs.length = need * sz) (hzs : z.cells.size = sz) (hm : need ≤ maxLen) (_ : m0 = m0 := by rfl) :
 need ≤ grownCap w need old e ∧ grownCap w need old e ≤ maxLen ∧ (vs.toArray ++ Builtin.zeroCells z.cells (grownCap w need old e - need)).size = grownCap w need old e * sz ∧
  ∀ k u, k < need * sz → (vs.toArray ++ Builtin.zeroCells z.cells (grownCap w need old e - need))[k]? = some u → vs[k]? = some u := by
 have h1 := grownCap_ge w need old e
 refine ⟨h1, grownCap_le_maxLen w need old e hm, ?_, ?_⟩
 ·simp only [Array.size_append, List.size_toArray, size_zeroCells, hzs, hv, ← Nat.add_mul]
  congr 1; omega
 ·intro k u hk hu
  rw [Array.getElem?_append_left (by simp; omega)] at hu
  simpa using hu
def Hk (B : dt) (ι : Nat → Con) (a : Act) (w : World) (y : Operand) (es : List (List V)) (sz : Nat) : Prop :=
 (es = [] → ∃ ad c, a.eval y = .slice ad 0 c) ∧
  (es ≠ [] → ∃ ad c news, a.eval y = .slice (some ad) es.length c ∧ news.length = es.length * sz ∧ (∀ j v, news[j]? = some v → w.cell? (ad.add j) = some v) ∧ PW (RepV w (cx B ι)) es.flatten news)
def HM (s : St) (y : Operand) (es : List (List V)) (sz : Nat) : Prop :=
 ∀ (B : dt) (ι : Nat → Con) (a : Act) (w : World), Sim B s ι a w → (es = [] → ∃ ad c, a.eval y = .slice ad 0 c) ∧
   (es ≠ [] → ∃ ad c news, a.eval y = .slice (some ad) es.length c ∧ news.length = es.length * sz ∧ (∀ j v, news[j]? = some v → w.cell? (ad.add j) = some v) ∧ PW (RepV w (cx B ι)) es.flatten news)
theorem F6 {y : Operand} {es : List (List V)} {sz : Nat} (hy : s.ev y = some (.v (.sl es))) (hs : ∀ e ∈ es, e.length = sz) : HM s y es sz := fun B ι a w S => by
 have h := aA (S.ev hy)
 refine ⟨fun h0 => ?_, Au h hs⟩
 subst h0
 obtain ⟨ad, c, h1⟩ := je h
 exact ⟨ad, c, h1⟩
theorem Aw {y : Operand} {sz : Nat} (hy : s.ev y = some .nils) : HM s y [] sz := fun _ _ _ _ S =>
 ⟨fun _ => ⟨_, _, (S.ev hy).nils_inv⟩, fun h => absurd rfl h⟩
theorem wG {y : Operand} {id e sz : Nat} {es : List (List V)} (hy : s.ev y = some (.own id)) (hb : s.h id = .row e sz es) : HM s y es sz := fun B ι a w S => by
 have h0 := S.blks id
 rw [hb] at h0
 have hs := h0.2.1
 have hv := (S.ev hy).own_inv.2
 refine ⟨fun h => ?_, fun hne => ?_⟩
 ·obtain ⟨g, c, h1⟩ := jd S hb
  have := hv g _ c h1
  subst h
  cases g <;> exact ⟨_, _, this⟩
 ·obtain ⟨g, cap, arr, h1, h2, h3, h4, h5, h6⟩ := jx h0 hne
  have hle : es.length * sz ≤ arr.size := by rw [h5]; exact Nat.mul_le_mul_right _ h3
  refine ⟨⟨g, 0, none⟩, cap, arr.toList.take (es.length * sz), by rw [hv _ _ _ h1]; rfl, by simp; omega, ?_, (dI hs (by simp; omega)).2 ?_⟩
  ·intro j v hj
   rw [List.getElem?_take] at hj
   split at hj
   ·rw [Addr.add_lit, Nat.zero_add, cell_of_row w g j arr e (0, 0) h2]; simpa using hj
   ·cases hj
  ·intro i j el v u he hv' hu
   rw [List.getElem?_take] at hu
   split at hu
   ·exact h6 i j el v u he hv' (by simpa using hu)
   ·cases hu
theorem pw (hT : bg P tab = true) {ti ti' te : TI} {x y : Operand} {nid sz : Nat} {es1 es2 : List (List V)} {kills : List (Nat × Blk)} (ho : o.op = .call { callee := .builtin .append, args := #[x, y], argTypes := #[t, t'] })
 (hl : lk tab t = some ti) (he : ti.sliceElem = some e) (hl' : lk tab t' = some ti') (he' : ti'.sliceElem = some e') (hle : lk tab e = some te) (hte : te.size = sz) (hsz : 0 < sz)
 (hx : (s.ev x = some .nils ∧ es1 = [] ∧ kills = []) ∨ ∃ id, s.ev x = some (.own id) ∧ s.h id = .row e sz es1 ∧ kills = [(id, .dead)])
 {B : dt} {ι : Nat → Con} {a : Act} {w : World} (S : Sim B s ι a w) (hsrc : Hk B ι a w y es2 sz) (hs2 : ∀ el ∈ es2, el.length = sz) (hone : ∀ el ∈ es2, ∀ v ∈ el, v.one = true) (hr : s.h nid = .res)
 (hb1 : es1.length + es2.length ≤ maxLen) (hb2 : (es1.length + es2.length) * te.bytes ≤ 140737488355328) :
 ∃ u w' ι', ((execOp a.eval o).run P w = .ok (.value u) w' ∨ ((execOp a.eval o).run P w = .ok .skip w' ∧ u = undef)) ∧ Sim B (s.eff (kills ++ [(nid, .row e sz (es1 ++ es2))])) ι' a w' ∧ RepD w' (cx B ι') ι' (.own nid) u ∧ ∀ k, k ≠ nid → (∀ p ∈ kills, p.1 ≠ k) → ι' k = ι k := by
 obtain ⟨i, z, hi, his, hib, hz, hz1, hz2⟩ := dB (bT hT hle)
 have ht := ct hT hl he
 have ht' := ct hT hl' he'
 have hb1' : ((es1.length + es2.length : Nat) : Int) ≤ 9223372036854775807 := by simp only [maxLen] at hb1; omega
 have hres : ι nid = .res := by have := S.blks nid; rw [hr] at this; exact this
 have hres' : ∀ id', ι id' ≠ .res → ∀ c, d8 ι nid c id' = ι id' := fun id' h' c => by
  by_cases h : id' = nid
  ·subst h; exact absurd hres h'
  ·exact aN _ _ h
 have hzs : z.cells.size = sz := by rw [hz2, hte]
 have hfone : ∀ v ∈ es2.flatten, v.one = true := fun v hv => by
  obtain ⟨el, h1, h2⟩ := List.mem_flatten.1 hv
  exact hone el h1 v h2
 rcases hx with ⟨hx, rfl, rfl⟩ | ⟨id, hx, hb, rfl⟩
 ·have hxv := (S.ev hx).nils_inv
  by_cases h0 : es2 = []
  ·subst h0
   obtain ⟨ad, c, h1⟩ := hsrc.1 rfl
   have hrun := ce (P := P) (a := a) (w := w) (w' := w) (u := .slice none 0 0) ho (by rw [hxv, h1]; exact fu ht ht' hi (Nat.le_refl _))
   have S' := S.fresh (w' := w) hr (.row none 0 0) (.row e sz []) (fun b hb => by cases hb) rfl rfl rfl (Nat.le_refl _) (fun _ _ => rfl) (fun _ => ⟨hsz, by simp, .inl ⟨rfl, rfl⟩⟩)
   refine ⟨_, _, _, .inl hrun, S'.1, .own nid _ (by rw [aE]; simp) (fun g m c h => ?_), fun k hk1 hk2 => ?_⟩
   ·rw [aE] at h; cases h; rfl
   ·first | exact aN _ _ hk1 | exact (aN _ _ hk1).trans (aN _ _ (Ne.symm (hk2 _ List.mem_cons_self)))
  ·obtain ⟨ad, c, news, h1, h2, h3, h4⟩ := hsrc.2 h0
   have hpos : 0 < es2.length := List.length_pos_iff.2 h0
   simp only [List.length_nil, Nat.zero_add, List.nil_append] at *
   have hrun := ce (P := P) (a := a) (w := w) ho (by rw [hxv, h1]; exact jj ht ht' hi hz ad es2.length c news (by rw [h2, his, hte]) h3 hpos (by omega) (by rw [hib]; omega))
   obtain ⟨k1, k2, k3, k4⟩ := fA (w := w) (e := e) (need := es2.length) (old := 0) (sz := sz) (z := z) (vs := news) (m0 := 0) h2 hzs hb1
   have S' := S.fresh (w' := w.drew.alloc (.cells (news.toArray ++ Builtin.zeroCells z.cells (grownCap w es2.length 0 e - es2.length)) e)) hr (.row (some w.heap.size) es2.length (grownCap w es2.length 0 e)) (.row e sz es2)
    (fun b hb => by cases hb; simp) rfl rfl rfl (by simp) (fun b hb => Below.heap_alloc w.drew _ b hb)
    (fun hk => ⟨hsz, hs2, .inr ⟨w.heap.size, _, _, rfl, heap_alloc_new w.drew _, k1, k2, k3, fun i' j el v u he hv hu => ?_⟩⟩)
   ·refine ⟨_, _, _, .inl hrun, S'.1, .own nid _ (by rw [aE]; simp) (fun g m c h => ?_), fun k hk1 hk2 => ?_⟩
    ·rw [aE] at h; cases h; rfl
    ·first | exact aN _ _ hk1 | exact (aN _ _ hk1).trans (aN _ _ (Ne.symm (hk2 _ List.mem_cons_self)))
   ·have hlt : i' * sz + j < es2.length * sz := by
     have a1 := (List.getElem?_eq_some_iff.1 he).1
     have a2 := (List.getElem?_eq_some_iff.1 hv).1
     rw [hs2 el (List.mem_of_getElem? he)] at a2
     calc i' * sz + j < i' * sz + sz := by omega
      _ = (i' + 1) * sz := by rw [Nat.add_mul, Nat.one_mul]
      _ ≤ es2.length * sz := Nat.mul_le_mul_right _ (by omega)
    exact ((dI hs2 h2).1 h4 i' j el v u he hv (k4 _ u hlt hu)).mono hk
 ·have h0 := S.blks id
  rw [hb] at h0
  have hs1 := h0.2.1
  have hxv := (S.ev hx).own_inv
  have hne : nid ≠ id := by intro e; subst e; rw [hb] at hr; cases hr
  have hs12 : ∀ el ∈ es1 ++ es2, el.length = sz := fun el h => by
   rcases List.mem_append.1 h with h | h
   ·exact hs1 el h
   ·exact hs2 el h
  have hins : ∀ i' j (el : List V) v, (es1 ++ es2)[i']? = some el → el[j]? = some v → i' * sz + j < (es1.length + es2.length) * sz := fun i' j el v he hv => by
   have a1 := (List.getElem?_eq_some_iff.1 he).1
   have a2 := (List.getElem?_eq_some_iff.1 hv).1
   rw [hs12 el (List.mem_of_getElem? he)] at a2
   rw [List.length_append] at a1
   calc i' * sz + j < i' * sz + sz := by omega
    _ = (i' + 1) * sz := by rw [Nat.add_mul, Nat.one_mul]
    _ ≤ (es1.length + es2.length) * sz := Nat.mul_le_mul_right _ (by omega)
  by_cases h20 : es2 = []
  ·subst h20
   obtain ⟨ad, c, h1⟩ := hsrc.1 rfl
   obtain ⟨g, cap, hιg⟩ := jd S hb
   have hxe := hxv.2 g _ cap hιg
   have hrun := ce (P := P) (a := a) (w := w) (w' := w) (u := a.eval x) ho (by
    rw [h1, hxe]
    rcases h0.2.2 with ⟨q1, q2⟩ | ⟨g', cap', arr, q1, _, q3, _⟩
    ·subst q2
     rw [hιg] at q1; cases q1
     exact fu ht ht' hi (Nat.le_refl _)
    ·rw [hιg] at q1; cases q1
     exact fu ht ht' hi q3)
   have S' := S.moveRow (w' := w) hb hr (ι id) rfl (.row e sz (es1 ++ [])) rfl rfl rfl rfl (fun _ _ _ => rfl) (fun hk => by
    have := h0.mono (w' := w) (im' := cx B (d8 (d8 ι id .dead) nid (ι id))) (ι' := d8 (d8 ι id .dead) nid (ι id)) hk (fun id' h' => by
     by_cases h : id' = nid
     ·subst h; exact absurd hres h'
     ·rw [aN _ _ h]
      by_cases h'' : id' = id
      ·subst h''; exact .inr (aE _ _ _)
      ·exact .inl (aN _ _ h'')) (fun _ _ => rfl)
    simpa using this)
   refine ⟨_, _, _, .inl hrun, S', .own nid _ (by rw [aE, hιg]; simp) (fun g' m' c' h => ?_), fun k hk1 hk2 => ?_⟩
   ·rw [aE] at h
    simpa using hxv.2 g' m' c' h
   ·first | exact aN _ _ hk1 | exact (aN _ _ hk1).trans (aN _ _ (Ne.symm (hk2 _ List.mem_cons_self)))
  ·obtain ⟨ad, c, news, h1, h2, h3, h4⟩ := hsrc.2 h20
   have hpos : 0 < es2.length := List.length_pos_iff.2 h20
   have hnone := qQ h4 hfone
   rcases h0.2.2 with ⟨q1, q2⟩ | ⟨g, cap, arr, q1, q2, q3, q4, q5, q6⟩
   ·subst q2
    have hxe := hxv.2 none 0 0 q1
    simp only [List.length_nil, Nat.zero_add, List.nil_append] at *
    have hrun := ce (P := P) (a := a) (w := w) ho (by rw [hxe, h1]; exact jj ht ht' hi hz ad es2.length c news (by rw [h2, his, hte]) h3 hpos (by omega) (by rw [hib]; omega))
    obtain ⟨k1, k2, k3, k4⟩ := fA (w := w) (e := e) (need := es2.length) (old := 0) (sz := sz) (z := z) (vs := news) (m0 := 0) h2 hzs hb1
    obtain ⟨S1, hk1⟩ := S.kill (id := id) (by rw [q1]; simp)
    have hr1 : ({ s with h := d8 s.h id .dead } : St).h nid = .res := by rw [← hr]; exact aN _ _ hne
    have S' := S1.fresh (w' := w.drew.alloc (.cells (news.toArray ++ Builtin.zeroCells z.cells (grownCap w es2.length 0 e - es2.length)) e)) hr1 (.row (some w.heap.size) es2.length (grownCap w es2.length 0 e)) (.row e sz es2)
     (fun b hb => by cases hb; simp) rfl rfl rfl (by simp) (fun b hb => Below.heap_alloc w.drew _ b hb)
     (fun hk => ⟨hsz, hs2, .inr ⟨w.heap.size, _, _, rfl, heap_alloc_new w.drew _, k1, k2, k3, fun i' j el v u he hv hu => ?_⟩⟩)
    ·refine ⟨_, _, _, .inl hrun, S'.1, .own nid _ (by rw [aE]; simp) (fun g m c h => ?_), fun k hk1 hk2 => ?_⟩
     ·rw [aE] at h; cases h; rfl
     ·first | exact aN _ _ hk1 | exact (aN _ _ hk1).trans (aN _ _ (Ne.symm (hk2 _ List.mem_cons_self)))
    ·exact (((dI hs2 h2).1 h4 i' j el v u he hv (k4 _ u (hins i' j el v he hv) hu)).mono hk1).mono hk
   ·have hxe := hxv.2 _ _ _ q1
    have hle : es1.length * sz ≤ arr.size := by rw [q5]; exact Nat.mul_le_mul_right _ q3
    by_cases hroom : es1.length + es2.length ≤ cap
    ·have hfit : es1.length * i.size + news.length ≤ arr.size := by
      rw [h2, his, hte, q5, ← Nat.add_mul]; exact Nat.mul_le_mul_right _ hroom
     have hrun := ce (P := P) (a := a) (w := w) ho (by
      rw [hxe, h1]; exact mo ht ht' hi g es1.length cap arr q2 ad es2.length c news (by rw [h2, his, hte]) h3 hnone hroom hfit)
     rw [his, hte] at hrun hfit
     have S' := S.moveRow (w' := w.setRow g (arr.toList.take (es1.length * sz) ++ news ++ arr.toList.drop (es1.length * sz + news.length)).toArray) hb hr (.row (some g) (es1.length + es2.length) cap) (by rw [q1]; rfl) (.row e sz (es1 ++ es2)) rfl rfl rfl (by simp)
      (fun b _ hbne => setRow_other w g b _ (by intro e; subst e; exact hbne (by rw [q1]; rfl))) (fun hk => by
       refine ⟨hsz, hs12, .inr ⟨g, cap, _, by simp, setRow_heap w g arr _ e _ q2, by simpa using hroom, q4, ?_, ?_⟩⟩
       ·simp only [List.size_toArray, List.length_append, List.length_take, List.length_drop, Array.length_toList]; omega
       ·intro i' j el v u he hv hu
        have p1 : PW (RepV w (cx B ι)) es1.flatten (arr.toList.take (es1.length * sz)) := (dI hs1 (by simp; omega)).2 (fun i j el v u he hv hu => by
         rw [List.getElem?_take] at hu
         split at hu
         ·exact q6 i j el v u he hv (by simpa using hu)
         ·cases hu)
        have p := p1.append h4
        rw [← List.flatten_append] at p
        have hlen : (arr.toList.take (es1.length * sz) ++ news).length = (es1 ++ es2).length * sz := by
         simp only [List.length_append, List.length_take, Array.length_toList, h2, Nat.add_mul]; omega
        refine ((dI hs12 hlen).1 p i' j el v u he hv ?_).mono hk
        have hlt := hins i' j el v he hv
        rw [List.getElem?_toArray, List.getElem?_append_left (by rw [hlen, List.length_append]; exact hlt)] at hu
        exact hu)
     refine ⟨_, _, _, .inl hrun, S', .own nid _ (by rw [aE]; simp) (fun g' m' c' h => ?_), fun k hk1 hk2 => ?_⟩
     ·rw [aE] at h; cases h; rfl
     ·first | exact aN _ _ hk1 | exact (aN _ _ hk1).trans (aN _ _ (Ne.symm (hk2 _ List.mem_cons_self)))
    ·have holds : ∀ j v, (arr.toList.take (es1.length * sz))[j]? = some v → w.cell? ((⟨g, 0, none⟩ : Addr).add j) = some v := fun j v hj => by
      rw [List.getElem?_take] at hj
      split at hj
      ·rw [Addr.add_lit, Nat.zero_add, cell_of_row w g j arr e (0, 0) q2]; simpa using hj
      ·cases hj
     have hrun := ce (P := P) (a := a) (w := w) ho (by
      rw [hxe, h1]; exact iw ht ht' hi hz ⟨g, 0, none⟩ es1.length cap (arr.toList.take (es1.length * sz)) (by rw [his, hte]; simp; omega) holds ad es2.length c news (by rw [h2, his, hte]) h3 (by omega) hb1'
       (growslice_fits (by omega) (by rw [hib]; exact hb2)))
     have hlen : (arr.toList.take (es1.length * sz) ++ news).length = (es1.length + es2.length) * sz := by
      simp only [List.length_append, List.length_take, Array.length_toList, h2, Nat.add_mul]; omega
     obtain ⟨k1, k2, k3, k4⟩ := fA (w := w) (e := e) (need := es1.length + es2.length) (old := cap) (sz := sz) (z := z) (vs := arr.toList.take (es1.length * sz) ++ news) (m0 := 0) hlen hzs hb1
     obtain ⟨S1, hk1⟩ := S.kill (id := id) (by rw [q1]; simp)
     have hr1 : ({ s with h := d8 s.h id .dead } : St).h nid = .res := by rw [← hr]; exact aN _ _ hne
     have S' := S1.fresh (w' := w.drew.alloc (.cells ((arr.toList.take (es1.length * sz) ++ news).toArray ++ Builtin.zeroCells z.cells (grownCap w (es1.length + es2.length) cap e - (es1.length + es2.length))) e)) hr1
      (.row (some w.heap.size) (es1.length + es2.length) (grownCap w (es1.length + es2.length) cap e)) (.row e sz (es1 ++ es2))
      (fun b hb => by cases hb; simp) rfl rfl rfl (by simp) (fun b hb => Below.heap_alloc w.drew _ b hb)
      (fun hk => ⟨hsz, hs12, .inr ⟨w.heap.size, _, _, by simp, heap_alloc_new w.drew _, by simpa using k1, k2, k3, fun i' j el v u he hv hu => ?_⟩⟩)
     ·refine ⟨_, _, _, .inl hrun, S'.1, .own nid _ (by rw [aE]; simp) (fun g m c h => ?_), fun k hk1 hk2 => ?_⟩
      ·rw [aE] at h; cases h; rfl
      ·first | exact aN _ _ hk1 | exact (aN _ _ hk1).trans (aN _ _ (Ne.symm (hk2 _ List.mem_cons_self)))
     ·have p1 : PW (RepV w (cx B ι)) es1.flatten (arr.toList.take (es1.length * sz)) := (dI hs1 (by simp; omega)).2 (fun i j el v u he hv hu => by
       rw [List.getElem?_take] at hu
       split at hu
       ·exact q6 i j el v u he hv (by simpa using hu)
       ·cases hu)
      have p := p1.append h4
      rw [← List.flatten_append] at p
      exact (((dI hs12 (by rw [hlen, List.length_append])).1 p i' j el v u he hv (k4 _ u (hins i' j el v he hv) hu)).mono hk1).mono hk
theorem tI (hT : bg P tab = true) {ti ti' te : TI} {x y : Operand} {nid sz : Nat} {es1 es2 : List (List V)} {kills : List (Nat × Blk)} (ho : o.op = .call { callee := .builtin .append, args := #[x, y], argTypes := #[t, t'] })
 (hl : lk tab t = some ti) (he : ti.sliceElem = some e) (hl' : lk tab t' = some ti') (he' : ti'.sliceElem = some e') (hle : lk tab e = some te) (hte : te.size = sz) (hsz : 0 < sz)
 (hx : (s.ev x = some .nils ∧ es1 = [] ∧ kills = []) ∨ ∃ id, s.ev x = some (.own id) ∧ s.h id = .row e sz es1 ∧ kills = [(id, .dead)])
 (hy : HM s y es2 sz) (hs2 : ∀ el ∈ es2, el.length = sz) (hone : ∀ el ∈ es2, ∀ v ∈ el, v.one = true) (hr : s.h nid = .res)
 (hb1 : es1.length + es2.length ≤ maxLen) (hb2 : (es1.length + es2.length) * te.bytes ≤ 140737488355328) :
 cV P o s (.own nid) (kills ++ [(nid, .row e sz (es1 ++ es2))]) := fun B ι a w S => by
 obtain ⟨u, w', ι', h1, h2, h3, _⟩ := pw hT ho hl he hl' he' hle hte hsz hx S (hy B ι a w S) hs2 hone hr hb1 hb2
 exact ⟨u, w', ι', h1, h2, h3⟩
end
end Go.Vd
namespace Go.Vd
open Go.RowKit
section
variable {P : Program} {tab : kt} {o : Oper} {s : St}
theorem yE (hT : bg P tab = true) {t e nid : Nat} {ti te : TI} {x y : Operand} {kl kc : IntKind} {l c : Int} {el0 : List V} (ho : o.op = .makeSlice t x y)
 (hl : lk tab t = some ti) (he : ti.sliceElem = some e) (hle : lk tab e = some te) (hx : s.ev x = some (.v (.int kl l))) (hy : s.ev y = some (.v (.int kc c)))
 (h0 : 0 ≤ l) (hlc : l ≤ c) (hc : c.toNat ≤ maxLen) (hb : (te.bytes : Int) * c ≤ 281474976710656) (hz : te.zero.map Z.toD = el0.map .v) (hsz : 0 < te.size) (hr : s.h nid = .res) :
 cV P o s (.own nid) [(nid, .row e te.size (List.replicate l.toNat el0))] := by
 intro B ι a w S
 obtain ⟨i, z, hi, his, hib, hz0, hz1, hz2⟩ := dB (bT hT hle)
 have hc' : c ≤ 9223372036854775807 := by simp only [maxLen] at hc; omega
 have hx' := (aA (S.ev hx)).int_inv
 have hy' := (aA (S.ev hy)).int_inv
 have hrun : (execOp a.eval o).run P w = .ok (.value (.slice (some ⟨w.heap.size, 0, none⟩) l.toNat c.toNat)) (w.alloc (.cells (madeCells z.cells (c.toNat * i.size)) e)) := by
  simp [execOp, ho, hx', hy', run_make w t e i z (ct hT hl he) hi hz0 kl kc l c h0 hlc (by rw [hib]; exact hb) hc']
 rw [his] at hrun
 have hlen : el0.length = te.size := by
  have := congrArg List.length hz
  simp only [List.length_map] at this
  rw [← this, ← hz1]; simpa using hz2
 have S' := S.fresh (w' := w.alloc (.cells (madeCells z.cells (c.toNat * te.size)) e)) hr (.row (some w.heap.size) l.toNat c.toNat) (.row e te.size (List.replicate l.toNat el0)) (fun b hb => by cases hb; simp) rfl rfl rfl (by simp)
  (fun b hb => Below.heap_alloc w _ b hb) (fun hk => ⟨hsz, fun el hel => by rw [List.eq_of_mem_replicate hel, hlen], .inr ⟨w.heap.size, c.toNat, _, by simp, heap_alloc_new w _, by simp; omega, hc, size_madeCells _ _, fun i' j el v u he' hv hu => ?_⟩⟩)
 ·refine ⟨_, _, _, .inl hrun, S'.1, .own nid _ (by rw [aE]; simp) fun g m' c' h => ?_⟩
  rw [aE] at h; cases h; rfl
 ·have hel : el = el0 := List.eq_of_mem_replicate (List.mem_of_getElem? he')
  subst hel
  have hj : j < te.size := by rw [← hlen]; exact (List.getElem?_eq_some_iff.1 hv).1
  have hlt : i' * te.size + j < c.toNat * te.size := by
   have h3 := Array.getElem?_eq_some_iff.1 hu
   obtain ⟨h4, _⟩ := h3
   rw [size_madeCells] at h4; exact h4
  have hmod : (i' * te.size + j) % z.cells.size = j := by
   rw [hz2, Nat.add_comm, Nat.add_mul_mod_self_right]; exact Nat.mod_eq_of_lt hj
  have hzj : z.cells[j]? = some u := by
   simp only [madeCells, Array.getElem?_map] at hu
   rw [Array.getElem?_range] at hu
   simp only [hlt, if_true, Option.map_some, hmod, Option.some.injEq] at hu
   have hj' : j < z.cells.size := by omega
   rw [getElem!_pos z.cells j hj'] at hu
   simp [hj', hu]
  have : (te.zero.map Z.toD)[j]? = some (.v v) := by rw [hz, List.getElem?_map, hv]; rfl
  rw [← hz1, List.map_map, List.getElem?_map] at this
  rw [← Array.getElem?_toList] at hzj
  rw [hzj] at this
  simp only [Option.map_some, Option.some.injEq, Function.comp] at this
  have hr' : RepD (w.alloc (.cells (madeCells z.cells (c.toNat * te.size)) e)) (cx B (d8 ι nid (.row (some w.heap.size) l.toNat c.toNat))) (d8 ι nid (.row (some w.heap.size) l.toNat c.toNat)) (lW u).toD u := jM u
  rw [this] at hr'
  exact aA hr'
def gd (place : Nat → Option (Nat × Nat)) : List D → List (Nat × List D) → Option (List D)
 | ds, [] => some ds
 | ds, (i, pc) :: rest => match place i with
   | none => none
   | some (off, size) => if pc.length = size ∧ off + pc.length ≤ ds.length then gd place (ds.take off ++ pc ++ ds.drop (off + pc.length)) rest else none
theorem qD (off : Nat) : ∀ (vs : List Value) (k : Nat) (cs : Array Value), off + k + vs.length ≤ cs.size →
 ((vs.zipIdx k).foldl (fun cs (c, j) => cs.setIfInBounds (off + j) c) cs).toList = cs.toList.take (off + k) ++ vs ++ cs.toList.drop (off + k + vs.length)
 | [], k, cs, _ => by simp
 | v :: vs, k, cs, h => by
   rw [List.zipIdx_cons, List.foldl_cons, qD off vs (k + 1) _ (by simp at h ⊢; omega)]
   simp only [Array.toList_setIfInBounds, List.length_cons]
   have e := list_seg_step cs.toList (off + k) v vs (by simp at h ⊢; omega)
   simpa [Nat.add_assoc, Nat.add_comm 1] using e
theorem kO {R : D → Value → Prop} {place : Nat → Option (Nat × Nat)} : ∀ {pd : List (Nat × List D)} {pv : List (Nat × Value)} {ds res : List D} {cells : Array Value},
 PW R ds cells.toList → pd.length = pv.length → (∀ (k : Nat) x y, pd[k]? = some x → pv[k]? = some y → x.1 = y.1 ∧ PW R x.2 y.2.cells.toList) → gd place ds pd = some res →
 ∃ cells', Instr.fill place cells pv = some cells' ∧ PW R res cells'.toList
 | [], [], ds, res, cells, h, _, _, hf => by
   simp [gd] at hf; subst hf
   exact ⟨cells, rfl, h⟩
 | [], _ :: _, _, _, _, _, hl, _, _ => by simp at hl
 | _ :: _, [], _, _, _, _, hl, _, _ => by simp at hl
 | (i, pc) :: pd, (i', v) :: pv, ds, res, cells, h, hl, hp, hf => by
   obtain ⟨h1, h2⟩ := hp 0 (i, pc) (i', v) rfl rfl
   simp only at h1 h2
   subst h1
   have hlen : v.cells.size = pc.length := by simpa using h2.1
   have hcl : cells.size = ds.length := by simpa using h.1
   simp only [gd] at hf
   simp only [Instr.fill]
   cases hpl : place i with
   | none => rw [hpl] at hf; cases hf
   | some p =>
     obtain ⟨off, size⟩ := p
     rw [hpl] at hf
     simp only at hf ⊢
     split at hf
     ·rename_i hc
      rw [if_neg (show ¬ ((decide (v.cells.size ≠ size) || decide (off + v.cells.size > cells.size)) = true) by simp; omega)]
      have hfold : (v.cells.zipIdx.foldl (fun cs (c, j) => cs.setIfInBounds (off + j) c) cells).toList = cells.toList.take off ++ v.cells.toList ++ cells.toList.drop (off + v.cells.toList.length) := by
       rw [← Array.foldl_toList, Array.toList_zipIdx]
       have := qD off v.cells.toList 0 cells (by simp; omega)
       simpa using this
      refine kO (cells := v.cells.zipIdx.foldl (fun cs (c, j) => cs.setIfInBounds (off + j) c) cells) ?_ (by simpa using hl) (fun k x y hx hy => hp (k + 1) x y (by simpa using hx) (by simpa using hy)) hf
      rw [hfold]
      exact h.splice h2 off
     ·cases hf
def St.parts (s : St) : List (Nat × Operand) → Option (List (Nat × List D))
 | [] => some []
 | (i, x) :: r => match s.ev x, s.parts r with
    | some d, some ps => (d.flat s.h).map fun ds => (i, ds) :: ps
    | _, _ => none
theorem Sim.parts {B : dt} {ι : Nat → Con} {a : Act} {w : World} (S : Sim B s ι a w) : ∀ {ps : List (Nat × Operand)} {pd : List (Nat × List D)}, s.parts ps = some pd →
 pd.length = (ps.map fun (i, x) => (i, a.eval x)).length ∧ ∀ (k : Nat) x y, pd[k]? = some x → (ps.map fun (i, x) => (i, a.eval x))[k]? = some y → x.1 = y.1 ∧ PW (RepD w (cx B ι) ι) x.2 y.2.cells.toList
 | [], pd, h => by simp [St.parts] at h; subst h; simp
 | (i, x) :: r, pd, h => by
  simp only [St.parts] at h
  split at h
  ·rename_i d ps' h1 h2
   obtain ⟨ds, h3, h4⟩ := Option.map_eq_some_iff.1 h
   subst h4
   obtain ⟨h5, h6⟩ := S.parts h2
   refine ⟨by simp only [List.map_cons, List.length_cons, h5], fun k u v hu hv => ?_⟩
   cases k with
   | zero =>
     simp at hu hv; subst hu; subst hv
     obtain ⟨h7, h8⟩ := lO S h3 (S.ev h1)
     exact ⟨rfl, nD h7 h8⟩
   | succ k => exact h6 k u v (by simpa using hu) (by simpa using hv)
  ·cases h
theorem um (hT : bg P tab = true) {t : Nat} {ti : TI} {fos : List (Nat × Nat)} (hl : lk tab t = some ti) (he : ti.kind = .struct fos) :
 ∃ fs, P.underlying t = some (.struct fs) ∧ fs.toList.map (fun f => (f.offset, P.cellsOf f.type)) = fos ∧ ∀ f ∈ fs.toList, ∃ j, P.info? f.type = some j ∧ j.size ≠ 0 := by
 have h := dl (bT hT hl)
 rw [he] at h; exact h
theorem rP {w : World} {im : Nat → Prop} {ι : Nat → Con} {z : Value} {zs : List Z} (h : z.cells.toList.map lW = zs) : PW (RepD w im ι) (zs.map Z.toD) z.cells.toList := by
 subst h
 refine ⟨by simp, fun i d u hd hu => ?_⟩
 rw [List.map_map, List.getElem?_map, hu] at hd
 simp only [Option.map_some, Option.some.injEq, Function.comp] at hd
 subst hd; exact jM u
theorem oK {w : World} : ∀ (fs : List Field), (∀ f ∈ fs, ∃ j, P.info? f.type = some j ∧ j.size ≠ 0) →
 (fs.mapM (m := Sem) fun f => do pure (f.offset, ← sizeOf f.type)).run P w = .ok (fs.map fun f => (f.offset, P.cellsOf f.type)) w
 | [], _ => rfl
 | f :: r, h => by
   obtain ⟨j, hj, _⟩ := h f List.mem_cons_self
   have hf : (do pure (f.offset, ← sizeOf f.type) : Sem (Nat × Nat)).run P w = .ok (f.offset, P.cellsOf f.type) w := by simp [sizeOf, typeInfo, hj, Program.cellsOf]
   rw [List.mapM_cons]
   simp only [Sem.run_bind, hf, Result.andThen_ok, oK r (fun g hg => h g (List.mem_cons_of_mem _ hg)), Sem.run_pure, List.map_cons]
theorem mQ (hT : bg P tab = true) {t : Nat} {ti : TI} {fos : List (Nat × Nat)} {parts : Array (Nat × Operand)} {pd : List (Nat × List D)} {res : List D} (ho : o.op = .build t parts)
 (hl : lk tab t = some ti) (hk : ti.kind = .struct fos) (hp : s.parts parts.toList = some pd) (hf : gd (fos[·]?) (ti.zero.map Z.toD) pd = some res) : cV P o s (mkAgg res) [] :=
 bi fun B ι a w S => by
  obtain ⟨i, z, hi, his, hib, hz0, hz1, hz2⟩ := dB (bT hT hl)
  obtain ⟨fs, h1, h2, h3⟩ := um hT hl hk
  obtain ⟨h4, h5⟩ := S.parts hp
  obtain ⟨cells', h6, h7⟩ := kO (rP hz1) h4 h5 hf
  refine ⟨.agg cells', ?_, RepD.mkAgg (.agg _ _ (by simpa using h7.1) fun k d u hd hu => h7.2 k d u hd (by simpa using hu))⟩
  have hm : (fs.mapM (m := Sem) fun f => do pure (f.offset, ← sizeOf f.type)).run P w = .ok (fs.toList.map fun f => (f.offset, P.cellsOf f.type)).toArray w := by
   have hr := oK (P := P) (w := w) fs.toList h3
   cases fs with | mk l =>
   rw [List.mapM_toArray]
   simp only [Sem.run_map] at hr ⊢
   rw [hr]; rfl
  have hparts : (parts.map fun (i, x) => (i, a.eval x)).toList = parts.toList.map fun (i, x) => (i, a.eval x) := by simp
  simp only [execOp, ho, Instr.build, zeroValue, typeInfo, Sem.run_bind, run_program, Result.andThen_ok, hi, hz0, Sem.run_pure, run_underlying h1, hm, h2, hparts]
  have hplace : (fun x : Nat => (fos.toArray)[x]?) = (fun x : Nat => fos[x]?) := by funext x; simp
  simp only [hplace, h6, Sem.run_pure, Result.andThen_ok]
theorem nu (hT : bg P tab = true) {t l e : Nat} {ti te : TI} {parts : Array (Nat × Operand)} {pd : List (Nat × List D)} {res : List D} (ho : o.op = .build t parts)
 (hl : lk tab t = some ti) (hk : ti.arr = some (l, e)) (hle : lk tab e = some te) (hp : s.parts parts.toList = some pd) (hf : gd (fun i => some (i * te.size, te.size)) (ti.zero.map Z.toD) pd = some res) : cV P o s (mkAgg res) [] :=
 bi fun B ι a w S => by
  obtain ⟨i, z, hi, his, hib, hz0, hz1, hz2⟩ := dB (bT hT hl)
  obtain ⟨j, z', hj, hjs, _⟩ := dB (bT hT hle)
  have h1 := mg hT hl hk
  obtain ⟨h4, h5⟩ := S.parts hp
  obtain ⟨cells', h6, h7⟩ := kO (rP hz1) h4 h5 hf
  refine ⟨.agg cells', ?_, RepD.mkAgg (.agg _ _ (by simpa using h7.1) fun k d u hd hu => h7.2 k d u hd (by simpa using hu))⟩
  have hparts : (parts.map fun (i, x) => (i, a.eval x)).toList = parts.toList.map fun (i, x) => (i, a.eval x) := by simp
  simp only [execOp, ho, Instr.build, zeroValue, typeInfo, Sem.run_bind, run_program, Result.andThen_ok, hi, hz0, Sem.run_pure, run_underlying h1, sizeOf, hj, hjs, hparts, h6]
def jw (sz : Nat) : Nat → List V → List (List V)
 | 0, _ => []
 | n + 1, vs => vs.take sz :: jw sz n (vs.drop sz)
theorem oT (sz : Nat) : ∀ (n : Nat) (vs : List V), (jw sz n vs).length = n
 | 0, _ => rfl
 | n + 1, vs => by simp [jw, oT sz n]
theorem nA (sz : Nat) : ∀ (n : Nat) (vs : List V), vs.length = n * sz → ∀ el ∈ jw sz n vs, el.length = sz
 | 0, _, _, el, h => by simp [jw] at h
 | n + 1, vs, hl, el, h => by
   simp only [jw, List.mem_cons] at h
   rcases h with rfl | h
   ·simp [hl, Nat.add_mul]
   ·exact nA sz n _ (by simp [hl, Nat.add_mul]) el h
theorem jU (sz : Nat) : ∀ (n : Nat) (vs : List V), vs.length = n * sz → (jw sz n vs).flatten = vs
 | 0, vs, hl => by simp [jw]; exact (List.eq_nil_of_length_eq_zero (by simpa using hl))
 | n + 1, vs, hl => by
   simp only [jw, List.flatten_cons]
   rw [jU sz n _ (by simp [hl, Nat.add_mul]), List.take_append_drop]
def mY (zd : List D) : Nat → List D
 | 0 => []
 | n + 1 => zd ++ mY zd n
theorem iE {w : World} {im : Nat → Prop} {ι : Nat → Con} {z : Value} {zs : List Z} (h : z.cells.toList.map lW = zs) (n : Nat) : PW (RepD w im ι) (mY (zs.map Z.toD) n) (madeCells z.cells (n * z.cells.size)).toList := by
 have hp := rP (w := w) (im := im) (ι := ι) h
 have hzl : zs.length = z.cells.size := by rw [← h]; simp
 have hlen : ∀ n, (mY (zs.map Z.toD) n).length = n * z.cells.size := by
  intro n
  induction n with
  | zero => simp [mY]
  | succ n ih => simp only [mY, List.length_append, ih, List.length_map, hzl, Nat.add_mul]; omega
 have hget : ∀ n k d, (mY (zs.map Z.toD) n)[k]? = some d → (zs.map Z.toD)[k % z.cells.size]? = some d := by
  intro n
  induction n with
  | zero => intro k d h; simp [mY] at h
  | succ n ih =>
    intro k d hd
    simp only [mY] at hd
    by_cases hk : k < (zs.map Z.toD).length
    ·rw [List.getElem?_append_left hk] at hd
     rw [Nat.mod_eq_of_lt (by simpa [hzl] using hk)]; exact hd
    ·rw [List.getElem?_append_right (by omega)] at hd
     have := ih _ d hd
     simp only [List.length_map, hzl] at this hk
     rwa [← Nat.mod_eq_sub_mod (by omega)] at this
 refine ⟨by rw [hlen]; simp [madeCells], fun k d u hd hu => ?_⟩
 have hk : k < n * z.cells.size := by rw [← hlen]; exact (List.getElem?_eq_some_iff.1 hd).1
 have hpos : 0 < z.cells.size := by
  rcases Nat.eq_zero_or_pos z.cells.size with h0 | h0
  ·rw [h0] at hk; simp at hk
  ·exact h0
 refine hp.2 (k % z.cells.size) d u (hget n k d hd) ?_
 have hm := Nat.mod_lt k hpos
 simp only [madeCells, Array.toList_map, List.getElem?_map, Array.toList_range, List.getElem?_range hk, Option.map_some, Option.some.injEq] at hu
 rw [getElem!_pos z.cells _ hm] at hu
 simp [hm, hu]
theorem kE {t e n : Nat} {parts : Array (Nat × Operand)} {a : Act} {w : World} {i : TypeInfo} {z : Value} {cells' : Array Value} (ho : o.op = .buildSlice t n parts)
 (ht : P.underlying t = some (.slice e)) (hi : P.info? e = some i) (hz : i.zero = some z) (hs : z.cells.size = i.size) (hlt : n * i.size ≤ 16777216)
 (hf : Instr.fill (fun k => some (k * i.size, i.size)) (madeCells z.cells (n * z.cells.size)) (parts.toList.map fun (k, x) => (k, a.eval x)) = some cells') :
 (execOp a.eval o).run P w = .ok (.value (.slice (some ⟨w.heap.size, 0, none⟩) n n)) (w.alloc (.cells cells' e)) := by
 have hparts : (parts.map fun (i, x) => (i, a.eval x)).toList = parts.toList.map fun (i, x) => (i, a.eval x) := by simp
 have hsz : ∀ w, (sizeOf e).run P w = .ok i.size w := fun w => by simp [sizeOf, typeInfo, hi]
 have hzv : ∀ w, (zeroValue e).run P w = .ok z w := fun w => by simp [zeroValue, typeInfo, hi, hz]
 have h1 : ¬ (n * i.size > 2 ^ 24) := by omega
 have key : ∀ zs : Array Value, (Array.range (n * i.size)).map (fun x => zs[x % zs.size]!) = madeCells z.cells (n * z.cells.size) →
  (match Instr.fill (fun k => some (k * i.size, i.size)) ((Array.range (n * i.size)).map (fun x => zs[x % zs.size]!)) (parts.map fun (p : Nat × Operand) => match p with | (i, x) => (i, a.eval x)).toList with
   | some cells => (do pure (Value.slice (some (← newRow e cells)) n n) : Sem Value)
   | _ => (stuck "buildSlice: a part of the wrong size" : Sem Value) : Sem Value).run P w = .ok (.slice (some ⟨w.heap.size, 0, none⟩) n n) (w.alloc (.cells cells' e)) := by
  intro zs hzs
  rw [hzs, hparts, hf]
  simp [newRow]
 have hrun : (Instr.buildSlice t n (parts.map fun (i, x) => (i, a.eval x))).run P w = .ok (.slice (some ⟨w.heap.size, 0, none⟩) n n) (w.alloc (.cells cells' e)) := by
  unfold Instr.buildSlice
  by_cases h0 : n * i.size = 0
  ·simp only [Sem.run_bind, run_underlying ht, Result.andThen_ok, hsz, Sem.run_ite, if_neg h1, if_pos h0, Sem.run_pure]
   refine key #[] ?_
   rw [hs, h0]; simp [madeCells]
  ·simp only [Sem.run_bind, run_underlying ht, Result.andThen_ok, hsz, Sem.run_ite, if_neg h1, if_neg h0, Sem.run_pure, hzv]
   refine key z.cells ?_
   rw [← hs]; rfl
 simp only [execOp, ho, Sem.run_bind, hrun, Result.andThen_ok, Sem.run_pure]
theorem yy (hT : bg P tab = true) {t e n : Nat} {ti te : TI} {parts : Array (Nat × Operand)} {pd : List (Nat × List D)} {res : List D} {vs : List V} (ho : o.op = .buildSlice t n parts)
 (hl : lk tab t = some ti) (he : ti.sliceElem = some e) (hle : lk tab e = some te) (hp : s.parts parts.toList = some pd) (hf : gd (fun i => some (i * te.size, te.size)) (mY (te.zero.map Z.toD) n) pd = some res)
 (hv : ks res = some vs) (hlt : n * te.size ≤ 16777216) : cV P o s (.v (.sl (jw te.size n vs))) [] := by
 intro B ι a w S
 obtain ⟨i, z, hi, his, hib, hz0, hz1, hz2⟩ := dB (bT hT hle)
 obtain ⟨h4, h5⟩ := S.parts hp
 obtain ⟨cells', h6, h7⟩ := kO (iE hz1 n) h4 h5 hf
 have hrun := kE (P := P) (o := o) (a := a) (w := w) ho (ct hT hl he) hi hz0 (by omega) (by rw [his]; exact hlt) (by rw [his]; exact h6)
 have hres := gc hv
 subst hres
 have hfl : ∀ (ds res : List D) (pd : List (Nat × List D)) (pl : Nat → Option (Nat × Nat)), gd pl ds pd = some res → res.length = ds.length := by
  intro ds res pd pl
  induction pd generalizing ds with
  | nil => intro h; simp [gd] at h; rw [h]
  | cons p r ih =>
    intro h
    simp only [gd] at h
    split at h
    ·cases h
    ·split at h
     ·rename_i hc; rw [ih _ h]; simp; omega
     ·cases h
 have hvl : vs.length = n * te.size := by
  have h8 := hfl _ _ _ _ hf
  simp only [List.length_map] at h8
  rw [h8]
  have := (iE (w := w) (im := cx B ι) (ι := ι) hz1 n).1
  rw [← this]; simp [madeCells, hz2]
 have hcs : cells'.size = n * te.size := by have := h7.1; simp at this; omega
 obtain ⟨S', hk⟩ := S.grow (w' := w.alloc (.cells cells' e)) rfl rfl rfl (by simp) (fun b hb => Below.heap_alloc w _ b hb)
 refine ⟨_, _, ι, .inl hrun, S', .v ?_⟩
 by_cases h0 : n = 0
 ·subst h0; exact .sl0 _ _
 ·have him : cx B ι w.heap.size := ⟨.inr (.inl S.size), fun id h => by have := (S.bnd id _ h).1; omega⟩
  have hcell : ∀ j, (w.alloc (.cells cells' e)).cell? ⟨w.heap.size, 0 + j, none⟩ = cells'[j]? := fun j => by rw [Nat.zero_add]; exact cell_of_row _ _ j cells' e (0, 0) (heap_alloc_new w _)
  have hcl := oT te.size n vs
  have hce := nA te.size n vs hvl
  have := RepV.sl (w := w.alloc (.cells cells' e)) (im := cx B ι) (jw te.size n vs) w.heap.size 0 te.size n him (by simp) (by rw [hcl]; exact Nat.le_refl _) hce ?_ ?_
  ·rw [hcl] at this; exact this
  ·intro i' j hi' hj
   rw [hcl] at hi'
   rw [Nat.add_assoc, hcell]
   have : i' * te.size + j < cells'.size := by
    rw [hcs]
    calc i' * te.size + j < i' * te.size + te.size := by omega
     _ = (i' + 1) * te.size := by rw [Nat.add_mul, Nat.one_mul]
     _ ≤ n * te.size := Nat.mul_le_mul_right _ (by omega)
   simp [this]
  ·intro i' j el v u he' hv' hu
   rw [Nat.add_assoc, hcell] at hu
   have p : PW (RepV w (cx B ι)) (jw te.size n vs).flatten cells'.toList := by
    rw [jU te.size n vs hvl]
    exact ⟨by simpa using h7.1, fun k x y hx hy => aA (h7.2 k (.v x) y (by simp [hx]) hy)⟩
   exact ((dI hce (by rw [hcl]; simpa using hcs)).1 p i' j el v u he' hv' (by simpa using hu)).mono hk
theorem pk (hT : bg P tab = true) {t e n nid : Nat} {ti te : TI} {parts : Array (Nat × Operand)} {pd : List (Nat × List D)} {res : List D} {vs : List V} (ho : o.op = .buildSlice t n parts)
 (hl : lk tab t = some ti) (he : ti.sliceElem = some e) (hle : lk tab e = some te) {B : dt} {ι : Nat → Con} {a : Act} {w : World} (S : Sim B s ι a w)
 (h4 : pd.length = (parts.toList.map fun (i, x) => (i, a.eval x)).length) (h5 : ∀ (k : Nat) x y, pd[k]? = some x → (parts.toList.map fun (i, x) => (i, a.eval x))[k]? = some y → x.1 = y.1 ∧ PW (RepD w (cx B ι) ι) x.2 y.2.cells.toList)
 (hf : gd (fun i => some (i * te.size, te.size)) (mY (te.zero.map Z.toD) n) pd = some res)
 (hv : ks res = some vs) (hlt : n * te.size ≤ 16777216) (hsz : 0 < te.size) (hr : s.h nid = .res) :
 ∃ u w' ι', ((execOp a.eval o).run P w = .ok (.value u) w' ∨ ((execOp a.eval o).run P w = .ok .skip w' ∧ u = undef)) ∧ Sim B (s.eff [(nid, .row e te.size (jw te.size n vs))]) ι' a w' ∧ RepD w' (cx B ι') ι' (.own nid) u ∧ ∀ k, k ≠ nid → ι' k = ι k := by
 obtain ⟨i, z, hi, his, hib, hz0, hz1, hz2⟩ := dB (bT hT hle)
 obtain ⟨cells', h6, h7⟩ := kO (iE hz1 n) h4 h5 hf
 have hrun := kE (P := P) (o := o) (a := a) (w := w) ho (ct hT hl he) hi hz0 (by omega) (by rw [his]; exact hlt) (by rw [his]; exact h6)
 have hres := gc hv
 subst hres
 have hfl : ∀ (ds res : List D) (pd : List (Nat × List D)) (pl : Nat → Option (Nat × Nat)), gd pl ds pd = some res → res.length = ds.length := by
  intro ds res pd pl
  induction pd generalizing ds with
  | nil => intro h; simp [gd] at h; rw [h]
  | cons p r ih =>
    intro h
    simp only [gd] at h
    split at h
    ·cases h
    ·split at h
     ·rename_i hc; rw [ih _ h]; simp; omega
     ·cases h
 have hvl : vs.length = n * te.size := by
  have h8 := hfl _ _ _ _ hf
  simp only [List.length_map] at h8
  rw [h8]
  have := (iE (w := w) (im := cx B ι) (ι := ι) hz1 n).1
  rw [← this]; simp [madeCells, hz2]
 have hcs : cells'.size = n * te.size := by have := h7.1; simp at this; omega
 have hcl := oT te.size n vs
 have hce := nA te.size n vs hvl
 have hn : n ≤ maxLen := by
  have : n ≤ n * te.size := Nat.le_mul_of_pos_right n hsz
  simp only [maxLen]; omega
 have S' := S.fresh (w' := w.alloc (.cells cells' e)) hr (.row (some w.heap.size) n n) (.row e te.size (jw te.size n vs)) (fun b hb => by cases hb; simp) rfl rfl rfl (by simp)
  (fun b hb => Below.heap_alloc w _ b hb) (fun hk => ⟨hsz, hce, .inr ⟨w.heap.size, n, cells', by rw [hcl], heap_alloc_new w _, by rw [hcl]; exact Nat.le_refl _, hn, hcs, fun i' j el v u he' hv' hu => ?_⟩⟩)
 ·refine ⟨_, _, _, .inl hrun, S'.1, .own nid _ (by rw [aE]; simp) (fun g m' c' h => ?_), fun k hk => aN _ _ hk⟩
  rw [aE] at h; cases h; rfl
 ·have p : PW (RepV w (cx B ι)) (jw te.size n vs).flatten cells'.toList := by
   rw [jU te.size n vs hvl]
   exact ⟨by simpa using h7.1, fun k x y hx hy => aA (h7.2 k (.v x) y (by simp [hx]) hy)⟩
  exact ((dI hce (by rw [hcl]; simpa using hcs)).1 p i' j el v u he' hv' (by simpa using hu)).mono hk
theorem uJ (hT : bg P tab = true) {t e n nid : Nat} {ti te : TI} {parts : Array (Nat × Operand)} {pd : List (Nat × List D)} {res : List D} {vs : List V} (ho : o.op = .buildSlice t n parts)
 (hl : lk tab t = some ti) (he : ti.sliceElem = some e) (hle : lk tab e = some te) (hp : s.parts parts.toList = some pd) (hf : gd (fun i => some (i * te.size, te.size)) (mY (te.zero.map Z.toD) n) pd = some res)
 (hv : ks res = some vs) (hlt : n * te.size ≤ 16777216) (hsz : 0 < te.size) (hr : s.h nid = .res) : cV P o s (.own nid) [(nid, .row e te.size (jw te.size n vs))] := fun B ι a w S => by
 obtain ⟨h4, h5⟩ := S.parts hp
 obtain ⟨u, w', ι', h1, h2, h3, _⟩ := pk hT ho hl he hle S h4 h5 hf hv hlt hsz hr
 exact ⟨u, w', ι', h1, h2, h3⟩
end
end Go.Vd
namespace Go.Vd
open Go.RowKit
def WF (r : Option Nat) : Fence := { Fence.wide with round := r }
def qE (B : dt) (N : Nat) (s : St) (a : Act) (w : World) : Prop := a.tmps.size = N ∧ ∃ ι, Sim B s ι a w
abbrev BB := Nat → dt → Prop
def only (B : dt) : BB := fun _ B' => B' = B
def eJ (𝔅 : BB) (N : Nat) (s : St) (a : Act) (w : World) : Prop := a.tmps.size = N ∧ ∃ B ι, 𝔅 s.m.k B ∧ Sim B s ι a w
def Is (P : Program) (r : Option Nat) (o : Oper) (s s' : St) : Prop :=
 ∀ (B : dt) (N : Nat) (ι : Nat → Con) (a : Act) (w : World) (n : Nat) (Q : Exit → Act → World → Prop), Sim B s ι a w → a.tmps.size = N → (∀ k, o.dst = some k → k < N) →
   o.wpIn (WF r) n P a w (qE B N s') Q
theorem eh (a : Act) (dst : Option Nat) (u : Value) : (a.put dst u).tmps.size = a.tmps.size := by
 cases dst <;> simp [Act.put]
theorem Sim.putAny {B : dt} {s : St} {ι : Nat → Con} {a : Act} {w : World} (S : Sim B s ι a w) {dst : Option Nat} (hn : ∀ k, dst = some k → k < a.tmps.size) {d : D} {u : Value}
 (h : RepD w (cx B ι) ι d u) : Sim B (s.put dst d) ι (a.put dst u) w := by
 cases dst with
 | none => exact S
 | some k => exact S.put (hn k rfl) h
theorem sP {P : Program} {r : Option Nat} {o : Oper} {s : St} {d : D} {e : List (Nat × Blk)} (hnd : ∀ c, o.op ≠ .defer c) (h : cV P o s d e) : Is P r o s ((s.eff e).put o.dst d) := by
 intro B N ι a w n Q S hN hd
 refine ⟨fun f _ => trivial, ?_⟩
 rw [Oper.semAt_eq _ _ _ hnd]
 obtain ⟨u, w', ι', hrun, S', hr⟩ := h B ι a w S
 have hp : qE B N ((s.eff e).put o.dst d) (a.put o.dst u) w' := ⟨by rw [eh]; exact hN, ι', S'.putAny (by rw [hN]; exact hd) hr⟩
 rcases hrun with hrun | ⟨hrun, rfl⟩ <;> rw [hrun] <;> exact hp
structure sY (P : Program) (r : Option Nat) (o : Oper) (E : List (Operand × D)) (F : List (Nat × Blk)) (d : D) (e : List (Nat × Blk)) : Prop where
 ops : ∀ p ∈ E, p.1 ∈ o.op.operands
 snd : ∀ s : St, (∀ p ∈ E, s.ev p.1 = some p.2) → (∀ p ∈ F, s.h p.1 = p.2) → Is P r o s ((s.eff e).put o.dst d)
def ik : D := .v (.tup [])
def aQ (ops : List Oper) (s : St) : Option (Nat × Bool) → Option Bool
 | none => some true
 | some (j, want) => match ops[j]? with
   | none => some false
   | some o => match o.dst with
     | none => some false
     | some t => match s.t t with
       | some (.v (.bool b)) => some (b == want)
       | some (.v (.tup [])) => some false
       | _ => none
theorem eq {B : dt} {s : St} {ι : Nat → Con} {a : Act} {w : World} (S : Sim B s ι a w) {ops : List Oper} {o : Oper} {b : Bool} (h : aQ ops s o.guard = some b) :
 Region.wanted o (yielded ops.toArray a.tmps) = b := by
 unfold Region.wanted
 cases hg : o.guard with
 | none => rw [hg] at h; simpa [aQ] using h
 | some p =>
   obtain ⟨j, want⟩ := p
   rw [hg] at h
   simp only [aQ] at h
   simp only [yielded, List.getElem?_toArray]
   cases hj : ops[j]? with
   | none => rw [hj] at h; simp at h; subst h; simp
   | some oj =>
     rw [hj] at h
     simp only at h
     cases hd : oj.dst with
     | none => rw [hd] at h; simp at h; subst h; simp [hd]
     | some t =>
       rw [hd] at h
       simp only [Option.bind_some, hd] at h ⊢
       split at h
       ·rename_i c hc
        cases h
        obtain ⟨u, h1, h2⟩ := S.tmps _ _ hc
        have := (aA h2).bool_inv
        subst this
        rw [h1]; cases c <;> cases want <;> rfl
       ·rename_i hc
        cases h
        obtain ⟨u, h1, h2⟩ := S.tmps _ _ hc
        have := aA h2
        cases this
        rw [h1]; rfl
       ·cases h
abbrev hY := List (List Nat × List Nat)
def cB (lab : Option hY) (i : Nat) (F e : List (Nat × Blk)) : Bool := match lab with
 | none => true
 | some L => match L[i]? with
   | some (R, W) => F.all (fun p => R.contains p.1) && e.all (fun p => W.contains p.1)
   | none => F.isEmpty && e.isEmpty
def AStep (P : Program) (r : Option Nat) (ops : List Oper) (lab : Option hY) (i : Nat) (o : Oper) (s s' : St) : Prop :=
 (aQ ops s o.guard = some true ∧ ∃ E F d e, sY P r o E F d e ∧ (∀ p ∈ E, s.ev p.1 = some p.2) ∧ (∀ p ∈ F, s.h p.1 = p.2) ∧ cB lab i F e = true ∧ s' = (s.eff e).put o.dst d) ∨
 (aQ ops s o.guard = some false ∧ s' = s.put o.dst ik)
def qq (P : Program) (r : Option Nat) (𝔅 : BB) (ops : List Oper) (lab : Option hY) (o : Oper) (s : St) (S' : St → Prop) : Prop :=
 lab = none ∧ aQ ops s o.guard = some true ∧ ∀ (N : Nat) (a : Act) (w : World) (n : Nat) (Q : Exit → Act → World → Prop), eJ 𝔅 N s a w → (∀ k, o.dst = some k → k < N) →
  o.wpIn (WF r) n P a w (fun a w => ∃ s', S' s' ∧ eJ 𝔅 N s' a w) Q
def aG (P : Program) (r : Option Nat) (𝔅 : BB) (ops : List Oper) (lab : Option hY) : Nat → List Oper → St → (St → Prop) → Prop
 | _, [], s, K => K s
 | i, o :: rest, s, K => (∃ s', AStep P r ops lab i o s s' ∧ aG P r 𝔅 ops lab (i + 1) rest s' K) ∨ ∃ S', qq P r 𝔅 ops lab o s S' ∧ ∀ s', S' s' → aG P r 𝔅 ops lab (i + 1) rest s' K
def mm (P : Program) (r : Option Nat) (𝔅 : BB) (ops : List Oper) (lab : Option hY) : List Nat → St → (St → Prop) → Prop
 | [], s, K => K s
 | i :: rest, s, K => ∃ o, ops[i]? = some o ∧ ((∃ s', AStep P r ops lab i o s s' ∧ mm P r 𝔅 ops lab rest s' K) ∨ ∃ S', qq P r 𝔅 ops lab o s S' ∧ ∀ s', S' s' → mm P r 𝔅 ops lab rest s' K)
section
variable {P : Program} {r : Option Nat} {𝔅 : BB} {ops : List Oper} {lab : Option hY}
theorem jN : ∀ (l : List Oper) (i : Nat) (s : St) (K : St → Prop), (∀ j, l[j]? = ops[i + j]?) → aG P r 𝔅 ops lab i l s K → mm P r 𝔅 ops lab (List.range' i l.length) s K
 | [], _, _, _, _, h => h
 | o :: l, i, s, K, hl, h => by
   have hl' : ∀ j, l[j]? = ops[i + 1 + j]? := fun j => by have := hl (j + 1); simpa [Nat.add_assoc, Nat.add_comm 1 j] using this
   refine ⟨o, by simpa using (hl 0).symm, ?_⟩
   rcases h with ⟨s', h1, h2⟩ | ⟨S', h1, h2⟩
   ·exact .inl ⟨s', h1, jN l (i + 1) s' K hl' h2⟩
   ·exact .inr ⟨S', h1, fun s' hs' => jN l (i + 1) s' K hl' (h2 s' hs')⟩
def kL (N : Nat) (ops : List Oper) : Bool := ops.all fun o => match o.dst with | some k => Nat.blt k N | none => true
theorem iU {N : Nat} (h : kL N ops = true) {o : Oper} (ho : o ∈ ops) : ∀ k, o.dst = some k → k < N := fun k hk => by
 have := List.all_eq_true.1 h o ho
 rw [hk] at this
 exact Nat.le_of_ble_eq_true this
theorem gp {N n : Nat} {Q : Exit → Act → World → Prop} (hd : kL N ops = true) : ∀ (l : List Nat) (s : St) (K : St → Prop) (a : Act) (w : World), eJ 𝔅 N s a w →
 (∀ s' a' w', K s' → eJ 𝔅 N s' a' w' → Q .normal a' w') → mm P r 𝔅 ops lab l s K → wpOpsIn (WF r) n P ops.toArray Q l a w
 | [], s, K, a, w, hp, hK, h => hK s a w h hp
 | i :: rest, s, K, a, w, hp, hK, ⟨o, ho, .inr ⟨S', ⟨_, hw, hst⟩, hrest⟩⟩ => by
   rw [wpOpsIn_cons]
   have ho' : ops.toArray[i]? = some o := by simpa using ho
   have hdst := iU hd (List.mem_of_getElem? ho)
   unfold wpOpIn
   simp only [ho']
   obtain ⟨hN, B, ι, hB, S⟩ := hp
   rw [eq S hw, if_pos rfl]
   exact Oper.wpIn_mono (fun a' w' ⟨s', hs', hp'⟩ => gp hd rest s' K a' w' hp' hK (hrest s' hs')) (hst N a w n Q ⟨hN, B, ι, hB, S⟩ hdst)
 | i :: rest, s, K, a, w, ⟨hN, B, ι, hB, S⟩, hK, ⟨o, ho, .inl ⟨s', hst, hrest⟩⟩ => by
   rw [wpOpsIn_cons]
   have ho' : ops.toArray[i]? = some o := by simpa using ho
   have go : 𝔅 s'.m.k B → ∀ a' w', qE B N s' a' w' → wpOpsIn (WF r) n P ops.toArray Q rest a' w' := fun hB' a' w' ⟨h1, ι', h2⟩ => gp hd rest s' K a' w' ⟨h1, B, ι', hB', h2⟩ hK hrest
   have hdst := iU hd (List.mem_of_getElem? ho)
   have hm : ∀ (s : St) (d : Option Nat) (x : D), (s.put d x).m = s.m := fun s d x => by cases d <;> rfl
   unfold wpOpIn
   simp only [ho']
   rcases hst with ⟨hw, E, F, d, e, hs, hE, hF, _, rfl⟩ | ⟨hw, rfl⟩
   ·rw [eq S hw, if_pos rfl]
    exact Oper.wpIn_mono (go (by rw [hm]; exact hB)) (hs.snd s hE hF B N ι a w n Q S hN hdst)
   ·rw [eq S hw, if_neg (by simp)]
    exact ⟨fun _ _ => trivial, go (by rw [hm]; exact hB) _ _ ⟨by rw [eh]; exact hN, ι, S.putAny (by rw [hN]; exact hdst) (.v (.tup [] #[] rfl (by simp)))⟩⟩
def AAny (P : Program) (r : Option Nat) (ops : List Oper) (lab : Option hY) (K : St → Prop) : Nat → Array Bool → St → Prop
 | 0, listed, s => Region.ready .any ops.toArray listed = [] ∧ K s
 | fuel + 1, listed, s => (Region.ready .any ops.toArray listed = [] → K s) ∧
   ∀ i ∈ Region.ready .any ops.toArray listed, ∃ o s', ops[i]? = some o ∧ AStep P r ops lab i o s s' ∧ AAny P r ops lab K fuel (listed.setIfInBounds i true) s'
theorem uR {K : St → Prop} : ∀ (fuel t : Nat) (listed : Array Bool) (s : St), AAny P r ops lab K fuel listed s → mm P r 𝔅 ops lab (Region.linearise.go .any ops.toArray fuel t listed []) s K := by
 intro fuel
 induction fuel with
 | zero => intro t listed s h; simpa [Region.linearise.go, mm] using h.2
 | succ fuel ih =>
   intro t listed s h
   obtain ⟨h₀, h₁⟩ := h
   simp only [Region.linearise.go]
   change mm P r 𝔅 ops lab (match (Region.ready .any ops.toArray listed)[t % (Region.ready .any ops.toArray listed).length]? with
    | some i => Region.linearise.go .any ops.toArray fuel (t / (Region.ready .any ops.toArray listed).length) (listed.setIfInBounds i true) [i]
    | none => [].reverse) s K
   cases hi : (Region.ready .any ops.toArray listed)[t % (Region.ready .any ops.toArray listed).length]? with
   | none =>
     have hnil : Region.ready .any ops.toArray listed = [] := by
      cases hr : Region.ready .any ops.toArray listed with
      | nil => rfl
      | cons x xs =>
        rw [hr] at hi
        have hlt : t % (x :: xs).length < (x :: xs).length := Nat.mod_lt _ (by simp)
        simp at hi
        simp at hlt
        omega
     simpa [mm] using h₀ hnil
   | some i =>
     simp only []
     rw [linearise_go_acc, List.reverse_singleton, List.singleton_append]
     obtain ⟨o, s', h1, h2, h3⟩ := h₁ i (List.mem_of_getElem? hi)
     exact ⟨o, h1, .inl ⟨s', h2, ih _ _ s' h3⟩⟩
def ja (ops : List Oper) (L : hY) (i j : Nat) (oi oj : Oper) : Bool :=
 oi.apart ops.toArray oj && (match L[i]?, L[j]? with
  | some (Ri, Wi), some (Rj, Wj) => Wi.all (fun x => !Rj.contains x && !Wj.contains x) && Wj.all (fun x => !Ri.contains x)
  | _, _ => true)
theorem iY : ∀ (e : List (Nat × Blk)) (h : Nat → Blk) (i : Nat), (∀ p ∈ e, p.1 ≠ i) → jQ e h i = h i
 | [], _, _, _ => rfl
 | (j, b) :: r, h, i, hne => by
  rw [jQ, iY r _ i (fun p hp => hne p (List.mem_cons_of_mem _ hp)), aN _ _ (Ne.symm (hne (j, b) List.mem_cons_self))]
theorem uO : ∀ (e : List (Nat × Blk)) (h : Nat → Blk) (i : Nat) (b : Blk), (∀ p ∈ e, p.1 ≠ i) → jQ e (d8 h i b) = d8 (jQ e h) i b
 | [], _, _, _, _ => rfl
 | (j, c) :: r, h, i, b, hne => by
  rw [jQ, jQ, tV _ _ _ (Ne.symm (hne (j, c) List.mem_cons_self)), uO r _ i b (fun p hp => hne p (List.mem_cons_of_mem _ hp))]
theorem nG : ∀ (e e' : List (Nat × Blk)) (h : Nat → Blk), (∀ p ∈ e, ∀ q ∈ e', p.1 ≠ q.1) → jQ e' (jQ e h) = jQ e (jQ e' h)
 | [], _, _, _ => rfl
 | (j, c) :: r, e', h, hne => by
  rw [jQ, nG r e' _ (fun p hp => hne p (List.mem_cons_of_mem _ hp)), jQ, uO e' h j c (fun q hq => Ne.symm (hne (j, c) List.mem_cons_self q hq))]
theorem jk {s : St} {x y : Option Nat} {d d' : D} (h : ∀ k, x = some k → y ≠ some k) : (s.put x d).put y d' = (s.put y d').put x d := by
 cases x with
 | none => rfl
 | some i => cases y with
   | none => rfl
   | some j =>
     have hne : i ≠ j := fun e => h i rfl (by rw [e])
     simp only [St.put]
     rw [tV _ _ _ hne]
theorem ji {s : St} {x : Option Nat} {d : D} {e : List (Nat × Blk)} : (s.put x d).eff e = (s.eff e).put x d := by
 cases x <;> rfl
theorem rv {s : St} {dst : Option Nat} {d : D} {x : Operand} (h : ∀ k, dst = some k → x ≠ .tmp k) : (s.put dst d).ev x = s.ev x := by
 cases dst with
 | none => rfl
 | some k =>
   cases x with
   | tmp t =>
     have hne : t ≠ k := fun e => h k rfl (by rw [e])
     show d8 s.t k (some d) t = s.t t
     exact aN _ _ hne
   | _ => rfl
theorem rC {s : St} {e : List (Nat × Blk)} {x : Operand} : (s.eff e).ev x = s.ev x := by cases x <;> rfl
theorem lm {s : St} {o : Oper} {dst : Option Nat} {d : D} (h : ∀ k, dst = some k → k ∉ o.looksAt ops.toArray) : aQ ops (s.put dst d) o.guard = aQ ops s o.guard := by
 cases hg : o.guard with
 | none => rfl
 | some p =>
   obtain ⟨j, want⟩ := p
   simp only [aQ]
   cases hj : ops[j]? with
   | none => rfl
   | some oj =>
     simp only
     cases hd : oj.dst with
     | none => rfl
     | some t =>
       have : (s.put dst d).t t = s.t t := by
        cases dst with
        | none => rfl
        | some k =>
          refine aN _ _ fun e => h k rfl ?_
          simp [Oper.looksAt, hg, hj, hd, e]
       simp only [this]
theorem le {s : St} {e : List (Nat × Blk)} {g : Option (Nat × Bool)} : aQ ops (s.eff e) g = aQ ops s g := by
 cases g with
 | none => rfl
 | some p => rfl
theorem lp {o : Oper} {k : Nat} (h : Operand.tmp k ∈ o.op.operands) : k ∈ o.looksAt ops.toArray := by
 unfold Oper.looksAt
 exact List.mem_append_left _ (List.mem_filterMap.2 ⟨.tmp k, by simpa using h, rfl⟩)
theorem pA {L : hY} (hlab : lab = some L) {i j : Nat} {oi oj : Oper} {s s1 s2 : St} (hap : ja ops L i j oi oj = true) (h1 : AStep P r ops lab i oi s s1) (h2 : AStep P r ops lab j oj s1 s2) :
 ∃ s', AStep P r ops lab j oj s s' ∧ AStep P r ops lab i oi s' s2 := by
 subst hlab
 simp only [ja, Bool.and_eq_true] at hap
 obtain ⟨hap, hl⟩ := hap
 obtain ⟨a1, a2, a3⟩ := Oper.apart_spec hap
 have evj : ∀ (s : St) d e x, x ∈ oj.op.operands → ((s.eff e).put oi.dst d).ev x = s.ev x := fun s d e x hx => by
  rw [rv fun k hk hxk => a1 k hk (lp (by rw [← hxk]; exact hx)), rC]
 have evi : ∀ (s : St) d e x, x ∈ oi.op.operands → ((s.eff e).put oj.dst d).ev x = s.ev x := fun s d e x hx => by
  rw [rv fun k hk hxk => a3 k hk (lp (by rw [← hxk]; exact hx)), rC]
 have wj : ∀ (s : St) d e, aQ ops ((s.eff e).put oi.dst d) oj.guard = aQ ops s oj.guard := fun s d e => by rw [lm a1, le]
 have wi : ∀ (s : St) d e, aQ ops ((s.eff e).put oj.dst d) oi.guard = aQ ops s oi.guard := fun s d e => by rw [lm a3, le]
 have hput : ∀ (s : St) (dst : Option Nat) d, (s.put dst d) = (s.eff []).put dst d := fun s dst d => by cases dst <;> rfl
 have lab1 : ∀ {k : Nat} {F e : List (Nat × Blk)} {R W : List Nat}, L[k]? = some (R, W) → cB (some L) k F e = true → (∀ p ∈ F, p.1 ∈ R) ∧ ∀ p ∈ e, p.1 ∈ W := fun hk h => by
  simp only [cB, hk, Bool.and_eq_true, List.all_eq_true, List.contains_iff_mem] at h
  exact h
 have lab0 : ∀ {k : Nat} {F e : List (Nat × Blk)}, L[k]? = none → cB (some L) k F e = true → F = [] ∧ e = [] := fun hk h => by
  simpa [cB, hk] using h
 have dis : ∀ {Fi ei Fj ej : List (Nat × Blk)}, cB (some L) i Fi ei = true → cB (some L) j Fj ej = true →
  (∀ p ∈ ei, ∀ q ∈ Fj, p.1 ≠ q.1) ∧ (∀ p ∈ ei, ∀ q ∈ ej, p.1 ≠ q.1) ∧ (∀ p ∈ ej, ∀ q ∈ Fi, p.1 ≠ q.1) := by
  intro Fi ei Fj ej h1 h2
  cases hi : L[i]? with
  | none => obtain ⟨rfl, rfl⟩ := lab0 hi h1; simp
  | some pi =>
    obtain ⟨Ri, Wi⟩ := pi
    cases hj : L[j]? with
    | none => obtain ⟨rfl, rfl⟩ := lab0 hj h2; simp
    | some pj =>
      obtain ⟨Rj, Wj⟩ := pj
      obtain ⟨b1, b2⟩ := lab1 hi h1
      obtain ⟨b3, b4⟩ := lab1 hj h2
      rw [hi, hj] at hl
      simp only [Bool.and_eq_true, List.all_eq_true, Bool.not_eq_true'] at hl
      refine ⟨fun p hp q hq e => ?_, fun p hp q hq e => ?_, fun p hp q hq e => ?_⟩
      ·have := (hl.1 p.1 (b2 p hp)).1
       rw [e] at this
       have h3 := b3 q hq
       rw [← List.contains_iff_mem] at h3
       rw [h3] at this; cases this
      ·have := (hl.1 p.1 (b2 p hp)).2
       rw [e] at this
       have h3 := b4 q hq
       rw [← List.contains_iff_mem] at h3
       rw [h3] at this; cases this
      ·have := hl.2 p.1 (b4 p hp)
       rw [e] at this
       have h3 := b1 q hq
       rw [← List.contains_iff_mem] at h3
       rw [h3] at this; cases this
 rcases h1 with ⟨hw1, Ei, Fi, di, ei, hsi, hEi, hFi, hli, rfl⟩ | ⟨hw1, rfl⟩ <;> rcases h2 with ⟨hw2, Ej, Fj, dj, ej, hsj, hEj, hFj, hlj, rfl⟩ | ⟨hw2, rfl⟩
 ·obtain ⟨d1, d2, d3⟩ := dis hli hlj
  refine ⟨(s.eff ej).put oj.dst dj, .inl ⟨by rw [← wj s di ei]; exact hw2, Ej, Fj, dj, ej, hsj, fun p hp => ?_, fun p hp => ?_, hlj, rfl⟩, .inl ⟨by rw [wi]; exact hw1, Ei, Fi, di, ei, hsi, fun p hp => ?_, fun p hp => ?_, hli, ?_⟩⟩
  ·rw [← evj s di ei p.1 (hsj.ops p hp)]; exact hEj p hp
  ·have := hFj p hp
   have e1 : ((s.eff ei).put oi.dst di).h p.1 = s.h p.1 := by
    have : ((s.eff ei).put oi.dst di).h = jQ ei s.h := by cases oi.dst <;> rfl
    rw [this]
    exact iY ei s.h p.1 (fun q hq => d1 q hq p hp)
   rw [← e1]; exact this
  ·rw [evi _ _ _ _ (hsi.ops p hp)]; exact hEi p hp
  ·have : ((s.eff ej).put oj.dst dj).h = jQ ej s.h := by cases oj.dst <;> rfl
   rw [this, iY ej s.h p.1 (fun q hq => d3 q hq p hp)]; exact hFi p hp
  ·rw [ji, ji, jk a2]
   have : (s.eff ei).eff ej = (s.eff ej).eff ei := by
    simp only [St.eff]
    rw [nG ei ej s.h d2]
   rw [this]
 ·refine ⟨s.put oj.dst ik, .inr ⟨by rw [← wj s di ei]; exact hw2, rfl⟩, .inl ⟨by rw [hput, wi]; exact hw1, Ei, Fi, di, ei, hsi, fun p hp => ?_, fun p hp => ?_, hli, ?_⟩⟩
  ·rw [hput, evi _ _ _ _ (hsi.ops p hp)]; exact hEi p hp
  ·have : (s.put oj.dst ik).h = s.h := by cases oj.dst <;> rfl
   rw [this]; exact hFi p hp
  ·rw [ji, jk a2]
 ·refine ⟨(s.eff ej).put oj.dst dj, .inl ⟨by rw [hput, wj] at hw2; exact hw2, Ej, Fj, dj, ej, hsj, fun p hp => ?_, fun p hp => ?_, hlj, rfl⟩, .inr ⟨by rw [wi]; exact hw1, ?_⟩⟩
  ·have := hEj p hp
   rw [hput, evj _ _ _ _ (hsj.ops p hp)] at this; exact this
  ·have := hFj p hp
   have e1 : (s.put oi.dst ik).h = s.h := by cases oi.dst <;> rfl
   rw [e1] at this; exact this
  ·rw [ji, jk a2]
 ·refine ⟨s.put oj.dst ik, .inr ⟨by rw [hput, wj] at hw2; exact hw2, rfl⟩, .inr ⟨by rw [hput s, wi]; exact hw1, ?_⟩⟩
  rw [jk a2]
theorem vF {K : St → Prop} {L : hY} (hlab : lab = some L) {i : Nat} {oi : Oper} (hi : ops[i]? = some oi) (W : Nat → Prop)
 (hW : ∀ j oj, ops[j]? = some oj → W j → ∃ e ∈ oj.after, Region.binds .any e = true ∧ (e.on = i ∨ W e.on)) :
 ∀ (fuel : Nat) (listed : Array Bool) (s s1 : St), (∀ j, W j → listed.getD j true = false) →
   (∀ j oj, ops[j]? = some oj → j ≠ i → listed.getD j true = false → ¬ W j → ja ops L i j oi oj = true) →
   i ∈ Region.ready .any ops.toArray listed → AStep P r ops lab i oi s s1 →
   AAny P r ops lab K fuel (listed.setIfInBounds i true) s1 → AAny P r ops lab K (fuel + 1) listed s := by
 intro fuel
 induction fuel with
 | zero =>
   intro listed s s1 _ _ hr hy H
   refine ⟨fun h => (by rw [h] at hr; cases hr), fun j hj => ?_⟩
   by_cases hji : j = i
   ·subst hji; exact ⟨oi, s1, hi, hy, H⟩
   ·have := ready_mono hj hji
    rw [H.1] at this
    cases this
 | succ fuel ih =>
   intro listed s s1 hWl hfree hr hy H
   refine ⟨fun h => (by rw [h] at hr; cases hr), fun j hj => ?_⟩
   by_cases hji : j = i
   ·subst hji; exact ⟨oi, s1, hi, hy, H⟩
   ·obtain ⟨oj, s2, hoj, hst, hrest⟩ := H.2 j (ready_mono hj hji)
    obtain ⟨hjun, oj', hoj', hall⟩ := mem_ready.1 hj
    have : oj' = oj := by
     have h' : ops[j]? = some oj' := by simpa using hoj'
     rw [hoj] at h'; cases h'; rfl
    subst this
    have hno : ∀ q, listed.getD q true = false → ∀ e ∈ oj'.after, Region.binds .any e = true → e.on ≠ q := fun q h0 e he hb heq => by
     have h1 := hall e he hb
     rw [heq] at h1
     rcases Nat.lt_or_ge q listed.size with h' | h'
     ·simp [h'] at h0 h1; rw [h0] at h1; cases h1
     ·simp [Array.getElem?_eq_none h'] at h1
    have hnW : ¬ W j := fun hw => by
     obtain ⟨e, he, hb, h | h⟩ := hW j oj' hoj hw
     ·exact hno i (mem_ready.1 hr).1 e he hb h
     ·exact hno e.on (hWl _ h) e he hb rfl
    obtain ⟨s', h3, h4⟩ := pA hlab (hfree j oj' hoj hji hjun hnW) hy hst
    have hfree' : ∀ k ok, ops[k]? = some ok → k ≠ i → (listed.setIfInBounds j true).getD k true = false → ¬ W k → ja ops L i k oi ok = true := fun k ok hk hki hun hno => by
     refine hfree k ok hk hki ?_ hno
     by_cases hjk : j = k
     ·subst hjk; exact hjun
     ·rw [getD_set_ne true hjk] at hun; exact hun
    have hWl' : ∀ k, W k → (listed.setIfInBounds j true).getD k true = false := fun k hk => by
     have hjk : j ≠ k := fun e => hnW (e ▸ hk)
     rw [getD_set_ne true hjk]; exact hWl k hk
    refine ⟨oj', s', hoj, h3, ih (listed.setIfInBounds j true) s' s2 hWl' hfree' (ready_mono hr (Ne.symm hji)) h4 ?_⟩
    rw [Array.setIfInBounds_comm _ _ hji]
    exact hrest
def gj (ops : List Oper) (listed : Array Bool) (k : Nat) : Nat → Nat → Bool
 | 0, _ => false
 | n + 1, j => match ops[j]? with
   | none => false
   | some oj => oj.after.any (fun e => Region.binds .any e && Nat.beq e.on k) || oj.after.any (fun e => Region.binds .any e && (!listed.getD e.on true && gj ops listed k n e.on))
theorem iu {listed : Array Bool} {k : Nat} : ∀ {n j : Nat} {oj : Oper}, ops[j]? = some oj → gj ops listed k n j = true →
 ∃ e ∈ oj.after, Region.binds .any e = true ∧ (e.on = k ∨ (listed.getD e.on true = false ∧ ∃ n, gj ops listed k n e.on = true))
 | 0, _, _, _, h => by cases h
 | n + 1, j, oj, ho, h => by
   simp only [gj, ho, Bool.or_eq_true, Array.any_eq_true, Bool.and_eq_true, Bool.not_eq_true'] at h
   rcases h with ⟨q, hq, h3, h4⟩ | ⟨q, hq, h3, h4, h5⟩
   ·exact ⟨_, Array.getElem_mem hq, h3, .inl (Nat.eq_of_beq_eq_true h4)⟩
   ·exact ⟨_, Array.getElem_mem hq, h3, .inr ⟨h4, n, h5⟩⟩
def sN (ops : List Oper) (L : hY) (k : Nat) (listed : Array Bool) : Bool :=
 match ops[k]? with
 | none => false
 | some ok => (List.range ops.length).all fun j => Nat.beq j k || listed.getD j true || (match ops[j]? with
   | none => true
   | some oj => ja ops L k j ok oj || gj ops listed k 4 j)
def pV (ops : List Oper) (L : hY) : Nat → Nat → Array Bool → Bool
 | 0, _, listed => (Region.ready .any ops.toArray listed).isEmpty
 | n + 1, k, listed => (Region.ready .any ops.toArray listed).contains k && sN ops L k listed && pV ops L n (k + 1) (listed.setIfInBounds k true)
theorem o7 {K : St → Prop} {L : hY} (hlab : lab = some L) : ∀ (l : List Oper) (k : Nat) (listed : Array Bool) (s : St), (∀ j, l[j]? = ops[k + j]?) →
 pV ops L l.length k listed = true → aG P r 𝔅 ops lab k l s K → AAny P r ops lab K l.length listed s
 | [], _, _, _, _, hB, h => ⟨by simpa [pV] using hB, h⟩
 | o :: l, k, listed, s, hl, hB, .inr ⟨_, h1, _⟩ => by rw [hlab] at h1; cases h1.1
 | o :: l, k, listed, s, hl, hB, .inl ⟨s1, h1, h2⟩ => by
   have h0 : ops[k]? = some o := by simpa using (hl 0).symm
   simp only [List.length_cons, pV, Bool.and_eq_true] at hB
   obtain ⟨⟨hr, hf⟩, hB'⟩ := hB
   refine vF hlab h0 (fun j => listed.getD j true = false ∧ ∃ n, gj ops listed k n j = true) (fun j oj hj ⟨_, n, hw⟩ => iu hj hw) l.length listed s s1 (fun j hj => hj.1) (fun j oj hj hjk hun hno => ?_) (by simpa using hr) h1
    (o7 hlab l (k + 1) _ s1 (fun j => by have := hl (j + 1); simpa [Nat.add_assoc, Nat.add_comm 1 j] using this) hB' h2)
   simp only [sN, h0, List.all_eq_true, List.mem_range] at hf
   have := hf j (List.getElem?_eq_some_iff.1 hj).1
   simp only [hj, Bool.or_eq_true] at this
   rcases this with (h | h) | h | h
   ·exact absurd (Nat.eq_of_beq_eq_true h) hjk
   ·rw [hun] at h; cases h
   ·exact h
   ·exact absurd ⟨hun, 4, h⟩ hno
end
end Go.Vd
namespace Go.Vd
open Go.RowKit
def pz (B : BB) (N : Nat) (Q : Exit → St → Prop) : Exit → Act → World → Prop := fun e a w => ∃ s, Q e s ∧ eJ B N s a w
def Wp (P : Program) (r : Option Nat) (N : Nat) (B : BB) (c : Code) (Q : Exit → St → Prop) (s : St) : Prop :=
 ∀ a w n, eJ B N s a w → c.wpIn (WF r) n P (pz B N Q) a w
def oA (K : St → Prop) (Q : Exit → St → Prop) : Exit → St → Prop
 | .normal, s => K s
 | e, s => Q e s
def mH (id : Nat) (K : St → Prop) (Q : Exit → St → Prop) : Exit → St → Prop
 | .normal, s => K s
 | .exit id', s => bif Nat.beq id' id then K s else Q (.exit id') s
 | e, s => Q e s
def Le (s s' : St) : Prop := s'.m = s.m ∧ ∀ B ι a w, Sim B s ι a w → ∃ ι', Sim B s' ι' a w
def tc {α : Type} (st : α → St) (inv : α → Prop) (μ : α → Nat) (x : α) (Q : Exit → St → Prop) : Exit → St → Prop
 | .normal, s => ∃ y, inv y ∧ μ y < μ x ∧ Le s (st y)
 | e, s => Q e s
section
variable {P : Program} {r : Option Nat} {N : Nat} {B : BB} {Q : Exit → St → Prop} {s : St}
theorem n9 {c : Code} {Q' : Exit → St → Prop} (h : Wp P r N B c Q s) (hq : ∀ e s, Q e s → Q' e s) : Wp P r N B c Q' s :=
 fun a w n hp => wpIn_mono (h a w n hp) fun e _ _ ⟨s', h1, h2⟩ => ⟨s', hq e s' h1, h2⟩
theorem ao (h : Q .normal s) : Wp P r N B .skip Q s := fun _ _ _ hp => wpIn_skip ⟨s, h, hp⟩
theorem am (h : Q .ret s) : Wp P r N B .ret Q s := fun _ _ _ hp => wpIn_ret ⟨s, h, hp⟩
theorem aO {id : Nat} (h : Q (.exit id) s) : Wp P r N B (.exit id) Q s := fun _ _ _ hp => wpIn_exit ⟨s, h, hp⟩
theorem zY {l : Nat} (h : Q .normal s) : Wp P r N B (.label l) Q s := fun _ _ _ hp => wpIn_label ⟨s, h, hp⟩
theorem ae {x y : Code} (h : Wp P r N B x (oA (Wp P r N B y Q) Q) s) : Wp P r N B (.seq x y) Q s := fun a w n hp =>
 Go.wpIn_seq (wpIn_mono (h a w n hp) fun e a' w' ⟨s', h1, h2⟩ => by
  cases e with
  | normal => exact h1 a' w' n h2
  | _ => exact ⟨s', h1, h2⟩)
theorem xi {c : Operand} {x y : Code} {b : Bool} (hc : s.ev c = some (.v (.bool b))) (ht : b = true → Wp P r N B x Q s) (hf : b = false → Wp P r N B y Q s) : Wp P r N B (.cond c x y) Q s :=
 fun a w n ⟨hN, B0, ι, hB, S⟩ => wpIn_cond (aA (S.ev hc)).bool_inv (by
  cases b with
  | true => exact ht rfl a w n ⟨hN, B0, ι, hB, S⟩
  | false => exact hf rfl a w n ⟨hN, B0, ι, hB, S⟩)
theorem ai {c : Operand} {x y : Code} (hc : s.ev c = some (.v (.bool true))) (h : Wp P r N B x Q s) : Wp P r N B (.cond c x y) Q s := xi hc (fun _ => h) (fun e => by cases e)
theorem ah {c : Operand} {x y : Code} (hc : s.ev c = some (.v (.bool false))) (h : Wp P r N B y Q s) : Wp P r N B (.cond c x y) Q s := xi hc (fun e => by cases e) (fun _ => h)
theorem aw {id : Nat} {c : Code} (h : Wp P r N B c (mH id (Q .normal) Q) s) : Wp P r N B (.block id c) Q s := fun a w n hp =>
 wpIn_block (wpIn_mono (h a w n hp) fun e a' w' ⟨s', h1, h2⟩ => by
  cases e with
  | exit id' =>
    simp only [mH] at h1
    simp only [Exit.inBlock]
    by_cases hid : id' = id
    ·subst hid
     rw [if_pos rfl]
     rw [show Nat.beq id' id' = true by simp] at h1
     exact ⟨s', h1, h2⟩
    ·rw [if_neg hid]
     have : Nat.beq id' id = false := by
      cases hb : Nat.beq id' id with
      | false => rfl
      | true => exact absurd (Nat.eq_of_beq_eq_true hb) hid
     rw [this] at h1
     exact ⟨s', h1, h2⟩
  | _ => exact ⟨s', h1, h2⟩)
theorem cg {s' : St} {c : Code} (hle : Le s s') (h : Wp P r N B c Q s') : Wp P r N B c Q s := fun a w n ⟨hN, B0, ι, hB, S⟩ => h a w n (let ⟨ι', S'⟩ := hle.2 B0 ι a w S; ⟨hN, B0, ι', by rw [hle.1]; exact hB, S'⟩)
theorem Le.trans {s s' s'' : St} (h : Le s s') (h' : Le s' s'') : Le s s'' := ⟨h'.1.trans h.1, fun B ι a w S => let ⟨ι', S'⟩ := h.2 B ι a w S; h'.2 B ι' a w S'⟩
theorem Le.post {s s' : St} (h : Le s s') {a : Act} {w : World} (hp : eJ B N s a w) : eJ B N s' a w := by
 obtain ⟨hN, B0, ι, hB, S⟩ := hp
 obtain ⟨ι', S'⟩ := h.2 B0 ι a w S
 exact ⟨hN, B0, ι', by rw [h.1]; exact hB, S'⟩
theorem lJ {p : Nat → Prop} (h : ∃ m, p m) : ∃ m, p m ∧ ∀ k, p k → m ≤ k := by
 obtain ⟨m, hm⟩ := h
 induction m using Nat.strongRecOn with
 | _ m ih =>
   by_cases hk : ∃ k, k < m ∧ p k
   ·obtain ⟨k, h1, h2⟩ := hk
    exact ih k h1 h2
   ·exact ⟨m, hm, fun k h => Nat.le_of_not_lt fun hlt => hk ⟨k, hlt, h⟩⟩
theorem aZ {α : Type} {c : Code} (st : α → St) (inv : α → Prop) (μ : α → Nat) (x0 : α) (h0 : inv x0) (hle : Le s (st x0)) (round : ∀ x, inv x → Wp P r N B c (tc st inv μ x Q) (st x)) :
 Wp P r N B (.loop c) Q s := by
 intro a w n hp0
 have hp1 := hle.post hp0
 classical
 let At (a : Act) (w : World) (m : Nat) : Prop := ∃ x, inv x ∧ eJ B N (st x) a w ∧ μ x = m
 let M (a : Act) (w : World) : Nat := if h : ∃ m, At a w m then Classical.choose (lJ h) else 0
 have hM : ∀ a w x, inv x → eJ B N (st x) a w → M a w ≤ μ x := by
  intro a w x hx hp
  have he : ∃ m, At a w m := ⟨μ x, x, hx, hp, rfl⟩
  simp only [M, dif_pos he]
  exact (Classical.choose_spec (lJ he)).2 _ ⟨x, hx, hp, rfl⟩
 refine Go.wpIn_loop (I := fun a w => ∃ x, inv x ∧ eJ B N (st x) a w) (μ := M) ⟨x0, h0, hp1⟩ ?_
 rintro a w ⟨x, hx, hp⟩
 have he : ∃ m, At a w m := ⟨μ x, x, hx, hp, rfl⟩
 obtain ⟨y, hy, hpy, hm⟩ := (Classical.choose_spec (lJ he)).1
 refine wpIn_mono (round y hy a w n hpy) fun e a' w' ⟨s', h1, h2⟩ => ?_
 cases e with
 | normal =>
   obtain ⟨z, hz, hlt, hle'⟩ := h1
   have hpz : eJ B N (st z) a' w' := hle'.post h2
   refine ⟨⟨z, hz, hpz⟩, ?_⟩
   have h3 := hM a' w' z hz hpz
   have h4 : M a w = μ y := by simp only [M, dif_pos he]; exact hm.symm
   omega
 | _ => exact ⟨s', h1, h2⟩
theorem zp {id : Nat} {l : List Oper} (hd : kL N l = true) (h : aG P r B l none 0 l s (Q .normal)) : Wp P r N B (.region id l.toArray false) Q s := fun a w n hp =>
 wpIn_region (by
  have h1 := jN (ops := l) l 0 s _ (fun j => by simp) h
  have h2 := gp (N := N) (n := n) (Q := pz B N Q) hd _ s _ a w hp (fun s' a' w' hk hp => ⟨s', hk, hp⟩) h1
  rwa [← List.range_eq_range', show l.length = l.toArray.size by simp] at h2)
theorem aS {id : Nat} {l : List Oper} {L : hY} (hd : kL N l = true) (hm : P.follows .mixedOrders = true) (hB : pV l L l.length 0 (Array.replicate l.length false) = true)
 (h : aG P r B l (some L) 0 l s (Q .normal)) : Wp P r N B (.region id l.toArray true) Q s := fun a w n ⟨hN, B0, ι, hB0, S⟩ =>
 wpIn_region_draw fun t => by
  simp only [Region.schedule, hm, Bool.true_or, if_true]
  have h1 := o7 (K := Q .normal) (L := L) rfl l 0 (Array.replicate l.length false) s (fun j => by simp) hB h
  have h2 := uR (𝔅 := B) l.length t _ s h1
  have h3 := gp (N := N) (n := n) (Q := pz B N Q) hd _ s _ a { w with drawn := w.drawn + 1 } ⟨hN, B0, ι, hB0, S.drew⟩ (fun s' a' w' hk hp => ⟨s', hk, hp⟩) h2
  have e : l.length = l.toArray.size := by simp
  rw [Region.linearise]
  rw [e] at h3
  exact h3
end
mutual
def D.inn (l : List Nat) : D → Bool
 | .own id => l.contains id
 | .ptr id _ => l.contains id
 | .eptr id _ => l.contains id
 | .agg cs => ly l cs
 | .fn _ a b => ly l a && ly l b
 | .tup ds => ly l ds
 | .v _ => true
 | .nils => true
 | .any => true
def ly (l : List Nat) : List D → Bool
 | [] => true
 | d :: r => d.inn l && ly l r
end
def Blk.inn (l : List Nat) : Blk → Bool
 | .box cs => ly l cs
 | .rowh _ _ id => l.contains id
 | .tbox _ cs => ly l cs
 | _ => true
theorem eQ {l : List Nat} : ∀ {ds : List D} {i : Nat} {d : D}, ly l ds = true → ds[i]? = some d → d.inn l = true
 | [], _, _, _, h => by simp at h
 | x :: r, 0, d, h, hd => by
   simp only [ly, Bool.and_eq_true] at h
   simp at hd; subst hd; exact h.1
 | x :: r, i + 1, d, h, hd => by
   simp only [ly, Bool.and_eq_true] at h
   exact eQ h.2 (by simpa using hd)
theorem RepD.keepIds {w : World} {im im' : Nat → Prop} {ι ι' : Nat → Con} {l : List Nat} (him : ∀ b, im b → im' b) (hι : ∀ id, l.contains id = true → ι' id = ι id) {d : D} {u : Value}
 (h : RepD w im ι d u) : d.inn l = true → RepD w im' ι' d u := by
 induction h with
 | v h => exact fun _ => .v (h.mono fun b hb _ => ⟨him b hb, rfl⟩)
 | nils => exact fun _ => .nils
 | own id u h0 h => exact fun hi => .own id u (by rw [hι id hi]; exact h0) (by rw [hι id hi]; exact h)
 | ptr id n u h0 h => exact fun hi => .ptr id n u (by rw [hι id hi]; exact h0) (by rw [hι id hi]; exact h)
 | eptr id n u h0 h => exact fun hi => .eptr id n u (by rw [hι id hi]; exact h0) (by rw [hι id hi]; exact h)
 | agg cs us hs hv ih => exact fun hi => .agg cs us hs fun i v u h1 h2 => ih i v u h1 h2 (eQ hi h1)
 | fn f a b us ws hs hs' hv hv' ih ih' =>
   intro hi
   simp only [D.inn, Bool.and_eq_true] at hi
   exact .fn f a b us ws hs hs' (fun i v u h1 h2 => ih i v u h1 h2 (eQ hi.1 h1)) (fun i v u h1 h2 => ih' i v u h1 h2 (eQ hi.2 h1))
 | tup cs us hs hv ih => exact fun hi => .tup cs us hs fun i v u h1 h2 => ih i v u h1 h2 (eQ hi h1)
 | any u => exact fun _ => .any u
def mk (tl : List (Nat × D)) (hl : List (Nat × Blk)) (m : MM := 0) : St := ⟨lk tl, fun id => (lk hl id).getD .res, m⟩
theorem jY {α : Type} : ∀ {l : List (Nat × α)} {n : Nat}, lk l n = none → (l.map (·.1)).contains n = false
 | [], _, _ => rfl
 | (k, a) :: r, n, h => by
  simp only [lk] at h
  cases hb : n.beq k with
  | true => rw [hb] at h; cases h
  | false =>
    rw [hb] at h
    have h1 := jY (l := r) (n := n) (by simpa using h)
    have h2 : n ≠ k := fun e => by subst e; simp at hb
    simp only [List.map_cons, List.contains_cons, h1, Bool.or_false]
    simpa using h2
theorem fT {α : Type} {l : List (Nat × α)} {n : Nat} {x : α} (h : lk l n = some x) : (l.map (·.1)).contains n = true := by
 rw [List.contains_iff_mem]
 exact List.mem_map.2 ⟨(n, x), eM h, rfl⟩
theorem wV {s : St} {tl : List (Nat × D)} {hl : List (Nat × Blk)} {m : MM} (ht : ∀ p ∈ tl, s.t p.1 = some p.2) (hh : ∀ p ∈ hl, s.h p.1 = p.2) (hm : s.m = m)
 (hi : (tl.all fun p => p.2.inn (hl.map (·.1))) = true) (hj : (hl.all fun p => p.2.inn (hl.map (·.1))) = true) (hp : (m.pins.all fun p => (hl.map (·.1)).contains p.1) = true) : Le s (mk tl hl m) := by
 refine ⟨hm.symm, ?_⟩
 intro B ι a w S
 let ι' : Nat → Con := fun id => if (hl.map (·.1)).contains id then ι id else .res
 have hι : ∀ id, (hl.map (·.1)).contains id = true → ι' id = ι id := fun id h => if_pos h
 have hι0 : ∀ id, (hl.map (·.1)).contains id = false → ι' id = .res := fun id h => if_neg (by rw [h]; simp)
 have hblk : ∀ id b, (ι' id).blk = some b → (ι id).blk = some b := by
  intro id b h
  cases hc : (hl.map (·.1)).contains id with
  | true => rw [hι id hc] at h; exact h
  | false => rw [hι0 id hc] at h; cases h
 have him : ∀ b, cx B ι b → cx B ι' b := fun b hb => ⟨hb.1, fun id h => hb.2 id (hblk id b h)⟩
 refine ⟨ι', S.os, S.tape, S.output, S.size, S.frame, fun id id' b h h' => S.inj id id' b (hblk id b h) (hblk id' b h'), fun id b h => S.bnd id b (hblk id b h), ?_, ?_, by rw [← hm] at *; exact S.marks, fun p hp' => by
  have h1 : (hl.map (·.1)).contains p.1 = true := List.all_eq_true.1 hp p hp'
  rw [hι _ h1]; exact S.pins p (by rw [hm]; exact hp'), S.defs, S.glob⟩
 ·intro id
  show BlkRel w (cx B ι') ι' ((lk hl id).getD .res) (ι' id)
  cases hk : lk hl id with
  | none => rw [hι0 id (jY hk)]; rfl
  | some b =>
    have hin := fT hk
    have hmem := eM hk
    have hb : s.h id = b := hh (id, b) hmem
    have hbi : b.inn (hl.map (·.1)) = true := List.all_eq_true.1 hj (id, b) hmem
    have h1 := S.blks id
    rw [hb] at h1
    simp only [Option.getD_some, hι id hin]
    cases b with
    | res => exact h1
    | dead => exact h1
    | box cs =>
      obtain ⟨bb, arr, ty, h2, h3, h4, h5⟩ := h1
      exact ⟨bb, arr, ty, h2, h3, h4, fun i d u hd hu => (h5 i d u hd hu).keepIds him hι (eQ hbi hd)⟩
    | row e sz es =>
      obtain ⟨h2, h3, h4⟩ := h1
      refine ⟨h2, h3, ?_⟩
      rcases h4 with h4 | ⟨g, cap, arr, h4, h5, h6, h7, h8, h9⟩
      ·exact .inl h4
      ·exact .inr ⟨g, cap, arr, h4, h5, h6, h7, h8, fun i j el v u a1 a2 a3 => (h9 i j el v u a1 a2 a3).mono fun b hb _ => ⟨him b hb, rfl⟩⟩
    | rowh e es id' =>
      obtain ⟨g, n, h2, h3, h4⟩ := h1
      have hid : ι' id' = ι id' := hι id' hbi
      exact ⟨g, n, by rw [hid]; exact h2, by rw [hid]; exact h3, h4.mono (fun b hb _ => ⟨him b hb, rfl⟩) fun _ _ => rfl⟩
    | tbox T cs =>
      obtain ⟨bb, arr, h2, h3, h4, h5⟩ := h1
      exact ⟨bb, arr, h2, h3, h4, fun i d u hd hu => (h5 i d u hd hu).keepIds him hι (eQ hbi hd)⟩
 ·intro n d hn
  have hmem := eM hn
  obtain ⟨u, h1, h2⟩ := S.tmps n d (ht (n, d) hmem)
  exact ⟨u, h1, h2.keepIds him hι (List.all_eq_true.1 hi (n, d) hmem)⟩
def HK (id : Nat) (es : List (List V)) : D → D
 | .own id' => bif Nat.beq id' id then .v (.sl es) else .own id'
 | d => d
def GE (id : Nat) (vs : List V) : D → D
 | .ptr id' n => bif Nat.beq id' id then .v (.ref (vs.drop n)) else .ptr id' n
 | d => d
def Blk.mapD (φ : D → D) : Blk → Blk
 | .box cs => .box (cs.map φ)
 | b => b
def St.give (s : St) (id : Nat) (φ : D → D) : St := ⟨fun n => (s.t n).map φ, fun k => bif Nat.beq k id then .dead else (s.h k).mapD φ, s.m⟩
theorem wE {s : St} {id : Nat} {φ : D → D} (hid : ∀ B ι a w, Sim B s ι a w → ι id ≠ .res)
 (hφ : ∀ B ι a w, Sim B s ι a w → ∀ d u, RepD w (cx B ι) ι d u → RepD w (cx B (d8 ι id .dead)) (d8 ι id .dead) (φ d) u) : Le s (s.give id φ) := by
 refine ⟨rfl, ?_⟩
 intro B ι a w S
 obtain ⟨S', hk⟩ := S.kill (hid B ι a w S)
 refine ⟨_, S'.os, S'.tape, S'.output, S'.size, S'.frame, S'.inj, S'.bnd, ?_, ?_, S'.marks, S'.pins, S'.defs, S'.glob⟩
 ·intro k
  have h1 := S'.blks k
  simp only [St.give]
  by_cases hkid : k = id
  ·subst hkid
   have hb : Nat.beq k k = true := by simp
   rw [hb]
   simp only [aE] at h1 ⊢
   exact h1
  ·have hb : Nat.beq k id = false := by
    cases hb : Nat.beq k id with
    | false => rfl
    | true => exact absurd (Nat.eq_of_beq_eq_true hb) hkid
   rw [hb]
   simp only [cond_false]
   have h2 := S.blks k
   rw [aN _ _ hkid] at h1 ⊢
   cases hs : s.h k with
   | box cs =>
     rw [hs] at h2
     obtain ⟨b, arr, ty, h3, h4, h5, h6⟩ := h2
     refine ⟨b, arr, ty, h3, h4, by simpa using h5, fun i d u hd hu => ?_⟩
     rw [List.getElem?_map] at hd
     cases hc : cs[i]? with
     | none => rw [hc] at hd; cases hd
     | some c => rw [hc] at hd; cases hd; exact hφ B ι a w S c u (h6 i c u hc hu)
   | _ =>
     simp only [aN _ _ hkid, hs] at h1
     exact h1
 ·intro n d hn
  simp only [St.give, Option.map_eq_some_iff] at hn
  obtain ⟨d', h1, rfl⟩ := hn
  obtain ⟨u, h2, h3⟩ := S.tmps n d' h1
  exact ⟨u, h2, hφ B ι a w S d' u h3⟩
theorem bp {s : St} {id e sz : Nat} {es : List (List V)} (hb : s.h id = .row e sz es) : Le s (s.give id (HK id es)) := by
 refine wE (fun B ι a w S => by obtain ⟨g, c, h⟩ := jd S hb; rw [h]; simp) fun B ι a w S d u h => ?_
 obtain ⟨S', hk⟩ := S.kill (id := id) (by obtain ⟨g, c, h⟩ := jd S hb; rw [h]; simp)
 have hm : RepD w (cx B (d8 ι id .dead)) (d8 ι id .dead) d u := h.mono hk (fun k _ => by
  by_cases h : k = id
  ·subst h; exact .inr (aE _ _ _)
  ·exact .inl (aN _ _ h))
 cases d with
 | own id' =>
   simp only [HK]
   cases hbq : Nat.beq id' id with
   | false => exact hm
   | true =>
     have := Nat.eq_of_beq_eq_true hbq
     subst this
     have h1 := S.blks id'
     rw [hb] at h1
     refine .v (h1.row_repV (fun b hbk => ?_) (fun b hbk => ⟨hbk.1, fun k hk' => ?_⟩) u h.own_inv.2)
     ·refine ⟨?_, fun k hk' => ?_⟩
      ·rcases (S.bnd _ b hbk).2 with h2 | h2
       ·exact .inr (.inl h2)
       ·exact .inr (.inr h2)
      ·by_cases hki : k = id'
       ·subst hki; rw [aE] at hk'; cases hk'
       ·rw [aN _ _ hki] at hk'; exact hki (S.inj _ _ b hk' hbk)
     ·by_cases hki : k = id'
      ·subst hki; rw [aE] at hk'; cases hk'
      ·rw [aN _ _ hki] at hk'; exact hbk.2 k hk'
 | _ => exact hm
theorem g9 {s : St} {id : Nat} {cs : List D} {vs : List V} (hb : s.h id = .box cs) (hv : ks cs = some vs) : Le s (s.give id (GE id vs)) := by
 refine wE (fun B ι a w S => by obtain ⟨b, _, _, h, _⟩ := eZ S hb; rw [h]; simp) fun B ι a w S d u h => ?_
 obtain ⟨S', hk⟩ := S.kill (id := id) (by obtain ⟨b, _, _, h, _⟩ := eZ S hb; rw [h]; simp)
 have hm : RepD w (cx B (d8 ι id .dead)) (d8 ι id .dead) d u := h.mono hk (fun k _ => by
  by_cases h : k = id
  ·subst h; exact .inr (aE _ _ _)
  ·exact .inl (aN _ _ h))
 cases d with
 | ptr id' n =>
   simp only [GE]
   cases hbq : Nat.beq id' id with
   | false => exact hm
   | true =>
     have := Nat.eq_of_beq_eq_true hbq
     subst this
     have hcs := gc hv
     subst hcs
     obtain ⟨b, arr, ty, h1, h2, h3, h4⟩ := eZ S hb
     have hown : (ι id').blk = some b := by rw [h1]; rfl
     rw [h.ptr_inv.2 b h1]
     have him : cx B (d8 ι id' .dead) b := by
      refine ⟨?_, fun k hk' => ?_⟩
      ·rcases (S.bnd _ b hown).2 with h2 | h2
       ·exact .inr (.inl h2)
       ·exact .inr (.inr h2)
      ·by_cases hki : k = id'
       ·subst hki; rw [aE] at hk'; cases hk'
       ·rw [aN _ _ hki] at hk'; exact hki (S.inj _ _ b hk' hown)
     refine .v (.ref _ b n him (Array.getElem?_eq_some_iff.1 h2).1 ?_ ?_)
     ·intro j hj
      rw [cell_of_row w b (n + j) arr ty (0, 0) h2]
      have : n + j < arr.size := by simp at hj h3; omega
      simp [this]
     ·intro j v u hv' hu
      rw [cell_of_row w b (n + j) arr ty (0, 0) h2] at hu
      rw [List.getElem?_drop] at hv'
      exact (aA (h4 (n + j) (.v v) u (by simp [hv']) hu)).mono hk
 | _ => exact hm
end Go.Vd
namespace Go.Vd
open Go.RowKit
mutual
def vw (h : Nat → Blk) : D → Option V
 | .v x => some x
 | .nils => some (.sl [])
 | .own id => match h id with | .row _ _ es => some (.sl es) | _ => none
 | .ptr id n => match h id with | .box cs => (ks cs).map fun vs => .ref (vs.drop n) | _ => none
 | .agg cs => (nW h cs).map .agg
 | .fn f a b => match nW h a, nW h b with | some x, some y => some (.fn f x y) | _, _ => none
 | .tup ds => (nW h ds).map .tup
 | .eptr _ _ => none
 | .any => none
def nW (h : Nat → Blk) : List D → Option (List V)
 | [] => some []
 | d :: r => match vw h d, nW h r with | some x, some y => some (x :: y) | _, _ => none
end
theorem iA {h : Nat → Blk} : ∀ {ds : List D} {vs : List V}, nW h ds = some vs → ds.length = vs.length ∧ ∀ (i : Nat) d, ds[i]? = some d → ∃ v, vs[i]? = some v ∧ vw h d = some v
 | [], vs, hv => by simp [nW] at hv; subst hv; simp
 | d :: r, vs, hv => by
   simp only [nW] at hv
   split at hv
   ·rename_i x y h1 h2
    cases hv
    obtain ⟨h3, h4⟩ := iA h2
    refine ⟨by simp [h3], fun i e he => ?_⟩
    cases i with
    | zero => simp at he; subst he; exact ⟨x, rfl, h1⟩
    | succ i => exact h4 i e (by simpa using he)
   ·cases hv
theorem ft {B : dt} {s : St} {ι : Nat → Con} {a : Act} {w : World} (S : Sim B s ι a w) {h : Nat → Blk} (hh : ∀ id, h id = .dead ∨ h id = s.h id) {im' : Nat → Prop} (hi : ∀ b, cx B ι b → im' b)
 (ho : ∀ id b, h id ≠ .dead → (ι id).blk = some b → im' b) {d : D} {u : Value} (hr : RepD w (cx B ι) ι d u) : ∀ x, vw h d = some x → RepV w im' x u := by
 have lists : ∀ {cs : List D} {vs : List V} {us : Array Value}, nW h cs = some vs → us.size = cs.length →
  (∀ (i : Nat) v u, cs[i]? = some v → us[i]? = some u → ∀ x, vw h v = some x → RepV w im' x u) →
  us.size = vs.length ∧ ∀ (i : Nat) v u, vs[i]? = some v → us[i]? = some u → RepV w im' v u := by
  intro cs vs us hv hs ih
  obtain ⟨h1, h2⟩ := iA hv
  refine ⟨by omega, fun i v u hv' hu => ?_⟩
  have hlt : i < cs.length := by rw [h1]; exact (List.getElem?_eq_some_iff.1 hv').1
  obtain ⟨v', h3, h4⟩ := h2 i cs[i] (List.getElem?_eq_getElem hlt)
  rw [h3] at hv'; cases hv'
  exact ih i cs[i] u (List.getElem?_eq_getElem hlt) hu v h4
 induction hr with
 | v hv => intro x hx; simp [vw] at hx; subst hx; exact hv.mono fun b hb _ => ⟨hi b hb, rfl⟩
 | nils => intro x hx; simp [vw] at hx; subst hx; exact .sl0 _ _
 | own id u h0 h1 =>
   intro x hx
   simp only [vw] at hx
   split at hx
   ·rename_i e sz es he
    cases hx
    have hs : s.h id = .row e sz es := by
     rcases hh id with h2 | h2
     ·rw [he] at h2; cases h2
     ·rw [← h2]; exact he
    have h3 := S.blks id
    rw [hs] at h3
    exact h3.row_repV (fun b hb => ho id b (by rw [he]; simp) hb) hi u h1
   ·cases hx
 | ptr id n u h0 h1 =>
   intro x hx
   simp only [vw] at hx
   split at hx
   ·rename_i cs he
    obtain ⟨vs, h2, rfl⟩ := Option.map_eq_some_iff.1 hx
    have hs : s.h id = .box cs := by
     rcases hh id with h2 | h2
     ·rw [he] at h2; cases h2
     ·rw [← h2]; exact he
    obtain ⟨b, arr, ty, h3, h4, h5, h6⟩ := eZ S hs
    have hcs := gc h2
    subst hcs
    rw [h1 b h3]
    refine .ref _ b n (ho id b (by rw [he]; simp) (by rw [h3]; rfl)) (Array.getElem?_eq_some_iff.1 h4).1 ?_ ?_
    ·intro j hj
     rw [cell_of_row w b (n + j) arr ty (0, 0) h4]
     have : n + j < arr.size := by simp at hj h5; omega
     simp [this]
    ·intro j v u hv' hu
     rw [cell_of_row w b (n + j) arr ty (0, 0) h4] at hu
     rw [List.getElem?_drop] at hv'
     exact (aA (h6 (n + j) (.v v) u (by simp [hv']) hu)).mono fun b hb _ => ⟨hi b hb, rfl⟩
   ·cases hx
 | eptr id n u h0 h1 => intro x hx; simp [vw] at hx
 | agg cs us hs hv ih =>
   intro x hx
   simp only [vw, Option.map_eq_some_iff] at hx
   obtain ⟨vs, h1, rfl⟩ := hx
   obtain ⟨h2, h3⟩ := lists h1 hs ih
   exact .agg _ _ h2 h3
 | fn f a' b' us ws hs hs' hv hv' ih ih' =>
   intro x hx
   simp only [vw] at hx
   split at hx
   ·rename_i y z h1 h2
    cases hx
    obtain ⟨h3, h4⟩ := lists h1 hs ih
    obtain ⟨h5, h6⟩ := lists h2 hs' ih'
    exact .fn _ _ _ _ _ h3 h5 h4 h6
   ·cases hx
 | tup cs us hs hv ih =>
   intro x hx
   simp only [vw, Option.map_eq_some_iff] at hx
   obtain ⟨vs, h1, rfl⟩ := hx
   obtain ⟨h2, h3⟩ := lists h1 hs ih
   exact .tup _ _ h2 h3
 | any u => intro x hx; simp [vw] at hx
def V.sc1 : V → Bool
 | .int _ _ | .bool _ | .str _ => true
 | _ => false
def V.sc : V → Bool
 | .tup vs => vs.all V.sc1
 | x => x.sc1
theorem RepV.sc1 {w : World} {im im' : Nat → Prop} {v : V} {u : Value} (h : RepV w im v u) (hs : v.sc1 = true) : RepV w im' v u := by
 cases h <;> simp [V.sc1] at hs
 ·exact .int _ _
 ·exact .bool _
 ·exact .str _
theorem RepV.scal {w : World} {im im' : Nat → Prop} {v : V} {u : Value} (h : RepV w im v u) (hs : v.sc = true) : RepV w im' v u := by
 cases v with
 | tup vs =>
   cases h with
   | tup _ us h1 h2 =>
     simp only [V.sc, List.all_eq_true] at hs
     exact .tup _ _ h1 fun i v u hv hu => (h2 i v u hv hu).sc1 (hs v (List.mem_of_getElem? hv))
 | _ => exact h.sc1 hs
def PCall (P : Program) (f : FuncId) (ds : List V) (r : V) : Prop :=
 (∀ args w, (callFunc f args).run P w = .ok (.enter f args) w) ∧
 ∀ (w : World) (im : Nat → Prop) (us : Array Value), Glob w → PW (RepV w im) ds us.toList →
   Calls P f us w fun e w' => ∃ u, e = .returned u ∧ Below w.heap.size w w' ∧ RepV w' (fun b => im b ∨ w.heap.size ≤ b) r u
theorem xh {F : List (Nat × Blk)} {s : St} (hf : ∀ p ∈ F, s.h p.1 = p.2) : ∀ id, hF F id = .dead ∨ hF F id = s.h id := om hf
section
variable {P : Program} {r : Option Nat} {o : Oper}
theorem gh {R : V → Value → Prop} {vs : List V} {us : Array Value} (h1 : us.size = vs.length) (h2 : ∀ (i : Nat) v u, vs[i]? = some v → us[i]? = some u → R v u) : PW R vs us.toList :=
 ⟨by simpa using h1, fun i v u a b => h2 i v u a (by simpa using b)⟩
theorem xa {xs : List Operand} {ds : List D} (hl : ds.length = xs.length) {i : Nat} {d : D} (hd : ds[i]? = some d) : ∃ x, xs[i]? = some x ∧ (x, d) ∈ xs.zip ds := by
 have hlt : i < xs.length := by rw [← hl]; exact (List.getElem?_eq_some_iff.1 hd).1
 refine ⟨xs[i], List.getElem?_eq_getElem hlt, ?_⟩
 have : (xs.zip ds)[i]? = some (xs[i], d) := by rw [List.getElem?_zip_eq_some]; exact ⟨List.getElem?_eq_getElem hlt, hd⟩
 exact List.mem_of_getElem? this
theorem gn {f : FuncId} {us : Array Value} {w : World} {R : Ending → World → Prop} (n : Nat) (h : Calls P f us w R) : CallsIn (WF r) n P f us w R := by
 have h1 : CallsIn Fence.wide n P f us w R := callsIn_wide.2 h
 exact ⟨trivial, fun cs hr => h1.2 cs (room_wide _)⟩
theorem yp {f : FuncId} {x : Operand} {args : Array Operand} {ats : Array TypeId} {dx : D} {ds : List D} {first vs cap : List V} {res : V} {F : List (Nat × Blk)}
 (ho : o.op = .call { callee := .value x, args := args, argTypes := ats }) (hx : vw (hF F) dx = some (.fn (.func f) first cap)) (ha : nW (hF F) ds = some vs) (hl : ds.length = args.toList.length)
 (hp : PCall P f (first ++ vs ++ cap) res) (hs : F = [] ∨ res.sc = true) : sY P r o ((x, dx) :: args.toList.zip ds) F (.v res) [] where
 ops p hp' := by
  rw [ho]
  simp only [Op.operands, Call.operands]
  rcases List.mem_cons.1 hp' with rfl | h
  ·simp
  ·have := (List.of_mem_zip h).1
   simp only [Array.mem_append, List.mem_toArray, List.mem_cons, List.not_mem_nil, or_false]
   exact .inr (by simpa using this)
 snd s hE hFs B N ι a w n Q S hN hd := by
  refine ⟨fun _ _ => trivial, ?_⟩
  rw [Oper.semAt_eq _ _ _ (by rw [ho]; simp)]
  have hh := xh hFs
  have key : ∃ im' : Nat → Prop, (∀ b, cx B ι b → im' b) ∧ (∀ id b, hF F id ≠ .dead → (ι id).blk = some b → im' b) ∧ (F = [] → ∀ b, im' b → cx B ι b) := by
   by_cases hFn : F = []
   ·exact ⟨cx B ι, fun _ h => h, fun id b h => by rw [hFn] at h; exact absurd rfl h, fun _ _ h => h⟩
   ·exact ⟨fun _ => True, fun _ _ => trivial, fun _ _ _ _ => trivial, fun h => absurd h hFn⟩
  obtain ⟨im', hi, hown, him⟩ := key
  have hfn := ft S hh hi hown (S.ev (hE (x, dx) List.mem_cons_self)) _ hx
  generalize hu : a.eval x = u at hfn
  obtain ⟨h1, h2⟩ := iA ha
  have hargs : PW (RepV w im') vs (args.toList.map a.eval) := by
   refine ⟨by simp only [List.length_map]; omega, fun i v u' hv hu' => ?_⟩
   have hlt : i < ds.length := by rw [h1]; exact (List.getElem?_eq_some_iff.1 hv).1
   have hdi : ds[i]? = some ds[i] := List.getElem?_eq_getElem hlt
   obtain ⟨v', h3, h4⟩ := h2 i ds[i] hdi
   rw [h3] at hv; cases hv
   obtain ⟨y, h5, h6⟩ := xa hl hdi
   rw [List.getElem?_map, h5] at hu'
   cases hu'
   exact ft S hh hi hown (S.ev (hE (y, ds[i]) (List.mem_cons_of_mem _ h6))) v h4
  cases hfn with
  | fn _ _ _ us ws hs1 hs2 hv1 hv2 =>
    have hrun : (execOp a.eval o).run P w = .ok (.enter f (us ++ args.map a.eval ++ ws)) w := by
     simp [execOp, ho, resolve, hu, Deferred.ofValue, invoke, hp.1]
    rw [hrun]
    refine ⟨fun h => by simp [WF, Fence.wide] at h, CallsIn.mono (gn _ (hp.2 w im' _ S.globW ?_)) ?_⟩
    ·have p1 : PW (RepV w im') first us.toList := gh hs1 hv1
     have p2 : PW (RepV w im') cap ws.toList := gh hs2 hv2
     have p := (p1.append hargs).append p2
     simpa using p
    ·rintro e w' ⟨u', rfl, hb, hr⟩
     obtain ⟨S', hk⟩ := S.grow hb.os hb.tape hb.output hb.size hb.block
     refine ⟨by rw [eh]; exact hN, ι, Sim.putAny (s := s) S' (by rw [hN]; exact hd) (.v ?_)⟩
     rcases hs with hF0 | hsc
     ·refine hr.mono fun b hbb _ => ⟨?_, rfl⟩
      rcases hbb with h3 | h3
      ·exact him hF0 b h3
      ·exact ⟨.inr (.inl (Nat.le_trans S.size h3)), fun id hid => by have := (S.bnd id b hid).1; omega⟩
     ·exact hr.scal hsc
def start (ds : List V) : St := ⟨fun n => (ds[n]?).map .v, fun _ => .res, 0⟩
def yK (tab : kt) (s : St) : ResultVar → Option D
 | .tmp t => s.t t
 | .cell p ty => match s.t p, lk tab ty with
   | some (.ptr id 0), some ti => match s.h id with
     | .box cs => bif ti.isAgg then (bif Nat.ble ti.size cs.length then some (mkAgg (cs.take ti.size)) else none) else cs[0]?
     | _ => none
   | _, _ => none
def fM (tab : kt) (s : St) : List ResultVar → Option (List D)
 | [] => some []
 | x :: r => match yK tab s x, fM tab s r with | some d, some ds => some (d :: ds) | _, _ => none
def pU (tab : kt) (s : St) (rs : List ResultVar) : Option V := match fM tab s rs with
 | some ds => match nW s.h ds with
   | some [x] => some x
   | some xs => some (.tup xs)
   | none => none
 | none => none
def wm (tab : kt) (rs : List ResultVar) (r : V) : Exit → St → Prop
 | .normal, s => pU tab s rs = some r ∧ Nat.ble s.m.d 1 = true
 | .ret, s => pU tab s rs = some r ∧ Nat.ble s.m.d 1 = true
 | _, _ => False
variable {tab : kt}
def pH (tmps : Array Value) : ResultVar → Sem Value
 | .tmp t => pure (tmps.getD t undef)
 | .cell p t => do loadVar t (← asAddr (tmps.getD p undef))
theorem uV (hT : bg P tab = true) {B : dt} {s : St} {ι : Nat → Con} {a : Act} {w : World} (S : Sim B s ι a w) {x : ResultVar} {d : D} (h : yK tab s x = some d) :
 ∃ u, (pH a.tmps x).run P w = .ok u w ∧ RepD w (cx B ι) ι d u := by
 cases x with
 | tmp t =>
   obtain ⟨u, h1, h2⟩ := S.tmps t d h
   exact ⟨u, by simp [pH, Array.getD_eq_getD_getElem?, h1], h2⟩
 | cell p ty =>
   simp only [yK] at h
   split at h
   ·rename_i id ti hp hti
    split at h
    ·rename_i cs hcs
     obtain ⟨u, h1, h2⟩ := S.tmps p _ hp
     obtain ⟨b, arr, t', h3, h4, h5, h6⟩ := eZ S hcs
     have h7 := h2.ptr_inv.2 b h3
     subst h7
     have hget : a.tmps.getD p undef = .pointer (some ⟨b, 0, none⟩) := by rw [Array.getD_eq_getD_getElem?, h1]; rfl
     cases ha : ti.isAgg with
     | true =>
       rw [ha] at h
       simp only [cond_true] at h
       cases hle : Nat.ble ti.size cs.length with
       | false => rw [hle] at h; cases h
       | true =>
         rw [hle] at h
         simp only [cond_true, Option.some.injEq] at h
         subst h
         have hle' := Nat.le_of_ble_eq_true hle
         have hc : ∀ j, j < ti.size → w.cell? ⟨b, 0 + j, none⟩ = some (arr.getD j undef) := fun j hj => by
          rw [Nat.zero_add, cell_of_row w b j arr t' (0, 0) h4]
          have : j < arr.size := by omega
          simp [this, Array.getD]
         refine ⟨.agg ((List.range ti.size).map fun j => arr.getD j undef).toArray, ?_, RepD.mkAgg (.agg _ _ (by simp only [List.size_toArray, List.length_map, List.length_range, List.length_take]; omega) ?_)⟩
         ·simp only [pH, hget, asAddr, Sem.run_bind, Sem.run_pure, Result.andThen_ok]
          exact fN hT hti ha _ hc
         intro i v u hv hu
         rw [List.getElem?_take] at hv
         split at hv
         ·rename_i hi
          have hlt : i < arr.size := by omega
          refine h6 i v u hv ?_
          simp [hi, hlt] at hu
          simp [hlt, hu]
         ·cases hv
     | false =>
       rw [ha] at h
       simp only [cond_false] at h
       have hlt : 0 < arr.size := by rw [h5]; exact (List.getElem?_eq_some_iff.1 h).1
       have hc : w.cell? ⟨b, 0, none⟩ = some arr[0] := by rw [cell_of_row w b 0 arr t' (0, 0) h4]; simp [hlt]
       exact ⟨arr[0], by simp [pH, hget, asAddr, gw hT hti ha hc], h6 0 d _ h (by simp [hlt])⟩
    ·cases h
   ·cases h
theorem kU (hT : bg P tab = true) {B : dt} {s : St} {ι : Nat → Con} {a : Act} {w : World} (S : Sim B s ι a w) : ∀ {rs : List ResultVar} {ds : List D}, fM tab s rs = some ds →
 ∃ us : List Value, (rs.mapM (m := Sem) (pH a.tmps)).run P w = .ok us w ∧ PW (RepD w (cx B ι) ι) ds us
 | [], ds, h => by simp [fM] at h; subst h; exact ⟨[], rfl, PW.nil⟩
 | x :: r, ds, h => by
   simp only [fM] at h
   split at h
   ·rename_i d ds' h1 h2
    cases h
    obtain ⟨u, h3, h4⟩ := uV hT S h1
    obtain ⟨us, h5, h6⟩ := kU hT S h2
    refine ⟨u :: us, ?_, by simp [h6.1], fun i e v he hv => ?_⟩
    ·rw [List.mapM_cons]
     simp only [Sem.run_bind, Sem.run_pure, h3, Result.andThen_ok, h5]
    ·cases i with
     | zero => simp at he hv; subst he; subst hv; exact h4
     | succ i => exact h6.2 i e v (by simpa using he) (by simpa using hv)
   ·cases h
def ic (us : List Value) : Value := if h : us.toArray.size = 1 then us.toArray[0] else .tuple us.toArray
def A8 (tab : kt) (rs : List ResultVar) (K : List D → (Nat → Blk) → List (Nat × Nat) → Prop) : Exit → St → Prop
 | .normal, s => Nat.ble s.m.d 1 = true ∧ ∃ ds, fM tab s rs = some ds ∧ K ds s.h s.m.pins
 | .ret, s => Nat.ble s.m.d 1 = true ∧ ∃ ds, fM tab s rs = some ds ∧ K ds s.h s.m.pins
 | _, _ => False
theorem kP (hT : bg P tab = true) {f : FuncId} {fn : Func} {c : Code} {N : Nat} {rs : List ResultVar} {K : List D → (Nat → Blk) → List (Nat × Nat) → Prop} {B : dt} {s0 : St} {ι0 : Nat → Con} {us : Array Value} {w : World} (hf : P.funcs[f]? = some fn) (hb : fn.body = some c)
 (hN : fn.ntmps = N) (hlen : us.size ≤ N) (hrs : fn.results = rs.toArray) (S0 : Sim B s0 ι0 { tmps := us ++ Array.replicate (fn.ntmps - us.size) undef, defers := [] } w)
 (h : Wp P none N (only B) c (A8 tab rs K) s0) :
 Calls P f us w fun e w2 => ∃ ds us' s2 ι a2, e = .returned (ic us') ∧ K ds s2.h s2.m.pins ∧ Sim B s2 ι a2 w2 ∧ PW (RepD w2 (cx B ι) ι) ds us' := by
 have hwp := h _ w 0 ⟨by simp [hN]; omega, B, _, rfl, S0⟩
 suffices hc : CallsIn (WF none) 0 P f us w (fun e w2 => ∃ ds us' s2 ι a2, e = .returned (ic us') ∧ K ds s2.h s2.m.pins ∧ Sim B s2 ι a2 w2 ∧ PW (RepD w2 (cx B ι) ι) ds us') from (callsIn_wide (n := 0)).1 hc
 refine callsIn_of_wp_marks hf hb trivial (wpIn_mono hwp ?_) rfl
 have out : ∀ (s' : St) (a' : Act) (w' : World), (Nat.ble s'.m.d 1 = true ∧ ∃ ds, fM tab s' rs = some ds ∧ K ds s'.h s'.m.pins) → eJ (only B) N s' a' w' →
  LeavesInM (WF none) 0 P fn a'.tmps (fun e w2 => ∃ ds us' s2 ι a2, e = .returned (ic us') ∧ K ds s2.h s2.m.pins ∧ Sim B s2 ι a2 w2 ∧ PW (RepD w2 (cx B ι) ι) ds us') a'.defers .returning w' := by
  rintro s' a' w' ⟨hm, dsr, hds, hK⟩ ⟨_, B', ι, hB', S⟩
  cases (show B' = B from hB')
  have hres : ∀ w2 (a2 : Act), a2.tmps = a'.tmps → Sim B { s' with m := { s'.m with d := a2.defers.length } } ι a2 w2 →
   ∃ v, (results fn a'.tmps).run P w2 = .ok v w2 ∧ ∃ ds us' s2 ι a2, Ending.returned v = .returned (ic us') ∧ K ds s2.h s2.m.pins ∧ Sim B s2 ι a2 w2 ∧ PW (RepD w2 (cx B ι) ι) ds us' := by
   intro w2 a2 hat S2
   have hds2 : fM tab { s' with m := { s'.m with d := a2.defers.length } } rs = some dsr := by
    rw [← hds]
    clear hds S2 hf hb hrs hwp h hK
    induction rs with
    | nil => rfl
    | cons x r ih =>
      simp only [fM]
      rw [ih]
      cases x <;> rfl
   obtain ⟨us', h1, h2⟩ := kU hT S2 hds2
   rw [hat] at h1
   refine ⟨ic us', ?_, dsr, us', { s' with m := { s'.m with d := a2.defers.length } }, ι, a2, rfl, hK, S2, h2⟩
   have he : results fn a'.tmps = (do let vs ← rs.toArray.mapM (pH a'.tmps); pure (if h : vs.size = 1 then vs[0] else .tuple vs)) := by rw [← hrs]; rfl
   rw [he, List.mapM_toArray]
   simp only [Sem.run_bind, Sem.run_map, h1, Result.andThen_ok, Sem.run_pure, ic]
  have hm1 := Nat.le_of_ble_eq_true hm
  have hml := S.marks
  cases hd : a'.defers with
  | nil =>
    obtain ⟨v, h1, h2⟩ := hres w' a' rfl { S with marks := rfl }
    exact ⟨v, h1, h2⟩
  | cons d dr =>
    have hdr : dr = [] := by
     rw [hd] at hml; simp at hml
     exact List.eq_nil_of_length_eq_zero (by omega)
    subst hdr
    obtain ⟨b, hb1, hb2, hb3⟩ := S.defs d (by rw [hd]; exact List.mem_cons_self)
    subst hb1
    refine ⟨by simp, .inl ⟨b, _, rfl, run_takeDeferred hb3, ?_⟩⟩
    have hlt : b < w'.heap.size := (Array.getElem?_eq_some_iff.1 hb3).1
    have hnown : ∀ id, (ι id).blk ≠ some b := fun id hid => by
     obtain ⟨c', t', f', hc⟩ := S.own_cells hid
     rw [hb3] at hc; cases hc
    have hother : ∀ k, k ≠ b → (w'.putObj b (.deferred none)).heap[k]? = w'.heap[k]? := fun k hk => World.putObj_heap_other hk
    refine hres _ { tmps := a'.tmps, defers := [] } rfl ?_
    ·have him : ∀ k, cx B ι k → k ≠ b → cx B ι k := fun _ h _ => h
     have hdead : ∀ (v : V) (u : Value), RepV w' (cx B ι) v u → RepV (w'.putObj b (.deferred none)) (cx B ι) v u := by
      intro v u hv
      induction hv with
      | int k n => exact .int k n
      | bool b => exact .bool b
      | str s => exact .str s
      | hdr g n c h => exact .hdr g n c h
      | adr g i => exact .adr g i
      | sl0 a c => exact .sl0 a c
      | sl es b' o sz c hb hl hcap hs hc hv ih =>
        by_cases hbb : b' = b
        ·subst hbb
         have hcell : ∀ j, w'.cell? ⟨b', j, none⟩ = none := fun j => by simp [World.cell?, hb3]
         by_cases h0 : es.length = 0
         ·rw [List.eq_nil_of_length_eq_zero h0]; exact .sl0 _ _
         ·by_cases hsz0 : sz = 0
          ·refine .sl es b' o sz c hb (by simp [World.putObj]; exact hl) hcap hs (fun i j _ hj => by omega) (fun i j e v u he hv' _ => ?_)
           have := hs e (List.mem_of_getElem? he)
           have := (List.getElem?_eq_some_iff.1 hv').1
           omega
          ·have := hc 0 0 (by omega) (by omega)
           rw [hcell] at this; cases this
        ·have hcell : ∀ j, (w'.putObj b (.deferred none)).cell? ⟨b', j, none⟩ = w'.cell? ⟨b', j, none⟩ := fun j => World.cell?_of_block (hother b' hbb)
         exact .sl es b' o sz c hb (by simp [World.putObj]; exact hl) hcap hs (fun i j hi hj => by rw [hcell]; exact hc i j hi hj) (fun i j e v u he hv' hu => ih i j e v u he hv' (by rw [← hcell]; exact hu))
      | agg cs us hs hv ih => exact .agg cs us hs ih
      | ref cs b' o hb hl hc hv ih =>
        by_cases hbb : b' = b
        ·subst hbb
         have hcell : ∀ j, w'.cell? ⟨b', j, none⟩ = none := fun j => by simp [World.cell?, hb3]
         by_cases h0 : cs.length = 0
         ·rw [List.eq_nil_of_length_eq_zero h0]
          exact .ref [] b' o hb (by simp [World.putObj]; exact hl) (fun j hj => by simp at hj) (fun j v u hj => by simp at hj)
         ·have := hc 0 (by omega)
          rw [hcell] at this; cases this
        ·have hcell : ∀ j, (w'.putObj b (.deferred none)).cell? ⟨b', j, none⟩ = w'.cell? ⟨b', j, none⟩ := fun j => World.cell?_of_block (hother b' hbb)
         exact .ref cs b' o hb (by simp [World.putObj]; exact hl) (fun j hj => by rw [hcell]; exact hc j hj) (fun j v u he hu => ih j v u he (by rw [← hcell]; exact hu))
      | fn f a b us ws hs hs' hv hv' ih ih' => exact .fn f a b us ws hs hs' ih ih'
      | tup cs us hs hv ih => exact .tup cs us hs ih
      | ifc t x u h ih => exact .ifc t x u ih
      | nilI => exact .nilI
      | nilP => exact .nilP
      | mp es b' clk arr hb' hw hl hs hk hv ih ih' =>
        have hbb : b' ≠ b := fun e => by rw [e, hb3] at hw; cases hw
        exact .mp es b' clk arr hb' ((hother b' hbb).trans hw) hl hs ih ih'
     have hdeadD : ∀ (d : D) (u : Value), RepD w' (cx B ι) ι d u → RepD (w'.putObj b (.deferred none)) (cx B ι) ι d u := by
      intro d u hr
      induction hr with
      | v h => exact .v (hdead _ _ h)
      | nils => exact .nils
      | own id u h0 h => exact .own id u h0 h
      | ptr id n u h0 h => exact .ptr id n u h0 h
      | eptr id n u h0 h => exact .eptr id n u h0 h
      | agg cs us hs hv ih => exact .agg cs us hs ih
      | fn f a b us ws hs hs' hv hv' ih ih' => exact .fn f a b us ws hs hs' ih ih'
      | tup cs us hs hv ih => exact .tup cs us hs ih
      | any u => exact .any u
     refine ⟨S.os, S.tape, S.output, by simp [World.putObj]; exact S.size, fun k hk hno => ?_, S.inj, fun id k hid => ?_, fun id => ?_, fun n d hn => ?_, rfl, S.pins, (fun d hd => by cases hd), S.glob⟩
     ·have hb2' : B.w0.heap.size ≤ b := hb2
      rw [hother k (by omega)]; exact S.frame k hk hno
     ·have := S.bnd id k hid
      exact ⟨by simp [World.putObj]; exact this.1, this.2⟩
     ·have h1 := S.blks id
      show BlkRel _ _ ι (s'.h id) (ι id)
      cases hb : s'.h id with
      | res => rw [hb] at h1; exact h1
      | dead => rw [hb] at h1; exact h1
      | box cs =>
        rw [hb] at h1
        obtain ⟨bb, arr, ty, h2, h3, h4, h5⟩ := h1
        exact ⟨bb, arr, ty, h2, by rw [hother bb (fun e => hnown id (by rw [h2, e]; rfl))]; exact h3, h4, fun i d u hd hu => hdeadD _ _ (h5 i d u hd hu)⟩
      | row e sz es =>
        rw [hb] at h1
        obtain ⟨h2, h3, h4⟩ := h1
        refine ⟨h2, h3, ?_⟩
        rcases h4 with h4 | ⟨g, cap, arr, h4, h5, h6, h7, h8, h9⟩
        ·exact .inl h4
        ·exact .inr ⟨g, cap, arr, h4, by rw [hother g (fun e => hnown id (by rw [h4, e]; rfl))]; exact h5, h6, h7, h8, fun i j el v u a1 a2 a3 => hdead _ _ (h9 i j el v u a1 a2 a3)⟩
      | rowh e es id' =>
        rw [hb] at h1
        obtain ⟨g', n', q1, q2, h2, h3, h4⟩ := h1
        refine ⟨g', n', q1, q2, h2, h3, ?_⟩
        rcases h4 with h4 | ⟨g, cap, arr, h4, h5, h6, h7, h8, h9⟩
        ·exact .inl h4
        ·exact .inr ⟨g, cap, arr, h4, by rw [hother g (fun e => hnown id (by rw [h4, e]; rfl))]; exact h5, h6, h7, h8, fun i j el v u a1 a2 a3 => hdead _ _ (h9 i j el v u a1 a2 a3)⟩
      | tbox T cs =>
        rw [hb] at h1
        obtain ⟨bb, arr, h2, h3, h4, h5⟩ := h1
        exact ⟨bb, arr, h2, by rw [hother bb (fun e => hnown id (by rw [h2, e]; rfl))]; exact h3, h4, fun i d u hd hu => hdeadD _ _ (h5 i d u hd hu)⟩
     ·obtain ⟨u, h1, h2⟩ := S.tmps n d hn
      exact ⟨u, h1, hdeadD _ _ h2⟩
 rintro e a' w' ⟨s', hq, hpost⟩
 cases e with
 | normal => exact out s' a' w' hq hpost
 | ret => exact out s' a' w' hq hpost
 | exit id => exact hq.elim
 | goto l => exact hq.elim
 | panic ch => exact hq.elim
 | outgrown => exact hq.elim
theorem nE {B : dt} {N : Nat} {ds : List V} {us : Array Value} (hown : B.own0 = fun _ => False) (hG : Glob B.w0) (hp : PW (RepV B.w0 B.im0) ds us.toList) :
 Sim B (start ds) (fun _ => .res) { tmps := us ++ Array.replicate (N - us.size) undef, defers := [] } B.w0 := by
 have hsz : us.size = ds.length := by simpa using hp.1
 refine ⟨rfl, rfl, rfl, Nat.le_refl _, fun _ _ _ => rfl, (fun id id' b h => by cases h), (fun id b h => by cases h), fun _ => rfl, fun n d hn => ?_, rfl, (fun p hp => by cases hp), (fun d hd => by cases hd), ⟨hG, fun b hb => by rw [hown] at hb; exact hb.elim⟩⟩
 simp only [start, Option.map_eq_some_iff] at hn
 obtain ⟨v, hv, rfl⟩ := hn
 have hlt : n < us.size := by rw [hsz]; exact (List.getElem?_eq_some_iff.1 hv).1
 refine ⟨us[n], by rw [Array.getElem?_append_left hlt]; simp [hlt], .v ((hp.2 n v us[n] hv (by simp [hlt])).mono fun b hb _ => ⟨⟨.inl hb, fun id h => by cases h⟩, rfl⟩)⟩
theorem sM {w : World} {im : Nat → Prop} {s : St} {ι : Nat → Con} {a : Act} {w2 : World} (S2 : Sim ⟨w, im, fun _ => False⟩ s ι a w2) {ds : List D} {us : List Value} (hp : PW (RepD w2 (cx ⟨w, im, fun _ => False⟩ ι) ι) ds us) {xs : List V} (hx : nW s.h ds = some xs) :
 PW (RepV w2 (fun b => im b ∨ w.heap.size ≤ b)) xs us := by
 obtain ⟨h3, h4⟩ := iA hx
 refine ⟨by rw [hp.1, h3], fun i x u hx hu => ?_⟩
 have hlt : i < ds.length := by rw [h3]; exact (List.getElem?_eq_some_iff.1 hx).1
 obtain ⟨x', h5, h6⟩ := h4 i ds[i] (List.getElem?_eq_getElem hlt)
 rw [h5] at hx; cases hx
 refine ft S2 (h := s.h) (fun _ => .inr rfl) (im' := fun b => im b ∨ w.heap.size ≤ b) (fun b hb => ?_) (fun id b _ hb => ?_) (hp.2 i ds[i] u (List.getElem?_eq_getElem hlt) hu) x h6
 ·rcases hb.1 with h | h | h
  ·exact .inl h
  ·exact .inr h
  ·exact h.elim
 ·rcases (S2.bnd id b hb).2 with h | h
  ·exact .inr h
  ·exact h.elim
theorem sW (hT : bg P tab = true) {f : FuncId} {fn : Func} {c : Code} {ds : List V} {res : V} {N : Nat} {rs : List ResultVar} (hf : P.funcs[f]? = some fn) (hb : fn.body = some c)
 (hen : ∀ args w, (callFunc f args).run P w = .ok (.enter f args) w) (hN : fn.ntmps = N) (hlen : Nat.ble ds.length N = true) (hrs : fn.results = rs.toArray)
 (h : ∀ w im, Wp P none N (only ⟨w, im, fun _ => False⟩) c (wm tab rs res) (start ds)) : PCall P f ds res := by
 refine ⟨hen, fun w im us hG hp => ?_⟩
 have hlen' := Nat.le_of_ble_eq_true hlen
 have hsz : us.size = ds.length := by simpa using hp.1
 have S0 := nE (B := ⟨w, im, fun _ => False⟩) (N := fn.ntmps) rfl hG hp
 have hq : ∀ s : St, (pU tab s rs = some res ∧ Nat.ble s.m.d 1 = true) → (Nat.ble s.m.d 1 = true ∧ ∃ ds, fM tab s rs = some ds ∧ (fun ds (h : Nat → Blk) => (match nW h ds with | some [x] => some x | some xs => some (.tup xs) | none => none) = some res) ds s.h) := by
  intro s ⟨h1, h2⟩
  refine ⟨h2, ?_⟩
  unfold pU at h1
  cases hd : fM tab s rs with
  | none => rw [hd] at h1; cases h1
  | some dsr => rw [hd] at h1; exact ⟨dsr, rfl, h1⟩
 refine Calls.mono (kP hT (K := fun ds (h : Nat → Blk) _ => (match nW h ds with | some [x] => some x | some xs => some (.tup xs) | none => none) = some res) hf hb hN (by omega) hrs S0 (n9 (h w im) fun e s hp => ?_)) ?_
 ·cases e with
  | normal => exact hq s hp
  | ret => exact hq s hp
  | _ => exact hp.elim
 ·rintro e w2 ⟨dsr, us', s2, ι, a2, rfl, hret, S2, hpw⟩
  refine ⟨_, rfl, ⟨S2.os, S2.tape, S2.output, S2.size, fun k hk => S2.frame k hk (fun h => h)⟩, ?_⟩
  cases hvl : nW s2.h dsr with
  | none => simp only [hvl] at hret; cases hret
  | some xs =>
    simp only [hvl] at hret
    have hv := sM S2 hpw hvl
    unfold ic
    by_cases h1l : us'.toArray.size = 1
    ·rw [dif_pos h1l]
     have : xs.length = 1 := by have := hv.1; simp at h1l; omega
     match xs, this with
     | [x], _ =>
       simp at hret; subst hret
       refine hv.2 0 x _ rfl ?_
       have : 0 < us'.length := by simp at h1l; omega
       simp [this]
    ·rw [dif_neg h1l]
     have hne : xs.length ≠ 1 := by have := hv.1; simp at h1l; omega
     have hr : res = .tup xs := by
      match xs, hne with
      | [], _ => simp at hret; exact hret.symm
      | _ :: _ :: _, _ => simp at hret; exact hret.symm
     subst hr
     exact .tup _ _ (by simp [hv.1]) (fun i v u hv' hu => hv.2 i v u hv' (by simpa using hu))
def PRow (P : Program) (f : FuncId) (ds : List V) (e sz : Nat) (es : List (List V)) : Prop :=
 (∀ args w, (callFunc f args).run P w = .ok (.enter f args) w) ∧
 ∀ (w : World) (im : Nat → Prop) (us : Array Value), Glob w → PW (RepV w im) ds us.toList →
   Calls P f us w fun en w' => ∃ (g : Option Nat) (cap : Nat), en = .returned (lP g es.length cap) ∧ Below w.heap.size w w' ∧ (∀ b, g = some b → w.heap.size ≤ b) ∧
    BlkRel w' (fun b => (im b ∨ w.heap.size ≤ b) ∧ g ≠ some b) (fun _ => .res) (.row e sz es) (.row g es.length cap)
def wQ (t : Nat) (e sz : Nat) (es : List (List V)) : Exit → St → Prop
 | .ret, s => (∃ id, s.t t = some (.own id) ∧ s.h id = .row e sz es) ∨ (s.t t = some .nils ∧ es = [] ∧ 0 < sz)
 | _, _ => False
theorem vA (hT : bg P tab = true) {f : FuncId} {fn : Func} {c : Code} {ds : List V} {N t e sz : Nat} {es : List (List V)} (hf : P.funcs[f]? = some fn) (hb : fn.body = some c)
 (hen : ∀ args w, (callFunc f args).run P w = .ok (.enter f args) w) (hN : fn.ntmps = N) (hlen : Nat.ble ds.length N = true) (hrs : fn.results = [ResultVar.tmp t].toArray)
 (h : ∀ w im, Wp P none N (only ⟨w, im, fun _ => False⟩) c (fun ex s => wQ t e sz es ex s ∧ Nat.ble s.m.d 1 = true) (start ds)) : PRow P f ds e sz es := by
 refine ⟨hen, fun w im us hG hp => ?_⟩
 have hlen' := Nat.le_of_ble_eq_true hlen
 have hsz : us.size = ds.length := by simpa using hp.1
 have S0 := nE (B := ⟨w, im, fun _ => False⟩) (N := fn.ntmps) rfl hG hp
 refine Calls.mono (kP hT (K := fun ds (h : Nat → Blk) _ => (∃ id, ds = [.own id] ∧ h id = .row e sz es) ∨ (ds = [.nils] ∧ es = [] ∧ 0 < sz)) hf hb hN (by omega) hrs S0 (n9 (h w im) fun ex s hp => ?_)) ?_
 ·obtain ⟨h1, h2⟩ := hp
  cases ex with
  | ret =>
    refine ⟨h2, ?_⟩
    rcases h1 with ⟨id, h3, h4⟩ | ⟨h3, h4⟩
    ·exact ⟨[.own id], by simp [fM, yK, h3], .inl ⟨id, rfl, h4⟩⟩
    ·exact ⟨[.nils], by simp [fM, yK, h3], .inr ⟨rfl, h4⟩⟩
  | _ => exact h1.elim
 ·rintro en w2 ⟨dsr, us', s2, ι, a2, rfl, hret, S2, hpw⟩
  have hbelow : Below w.heap.size w w2 := ⟨S2.os, S2.tape, S2.output, S2.size, fun k hk => S2.frame k hk (fun h => h)⟩
  rcases hret with ⟨id, rfl, hid⟩ | ⟨rfl, rfl, hsz⟩
  ·match us', hpw with
   | [u], hpw =>
     obtain ⟨g, cap, hι⟩ := jd S2 hid
     have hu := (hpw.2 0 (.own id) u rfl rfl).own_inv.2 g _ cap hι
     refine ⟨g, cap, by rw [hu]; rfl, hbelow, fun b hb => ?_, ?_⟩
     ·subst hb
      rcases (S2.bnd id b (by rw [hι]; rfl)).2 with h | h
      ·exact h
      ·exact h.elim
     ·have hbl := S2.blks id
      rw [hid, hι] at hbl
      obtain ⟨h2, h3, h4⟩ := hbl
      refine ⟨h2, h3, ?_⟩
      rcases h4 with h4 | ⟨g', cap', arr, h4, h5, h6, h7, h8, h9⟩
      ·exact .inl h4
      ·refine .inr ⟨g', cap', arr, h4, h5, h6, h7, h8, fun i j el v u a1 a2 a3 => (h9 i j el v u a1 a2 a3).mono fun b hb _ => ⟨⟨?_, ?_⟩, rfl⟩⟩
       ·rcases hb.1 with h | h | h
        ·exact .inl h
        ·exact .inr h
        ·exact h.elim
       ·intro hg
        exact hb.2 id (by rw [hι, hg]; rfl)
   | [], hpw => exact absurd hpw.1 (by simp)
   | _ :: _ :: _, hpw => exact absurd hpw.1 (by simp)
  ·match us', hpw with
   | [u], hpw =>
     have hu := (hpw.2 0 .nils u rfl rfl).nils_inv
     exact ⟨none, 0, by rw [hu]; rfl, hbelow, by simp, hsz, by simp, .inl ⟨rfl, rfl⟩⟩
   | [], hpw => exact absurd hpw.1 (by simp)
   | _ :: _ :: _, hpw => exact absurd hpw.1 (by simp)
theorem rX {f : FuncId} {x : Operand} {args : Array Operand} {ats : Array TypeId} {dx : D} {ds : List D} {first vs cap : List V} {nid e sz : Nat} {es : List (List V)}
 (ho : o.op = .call { callee := .value x, args := args, argTypes := ats }) (hx : vw (hF []) dx = some (.fn (.func f) first cap)) (ha : nW (hF []) ds = some vs) (hl : ds.length = args.toList.length)
 (hp : PRow P f (first ++ vs ++ cap) e sz es) : sY P r o ((x, dx) :: args.toList.zip ds) [(nid, .res)] (.own nid) [(nid, .row e sz es)] where
 ops p hp' := by
  rw [ho]
  simp only [Op.operands, Call.operands]
  rcases List.mem_cons.1 hp' with rfl | h
  ·simp
  ·have := (List.of_mem_zip h).1
   simp only [Array.mem_append, List.mem_toArray, List.mem_cons, List.not_mem_nil, or_false]
   exact .inr (by simpa using this)
 snd s hE hFs B N ι a w n Q S hN hd := by
  refine ⟨fun _ _ => trivial, ?_⟩
  rw [Oper.semAt_eq _ _ _ (by rw [ho]; simp)]
  have hh : ∀ id, hF [] id = .dead ∨ hF [] id = s.h id := fun _ => .inl rfl
  have hfn := ft S hh (im' := cx B ι) (fun _ h => h) (fun id b h => absurd rfl h) (S.ev (hE (x, dx) List.mem_cons_self)) _ hx
  generalize hu : a.eval x = u at hfn
  obtain ⟨h1, h2⟩ := iA ha
  have hargs : PW (RepV w (cx B ι)) vs (args.toList.map a.eval) := by
   refine ⟨by simp only [List.length_map]; omega, fun i v u' hv hu' => ?_⟩
   have hlt : i < ds.length := by rw [h1]; exact (List.getElem?_eq_some_iff.1 hv).1
   have hdi : ds[i]? = some ds[i] := List.getElem?_eq_getElem hlt
   obtain ⟨v', h3, h4⟩ := h2 i ds[i] hdi
   rw [h3] at hv; cases hv
   obtain ⟨y, h5, h6⟩ := xa hl hdi
   rw [List.getElem?_map, h5] at hu'
   cases hu'
   exact ft S hh (fun _ h => h) (fun id b h => absurd rfl h) (S.ev (hE (y, ds[i]) (List.mem_cons_of_mem _ h6))) v h4
  cases hfn with
  | fn _ _ _ us ws hs1 hs2 hv1 hv2 =>
    have hrun : (execOp a.eval o).run P w = .ok (.enter f (us ++ args.map a.eval ++ ws)) w := by
     simp [execOp, ho, resolve, hu, Deferred.ofValue, invoke, hp.1]
    rw [hrun]
    refine ⟨fun h => by simp [WF, Fence.wide] at h, CallsIn.mono (gn _ (hp.2 w (cx B ι) _ S.globW ?_)) ?_⟩
    ·have p1 : PW (RepV w (cx B ι)) first us.toList := gh hs1 hv1
     have p2 : PW (RepV w (cx B ι)) cap ws.toList := gh hs2 hv2
     have p := (p1.append hargs).append p2
     simpa using p
    ·rintro en w' ⟨g, cp, rfl, hb, hg, hbl⟩
     obtain ⟨S1, hk⟩ := S.grow hb.os hb.tape hb.output hb.size hb.block
     have hnid : s.h nid = .res := hFs (nid, .res) (by simp)
     have hgs : ∀ b, (Con.row g es.length cp).blk = some b → w.heap.size ≤ b ∧ b < w'.heap.size := fun b hb' => by
      have hgb : g = some b := hb'
      refine ⟨hg b hgb, ?_⟩
      obtain ⟨_, _, h | ⟨g', cap', arr, h, h5, _⟩⟩ := hbl
      ·have := h.1; rw [hgb] at this; cases this
      ·rw [hgb] at h; cases h
       exact (Array.getElem?_eq_some_iff.1 h5).1
     have hinv : ∀ b, (Con.row g es.length cp).blk = some b → g = some b := fun b h => h
     obtain ⟨S2, hk2⟩ := S.fresh (w' := w') hnid (.row g es.length cp) (.row e sz es) hgs hb.os hb.tape hb.output hb.size hb.block (fun hk' => by
      obtain ⟨b1, b2, b3⟩ := hbl
      refine ⟨b1, b2, ?_⟩
      rcases b3 with b3 | ⟨g', cp', arr, b4, b5, b6, b7, b8, b9⟩
      ·exact .inl b3
      ·refine .inr ⟨g', cp', arr, b4, b5, b6, b7, b8, fun i j el v u a1 a2 a3 => (b9 i j el v u a1 a2 a3).mono fun b hbb _ => ⟨?_, rfl⟩⟩
       obtain ⟨c1, c2⟩ := hbb
       rcases c1 with c1 | c1
       ·by_cases hlt : b < w.heap.size
        ·exact (hk' b c1 hlt).1
        ·refine ⟨.inr (.inl (Nat.le_trans S.size (Nat.le_of_not_lt hlt))), fun id hid => ?_⟩
         by_cases hidn : id = nid
         ·subst hidn; rw [aE] at hid; exact c2 (hinv b hid)
         ·rw [aN _ _ hidn] at hid; exact hlt (S.bnd id b hid).1
       ·refine ⟨.inr (.inl (Nat.le_trans S.size c1)), fun id hid => ?_⟩
        by_cases hidn : id = nid
        ·subst hidn; rw [aE] at hid; exact c2 (hinv b hid)
        ·rw [aN _ _ hidn] at hid
         have := (S.bnd id b hid).1; omega)
     refine ⟨by rw [eh]; exact hN, d8 ι nid (.row g es.length cp), ?_⟩
     refine Sim.putAny (s := { s with h := d8 s.h nid (.row e sz es) }) S2 (by rw [hN]; exact hd) (.own nid _ (by rw [aE]; simp) fun g' n' c' h => ?_)
     rw [aE] at h
     cases h; rfl
end
end Go.Vd
