/- Values as data: what a run's values stand for, apart from where they lie. No program is named here. -/
import Derived.RangeFuncIn
import Derived.OrdersIn
import Derived.Below
import Derived.WalkKit
namespace Go.Vd
open Go.RowKit

/-- Data that never changes: slices by their elements (each its cells), structs and arrays by their cells. -/
inductive V where
  | int (k : IntKind) (n : Int)
  | bool (b : Bool)
  | str (s : ByteArray)
  | sl (es : List (List V))
  | agg (cs : List V)
  | ref (cs : List V)
  | fn (f : Fn) (first cap : List V)
  | tup (vs : List V)

/-- A value reads as data in a world, all its memory lying in blocks of 'im'. -/
inductive RepV (w : World) (im : Nat → Prop) : V → Value → Prop where
  | int (k : IntKind) (n : Int) : RepV w im (.int k n) (.int k n)
  | bool (b : Bool) : RepV w im (.bool b) (.bool b)
  | str (s : ByteArray) : RepV w im (.str s) (.string s)
  | sl0 (a : Option Addr) (c : Nat) : RepV w im (.sl []) (.slice a 0 c)
  | sl (es : List (List V)) (b o sz c : Nat) (hb : im b) (hl : b < w.heap.size) (hcap : es.length ≤ c) (hs : ∀ e ∈ es, e.length = sz)
      (hc : ∀ i j, i < es.length → j < sz → (w.cell? ⟨b, o + i * sz + j, none⟩).isSome = true)
      (hv : ∀ i j e v u, es[i]? = some e → e[j]? = some v → w.cell? ⟨b, o + i * sz + j, none⟩ = some u → RepV w im v u) :
      RepV w im (.sl es) (.slice (some ⟨b, o, none⟩) es.length c)
  | agg (cs : List V) (us : Array Value) (hs : us.size = cs.length)
      (hv : ∀ (i : Nat) v u, cs[i]? = some v → us[i]? = some u → RepV w im v u) : RepV w im (.agg cs) (.agg us)
  | ref (cs : List V) (b o : Nat) (hb : im b) (hl : b < w.heap.size)
      (hc : ∀ j, j < cs.length → (w.cell? ⟨b, o + j, none⟩).isSome = true)
      (hv : ∀ (j : Nat) v u, cs[j]? = some v → w.cell? ⟨b, o + j, none⟩ = some u → RepV w im v u) : RepV w im (.ref cs) (.pointer (some ⟨b, o, none⟩))
  | fn (f : Fn) (first cap : List V) (us ws : Array Value) (hs : us.size = first.length) (hs' : ws.size = cap.length)
      (hv : ∀ (i : Nat) v u, first[i]? = some v → us[i]? = some u → RepV w im v u)
      (hv' : ∀ (i : Nat) v u, cap[i]? = some v → ws[i]? = some u → RepV w im v u) : RepV w im (.fn f first cap) (.func f us ws)
  | tup (vs : List V) (us : Array Value) (hs : us.size = vs.length)
      (hv : ∀ (i : Nat) v u, vs[i]? = some v → us[i]? = some u → RepV w im v u) : RepV w im (.tup vs) (.tuple us)

theorem RepV.mono {w w' : World} {im im' : Nat → Prop} (hk : ∀ b, im b → b < w.heap.size → im' b ∧ w'.heap[b]? = w.heap[b]?) {v : V} {u : Value}
    (h : RepV w im v u) : RepV w' im' v u := by
  induction h with
  | int k n => exact .int k n
  | bool b => exact .bool b
  | str s => exact .str s
  | sl0 a c => exact .sl0 a c
  | sl es b o sz c hb hl hcap hs hc hv ih =>
    obtain ⟨h1, h2⟩ := hk b hb hl
    have hcell : ∀ j, w'.cell? ⟨b, j, none⟩ = w.cell? ⟨b, j, none⟩ := fun j => World.cell?_of_block h2
    have hl' : b < w'.heap.size := by
      have : w.heap[b]?.isSome := by simp [hl]
      rw [← h2] at this; simpa using this
    exact .sl es b o sz c h1 hl' hcap hs (fun i j hi hj => by rw [hcell]; exact hc i j hi hj) (fun i j e v u he hv' hu => ih i j e v u he hv' (by rw [← hcell]; exact hu))
  | agg cs us hs hv ih => exact .agg cs us hs ih
  | ref cs b o hb hl hc hv ih =>
    obtain ⟨h1, h2⟩ := hk b hb hl
    have hcell : ∀ j, w'.cell? ⟨b, j, none⟩ = w.cell? ⟨b, j, none⟩ := fun j => World.cell?_of_block h2
    have hl' : b < w'.heap.size := by
      have : w.heap[b]?.isSome := by simp [hl]
      rw [← h2] at this; simpa using this
    exact .ref cs b o h1 hl' (fun j hj => by rw [hcell]; exact hc j hj) (fun j v u he hu => ih j v u he (by rw [← hcell]; exact hu))
  | fn f first cap us ws hs hs' hv hv' ih ih' => exact .fn f first cap us ws hs hs' ih ih'
  | tup vs us hs hv ih => exact .tup vs us hs ih

theorem RepV.int_inv {w : World} {im : Nat → Prop} {k : IntKind} {n : Int} {u : Value} (h : RepV w im (.int k n) u) : u = .int k n := by cases h; rfl
theorem RepV.bool_inv {w : World} {im : Nat → Prop} {b : Bool} {u : Value} (h : RepV w im (.bool b) u) : u = .bool b := by cases h; rfl
theorem RepV.str_inv {w : World} {im : Nat → Prop} {s : ByteArray} {u : Value} (h : RepV w im (.str s) u) : u = .string s := by cases h; rfl

/-- A value that is held in one cell. -/
def V.one : V → Bool
  | .agg _ | .tup _ => false
  | _ => true

theorem RepV.oneCell {w : World} {im : Nat → Prop} {v : V} {u : Value} (h : RepV w im v u) (h1 : v.one = true) : u.oneCell' = true := by
  cases h <;> first | rfl | (simp [V.one] at h1)

/-- What a frame's temporary holds: data, or memory of the call's own. -/
inductive D where
  | v (x : V)
  | nils
  | own (id : Nat)
  | ptr (id off : Nat)
  | eptr (id i : Nat)
  | agg (cs : List D)
  | fn (f : Fn) (first cap : List D)
  | tup (ds : List D)
  | any

/-- What a number stands for: nothing yet; nothing any more; a variable's block; a slice. -/
inductive Con where
  | res | dead
  | box (b : Nat)
  | row (g : Option Nat) (n cap : Nat)

def rowVal : Option Nat → Nat → Nat → Value
  | none, _, _ => .slice none 0 0
  | some g, n, cap => .slice (some ⟨g, 0, none⟩) n cap

inductive RepD (w : World) (im : Nat → Prop) (ι : Nat → Con) : D → Value → Prop where
  | v {x : V} {u : Value} (h : RepV w im x u) : RepD w im ι (.v x) u
  | nils : RepD w im ι .nils (.slice none 0 0)
  | own (id : Nat) (u : Value) (h0 : ι id ≠ .res) (h : ∀ g n c, ι id = .row g n c → u = rowVal g n c) : RepD w im ι (.own id) u
  | ptr (id off : Nat) (u : Value) (h0 : ι id ≠ .res) (h : ∀ b, ι id = .box b → u = .pointer (some ⟨b, off, none⟩)) : RepD w im ι (.ptr id off) u
  | eptr (id i : Nat) (u : Value) (h0 : ι id ≠ .res) (h : ∀ g n c, ι id = .row (some g) n c → u = .pointer (some ⟨g, i, none⟩)) : RepD w im ι (.eptr id i) u
  | agg (cs : List D) (us : Array Value) (hs : us.size = cs.length)
      (hv : ∀ (i : Nat) v u, cs[i]? = some v → us[i]? = some u → RepD w im ι v u) : RepD w im ι (.agg cs) (.agg us)
  | fn (f : Fn) (first cap : List D) (us ws : Array Value) (hs : us.size = first.length) (hs' : ws.size = cap.length)
      (hv : ∀ (i : Nat) v u, first[i]? = some v → us[i]? = some u → RepD w im ι v u)
      (hv' : ∀ (i : Nat) v u, cap[i]? = some v → ws[i]? = some u → RepD w im ι v u) : RepD w im ι (.fn f first cap) (.func f us ws)
  | tup (vs : List D) (us : Array Value) (hs : us.size = vs.length)
      (hv : ∀ (i : Nat) v u, vs[i]? = some v → us[i]? = some u → RepD w im ι v u) : RepD w im ι (.tup vs) (.tuple us)
  | any (u : Value) : RepD w im ι .any u

theorem RepD.mono {w w' : World} {im im' : Nat → Prop} {ι ι' : Nat → Con} (hk : ∀ b, im b → b < w.heap.size → im' b ∧ w'.heap[b]? = w.heap[b]?)
    (hi : ∀ id, ι id ≠ .res → ι' id = ι id ∨ ι' id = .dead) {d : D} {u : Value} (h : RepD w im ι d u) : RepD w' im' ι' d u := by
  induction h with
  | v h => exact .v (h.mono hk)
  | nils => exact .nils
  | own id u h0 h =>
    rcases hi id h0 with e | e
    · exact .own id u (by rw [e]; exact h0) (by rw [e]; exact h)
    · exact .own id u (by rw [e]; simp) (by rw [e]; intro g n c h; cases h)
  | ptr id n u h0 h =>
    rcases hi id h0 with e | e
    · exact .ptr id n u (by rw [e]; exact h0) (by rw [e]; exact h)
    · exact .ptr id n u (by rw [e]; simp) (by rw [e]; intro g h; cases h)
  | eptr id n u h0 h =>
    rcases hi id h0 with e | e
    · exact .eptr id n u (by rw [e]; exact h0) (by rw [e]; exact h)
    · exact .eptr id n u (by rw [e]; simp) (by rw [e]; intro g m c h; cases h)
  | agg cs us hs hv ih => exact .agg cs us hs ih
  | fn f first cap us ws hs hs' hv hv' ih ih' => exact .fn f first cap us ws hs hs' ih ih'
  | tup vs us hs hv ih => exact .tup vs us hs ih
  | any u => exact .any u

/-- Data read as data of the call's own side: an aggregate by its parts. -/
theorem RepV.toD_agg {w : World} {im : Nat → Prop} {ι : Nat → Con} {cs : List V} {u : Value} (h : RepV w im (.agg cs) u) : RepD w im ι (.agg (cs.map .v)) u := by
  cases h with
  | agg _ us hs hv =>
    refine .agg _ us (by simpa using hs) fun i v u hv' hu => ?_
    rw [List.getElem?_map] at hv'
    cases hc : cs[i]? with
    | none => rw [hc] at hv'; cases hv'
    | some c => rw [hc] at hv'; cases hv'; exact .v (hv i c u hc hu)

/-- All of a list's parts are data: these. -/
def allV : List D → Option (List V)
  | [] => some []
  | .v x :: r => (allV r).map (x :: ·)
  | _ :: _ => none

theorem allV_some : ∀ {ds : List D} {vs : List V}, allV ds = some vs → ds = vs.map .v
  | [], vs, h => by simp [allV] at h; subst h; rfl
  | d :: r, vs, h => by
    cases d with
    | v x =>
      simp only [allV, Option.map_eq_some_iff] at h
      obtain ⟨ys, h1, rfl⟩ := h
      simp [allV_some h1]
    | _ => simp [allV] at h

theorem repD_v_inv {w : World} {im : Nat → Prop} {ι : Nat → Con} {x : V} {u : Value} (h : RepD w im ι (.v x) u) : RepV w im x u := by
  cases h with | v h => exact h

theorem list_map_v {w : World} {im : Nat → Prop} {ι : Nat → Con} {vs : List V} {us : Array Value}
    (hv : ∀ (i : Nat) v u, (vs.map D.v)[i]? = some v → us[i]? = some u → RepD w im ι v u) :
    ∀ (i : Nat) v u, vs[i]? = some v → us[i]? = some u → RepV w im v u := fun i v u h hu =>
  repD_v_inv (hv i (.v v) u (by simp [h]) hu)

/-- An aggregate of parts, as data where all parts are data. -/
def mkAgg (cs : List D) : D := match allV cs with
  | some vs => .v (.agg vs)
  | none => .agg cs

theorem RepD.mkAgg {w : World} {im : Nat → Prop} {ι : Nat → Con} {cs : List D} {u : Value} (h : RepD w im ι (.agg cs) u) : RepD w im ι (mkAgg cs) u := by
  unfold Vd.mkAgg
  cases ha : allV cs with
  | none => exact h
  | some vs =>
    have := allV_some ha; subst this
    cases h with
    | agg _ us hs hv => exact .v (.agg vs us (by simpa using hs) (list_map_v hv))

def mkTup (cs : List D) : D := match allV cs with
  | some vs => .v (.tup vs)
  | none => .tup cs

/-- The cells of a value. -/
def V.cells : V → List V
  | .agg cs => cs
  | x => [x]

def D.cells : D → List D
  | .agg cs => cs
  | .v x => x.cells.map .v
  | d => [d]

theorem RepV.cells {w : World} {im : Nat → Prop} {v : V} {u : Value} (h : RepV w im v u) (ht : ∀ vs, v ≠ .tup vs) :
    u.cells.size = v.cells.length ∧ ∀ (i : Nat) x y, v.cells[i]? = some x → u.cells[i]? = some y → RepV w im x y := by
  have h0 := h
  cases h with
  | agg cs us hs hv => exact ⟨hs, hv⟩
  | tup vs us hs hv => exact absurd rfl (ht vs)
  | _ =>
    refine ⟨rfl, fun i x y hx hy => ?_⟩
    cases i with
    | zero =>
      simp [V.cells, Value.cells] at hx hy
      subst hx; subst hy; exact h0
    | succ i => simp [V.cells] at hx

end Go.Vd
