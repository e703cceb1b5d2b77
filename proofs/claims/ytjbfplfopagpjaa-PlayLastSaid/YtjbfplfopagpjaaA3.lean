/- What an operation makes of data: the table of types, and the steps that read. -/
import Derived.Test.YtjbfplfopagpjaaA2
namespace Go.Vd
open Go.RowKit

/-- A cell of a type's zero value. -/
inductive Z where
  | i (k : IntKind) | b | s | n | o
  deriving DecidableEq

inductive TK where
  | slice (e : Nat) | struct (fos : List (Nat × Nat)) | array (len e : Nat) | bool | int (k : IntKind) | string | other
  deriving DecidableEq

structure TI where
  kind : TK
  size : Nat
  bytes : Nat
  zero : List Z

abbrev Tab := List (Nat × TI)

def lk {α : Type} : List (Nat × α) → Nat → Option α
  | [], _ => none
  | (k, a) :: r, n => bif Nat.beq n k then some a else lk r n

def constZ : Value → Z
  | .int k 0 => .i k
  | .bool false => .b
  | .string s => if s.size = 0 then .s else .o
  | .slice none 0 0 => .n
  | _ => .o

def Z.toD : Z → D
  | .i k => .v (.int k 0)
  | .b => .v (.bool false)
  | .s => .v (.str .empty)
  | .n => .nils
  | .o => .any

theorem constZ_rep {w : World} {im : Nat → Prop} {ι : Nat → Con} (u : Value) : RepD w im ι (constZ u).toD u := by
  unfold constZ
  split
  · exact .v (.int _ _)
  · exact .v (.bool _)
  · rename_i s
    split
    · rename_i h
      have : s = .empty := by
        cases s with | mk d => cases d with | mk l => cases l with
          | nil => rfl
          | cons x l => simp [ByteArray.size] at h
      subst this
      exact .v (.str _)
    · exact .any _
  · exact .nils
  · exact .any _

def tiOk (P : Program) (T : TypeId) (ti : TI) : Bool :=
  match P.info? T with
  | none => false
  | some i => i.size == ti.size && i.bytes == ti.bytes &&
    (match i.zero with
     | some z => z.cells.toList.map constZ == ti.zero && z.cells.size == ti.size
     | none => false) &&
    (match ti.kind, P.underlying T with
     | .slice e, some (.slice e') => e == e'
     | .struct fos, some (.struct fs) => fs.toList.map (fun f => (f.offset, P.cellsOf f.type)) == fos && fs.toList.all (fun f => match P.info? f.type with | some j => j.size != 0 | none => false)
     | .array l e, some (.array l' e') => l == l' && e == e'
     | .bool, some .bool => true
     | .int k, some (.int k') => k == k'
     | .string, some .string => true
     | .other, some (.func _ _ _) => true
     | _, _ => false)

def tabOk (P : Program) (tab : Tab) : Bool := tab.all fun p => tiOk P p.1 p.2

theorem lk_mem {α : Type} : ∀ {l : List (Nat × α)} {n : Nat} {x : α}, lk l n = some x → (n, x) ∈ l
  | [], _, _, h => by cases h
  | (k, a) :: r, n, x, h => by
    simp only [lk] at h
    cases hb : n.beq k with
    | true =>
      rw [hb] at h
      simp only [cond_true, Option.some.injEq] at h
      have := Nat.eq_of_beq_eq_true hb
      subst this; subst h; exact List.mem_cons_self
    | false =>
      rw [hb] at h
      exact List.mem_cons_of_mem _ (lk_mem (by simpa using h))

theorem tab_get {P : Program} {tab : Tab} (h : tabOk P tab = true) {T : Nat} {ti : TI} (hl : lk tab T = some ti) : tiOk P T ti = true :=
  (List.all_eq_true.1 h) (T, ti) (lk_mem hl)

theorem ti_info {P : Program} {T : Nat} {ti : TI} (h : tiOk P T ti = true) : ∃ i z, P.info? T = some i ∧ i.size = ti.size ∧ i.bytes = ti.bytes ∧ i.zero = some z ∧ z.cells.toList.map constZ = ti.zero ∧ z.cells.size = ti.size := by
  unfold tiOk at h
  cases hi : P.info? T with
  | none => rw [hi] at h; cases h
  | some i =>
    rw [hi] at h
    simp only [Bool.and_eq_true, beq_iff_eq] at h
    cases hz : i.zero with
    | none => rw [hz] at h; simp at h
    | some z =>
      rw [hz] at h
      simp only [Bool.and_eq_true, beq_iff_eq] at h
      exact ⟨i, z, rfl, h.1.1.1, h.1.1.2, hz, h.1.2.1, h.1.2.2⟩

theorem ti_kind {P : Program} {T : Nat} {ti : TI} (h : tiOk P T ti = true) : match ti.kind with
    | .slice e => P.underlying T = some (.slice e)
    | .struct fos => ∃ fs, P.underlying T = some (.struct fs) ∧ fs.toList.map (fun f => (f.offset, P.cellsOf f.type)) = fos ∧ ∀ f ∈ fs.toList, ∃ j, P.info? f.type = some j ∧ j.size ≠ 0
    | .array l e => P.underlying T = some (.array l e)
    | .bool => P.underlying T = some .bool
    | .int k => P.underlying T = some (.int k)
    | .string => P.underlying T = some .string
    | .other => ∃ a b c, P.underlying T = some (.func a b c) := by
  unfold tiOk at h
  cases hi : P.info? T with
  | none => rw [hi] at h; cases h
  | some i =>
    rw [hi] at h
    simp only [Bool.and_eq_true] at h
    have h2 := h.2
    clear h
    generalize P.underlying T = u at *
    cases hk : ti.kind <;> rw [hk] at h2 <;> cases u with
    | none => simp at h2
    | some u => cases u <;> simp at h2 <;> first
      | (simp [h2]; done)
      | trivial
      | (refine ⟨_, rfl, h2.1, fun f hf => ?_⟩
         obtain ⟨k, hk', rfl⟩ := List.mem_iff_getElem.1 hf
         have h3 := h2.2 k (by simpa using hk')
         simp only [Array.getElem_toList]
         generalize P.info? (Field.type _) = j at h3 ⊢
         cases j with
         | none => simp at h3
         | some j => exact ⟨j, rfl, by simpa using h3⟩)
      | exact ⟨_, _, _, rfl⟩

/-- A constant, as data. -/
def constD : Value → Option D
  | .int k n => some (.v (.int k n))
  | .bool b => some (.v (.bool b))
  | .string s => some (.v (.str s))
  | .slice none 0 0 => some .nils
  | _ => none

/-- An operand's value, as data. -/
def St.ev (s : St) : Operand → Option D
  | .tmp t => s.t t
  | .const v => constD v
  | .func f => some (.v (.fn (.func f) [] []))
  | .global _ => none

theorem constD_rep {w : World} {im : Nat → Prop} {ι : Nat → Con} {u : Value} {d : D} (h : constD u = some d) : RepD w im ι d u := by
  unfold constD at h
  split at h
  · cases h; exact .v (.int _ _)
  · cases h; exact .v (.bool _)
  · cases h; exact .v (.str _)
  · cases h; exact .nils
  · cases h

theorem Sim.ev {B : Base} {s : St} {ι : Nat → Con} {a : Act} {w : World} (S : Sim B s ι a w) {x : Operand} {d : D} (h : s.ev x = some d) : RepD w (imS B ι) ι d (a.eval x) := by
  cases x with
  | tmp t =>
    obtain ⟨u, h1, h2⟩ := S.tmps _ _ h
    show RepD w _ ι d (a.tmps.getD _ undef)
    rw [Array.getD_eq_getD_getElem?, h1]
    exact h2
  | const v => exact constD_rep h
  | func f => cases h; exact .v (.fn _ _ _ _ _ rfl rfl (by simp) (by simp))
  | global g => cases h

/-- What a value lies in cells as: each by itself. -/
def D.flat (h : Nat → Blk) : D → Option (List D)
  | .agg cs => some cs
  | .v (.tup _) => none
  | .v x => some (x.cells.map .v)
  | .nils => some [.nils]
  | .own id => match h id with | .row _ _ _ => some [.own id] | _ => none
  | .ptr id o => match h id with | .box _ => some [.ptr id o] | _ => none
  | .eptr _ _ => none
  | .fn f a b => some [.fn f a b]
  | .tup _ => none
  | .any => none

/-- Is it held in one cell? -/
def D.one (h : Nat → Blk) : D → Bool
  | .v x => x.one
  | .nils => true
  | .own id => match h id with | .row _ _ _ => true | _ => false
  | .ptr id _ => match h id with | .box _ => true | _ => false
  | .fn _ _ _ => true
  | _ => false

theorem blk_row {B : Base} {s : St} {ι : Nat → Con} {a : Act} {w : World} (S : Sim B s ι a w) {id e sz : Nat} {es : List (List V)} (h : s.h id = .row e sz es) : ∃ g c, ι id = .row g es.length c := by
  have := S.blks id
  rw [h] at this
  obtain ⟨_, _, h | ⟨g, cap, arr, h, _⟩⟩ := this
  · exact ⟨none, 0, by rw [h.2]; exact h.1⟩
  · exact ⟨some g, cap, h⟩

theorem blk_box {B : Base} {s : St} {ι : Nat → Con} {a : Act} {w : World} (S : Sim B s ι a w) {id : Nat} {cs : List D} (h : s.h id = .box cs) :
    ∃ b arr ty, ι id = .box b ∧ w.heap[b]? = some (.cells arr ty (0, 0)) ∧ arr.size = cs.length ∧ ∀ (i : Nat) d u, cs[i]? = some d → arr[i]? = some u → RepD w (imS B ι) ι d u := by
  have := S.blks id
  rw [h] at this
  exact this

theorem own_val {B : Base} {s : St} {ι : Nat → Con} {a : Act} {w : World} (S : Sim B s ι a w) {id e sz : Nat} {es : List (List V)} (h : s.h id = .row e sz es) {u : Value}
    (hr : RepD w (imS B ι) ι (.own id) u) : ∃ g c, ι id = .row g es.length c ∧ u = rowVal g es.length c := by
  obtain ⟨g, c, h1⟩ := blk_row S h
  exact ⟨g, c, h1, hr.own_inv.2 g _ c h1⟩

theorem one_oneCell {B : Base} {s : St} {ι : Nat → Con} {a : Act} {w : World} (S : Sim B s ι a w) {d : D} {u : Value} (h : d.one s.h = true) (hr : RepD w (imS B ι) ι d u) : u.oneCell' = true := by
  cases hr with
  | v h1 => exact h1.oneCell h
  | nils => rfl
  | own id u h0 h1 =>
    simp only [D.one] at h
    split at h
    · rename_i hb
      obtain ⟨g, c, h2⟩ := blk_row S hb
      rw [h1 _ _ _ h2]; cases g <;> rfl
    · cases h
  | ptr id n u h0 h1 =>
    simp only [D.one] at h
    split at h
    · rename_i hb
      obtain ⟨b, _, _, h2, _⟩ := blk_box S hb
      rw [h1 _ h2]; rfl
    · cases h
  | eptr id i u h0 h1 => simp [D.one] at h
  | agg => simp [D.one] at h
  | fn => rfl
  | tup => simp [D.one] at h
  | any => simp [D.one] at h

theorem flat_cells {B : Base} {s : St} {ι : Nat → Con} {a : Act} {w : World} (S : Sim B s ι a w) {d : D} {u : Value} {ds : List D} (h : d.flat s.h = some ds) (hr : RepD w (imS B ι) ι d u) :
    u.cells.size = ds.length ∧ ∀ (i : Nat) x y, ds[i]? = some x → u.cells[i]? = some y → RepD w (imS B ι) ι x y := by
  have single : ∀ (v : Value), v.cells = #[v] → ds = [d] → v = u → u.cells.size = ds.length ∧ ∀ (i : Nat) x y, ds[i]? = some x → u.cells[i]? = some y → RepD w (imS B ι) ι x y := by
    intro v hv hd hu
    subst hd; subst hu
    rw [hv]
    refine ⟨rfl, fun i x y hx hy => ?_⟩
    cases i with
    | zero => simp at hx hy; subst hx; subst hy; exact hr
    | succ i => simp at hx
  cases d with
  | v x =>
    have hx := repD_v_inv hr
    have hnt : ∀ vs, x ≠ .tup vs := by
      intro vs e; subst e; simp [D.flat] at h
    obtain ⟨h1, h2⟩ := hx.cells hnt
    have hds : ds = x.cells.map .v := by
      cases x <;> simp_all [D.flat]
    subst hds
    refine ⟨by simpa using h1, fun i a b ha hb => ?_⟩
    rw [List.getElem?_map] at ha
    cases hc : x.cells[i]? with
    | none => rw [hc] at ha; cases ha
    | some c => rw [hc] at ha; cases ha; exact .v (h2 i c b hc hb)
  | nils =>
    simp [D.flat] at h
    exact single _ rfl h.symm hr.nils_inv.symm
  | own id =>
    simp only [D.flat] at h
    split at h
    · rename_i hb
      obtain ⟨g, c, _, h2⟩ := own_val S hb hr
      cases h
      exact single u (by rw [h2]; cases g <;> rfl) rfl rfl
    · cases h
  | ptr id n =>
    simp only [D.flat] at h
    split at h
    · rename_i hb
      obtain ⟨b, _, _, h2, _⟩ := blk_box S hb
      cases h
      exact single u (by rw [hr.ptr_inv.2 b h2]; rfl) rfl rfl
    · cases h
  | eptr id i => simp [D.flat] at h
  | agg cs =>
    simp [D.flat] at h; subst h
    cases hr with | agg _ us hs hv => exact ⟨hs, hv⟩
  | fn f a b =>
    simp [D.flat] at h
    cases hr with | fn _ _ _ us ws hs hs' hv hv' => exact single _ rfl h.symm rfl
  | tup ds => simp [D.flat] at h
  | any => simp [D.flat] at h

end Go.Vd
