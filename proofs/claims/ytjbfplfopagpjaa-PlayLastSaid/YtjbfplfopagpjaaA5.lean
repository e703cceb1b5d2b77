/- The steps of operations on data, more: arithmetic, comparing, converting, slicing, tuples, function values. -/
import Derived.Test.YtjbfplfopagpjaaA4
namespace Go.Vd
open Go.RowKit

section
variable {P : Program} {tab : Tab} {o : Oper} {s : St}

theorem runs_bin {op : BinOp} {T T' : TypeId} {x y : Operand} {k k' : IntKind} {a b : Int} {r : V} (ho : o.op = .binOp op T x y T') (hx : s.ev x = some (.v (.int k a))) (hy : s.ev y = some (.v (.int k' b)))
    (h : ∀ (w : World), ∃ u, (binOp op T (.int k a) (.int k' b)).run P w = .ok u w ∧ ∀ im, RepV w im r u) : Runs P o s (.v r) [] :=
  runs_pure fun B ι c w S => by
    have h1 := (repD_v_inv (S.ev hx)).int_inv
    have h2 := (repD_v_inv (S.ev hy)).int_inv
    obtain ⟨u, h3, h4⟩ := h w
    exact ⟨u, by simp [execOp, ho, h1, h2, eqGuard_at_int, h3], .v (h4 _)⟩

theorem runs_add {T T' : TypeId} {x y : Operand} {k : IntKind} {a b r : Int} (ho : o.op = .binOp .add T x y T') (hx : s.ev x = some (.v (.int k a))) (hy : s.ev y = some (.v (.int k b)))
    (hr : k.wrap (a + b) = r) : Runs P o s (.v (.int k r)) [] :=
  runs_bin ho hx hy fun w => ⟨.int k r, by simp [binOp_add, Op.intArith, hr], fun _ => .int _ _⟩
theorem runs_sub {T T' : TypeId} {x y : Operand} {k : IntKind} {a b r : Int} (ho : o.op = .binOp .sub T x y T') (hx : s.ev x = some (.v (.int k a))) (hy : s.ev y = some (.v (.int k b)))
    (hr : k.wrap (a - b) = r) : Runs P o s (.v (.int k r)) [] :=
  runs_bin ho hx hy fun w => ⟨.int k r, by simp [binOp_sub, Op.intArith, hr], fun _ => .int _ _⟩
theorem runs_mul {T T' : TypeId} {x y : Operand} {k : IntKind} {a b r : Int} (ho : o.op = .binOp .mul T x y T') (hx : s.ev x = some (.v (.int k a))) (hy : s.ev y = some (.v (.int k b)))
    (hr : k.wrap (a * b) = r) : Runs P o s (.v (.int k r)) [] :=
  runs_bin ho hx hy fun w => ⟨.int k r, by simp [binOp_mul, Op.intArith, hr], fun _ => .int _ _⟩
theorem runs_quo {T T' : TypeId} {x y : Operand} {k : IntKind} {a b r : Int} (ho : o.op = .binOp .quo T x y T') (hx : s.ev x = some (.v (.int k a))) (hy : s.ev y = some (.v (.int k b)))
    (h0 : b ≠ 0) (hr : k.wrap (a.tdiv b) = r) : Runs P o s (.v (.int k r)) [] :=
  runs_bin ho hx hy fun w => ⟨.int k r, by simp [binOp_quo, Op.intDiv, hr, h0], fun _ => .int _ _⟩
theorem runs_rem {T T' : TypeId} {x y : Operand} {k : IntKind} {a b r : Int} (ho : o.op = .binOp .rem T x y T') (hx : s.ev x = some (.v (.int k a))) (hy : s.ev y = some (.v (.int k b)))
    (h0 : b ≠ 0) (hr : a.tmod b = r) : Runs P o s (.v (.int k r)) [] :=
  runs_bin ho hx hy fun w => ⟨.int k r, by simp [binOp_rem, Op.intDiv, hr, h0], fun _ => .int _ _⟩
theorem runs_eql {T T' : TypeId} {x y : Operand} {k : IntKind} {a b : Int} (ho : o.op = .binOp .eql T x y T') (hx : s.ev x = some (.v (.int k a))) (hy : s.ev y = some (.v (.int k b))) :
    Runs P o s (.v (.bool (decide (a = b)))) [] :=
  runs_bin ho hx hy fun w => ⟨.bool (decide (a = b)), by simp [binOp_eql]; rfl, fun _ => .bool _⟩
theorem runs_neq {T T' : TypeId} {x y : Operand} {k : IntKind} {a b : Int} (ho : o.op = .binOp .neq T x y T') (hx : s.ev x = some (.v (.int k a))) (hy : s.ev y = some (.v (.int k b))) :
    Runs P o s (.v (.bool (decide (a ≠ b)))) [] :=
  runs_bin ho hx hy fun w => ⟨.bool (decide (a ≠ b)), by simp [binOp_neq, bne, BEq.beq], fun _ => .bool _⟩
theorem runs_lss {T T' : TypeId} {x y : Operand} {k : IntKind} {a b : Int} (ho : o.op = .binOp .lss T x y T') (hx : s.ev x = some (.v (.int k a))) (hy : s.ev y = some (.v (.int k b))) :
    Runs P o s (.v (.bool (decide (a < b)))) [] :=
  runs_bin ho hx hy fun w => ⟨.bool (decide (a < b)), by simp [binOp_lss], fun _ => .bool _⟩
theorem runs_leq {T T' : TypeId} {x y : Operand} {k : IntKind} {a b : Int} (ho : o.op = .binOp .leq T x y T') (hx : s.ev x = some (.v (.int k a))) (hy : s.ev y = some (.v (.int k b))) :
    Runs P o s (.v (.bool (decide (a ≤ b)))) [] :=
  runs_bin ho hx hy fun w => ⟨.bool (decide (a ≤ b)), by simp [binOp_leq], fun _ => .bool _⟩
theorem runs_gtr {T T' : TypeId} {x y : Operand} {k : IntKind} {a b : Int} (ho : o.op = .binOp .gtr T x y T') (hx : s.ev x = some (.v (.int k a))) (hy : s.ev y = some (.v (.int k b))) :
    Runs P o s (.v (.bool (decide (a > b)))) [] :=
  runs_bin ho hx hy fun w => ⟨.bool (decide (a > b)), by simp [binOp_gtr], fun _ => .bool _⟩
theorem runs_geq {T T' : TypeId} {x y : Operand} {k : IntKind} {a b : Int} (ho : o.op = .binOp .geq T x y T') (hx : s.ev x = some (.v (.int k a))) (hy : s.ev y = some (.v (.int k b))) :
    Runs P o s (.v (.bool (decide (a ≥ b)))) [] :=
  runs_bin ho hx hy fun w => ⟨.bool (decide (a ≥ b)), by simp [binOp_geq], fun _ => .bool _⟩
theorem runs_bits {op : BinOp} {T T' : TypeId} {x y : Operand} {k : IntKind} {a b r : Int} (ho : o.op = .binOp op T x y T') (hop : op = .and ∨ op = .or ∨ op = .xor) (hx : s.ev x = some (.v (.int k a))) (hy : s.ev y = some (.v (.int k b)))
    (hr : bits op k a b = r) : Runs P o s (.v (.int k r)) [] :=
  runs_bin ho hx hy fun w => ⟨.int k r, by rcases hop with rfl | rfl | rfl <;> simp [binOp_and, binOp_or, binOp_xor, intBits_and, intBits_or, intBits_xor, hr], fun _ => .int _ _⟩
theorem runs_shr {T T' : TypeId} {x y : Operand} {k k' : IntKind} {a b r : Int} (ho : o.op = .binOp .shr T x y T') (hx : s.ev x = some (.v (.int k a))) (hy : s.ev y = some (.v (.int k' b)))
    (h0 : 0 ≤ b) (h1 : b ≤ k.bits) (hr : a / 2 ^ b.toNat = r) : Runs P o s (.v (.int k r)) [] :=
  runs_bin ho hx hy fun w => ⟨.int k r, by simp [binOp_shr, shift_shr k k' a b h0 h1, hr], fun _ => .int _ _⟩
theorem runs_shl {T T' : TypeId} {x y : Operand} {k k' : IntKind} {a b r : Int} (ho : o.op = .binOp .shl T x y T') (hx : s.ev x = some (.v (.int k a))) (hy : s.ev y = some (.v (.int k' b)))
    (h0 : 0 ≤ b) (h1 : b ≤ k.bits) (hr : k.wrap (a * 2 ^ b.toNat) = r) : Runs P o s (.v (.int k r)) [] :=
  runs_bin ho hx hy fun w => ⟨.int k r, by simp [binOp_shl, shift_shl k k' a b h0 h1, hr], fun _ => .int _ _⟩

theorem bool_kind (hT : tabOk P tab = true) {t : Nat} {ti : TI} (hl : lk tab t = some ti) (he : ti.kind = .bool) : P.underlying t = some .bool := by
  have h := ti_kind (tab_get hT hl)
  rw [he] at h; exact h

theorem runs_beql (hT : tabOk P tab = true) {T T' : TypeId} {ti : TI} {x y : Operand} {a b : Bool} (ho : o.op = .binOp .eql T x y T') (hl : lk tab T = some ti) (he : ti.kind = .bool)
    (hx : s.ev x = some (.v (.bool a))) (hy : s.ev y = some (.v (.bool b))) : Runs P o s (.v (.bool (a == b))) [] :=
  runs_pure fun B ι c w S => by
    have h1 := (repD_v_inv (S.ev hx)).bool_inv
    have h2 := (repD_v_inv (S.ev hy)).bool_inv
    exact ⟨.bool (a == b), by simp [execOp, ho, h1, h2, eqGuard_at_bool, run_eql_bool w T a b (bool_kind hT hl he)], .v (.bool _)⟩
theorem runs_bneq (hT : tabOk P tab = true) {T T' : TypeId} {ti : TI} {x y : Operand} {a b : Bool} (ho : o.op = .binOp .neq T x y T') (hl : lk tab T = some ti) (he : ti.kind = .bool)
    (hx : s.ev x = some (.v (.bool a))) (hy : s.ev y = some (.v (.bool b))) : Runs P o s (.v (.bool (a != b))) [] :=
  runs_pure fun B ι c w S => by
    have h1 := (repD_v_inv (S.ev hx)).bool_inv
    have h2 := (repD_v_inv (S.ev hy)).bool_inv
    exact ⟨.bool (a != b), by simp [execOp, ho, h1, h2, eqGuard_at_bool, run_neq_bool w T a b (bool_kind hT hl he), bne], .v (.bool _)⟩

theorem runs_seql {T T' : TypeId} {x y : Operand} {a b : ByteArray} (ho : o.op = .binOp .eql T x y T')
    (hx : s.ev x = some (.v (.str a))) (hy : s.ev y = some (.v (.str b))) : Runs P o s (.v (.bool (a.toList == b.toList))) [] :=
  runs_pure fun B ι c w S => by
    have h1 := (repD_v_inv (S.ev hx)).str_inv
    have h2 := (repD_v_inv (S.ev hy)).str_inv
    exact ⟨.bool (a.toList == b.toList), by simp [execOp, ho, h1, h2, eqGuard_at_string, binOp, Op.stringOp], .v (.bool _)⟩
theorem runs_sadd {T T' : TypeId} {x y : Operand} {a b : ByteArray} (ho : o.op = .binOp .add T x y T')
    (hx : s.ev x = some (.v (.str a))) (hy : s.ev y = some (.v (.str b))) (hs : a.size + b.size ≤ 9223372036854775807) : Runs P o s (.v (.str (a ++ b))) [] :=
  runs_pure fun B ι c w S => by
    have h1 := (repD_v_inv (S.ev hx)).str_inv
    have h2 := (repD_v_inv (S.ev hy)).str_inv
    have h3 : ¬ (9223372036854775807 < ((a.size : Int) + (b.size : Int))) := by omega
    exact ⟨.string (a ++ b), by simp [execOp, ho, h1, h2, eqGuard_at_string, binOp, Op.stringOp, h3], .v (.str _)⟩

theorem runs_conv_int (hT : tabOk P tab = true) {src dst : TypeId} {ts td : TI} {x : Operand} {k k' : IntKind} {n r : Int} (ho : o.op = .convert src dst x)
    (hs : lk tab src = some ts) (hd : lk tab dst = some td) (hk : ts.kind = .int k) (hk' : td.kind = .int k') (hx : s.ev x = some (.v (.int k n))) (hr : k'.wrap n = r) : Runs P o s (.v (.int k' r)) [] :=
  runs_pure fun B ι c w S => by
    have h1 := (repD_v_inv (S.ev hx)).int_inv
    have h2 := ti_kind (tab_get hT hs)
    rw [hk] at h2
    have h3 := ti_kind (tab_get hT hd)
    rw [hk'] at h3
    exact ⟨.int k' r, by simp [execOp, ho, h1, convert, run_underlying h2, run_underlying h3, Conv.intToInt, hr], .v (.int _ _)⟩

theorem runs_min {t : TypeId} {x y : Operand} {ats : Array TypeId} {k : IntKind} {a b : Int} (ho : o.op = .call { callee := .builtin .min, args := #[x, y], argTypes := ats })
    (hx : s.ev x = some (.v (.int k a))) (hy : s.ev y = some (.v (.int k b))) (_ : t = t := by rfl) : Runs P o s (.v (.int k (min a b))) [] :=
  runs_pure fun B ι c w S => by
    have h1 := (repD_v_inv (S.ev hx)).int_inv
    have h2 := (repD_v_inv (S.ev hy)).int_inv
    refine ⟨.int k (if b < a then b else a), by simp [execOp, ho, resolve, invoke, builtin, Builtin.min_, h1, h2, Builtin.min2], ?_⟩
    have : (if b < a then b else a) = min a b := by split <;> omega
    rw [this]; exact .v (.int _ _)

theorem runs_nilCheck_ptr {x : Operand} {id n : Nat} {cs : List D} (ho : o.op = .nilCheck x) (hx : s.ev x = some (.ptr id n)) (hb : s.h id = .box cs) : Runs P o s (.ptr id n) [] :=
  runs_pure fun B ι c w S => by
    obtain ⟨b, arr, ty, h2, _⟩ := blk_box S hb
    have h1 := (S.ev hx).ptr_inv.2 b h2
    exact ⟨c.eval x, by simp [execOp, ho, h1], S.ev hx⟩
theorem runs_nilCheck_eptr {x : Operand} {id n e sz : Nat} {es : List (List V)} (ho : o.op = .nilCheck x) (hx : s.ev x = some (.eptr id n)) (hb : s.h id = .row e sz es) (hne : es ≠ []) : Runs P o s (.eptr id n) [] :=
  runs_pure fun B ι c w S => by
    have h0 := S.blks id
    rw [hb] at h0
    obtain ⟨g, cap, arr, h2, _⟩ := row_some h0 hne
    have h1 := (S.ev hx).eptr_inv.2 g _ cap h2
    exact ⟨c.eval x, by simp [execOp, ho, h1], S.ev hx⟩
theorem runs_nilCheck_fn {x : Operand} {f : FuncId} {as bs : List D} (ho : o.op = .nilCheck x) (hx : s.ev x = some (.fn (.func f) as bs)) : Runs P o s (.fn (.func f) as bs) [] :=
  runs_pure fun B ι c w S => by
    have h1 := S.ev hx
    generalize hu : c.eval x = u at h1
    refine ⟨u, ?_, h1⟩
    cases h1 with | fn _ _ _ us ws => simp [execOp, ho, hu]
theorem runs_nilCheck_v {x : Operand} {f : FuncId} {as bs : List V} (ho : o.op = .nilCheck x) (hx : s.ev x = some (.v (.fn (.func f) as bs))) : Runs P o s (.v (.fn (.func f) as bs)) [] :=
  runs_pure fun B ι c w S => by
    have h1 := repD_v_inv (S.ev hx)
    generalize hu : c.eval x = u at h1
    refine ⟨u, ?_, .v h1⟩
    cases h1 with | fn _ _ _ us ws => simp [execOp, ho, hu]

theorem runs_extract {x : Operand} {i : Nat} {vs : List V} {v : V} (ho : o.op = .extract x i) (hx : s.ev x = some (.v (.tup vs))) (hv : vs[i]? = some v) : Runs P o s (.v v) [] :=
  runs_pure fun B ι c w S => by
    have h1 := repD_v_inv (S.ev hx)
    generalize hu : c.eval x = u at h1
    cases h1 with
    | tup _ us hs h =>
      have hlt : i < us.size := by rw [hs]; exact (List.getElem?_eq_some_iff.1 hv).1
      exact ⟨us[i], by simp [execOp, ho, hu, Instr.extract, hlt], .v (h i v _ hv (by simp [hlt]))⟩
theorem runs_extractD {x : Operand} {i : Nat} {vs : List D} {v : D} (ho : o.op = .extract x i) (hx : s.ev x = some (.tup vs)) (hv : vs[i]? = some v) : Runs P o s v [] :=
  runs_pure fun B ι c w S => by
    have h1 := S.ev hx
    generalize hu : c.eval x = u at h1
    cases h1 with
    | tup _ us hs h =>
      have hlt : i < us.size := by rw [hs]; exact (List.getElem?_eq_some_iff.1 hv).1
      exact ⟨us[i], by simp [execOp, ho, hu, Instr.extract, hlt], h i v _ hv (by simp [hlt])⟩

/-- All of a list of operands, as data. -/
def St.evs (s : St) : List Operand → Option (List D)
  | [] => some []
  | x :: r => match s.ev x, s.evs r with
    | some d, some ds => some (d :: ds)
    | _, _ => none

theorem Sim.evs {B : Base} {s : St} {ι : Nat → Con} {a : Act} {w : World} (S : Sim B s ι a w) : ∀ {xs : List Operand} {ds : List D}, s.evs xs = some ds →
    xs.length = ds.length ∧ ∀ (i : Nat) d u, ds[i]? = some d → (xs.map a.eval)[i]? = some u → RepD w (imS B ι) ι d u
  | [], ds, h => by simp [St.evs] at h; subst h; simp
  | x :: r, ds, h => by
    simp only [St.evs] at h
    split at h
    · rename_i d ds' h1 h2
      cases h
      obtain ⟨h3, h4⟩ := S.evs h2
      refine ⟨by simp [h3], fun i e u he hu => ?_⟩
      cases i with
      | zero => simp at he hu; subst he; subst hu; exact S.ev h1
      | succ i => exact h4 i e u (by simpa using he) (by simpa using hu)
    · cases h

def mkFn (f : Fn) (a b : List D) : D := match allV a, allV b with
  | some x, some y => .v (.fn f x y)
  | _, _ => .fn f a b

theorem RepD.mkFn {w : World} {im : Nat → Prop} {ι : Nat → Con} {f : Fn} {as bs : List D} {u : Value} (h : RepD w im ι (.fn f as bs) u) : RepD w im ι (mkFn f as bs) u := by
  unfold Vd.mkFn
  split
  · rename_i x y hx hy
    have h1 := allV_some hx; have h2 := allV_some hy; subst h1; subst h2
    cases h with
    | fn _ _ _ us ws hs hs' hv hv' => exact .v (.fn _ _ _ us ws (by simpa using hs) (by simpa using hs') (list_map_v hv) (list_map_v hv'))
  · exact h

theorem runs_makeFunc {f : Fn} {first cap : Array Operand} {as bs : List D} (ho : o.op = .makeFunc f first cap) (ha : s.evs first.toList = some as) (hb : s.evs cap.toList = some bs) : Runs P o s (mkFn f as bs) [] :=
  runs_pure fun B ι c w S => by
    obtain ⟨h1, h2⟩ := S.evs ha
    obtain ⟨h3, h4⟩ := S.evs hb
    refine ⟨.func f (first.map c.eval) (cap.map c.eval), by simp [execOp, ho, Instr.makeFunc], RepD.mkFn (.fn _ _ _ _ _ (by simpa using h1) (by simpa using h3) ?_ ?_)⟩
    · intro i d u hd hu
      exact h2 i d u hd (by simpa using hu)
    · intro i d u hd hu
      exact h4 i d u hd (by simpa using hu)

/-! ### Pieces of slices -/

theorem run_slice_op {T e : Nat} {x : Operand} {lo hi : Option Operand} {a : Act} {w : World} {ad : Option Addr} {len cap l h : Nat} {j : TypeInfo} (ho : o.op = .slice T x lo hi none)
    (ht : P.underlying T = some (.slice e)) (hj : P.info? e = some j) (hx : a.eval x = .slice ad len cap)
    (hl : lo = none ∧ l = 0 ∨ ∃ y k n, lo = some y ∧ a.eval y = .int k n ∧ n = (l : Int)) (hh : hi = none ∧ h = len ∨ ∃ y k n, hi = some y ∧ a.eval y = .int k n ∧ n = (h : Int))
    (h1 : l ≤ h) (h2 : h ≤ cap) : (execOp a.eval o).run P w = .ok (.value (.slice (if cap = l then ad else ad.map (·.add (l * j.size))) (h - l) (cap - l))) w := by
  have e1 : ((l : Int) ≤ (h : Int)) := by omega
  have e2 : ((h : Int) ≤ (cap : Int)) := by omega
  have e3 : (0 : Int) ≤ (l : Int) := by omega
  have e4 : (0 : Int) ≤ (h : Int) := by omega
  rcases hl with ⟨rfl, rfl⟩ | ⟨y, k, n, rfl, hy, rfl⟩ <;> rcases hh with ⟨rfl, rfl⟩ | ⟨y', k', n', rfl, hy', rfl⟩ <;>
    simp [execOp, Instr.sliceAt, Instr.slice, run_underlying ht, Instr.sliceBounds, run_sliceBound, sizeOf, typeInfo, *]

theorem runs_slice (hT : tabOk P tab = true) {T e : Nat} {ti te : TI} {x : Operand} {lo hi : Option Operand} {es : List (List V)} {l h : Nat} (ho : o.op = .slice T x lo hi none)
    (hl : lk tab T = some ti) (he : ti.sliceElem = some e) (hle : lk tab e = some te) (hx : s.ev x = some (.v (.sl es)))
    (hlo : lo = none ∧ l = 0 ∨ ∃ y k n, lo = some y ∧ s.ev y = some (.v (.int k n)) ∧ n = (l : Int)) (hhi : hi = none ∧ h = es.length ∨ ∃ y k n, hi = some y ∧ s.ev y = some (.v (.int k n)) ∧ n = (h : Int))
    (h1 : l ≤ h) (h2 : h ≤ es.length) (hsz : ∀ el ∈ es, el.length = te.size) : Runs P o s (.v (.sl ((es.take h).drop l))) [] :=
  runs_pure fun B ι a w S => by
    have hx' := repD_v_inv (S.ev hx)
    obtain ⟨j, z, hj, hjs, _⟩ := ti_info (tab_get hT hle)
    have hlo' : lo = none ∧ l = 0 ∨ ∃ y k n, lo = some y ∧ a.eval y = .int k n ∧ n = (l : Int) := by
      rcases hlo with h | ⟨y, k, n, h, h', h''⟩
      · exact .inl h
      · exact .inr ⟨y, k, n, h, (repD_v_inv (S.ev h')).int_inv, h''⟩
    have hhi' : hi = none ∧ h = es.length ∨ ∃ y k n, hi = some y ∧ a.eval y = .int k n ∧ n = (h : Int) := by
      rcases hhi with h | ⟨y, k, n, h, h', h''⟩
      · exact .inl h
      · exact .inr ⟨y, k, n, h, (repD_v_inv (S.ev h')).int_inv, h''⟩
    have hlen : ((es.take h).drop l).length = h - l := by simp; omega
    generalize hu : a.eval x = u at hx'
    cases hx' with
    | sl0 ad c =>
      have h0 : h = 0 := by simpa using h2
      subst h0
      refine ⟨_, run_slice_op ho (slice_kind hT hl he) hj hu hlo' hhi' h1 (by omega), ?_⟩
      simp only [List.take_nil, List.drop_nil, Nat.zero_sub]; exact .v (.sl0 _ _)
    | sl _ b q sz c hb hlt hcap hs hc hv =>
      refine ⟨_, run_slice_op ho (slice_kind hT hl he) hj hu hlo' hhi' h1 (by omega), ?_⟩
      by_cases hz : h - l = 0
      · rw [List.eq_nil_of_length_eq_zero (hlen.trans hz), hz]; exact .v (.sl0 _ _)
      · have hne : es ≠ [] := List.length_pos_iff.1 (by omega)
        have hsz' : sz = te.size := by
          obtain ⟨el, hel⟩ := List.exists_mem_of_ne_nil _ hne
          rw [← hs el hel, hsz el hel]
        have hcl : c ≠ l := by omega
        rw [if_neg hcl, ← hlen]
        have hget : ∀ (i : Nat) e, ((es.take h).drop l)[i]? = some e → es[l + i]? = some e := by
          intro i e hi
          rw [List.getElem?_drop, List.getElem?_take] at hi
          split at hi
          · exact hi
          · cases hi
        have hadd : ∀ i j' : Nat, q + l * j.size + i * sz + j' = q + (l + i) * sz + j' := by
          intro i j'
          rw [hjs, ← hsz', Nat.add_mul]; omega
        simp only [Option.map_some, Addr.add_lit]
        refine .v (.sl _ b _ sz _ hb hlt (by omega) (fun e he' => hs e (List.mem_of_mem_take (List.mem_of_mem_drop he'))) ?_ ?_)
        · intro i j' hi hj'
          rw [hadd]; exact hc (l + i) j' (by omega) hj'
        · intro i j' e v u' he' hv' hu'
          rw [hadd] at hu'
          exact hv (l + i) j' e v u' (hget i e he') hv' hu'
end
end Go.Vd
