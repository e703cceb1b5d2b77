/- Walks over data, merged (part 3): what the laws of this claim use. -/
import Derived.JoinedOf
import Derived.KernelRfl
import Derived.OpenShut
import Derived.ProofKit
import Derived.Test.YtjbfplfopagpjaaChecked
import Derived.Test.YtjbfplfopagpjaaRows
import Derived.Test.YtjbfplfopagpjaaMb
namespace Go.Vd
open Go.Proofs
abbrev ti3 : TI := ⟨.int .i64, 1, 8, [.i .i64]⟩
abbrev ti4 : TI := ⟨.bool, 1, 1, [.b]⟩
abbrev ti28 : TI := ⟨.slice 4, 1, 24, [.n]⟩
abbrev ti27 : TI := ⟨.struct [(0, 1), (1, 1), (2, 1), (3, 1), (4, 1), (5, 1), (6, 1)], 7, 152, [.i .i64, .n, .n, .n, .n, .n, .n]⟩
abbrev ti24 : TI := ⟨.slice 3, 1, 24, [.n]⟩
abbrev ti22 : TI := ⟨.slice 63, 1, 24, [.n]⟩
abbrev ti23 : TI := ⟨.slice 58, 1, 24, [.n]⟩
abbrev ti63 : TI := ⟨.struct [(0, 1), (1, 1)], 2, 16, [.i .i64, .i .i64]⟩
abbrev ti58 : TI := ⟨.struct [(0, 1), (1, 1)], 2, 16, [.i .i64, .i .i64]⟩
abbrev ti29 : TI := ⟨.slice 28, 1, 24, [.n]⟩
abbrev ti72 : TI := ⟨.int .u8, 1, 1, [.i .u8]⟩
abbrev ti70 : TI := ⟨.slice 72, 1, 24, [.n]⟩
abbrev ti9 : TI := ⟨.string, 1, 16, [.s]⟩
abbrev ti5 : TI := ⟨.int .u8, 1, 1, [.i .u8]⟩
abbrev ti25 : TI := ⟨.slice 171, 1, 24, [.n]⟩
abbrev ti171 : TI := ⟨.struct [(0, 1), (1, 1), (2, 1)], 3, 32, [.i .u8, .i .i64, .s]⟩
abbrev ti40 : TI := ⟨.array 3 28, 3, 72, [.n, .n, .n]⟩
abbrev ti129 : TI := ⟨.slice 4, 1, 24, [.n]⟩
abbrev ti35 : TI := ⟨.int .i64, 1, 8, [.i .i64]⟩
abbrev ti99 : TI := ⟨.slice 70, 1, 24, [.n]⟩
abbrev ti101 : TI := ⟨.struct [(0, 1), (1, 1), (2, 1)], 3, 56, [.i .i64, .n, .n]⟩
abbrev ti83 : TI := ⟨.array 3 70, 3, 72, [.n, .n, .n]⟩
abbrev ti131 : TI := ⟨.other, 1, 8, [.o]⟩
abbrev ti133 : TI := ⟨.other, 1, 8, [.o]⟩
abbrev ti141 : TI := ⟨.other, 1, 8, [.o]⟩
abbrev ti31 : TI := ⟨.struct [(0, 7), (7, 1), (8, 1), (9, 1)], 10, 208, [.i .i64, .n, .n, .n, .n, .n, .n, .n, .n, .i .i64]⟩
abbrev ti56 : TI := ⟨.struct [(0, 7), (7, 1), (8, 1), (9, 1)], 10, 208, [.i .i64, .n, .n, .n, .n, .n, .n, .n, .n, .i .i64]⟩
abbrev ti61 : TI := ⟨.struct [(0, 7), (7, 1), (8, 1), (9, 1), (10, 1)], 11, 232, [.i .i64, .n, .n, .n, .n, .n, .n, .n, .n, .i .u8, .n]⟩
abbrev ti67 : TI := ⟨.struct [(0, 7), (7, 2), (9, 1), (10, 1)], 11, 216, [.i .i64, .n, .n, .n, .n, .n, .n, .i .i64, .i .i64, .n, .n]⟩
abbrev ti78 : TI := ⟨.struct [(0, 7), (7, 1), (8, 1), (9, 1)], 10, 208, [.i .i64, .n, .n, .n, .n, .n, .n, .n, .n, .i .i64]⟩
abbrev ti90 : TI := ⟨.array 2 70, 2, 48, [.n, .n]⟩
abbrev ti95 : TI := ⟨.struct [(0, 7), (7, 1), (8, 1), (9, 1)], 10, 208, [.i .i64, .n, .n, .n, .n, .n, .n, .n, .n, .i .i64]⟩
abbrev ti113 : TI := ⟨.struct [(0, 7), (7, 3), (10, 3), (13, 3), (16, 1)], 17, 328, [.i .i64, .n, .n, .n, .n, .n, .n, .i .i64, .n, .n, .i .i64, .n, .n, .i .i64, .n, .n, .i .i64]⟩
abbrev ti142 : TI := ⟨.array 3 72, 3, 3, [.i .u8, .i .u8, .i .u8]⟩
abbrev ti143 : TI := ⟨.array 3 142, 9, 9, [.i .u8, .i .u8, .i .u8, .i .u8, .i .u8, .i .u8, .i .u8, .i .u8, .i .u8]⟩
abbrev ti146 : TI := ⟨.slice 5, 1, 24, [.n]⟩
abbrev ti148 : TI := ⟨.struct [(0, 1), (1, 1)], 2, 32, [.o, .n]⟩
abbrev ti150 : TI := ⟨.int .u64, 1, 8, [.i .u64]⟩
abbrev ti167 : TI := ⟨.struct [(0, 1), (1, 3)], 4, 96, [.n, .n, .n, .n]⟩
abbrev ti145 : TI := ⟨.other, 1, 8, [.o]⟩
abbrev ti75 : TI := ⟨.other, 1, 8, [.o]⟩
abbrev ti130 : TI := ⟨.other, 1, 8, [.o]⟩
abbrev ti181 : TI := ⟨.other, 1, 8, [.o]⟩
abbrev ti71 : TI := ⟨.other, 1, 8, [.o]⟩
abbrev ti187 : TI := ⟨.struct [(0, 1)], 1, 24, [.n]⟩
def tab : Tab := [(3, ti3), (4, ti4), (28, ti28), (27, ti27), (24, ti24), (22, ti22), (23, ti23), (63, ti63), (58, ti58), (29, ti29), (72, ti72), (70, ti70), (9, ti9), (5, ti5), (25, ti25), (171, ti171), (40, ti40), (129, ti129), (35, ti35), (99, ti99), (101, ti101), (83, ti83), (131, ti131), (133, ti133), (141, ti141), (31, ti31), (56, ti56), (61, ti61), (67, ti67), (78, ti78), (90, ti90), (95, ti95), (113, ti113), (142, ti142), (143, ti143), (146, ti146), (148, ti148), (150, ti150), (167, ti167), (187, ti187), (145, ti145), (75, ti75), (130, ti130), (181, ti181), (71, ti71)]
theorem tb3 : lk tab 3 = some ti3 := rfl
theorem tb4 : lk tab 4 = some ti4 := rfl
theorem tb28 : lk tab 28 = some ti28 := rfl
theorem tb27 : lk tab 27 = some ti27 := rfl
theorem tb24 : lk tab 24 = some ti24 := rfl
theorem tb22 : lk tab 22 = some ti22 := rfl
theorem tb23 : lk tab 23 = some ti23 := rfl
theorem tb63 : lk tab 63 = some ti63 := rfl
theorem tb58 : lk tab 58 = some ti58 := rfl
theorem tb72 : lk tab 72 = some ti72 := rfl
theorem tb70 : lk tab 70 = some ti70 := rfl
theorem tb9 : lk tab 9 = some ti9 := rfl
theorem tb5 : lk tab 5 = some ti5 := rfl
theorem tb25 : lk tab 25 = some ti25 := rfl
theorem tb171 : lk tab 171 = some ti171 := rfl
theorem tb40 : lk tab 40 = some ti40 := rfl
theorem tb99 : lk tab 99 = some ti99 := rfl
theorem tb101 : lk tab 101 = some ti101 := rfl
theorem tb83 : lk tab 83 = some ti83 := rfl
theorem tb113 : lk tab 113 = some ti113 := rfl
theorem tb142 : lk tab 142 = some ti142 := rfl
theorem tb143 : lk tab 143 = some ti143 := rfl
theorem tb146 : lk tab 146 = some ti146 := rfl
theorem tb148 : lk tab 148 = some ti148 := rfl
theorem tb167 : lk tab 167 = some ti167 := rfl
theorem tb130 : lk tab 130 = some ti130 := rfl
theorem tab_ok : tabOk Try.prog tab = true := by kernel_rfl
theorem mixed : Try.prog.follows .mixedOrders = true := by kernel_rfl
theorem len_map {α β : Type} {enc : α → β} {xs : List α} : ((xs.map enc).length : Int) = (xs.length : Int) := by simp
theorem app_one {α β : Type} {enc : α → β} {xs : List α} {x : α} : xs.map enc ++ [enc x] = (xs ++ [x]).map enc := by simp
theorem app_map {α β : Type} {enc : α → β} {xs ys : List α} : xs.map enc ++ ys.map enc = (xs ++ ys).map enc := by simp
theorem set_map {α β : Type} {enc : α → β} {xs : List α} {n : Nat} {x : α} : (xs.map enc).set n (enc x) = (xs.set n x).map enc := by simp
@[simp] theorem dflt_b : (default : Bool) = false := rfl
@[simp] theorem dflt_i : (default : Int) = 0 := rfl
/-! ### Things -/
structure Latch where
  next : Int
  reset : Int
  deriving Inhabited, DecidableEq
structure Gate where
  a : Int
  b : Int
  deriving Inhabited, DecidableEq
structure Name where
  kind : Int
  pos : Int
  s : ByteArray
  deriving Inhabited
structure Aig where
  i : Int
  l : List Latch
  g : List Gate
  outs : List Int
  bad : List Int
  con : List Int
  names : List Name
  deriving Inhabited
abbrev encB (b : Bool) : List V := [.bool b]
abbrev encI (n : Int) : List V := [.int .i64 n]
abbrev encL (l : Latch) : List V := [.int .i64 l.next, .int .i64 l.reset]
abbrev encG (g : Gate) : List V := [.int .i64 g.a, .int .i64 g.b]
abbrev encN (n : Name) : List V := [.int .u8 n.kind, .int .i64 n.pos, .str n.s]
abbrev slB (xs : List Bool) : V := .sl (xs.map encB)
abbrev slI (xs : List Int) : V := .sl (xs.map encI)
abbrev slL (xs : List Latch) : V := .sl (xs.map encL)
abbrev slG (xs : List Gate) : V := .sl (xs.map encG)
abbrev slN (xs : List Name) : V := .sl (xs.map encN)
abbrev encBs (xs : List Bool) : List V := [slB xs]
abbrev slBB (xs : List (List Bool)) : V := .sl (xs.map encBs)
abbrev encA (a : Aig) : List V := [.int .i64 a.i, slL a.l, slG a.g, slI a.outs, slI a.bad, slI a.con, slN a.names]
abbrev aigV (a : Aig) : V := .agg (encA a)
abbrev encU (n : Int) : List V := [.int .u8 n]
theorem el_5 (xs : List Int) : elOk 1 (xs.map encU) := elOk.map (enc := encU) (fun _ => ⟨rfl, rfl⟩) xs
theorem el_4 (xs : List Bool) : elOk 1 (xs.map encB) := elOk.map (enc := encB) (fun _ => ⟨rfl, rfl⟩) xs
end Go.Vd
namespace Go.Vd
open Go.RowKit Go.ChangeShapes
def Reads (P : Program) (T : TypeId) {α : Type} (en : α → List V) (ok : α → Prop) : Prop :=
  ∀ (H : Type) (enc : TypeId × Value → H) (w : World) (spare : Nat → Bool) (held : Bool) (fuel : Nat) (cs : List Value) (x : DataW H × List MemPlace),
    DataW.trod enc P w 0 spare held fuel T cs = some x → ∃ v : α, ok v ∧ PW (RepV w (fun _ => True)) (en v) cs
section
variable {P : Program} {T : TypeId}
theorem pw_one {R : V → Value → Prop} {v : V} {u : Value} (h : R v u) : PW R [v] [u] := ⟨rfl, fun i x y hx hy => by
  cases i with
  | zero => simp at hx hy; subst hx; subst hy; exact h
  | succ i => simp at hx⟩
theorem reads_int {k : IntKind} (ht : P.underlying T = some (.int k)) : Reads P T (fun n : Int => [.int k n]) (fun n => k.min ≤ n ∧ n ≤ k.max) := by
  intro H enc w spare held fuel cs x h
  obtain ⟨n, rfl, _, hw⟩ := DataW.trod_int ht h
  simp only [Lit.wf, Bool.and_eq_true, decide_eq_true_eq] at hw
  exact ⟨n, hw, pw_one (.int k n)⟩
theorem reads_bool (ht : P.underlying T = some .bool) : Reads P T encB (fun _ => True) := by
  intro H enc w spare held fuel cs x h
  obtain ⟨b, rfl, _⟩ := DataW.trod_bool ht h
  exact ⟨b, trivial, pw_one (.bool b)⟩
theorem reads_str (ht : P.underlying T = some .string) : Reads P T (fun s : ByteArray => [.str s]) (fun s => s.size ≤ 9223372036854775807) := by
  intro H enc w spare held fuel cs x h
  obtain ⟨s, rfl, _, hs⟩ := DataW.trod_string ht h
  exact ⟨s, hs, pw_one (.str s)⟩
theorem reads_slice {e sz : Nat} {α : Type} {en : α → List V} {ok : α → Prop} (ht : P.underlying T = some (.slice e)) (hsz : P.cellsOf e = sz) (h0 : 0 < sz) (he : Reads P e en ok) (hen : ∀ a, (en a).length = sz) :
    Reads P T (fun xs : List α => [.sl (xs.map en)]) (fun xs => xs.length ≤ 9223372036854775807 ∧ ∀ a, a ∈ xs → ok a) := by
  intro H enc w spare held fuel cs x h
  rcases DataW.trod_slice ht h with ⟨rfl, _⟩ | ⟨ad, len, cap, elems, rest, n, _, rfl, _, hb, hl, hm, hlen, hel, _⟩
  · exact ⟨[], ⟨by simp, by simp⟩, pw_one (.sl0 _ _)⟩
  · have key : ∀ i : Fin len, ∃ v : α, ok v ∧ ∃ ci : List Value, w.cells? 0 (ad.add (i.1 * sz)) sz = some ci ∧ PW (RepV w (fun _ => True)) (en v) ci := by
      intro i
      have h1 := hel i.1 i.2
      rw [hsz, List.getElem?_eq_getElem (by omega : i.1 < elems.length)] at h1
      obtain ⟨ci, h2, h3⟩ := Option.bind_eq_some_iff.1 h1
      obtain ⟨v, h4, h5⟩ := he H enc w spare held n ci _ h3
      exact ⟨v, h4, ci, h2, h5⟩
    refine ⟨List.ofFn fun i => Classical.choose (key i), ⟨by simp [maxLen] at hm ⊢; omega, fun a ha => ?_⟩, ?_⟩
    · obtain ⟨i, rfl⟩ := (List.mem_ofFn).1 ha
      exact (Classical.choose_spec (key i)).1
    · by_cases hz : len = 0
      · subst hz
        exact pw_one (by simpa using RepV.sl0 (some ad) cap)
      · obtain ⟨c0, h1, _⟩ := (Classical.choose_spec (key ⟨0, by omega⟩)).2
        obtain ⟨_, h2, h3⟩ := World.cells?_some h1
        have h4 := h3 0 h0
        have hne : c0[0]? = some c0[0] := List.getElem?_eq_getElem (by omega)
        rw [hne] at h4
        simp only [Nat.zero_mul, Addr.add, if_true] at h4
        have hspot : ad.spot = none := by
          unfold World.cell? at h4
          split at h4
          · split at h4
            · cases h4
            · rename_i hs; simpa using hs
          · cases h4
        obtain ⟨b, o, sp⟩ := ad
        simp only at hspot
        subst hspot
        have hlt : b < w.heap.size := by
          unfold World.cell? at h4
          split at h4
          · rename_i hh; exact (Array.getElem?_eq_some_iff.1 hh).1
          · cases h4
        have hcell : ∀ (i : Fin len) (j : Nat), j < sz → ∃ ci : List Value, PW (RepV w (fun _ => True)) (en (Classical.choose (key i))) ci ∧ w.cell? ⟨b, o + i.1 * sz + j, none⟩ = ci[j]? ∧ j < ci.length := by
          intro i j hj
          obtain ⟨ci, q1, q2⟩ := (Classical.choose_spec (key i)).2
          obtain ⟨_, q3, q4⟩ := World.cells?_some q1
          refine ⟨ci, q2, ?_, by omega⟩
          have := q4 j hj
          rwa [Addr.add_lit, Addr.add_lit] at this
        refine pw_one ?_
        have hL : ((List.ofFn fun i => Classical.choose (key i)).map en).length = len := by simp
        have := RepV.sl (w := w) (im := fun _ => True) ((List.ofFn fun i => Classical.choose (key i)).map en) b o sz cap trivial hlt (by rw [hL]; exact hl) (fun e he => by
          obtain ⟨a, _, rfl⟩ := List.mem_map.1 he
          exact hen a) (fun i j hi hj => by
          rw [hL] at hi
          obtain ⟨ci, _, q2, q3⟩ := hcell ⟨i, hi⟩ j hj
          rw [q2]; simp [q3]) (fun i j el v u hel' hv hu => by
          have hi : i < len := by have := (List.getElem?_eq_some_iff.1 hel').1; omega
          have hel2 : el = en (Classical.choose (key ⟨i, hi⟩)) := by simpa [hi] using hel'.symm
          subst hel2
          have hj : j < sz := by have := (List.getElem?_eq_some_iff.1 hv).1; rw [hen] at this; exact this
          obtain ⟨ci, q1, q2, q3⟩ := hcell ⟨i, hi⟩ j hj
          rw [q2] at hu
          exact q1.2 j v u hv hu)
        rw [hL] at this
        exact this
/-- Fields, one by one. -/
def ReadsF (P : Program) (N : Nat) (flds : List (Nat × Nat)) (o : Nat) {α : Type} (en : α → List V) (ok : α → Prop) : Prop :=
  ∀ (H : Type) (enc : TypeId × Value → H) (w : World) (spare : Nat → Bool) (held : Bool) (n : Nat) (cs : List Value), cs.length = N →
    (∀ (i o t : Nat), flds[i]? = some (o, t) → ∃ x, DataW.trod enc P w 0 spare held n t ((cs.drop o).take (P.cellsOf t)) = some x) → ∃ v : α, ok v ∧ PW (RepV w (fun _ => True)) (en v) (cs.drop o)
theorem readsF_nil {N o : Nat} (h : N ≤ o) : ReadsF P N [] o (fun _ : Unit => []) (fun _ => True) := by
  intro H enc w spare held n cs hN _
  exact ⟨(), trivial, by rw [List.drop_eq_nil_of_le (by omega)]; exact PW.nil⟩
theorem readsF_cons {N o o' t sz : Nat} {rest : List (Nat × Nat)} {α β : Type} {en : α → List V} {ok : α → Prop} {en' : β → List V} {ok' : β → Prop} (ht : Reads P t en ok) (hsz : P.cellsOf t = sz) (ho : o + sz = o') (hr : ReadsF P N rest o' en' ok') :
    ReadsF P N ((o, t) :: rest) o (fun p : α × β => en p.1 ++ en' p.2) (fun p => ok p.1 ∧ ok' p.2) := by
  intro H enc w spare held n cs hN h
  obtain ⟨x, hx⟩ := h 0 o t rfl
  rw [hsz] at hx
  obtain ⟨v, h1, h2⟩ := ht H enc w spare held n _ x hx
  obtain ⟨v', h3, h4⟩ := hr H enc w spare held n cs hN (fun i o t hi => h (i + 1) o t hi)
  refine ⟨(v, v'), ⟨h1, h3⟩, ?_⟩
  have := h2.append h4
  rwa [← ho, ← List.drop_drop, List.take_append_drop] at this
theorem reads_struct {fs : Array Field} {N : Nat} {flds : List (Nat × Nat)} {α : Type} {en : α → List V} {ok : α → Prop} (ht : P.underlying T = some (.struct fs)) (hN : P.cellsOf T = N) (hf : (fs.toList.map fun f => (f.offset, f.type)) = flds) (hr : ReadsF P N flds 0 en ok) : Reads P T en ok := by
  intro H enc w spare held fuel cs x h
  obtain ⟨xs, n, _, _, hl, hxs, hi⟩ := DataW.trod_struct ht h
  obtain ⟨v, h1, h2⟩ := hr H enc w spare held n cs (by rw [hl, hN]) (fun i o t hio => by
    rw [← hf, List.getElem?_map, Option.map_eq_some_iff] at hio
    obtain ⟨f, h3, h4⟩ := hio
    cases h4
    have h5 := hi i f (by simpa using h3)
    have hlt : i < xs.length := by have := (List.getElem?_eq_some_iff.1 h3).1; simp at this; omega
    rw [List.getElem?_eq_getElem hlt] at h5
    exact ⟨_, h5⟩)
  exact ⟨v, h1, by simpa using h2⟩
theorem Reads.map {α β : Type} {en : α → List V} {ok : α → Prop} {en' : β → List V} {ok' : β → Prop} (h : Reads P T en ok) (g : α → β) (hg : ∀ a, en' (g a) = en a) (ho : ∀ a, ok a → ok' (g a)) : Reads P T en' ok' := by
  intro H enc w spare held fuel cs x hx
  obtain ⟨v, h1, h2⟩ := h H enc w spare held fuel cs x hx
  exact ⟨g v, ho v h1, by rw [hg]; exact h2⟩
/-- An argument of a type with an outer form of cells. -/
theorem arg_agg {H : Type} {enc : TypeId × Value → H} {w : World} {spare : Nat → Bool} {held : Bool} {v : Value} {d : DataW H} {ps : List MemPlace} {α : Type} {en : α → List V} {ok : α → Prop} (h : Reads P T en ok)
    (hd : DataW.Trod enc P w 0 spare held T v d ps) {cs : Array Value} (hv : v = .agg cs) : ∃ x, ok x ∧ RepV w (fun _ => True) (.agg (en x)) v := by
  obtain ⟨fuel, hf⟩ := hd
  obtain ⟨x, h1, h2⟩ := h H enc w spare held fuel _ _ hf
  subst hv
  refine ⟨x, h1, .agg _ _ (by simpa [Value.cells] using h2.1) fun i a u ha hu => h2.2 i a u ha (by simpa [Value.cells] using hu)⟩
theorem arg_one {H : Type} {enc : TypeId × Value → H} {w : World} {spare : Nat → Bool} {held : Bool} {v : Value} {d : DataW H} {ps : List MemPlace} {α : Type} {en : α → V} {ok : α → Prop} (h : Reads P T (fun x => [en x]) ok)
    (hd : DataW.Trod enc P w 0 spare held T v d ps) (hv : ∀ cs, v ≠ .agg cs) : ∃ x, ok x ∧ RepV w (fun _ => True) (en x) v := by
  obtain ⟨fuel, hf⟩ := hd
  obtain ⟨x, h1, h2⟩ := h H enc w spare held fuel _ _ hf
  have hc : v.cells = #[v] := by
    cases v with
    | agg cs => exact absurd rfl (hv cs)
    | _ => rfl
  rw [hc] at h2
  exact ⟨x, h1, h2.2 0 _ v rfl rfl⟩
/-- The row's demand behind the call, where nothing that was there has turned, for a function that tells true. -/
theorem post_true {H : Type} {enc : TypeId × Value → H} {f : Func} {s : ChangeSpec} {apart : Bool} {W W' : World} {args : Array Value} {ds gs : List (DataW H)} {before : List MemPlace} {T : TypeId}
    (hW : DataW.Whole enc P f.params.toList s.vars apart W args.toList ds gs before) (hb : Below W.heap.size W W') (hT : P.underlying T = some .bool) (hrt : f.resultTypes = #[T])
    (hres : (s.fn H (ds ++ gs)).results = [.lit (.bool true)])
    (hargs : ∀ sp : Nat → Bool, (∀ p ∈ before, sp p.block = true) → DataW.TrodAll enc P W' 0 sp true f.params.toList args.toList (s.fn H (ds ++ gs)).args before)
    (hvars : ∀ sp : Nat → Bool, DataW.TrodVars enc P W' sp s.vars (s.fn H (ds ++ gs)).vars []) :
    s.post enc P f apart true false false W args (.bool true) W' := by
  have hold : ∀ p ∈ before, (fun b => decide (b < W.heap.size)) p.block = true := fun p hp => by simpa using hW.lt p hp
  have htrue : ∀ (b : Nat) (sp : Nat → Bool) (hd : Bool), DataW.TrodAll enc P W' b sp hd f.resultTypes.toList ((Value.bool true).resultList f.resultTypes.size) (s.fn H (ds ++ gs)).results [] := by
    intro b sp hd
    rw [hres, hrt]
    exact trodAll_mk1 (shut_bool hT true)
  refine ⟨ds, gs, before, [], before, [], hW, htrue _ _ _, hargs _ hold, hvars _, hb.frame _, fun _ => ?_⟩
  obtain ⟨_, _, _, _, _, hz, hn⟩ := hW
  refine ⟨?_, _, _, ([] ++ before) ++ [], ⟨[] ++ before, [], trodAll_append (hargs _ (fun _ _ => rfl)) (htrue _ _ _), hvars _, rfl, ?_, ?_⟩, ?_⟩
  · exact ok_one hrt rfl (okWide_bool_mk hT true)
  · intro b off hp
    have hp' : MemPlace.cell b off ∈ before := by simpa using hp
    rw [hb.frozen (p := ⟨b, off, none⟩) (show b < W.heap.size by have := hold _ hp'; exact of_decide_eq_true this)]
    exact hz b off hp'
  · intro ha
    simpa using hn ha
  · intro p hp _
    simpa using hp
end
end Go.Vd
namespace Go.Vd
open Go.Proofs
theorem take_snoc {α : Type} [Inhabited α] {xs : List α} {n : Nat} (h : n < xs.length) : xs.take (n + 1) = xs.take n ++ [xs.getD n default] := by
  rw [List.take_add_one, List.getD_eq_getElem?_getD]; simp [h]
def litv (v : List Bool) (l : Int) : Bool := decide (0 ≤ l) && (decide (l / 2 < v.length) && (v.getD (l / 2).toNat false != decide (l % 2 = 1)))
theorem bits_and1 (l : Int) : bits .and .i64 l 1 = l % 2 := by
  show IntKind.i64.wrap ((BitVec.ofInt 64 l &&& BitVec.ofInt 64 1).toNat : Int) = _
  rw [BitVec.toNat_and, BitVec.toNat_ofInt, show (BitVec.ofInt 64 1).toNat = 1 from rfl, Nat.and_one_is_mod, IntKind.wrap_i64]
  omega
theorem litv_in {v : List Bool} {l : Int} (h : 0 ≤ l) (h' : l / 2 < v.length) : litv v l = (v.getD (l / 2).toNat false != decide (l % 2 = 1)) := by simp [litv, h, h']
theorem litv_out {v : List Bool} {l : Int} (h : ¬ (0 ≤ l ∧ l / 2 < v.length)) : litv v l = false := by
  simp only [litv]
  by_cases h1 : 0 ≤ l
  · have : ¬ l / 2 < v.length := fun h2 => h ⟨h1, h2⟩
    simp [this]
  · simp [h1]
def valsOf (v : List Bool) : List Gate → List Bool
  | [] => v
  | g :: gs => valsOf (v ++ [litv v g.a && litv v g.b]) gs
theorem valsOf_append (v : List Bool) (xs ys : List Gate) : valsOf v (xs ++ ys) = valsOf (valsOf v xs) ys := by
  induction xs generalizing v with
  | nil => rfl
  | cons g gs ih => simp [valsOf, ih]
theorem valsOf_len (v : List Bool) (xs : List Gate) : (valsOf v xs).length = v.length + xs.length := by
  induction xs generalizing v with
  | nil => rfl
  | cons g gs ih => simp [valsOf, ih]; omega
def valuesS (a : Aig) (st inp : List Bool) : List Bool × Int :=
  if st.length = a.l.length ∧ (inp.length : Int) = a.i then (valsOf (false :: (inp ++ st)) a.g, 0) else ([], 7)
/-- A model of sizes that the program reckons with. -/
structure Bd (a : Aig) : Prop where
  i0 : 0 ≤ a.i
  i1 : a.i ≤ 20000
  l1 : a.l.length ≤ 20000
  g1 : a.g.length ≤ 20000
  o1 : a.outs.length ≤ 20000
  b1 : a.bad.length ≤ 20000
  c1 : a.con.length ≤ 20000
def varsS (a : Aig) : Int := a.i + a.l.length + a.g.length
theorem pc_93 (a : Aig) (hb : Bd a) : PCall Try.prog 93 [aigV a] (.int .i64 (varsS a)) := by
  refine pc_of tab_ok (f := 93) (fn := Try.f93) (N := 13) (rs := [.tmp 2]) (by kernel_rfl) rfl (by kernel_rfl) rfl rfl [(0, .v (aigV a))] ⟨rfl, trivial⟩ rfl rfl ?_
  intro B
  have h0 := hb.i0; have h1 := hb.i1; have h2 := hb.l1; have h3 := hb.g1
  refine wp_seq ?_
  refine wp_reg (by kernel_rfl) ?_
  refine ar_box 1 [] rfl rfl rfl ⟨rfl, trivial⟩ rfl rfl rfl ?_
  refine ar_assign rfl rfl rfl rfl ?_
  refine ar_nil ?_
  refine then_n ?_
  refine wp_seq ?_
  refine wp_reg (by kernel_rfl) ?_
  refine ar_fa tab_ok rfl rfl rfl tb27 rfl rfl rfl rfl rfl ?_
  refine ar_ld tab_ok rfl rfl rfl tb3 rfl rfl rfl rfl rfl ?_
  refine ar_fa tab_ok rfl rfl rfl tb27 rfl rfl rfl rfl rfl ?_
  refine ar_ld tab_ok rfl rfl rfl tb22 rfl rfl rfl rfl rfl ?_
  refine ar_len tab_ok rfl rfl tb22 rfl len_map rfl rfl ?_
  refine ar_addi rfl rfl rfl rfl (by omega) (by omega) rfl rfl ?_
  refine ar_fa tab_ok rfl rfl rfl tb27 rfl rfl rfl rfl rfl ?_
  refine ar_ld tab_ok rfl rfl rfl tb23 rfl rfl rfl rfl rfl ?_
  refine ar_len tab_ok rfl rfl tb23 rfl len_map rfl rfl ?_
  refine ar_addi rfl rfl rfl rfl (by omega) (by omega) rfl rfl ?_
  refine ar_assign rfl rfl rfl rfl ?_
  refine ar_nil ?_
  refine then_n ?_
  refine wp_ret ?_
  refine ret_post rfl rfl ?_
  rfl
theorem pc_129 (a : Aig) (h0 : 0 ≤ a.i) (h1 : a.i ≤ 20000) (h2 : a.l.length ≤ 20000) (h3 : a.g.length ≤ 20000) : PCall Try.prog 129 [aigV a] (.int .i64 (varsS a)) := by
  refine pc_of tab_ok (f := 129) (fn := Try.f129) (N := 13) (rs := [.tmp 2]) (by kernel_rfl) rfl (by kernel_rfl) rfl rfl [(0, .v (aigV a))] ⟨rfl, trivial⟩ rfl rfl ?_
  intro B
  refine wp_seq ?_
  refine wp_reg (by kernel_rfl) ?_
  refine ar_box 1 [] rfl rfl rfl ⟨rfl, trivial⟩ rfl rfl rfl ?_
  refine ar_assign rfl rfl rfl rfl ?_
  refine ar_nil ?_
  refine then_n ?_
  refine wp_seq ?_
  refine wp_reg (by kernel_rfl) ?_
  refine ar_fa tab_ok rfl rfl rfl tb27 rfl rfl rfl rfl rfl ?_
  refine ar_ld tab_ok rfl rfl rfl tb3 rfl rfl rfl rfl rfl ?_
  refine ar_fa tab_ok rfl rfl rfl tb27 rfl rfl rfl rfl rfl ?_
  refine ar_ld tab_ok rfl rfl rfl tb22 rfl rfl rfl rfl rfl ?_
  refine ar_len tab_ok rfl rfl tb22 rfl len_map rfl rfl ?_
  refine ar_addi rfl rfl rfl rfl (by omega) (by omega) rfl rfl ?_
  refine ar_fa tab_ok rfl rfl rfl tb27 rfl rfl rfl rfl rfl ?_
  refine ar_ld tab_ok rfl rfl rfl tb23 rfl rfl rfl rfl rfl ?_
  refine ar_len tab_ok rfl rfl tb23 rfl len_map rfl rfl ?_
  refine ar_addi rfl rfl rfl rfl (by omega) (by omega) rfl rfl ?_
  refine ar_assign rfl rfl rfl rfl ?_
  refine ar_nil ?_
  refine then_n ?_
  refine wp_ret ?_
  refine ret_post rfl rfl ?_
  rfl
theorem pc_43 (v : List Bool) (l : Int) (hl : l ≤ 9223372036854775807) : PCall Try.prog 43 [slB v, .int .i64 l] (.bool (litv v l)) := by
  refine pc_of tab_ok (f := 43) (fn := Try.f43) (N := 28) (rs := [.tmp 4]) (by kernel_rfl) rfl (by kernel_rfl) rfl rfl [(0, .v (slB v)), (1, .v (.int .i64 l))] ⟨rfl, rfl, trivial⟩ rfl rfl ?_
  intro B
  refine wp_seq ?_
  refine wp_reg (by kernel_rfl) ?_
  refine ar_assign rfl rfl rfl rfl ?_
  refine ar_nil ?_
  refine then_n ?_
  refine wp_seq ?_
  refine wp_seq ?_
  refine wp_reg (by kernel_rfl) ?_
  refine ar_move rfl rfl rfl rfl ?_
  refine ar_lss_s rfl rfl rfl rfl rfl (fun h6 => ?_) (fun h6 => ?_)
  · refine ar_move rfl rfl rfl rfl ?_
    refine ar_skip rfl rfl ?_
    refine ar_skip rfl rfl ?_
    refine ar_skip rfl rfl ?_
    refine ar_skip rfl rfl ?_
    refine ar_skip rfl rfl ?_
    refine ar_pickT rfl rfl rfl rfl rfl ?_
    refine ar_nil ?_
    refine then_n ?_
    refine wp_condT rfl ?_
    refine wp_seq ?_
    refine wp_reg (by kernel_rfl) ?_
    refine ar_assign rfl rfl rfl rfl ?_
    refine ar_nil ?_
    refine then_n ?_
    refine wp_ret ?_
    refine then_r (ret_post rfl rfl ?_)
    rw [litv_out (by omega)]
  · refine ar_move rfl rfl rfl rfl ?_
    refine ar_move rfl rfl rfl rfl ?_
    refine ar_quo rfl rfl rfl (by decide) (IntWalk.i64_quo _ _ ⟨by omega, by omega, by omega⟩) rfl rfl ?_
    refine ar_move rfl rfl rfl rfl ?_
    refine ar_len tab_ok rfl rfl tb28 rfl len_map rfl rfl ?_
    refine ar_geq_s rfl rfl rfl rfl rfl (fun h12 => ?_) (fun h12 => ?_)
    · refine ar_pickF rfl rfl rfl rfl rfl ?_
      refine ar_nil ?_
      refine then_n ?_
      refine wp_condT rfl ?_
      refine wp_seq ?_
      refine wp_reg (by kernel_rfl) ?_
      refine ar_assign rfl rfl rfl rfl ?_
      refine ar_nil ?_
      refine then_n ?_
      refine wp_ret ?_
      refine then_r (ret_post rfl rfl ?_)
      rw [litv_out (by omega)]
    · refine ar_pickF rfl rfl rfl rfl rfl ?_
      refine ar_nil ?_
      refine then_n ?_
      refine wp_condF rfl ?_
      refine wp_skip ?_
      refine then_n ?_
      refine wp_seq ?_
      refine wp_seq ?_
      refine wp_reg (by kernel_rfl) ?_
      refine ar_move rfl rfl rfl rfl ?_
      refine ar_rem rfl rfl rfl (by decide) rfl rfl rfl ?_
      refine ar_eql_s rfl rfl rfl rfl rfl (fun h16 => ?_) (fun h16 => ?_)
      · refine ar_nil ?_
        refine then_n ?_
        refine wp_condT rfl ?_
        refine wp_seq ?_
        refine wp_reg (by kernel_rfl) ?_
        refine ar_move rfl rfl rfl rfl ?_
        refine ar_move rfl rfl rfl rfl ?_
        refine ar_quo rfl rfl rfl (by decide) (IntWalk.i64_quo _ _ ⟨by omega, by omega, by omega⟩) rfl rfl ?_
        refine ar_ia tab_ok rfl rfl rfl tb28 rfl tb4 (by omega) (map_get (by omega)) rfl rfl rfl ?_
        refine ar_ld_ref tab_ok rfl rfl tb4 rfl rfl rfl rfl ?_
        refine ar_not rfl rfl rfl rfl rfl ?_
        refine ar_assign rfl rfl rfl rfl ?_
        refine ar_nil ?_
        refine then_n ?_
        refine wp_ret ?_
        refine then_r (ret_post rfl rfl ?_)
        rw [litv_in (by omega) (by omega)]; rw [Int.tmod_eq_emod_of_nonneg (by omega)] at h16; simp [h16]
      · refine ar_nil ?_
        refine then_n ?_
        refine wp_condF rfl ?_
        refine wp_skip ?_
        refine then_n ?_
        refine wp_seq ?_
        refine wp_reg (by kernel_rfl) ?_
        refine ar_move rfl rfl rfl rfl ?_
        refine ar_move rfl rfl rfl rfl ?_
        refine ar_quo rfl rfl rfl (by decide) (IntWalk.i64_quo _ _ ⟨by omega, by omega, by omega⟩) rfl rfl ?_
        refine ar_ia tab_ok rfl rfl rfl tb28 rfl tb4 (by omega) (map_get (by omega)) rfl rfl rfl ?_
        refine ar_ld_ref tab_ok rfl rfl tb4 rfl rfl rfl rfl ?_
        refine ar_assign rfl rfl rfl rfl ?_
        refine ar_nil ?_
        refine then_n ?_
        refine wp_ret ?_
        refine ret_post rfl rfl ?_
        rw [litv_in (by omega) (by omega)]; rw [Int.tmod_eq_emod_of_nonneg (by omega)] at h16; simp [h16]
theorem valuesS_bad {a : Aig} {st inp : List Bool} (h : ¬ (st.length = a.l.length ∧ (inp.length : Int) = a.i)) : valuesS a st inp = ([], 7) := by simp only [valuesS]; rw [if_neg h]
theorem valuesS_ok {a : Aig} {st inp : List Bool} (h : st.length = a.l.length) (h' : (inp.length : Int) = a.i) : valuesS a st inp = (valsOf (false :: (inp ++ st)) a.g, 0) := by simp only [valuesS]; rw [if_pos ⟨h, h'⟩]
theorem vals_snoc (v : List Bool) (gs : List Gate) (n : Nat) (h : n < gs.length) :
    valsOf v (gs.take (n + 1)) = valsOf v (gs.take n) ++ [litv (valsOf v (gs.take n)) (gs.getD n default).a && litv (valsOf v (gs.take n)) (gs.getD n default).b] := by
  rw [take_snoc h, valsOf_append]; rfl
end Go.Vd
namespace Go.Vd
open Go.Proofs
theorem pce_145 (s : ByteArray) (at_ : Int) (h0 : 0 ≤ at_) (h1 : at_ < s.size) (h2 : s.size ≤ 9223372036854775807) : PCallE Try.prog 145 [.str s, .int .i64 at_] (fun v => ∃ n : Int, v = .int .i64 n ∧ 0 ≤ n ∧ n ≤ 4 ∧ at_ + n ≤ s.size) := by
  refine pce_of tab_ok (f := 145) (fn := Try.f145) (N := 92) (rs := [.tmp 4]) (by kernel_rfl) rfl (by kernel_rfl) rfl rfl [(0, .v (.str s)), (1, .v (.int .i64 at_))] ⟨rfl, rfl, trivial⟩ rfl rfl ?_
  intro B
  refine wp_seq ?_
  refine wp_reg (by kernel_rfl) ?_
  refine ar_assign rfl rfl rfl rfl ?_
  refine ar_nil ?_
  refine then_n ?_
  refine wp_seq ?_
  refine wp_reg (by kernel_rfl) ?_
  refine ar_assign rfl rfl rfl rfl ?_
  refine ar_nil ?_
  refine then_n ?_
  refine wp_seq ?_
  refine wp_reg (by kernel_rfl) ?_
  refine ar_move rfl rfl rfl rfl ?_
  refine ar_move rfl rfl rfl rfl ?_
  refine ar_ix_str tab_ok rfl rfl rfl tb9 rfl (by omega) (getElem?_pos s _ (by omega)) rfl rfl ?_
  refine ar_conv (kj := .i64) tab_ok rfl rfl tb5 tb3 rfl rfl rfl rfl rfl ?_
  refine ar_assign rfl rfl rfl rfl ?_
  refine ar_nil ?_
  refine then_n ?_
  refine wp_seq ?_
  refine wp_reg (by kernel_rfl) ?_
  refine ar_assign rfl rfl rfl rfl ?_
  refine ar_nil ?_
  refine then_n ?_
  refine wp_cut (α := Int × Int × Int) (fun ⟨n, c, l⟩ => mk [(0, .v (.str s)), (1, .v (.int .i64 at_)), (5, .v (.int .i64 n)), (6, .v (.int .i64 c)), (7, .v (.int .i64 l))] [] 0) (fun ⟨n, c, l⟩ => 1 ≤ n ∧ n ≤ 4) ?_ ?_
  · refine wp_seq ?_
    refine wp_reg (by kernel_rfl) ?_
    refine ar_move rfl rfl rfl rfl ?_
    refine ar_geq_s rfl rfl rfl rfl rfl (fun h14 => ?_) (fun h14 => ?_)
    · refine ar_move rfl rfl rfl rfl ?_
      refine ar_move rfl rfl rfl rfl ?_
      refine ar_lss_s rfl rfl rfl rfl rfl (fun h17 => ?_) (fun h17 => ?_)
      · refine ar_pickT rfl rfl rfl rfl rfl ?_
        refine ar_nil ?_
        refine then_n ?_
        refine wp_condT rfl ?_
        refine wp_seq ?_
        refine wp_reg (by kernel_rfl) ?_
        refine ar_assign rfl rfl rfl rfl ?_
        refine ar_nil ?_
        refine then_n ?_
        refine wp_seq ?_
        refine wp_reg (by kernel_rfl) ?_
        refine ar_move rfl rfl rfl rfl ?_
        refine ar_sub rfl rfl rfl rfl rfl rfl ?_
        refine ar_assign rfl rfl rfl rfl ?_
        refine ar_nil ?_
        refine then_n ?_
        refine wp_reg (by kernel_rfl) ?_
        refine ar_assign rfl rfl rfl rfl ?_
        refine ar_nil ?_
        exact cut_n ⟨_, _, _⟩ ⟨by omega, by omega⟩ (le_to ⟨rfl, rfl, rfl, rfl, rfl, trivial⟩ trivial rfl rfl rfl rfl)
      · refine ar_pickT rfl rfl rfl rfl rfl ?_
        refine ar_nil ?_
        refine then_n ?_
        refine wp_condF rfl ?_
        refine wp_seq ?_
        refine wp_reg (by kernel_rfl) ?_
        refine ar_move rfl rfl rfl rfl ?_
        refine ar_geq_s rfl rfl rfl rfl rfl (fun h22 => ?_) (fun h22 => ?_)
        · refine ar_move rfl rfl rfl rfl ?_
          refine ar_move rfl rfl rfl rfl ?_
          refine ar_lss_s rfl rfl rfl rfl rfl (fun h25 => ?_) (fun h25 => ?_)
          · refine ar_pickT rfl rfl rfl rfl rfl ?_
            refine ar_nil ?_
            refine then_n ?_
            refine wp_condT rfl ?_
            refine wp_seq ?_
            refine wp_reg (by kernel_rfl) ?_
            refine ar_assign rfl rfl rfl rfl ?_
            refine ar_nil ?_
            refine then_n ?_
            refine wp_seq ?_
            refine wp_reg (by kernel_rfl) ?_
            refine ar_move rfl rfl rfl rfl ?_
            refine ar_sub rfl rfl rfl rfl rfl rfl ?_
            refine ar_assign rfl rfl rfl rfl ?_
            refine ar_nil ?_
            refine then_n ?_
            refine wp_reg (by kernel_rfl) ?_
            refine ar_assign rfl rfl rfl rfl ?_
            refine ar_nil ?_
            exact cut_n ⟨_, _, _⟩ ⟨by omega, by omega⟩ (le_to ⟨rfl, rfl, rfl, rfl, rfl, trivial⟩ trivial rfl rfl rfl rfl)
          · refine ar_pickT rfl rfl rfl rfl rfl ?_
            refine ar_nil ?_
            refine then_n ?_
            refine wp_condF rfl ?_
            refine wp_seq ?_
            refine wp_reg (by kernel_rfl) ?_
            refine ar_move rfl rfl rfl rfl ?_
            refine ar_geq_s rfl rfl rfl rfl rfl (fun h30 => ?_) (fun h30 => ?_)
            · refine ar_move rfl rfl rfl rfl ?_
              refine ar_move rfl rfl rfl rfl ?_
              refine ar_lss_s rfl rfl rfl rfl rfl (fun h33 => ?_) (fun h33 => ?_)
              · refine ar_pickT rfl rfl rfl rfl rfl ?_
                refine ar_nil ?_
                refine then_n ?_
                refine wp_condT rfl ?_
                refine wp_seq ?_
                refine wp_reg (by kernel_rfl) ?_
                refine ar_assign rfl rfl rfl rfl ?_
                refine ar_nil ?_
                refine then_n ?_
                refine wp_seq ?_
                refine wp_reg (by kernel_rfl) ?_
                refine ar_move rfl rfl rfl rfl ?_
                refine ar_sub rfl rfl rfl rfl rfl rfl ?_
                refine ar_assign rfl rfl rfl rfl ?_
                refine ar_nil ?_
                refine then_n ?_
                refine wp_reg (by kernel_rfl) ?_
                refine ar_assign rfl rfl rfl rfl ?_
                refine ar_nil ?_
                exact cut_n ⟨_, _, _⟩ ⟨by omega, by omega⟩ (le_to ⟨rfl, rfl, rfl, rfl, rfl, trivial⟩ trivial rfl rfl rfl rfl)
              · refine ar_pickT rfl rfl rfl rfl rfl ?_
                refine ar_nil ?_
                refine then_n ?_
                refine wp_condF rfl ?_
                refine wp_seq ?_
                refine wp_reg (by kernel_rfl) ?_
                refine ar_move rfl rfl rfl rfl ?_
                refine ar_geq_s rfl rfl rfl rfl rfl (fun h38 => ?_) (fun h38 => ?_)
                · refine ar_nil ?_
                  refine then_n ?_
                  refine wp_condT rfl ?_
                  refine wp_seq ?_
                  refine wp_reg (by kernel_rfl) ?_
                  refine ar_assign rfl rfl rfl rfl ?_
                  refine ar_nil ?_
                  refine then_n ?_
                  refine wp_ret ?_
                  refine then_r (ret_postE rfl rfl ?_)
                  exact ⟨_, rfl, by omega, by omega, by omega⟩
                · refine ar_nil ?_
                  refine then_n ?_
                  refine wp_condF rfl ?_
                  refine wp_skip ?_
                  exact cut_n ⟨_, _, _⟩ ⟨by omega, by omega⟩ (le_to ⟨rfl, rfl, rfl, rfl, rfl, trivial⟩ trivial rfl rfl rfl rfl)
            · refine ar_move rfl rfl rfl rfl ?_
              refine ar_skip rfl rfl ?_
              refine ar_skip rfl rfl ?_
              refine ar_pickF rfl rfl rfl rfl rfl ?_
              refine ar_nil ?_
              refine then_n ?_
              refine wp_condF rfl ?_
              refine wp_seq ?_
              refine wp_reg (by kernel_rfl) ?_
              refine ar_move rfl rfl rfl rfl ?_
              refine ar_geq_s rfl rfl rfl rfl rfl (fun h38 => ?_) (fun h38 => ?_)
              · refine ar_nil ?_
                refine then_n ?_
                refine wp_condT rfl ?_
                refine wp_seq ?_
                refine wp_reg (by kernel_rfl) ?_
                refine ar_assign rfl rfl rfl rfl ?_
                refine ar_nil ?_
                refine then_n ?_
                refine wp_ret ?_
                refine then_r (ret_postE rfl rfl ?_)
                exact ⟨_, rfl, by omega, by omega, by omega⟩
              · refine ar_nil ?_
                refine then_n ?_
                refine wp_condF rfl ?_
                refine wp_skip ?_
                exact cut_n ⟨_, _, _⟩ ⟨by omega, by omega⟩ (le_to ⟨rfl, rfl, rfl, rfl, rfl, trivial⟩ trivial rfl rfl rfl rfl)
        · refine ar_move rfl rfl rfl rfl ?_
          refine ar_skip rfl rfl ?_
          refine ar_skip rfl rfl ?_
          refine ar_pickF rfl rfl rfl rfl rfl ?_
          refine ar_nil ?_
          refine then_n ?_
          refine wp_condF rfl ?_
          refine wp_seq ?_
          refine wp_reg (by kernel_rfl) ?_
          refine ar_move rfl rfl rfl rfl ?_
          refine ar_geq_s rfl rfl rfl rfl rfl (fun h30 => ?_) (fun h30 => ?_)
          · refine ar_move rfl rfl rfl rfl ?_
            refine ar_move rfl rfl rfl rfl ?_
            refine ar_lss_s rfl rfl rfl rfl rfl (fun h33 => ?_) (fun h33 => ?_)
            · refine ar_pickT rfl rfl rfl rfl rfl ?_
              refine ar_nil ?_
              refine then_n ?_
              refine wp_condT rfl ?_
              refine wp_seq ?_
              refine wp_reg (by kernel_rfl) ?_
              refine ar_assign rfl rfl rfl rfl ?_
              refine ar_nil ?_
              refine then_n ?_
              refine wp_seq ?_
              refine wp_reg (by kernel_rfl) ?_
              refine ar_move rfl rfl rfl rfl ?_
              refine ar_sub rfl rfl rfl rfl rfl rfl ?_
              refine ar_assign rfl rfl rfl rfl ?_
              refine ar_nil ?_
              refine then_n ?_
              refine wp_reg (by kernel_rfl) ?_
              refine ar_assign rfl rfl rfl rfl ?_
              refine ar_nil ?_
              exact cut_n ⟨_, _, _⟩ ⟨by omega, by omega⟩ (le_to ⟨rfl, rfl, rfl, rfl, rfl, trivial⟩ trivial rfl rfl rfl rfl)
            · refine ar_pickT rfl rfl rfl rfl rfl ?_
              refine ar_nil ?_
              refine then_n ?_
              refine wp_condF rfl ?_
              refine wp_seq ?_
              refine wp_reg (by kernel_rfl) ?_
              refine ar_move rfl rfl rfl rfl ?_
              refine ar_geq_s rfl rfl rfl rfl rfl (fun h38 => ?_) (fun h38 => ?_)
              · refine ar_nil ?_
                refine then_n ?_
                refine wp_condT rfl ?_
                refine wp_seq ?_
                refine wp_reg (by kernel_rfl) ?_
                refine ar_assign rfl rfl rfl rfl ?_
                refine ar_nil ?_
                refine then_n ?_
                refine wp_ret ?_
                refine then_r (ret_postE rfl rfl ?_)
                exact ⟨_, rfl, by omega, by omega, by omega⟩
              · refine ar_nil ?_
                refine then_n ?_
                refine wp_condF rfl ?_
                refine wp_skip ?_
                exact cut_n ⟨_, _, _⟩ ⟨by omega, by omega⟩ (le_to ⟨rfl, rfl, rfl, rfl, rfl, trivial⟩ trivial rfl rfl rfl rfl)
          · refine ar_move rfl rfl rfl rfl ?_
            refine ar_skip rfl rfl ?_
            refine ar_skip rfl rfl ?_
            refine ar_pickF rfl rfl rfl rfl rfl ?_
            refine ar_nil ?_
            refine then_n ?_
            refine wp_condF rfl ?_
            refine wp_seq ?_
            refine wp_reg (by kernel_rfl) ?_
            refine ar_move rfl rfl rfl rfl ?_
            refine ar_geq_s rfl rfl rfl rfl rfl (fun h38 => ?_) (fun h38 => ?_)
            · refine ar_nil ?_
              refine then_n ?_
              refine wp_condT rfl ?_
              refine wp_seq ?_
              refine wp_reg (by kernel_rfl) ?_
              refine ar_assign rfl rfl rfl rfl ?_
              refine ar_nil ?_
              refine then_n ?_
              refine wp_ret ?_
              refine then_r (ret_postE rfl rfl ?_)
              exact ⟨_, rfl, by omega, by omega, by omega⟩
            · refine ar_nil ?_
              refine then_n ?_
              refine wp_condF rfl ?_
              refine wp_skip ?_
              exact cut_n ⟨_, _, _⟩ ⟨by omega, by omega⟩ (le_to ⟨rfl, rfl, rfl, rfl, rfl, trivial⟩ trivial rfl rfl rfl rfl)
    · refine ar_move rfl rfl rfl rfl ?_
      refine ar_skip rfl rfl ?_
      refine ar_skip rfl rfl ?_
      refine ar_pickF rfl rfl rfl rfl rfl ?_
      refine ar_nil ?_
      refine then_n ?_
      refine wp_condF rfl ?_
      refine wp_seq ?_
      refine wp_reg (by kernel_rfl) ?_
      refine ar_move rfl rfl rfl rfl ?_
      refine ar_geq_s rfl rfl rfl rfl rfl (fun h22 => ?_) (fun h22 => ?_)
      · refine ar_move rfl rfl rfl rfl ?_
        refine ar_move rfl rfl rfl rfl ?_
        refine ar_lss_s rfl rfl rfl rfl rfl (fun h25 => ?_) (fun h25 => ?_)
        · refine ar_pickT rfl rfl rfl rfl rfl ?_
          refine ar_nil ?_
          refine then_n ?_
          refine wp_condT rfl ?_
          refine wp_seq ?_
          refine wp_reg (by kernel_rfl) ?_
          refine ar_assign rfl rfl rfl rfl ?_
          refine ar_nil ?_
          refine then_n ?_
          refine wp_seq ?_
          refine wp_reg (by kernel_rfl) ?_
          refine ar_move rfl rfl rfl rfl ?_
          refine ar_sub rfl rfl rfl rfl rfl rfl ?_
          refine ar_assign rfl rfl rfl rfl ?_
          refine ar_nil ?_
          refine then_n ?_
          refine wp_reg (by kernel_rfl) ?_
          refine ar_assign rfl rfl rfl rfl ?_
          refine ar_nil ?_
          exact cut_n ⟨_, _, _⟩ ⟨by omega, by omega⟩ (le_to ⟨rfl, rfl, rfl, rfl, rfl, trivial⟩ trivial rfl rfl rfl rfl)
        · refine ar_pickT rfl rfl rfl rfl rfl ?_
          refine ar_nil ?_
          refine then_n ?_
          refine wp_condF rfl ?_
          refine wp_seq ?_
          refine wp_reg (by kernel_rfl) ?_
          refine ar_move rfl rfl rfl rfl ?_
          refine ar_geq_s rfl rfl rfl rfl rfl (fun h30 => ?_) (fun h30 => ?_)
          · refine ar_move rfl rfl rfl rfl ?_
            refine ar_move rfl rfl rfl rfl ?_
            refine ar_lss_s rfl rfl rfl rfl rfl (fun h33 => ?_) (fun h33 => ?_)
            · refine ar_pickT rfl rfl rfl rfl rfl ?_
              refine ar_nil ?_
              refine then_n ?_
              refine wp_condT rfl ?_
              refine wp_seq ?_
              refine wp_reg (by kernel_rfl) ?_
              refine ar_assign rfl rfl rfl rfl ?_
              refine ar_nil ?_
              refine then_n ?_
              refine wp_seq ?_
              refine wp_reg (by kernel_rfl) ?_
              refine ar_move rfl rfl rfl rfl ?_
              refine ar_sub rfl rfl rfl rfl rfl rfl ?_
              refine ar_assign rfl rfl rfl rfl ?_
              refine ar_nil ?_
              refine then_n ?_
              refine wp_reg (by kernel_rfl) ?_
              refine ar_assign rfl rfl rfl rfl ?_
              refine ar_nil ?_
              exact cut_n ⟨_, _, _⟩ ⟨by omega, by omega⟩ (le_to ⟨rfl, rfl, rfl, rfl, rfl, trivial⟩ trivial rfl rfl rfl rfl)
            · refine ar_pickT rfl rfl rfl rfl rfl ?_
              refine ar_nil ?_
              refine then_n ?_
              refine wp_condF rfl ?_
              refine wp_seq ?_
              refine wp_reg (by kernel_rfl) ?_
              refine ar_move rfl rfl rfl rfl ?_
              refine ar_geq_s rfl rfl rfl rfl rfl (fun h38 => ?_) (fun h38 => ?_)
              · refine ar_nil ?_
                refine then_n ?_
                refine wp_condT rfl ?_
                refine wp_seq ?_
                refine wp_reg (by kernel_rfl) ?_
                refine ar_assign rfl rfl rfl rfl ?_
                refine ar_nil ?_
                refine then_n ?_
                refine wp_ret ?_
                refine then_r (ret_postE rfl rfl ?_)
                exact ⟨_, rfl, by omega, by omega, by omega⟩
              · refine ar_nil ?_
                refine then_n ?_
                refine wp_condF rfl ?_
                refine wp_skip ?_
                exact cut_n ⟨_, _, _⟩ ⟨by omega, by omega⟩ (le_to ⟨rfl, rfl, rfl, rfl, rfl, trivial⟩ trivial rfl rfl rfl rfl)
          · refine ar_move rfl rfl rfl rfl ?_
            refine ar_skip rfl rfl ?_
            refine ar_skip rfl rfl ?_
            refine ar_pickF rfl rfl rfl rfl rfl ?_
            refine ar_nil ?_
            refine then_n ?_
            refine wp_condF rfl ?_
            refine wp_seq ?_
            refine wp_reg (by kernel_rfl) ?_
            refine ar_move rfl rfl rfl rfl ?_
            refine ar_geq_s rfl rfl rfl rfl rfl (fun h38 => ?_) (fun h38 => ?_)
            · refine ar_nil ?_
              refine then_n ?_
              refine wp_condT rfl ?_
              refine wp_seq ?_
              refine wp_reg (by kernel_rfl) ?_
              refine ar_assign rfl rfl rfl rfl ?_
              refine ar_nil ?_
              refine then_n ?_
              refine wp_ret ?_
              refine then_r (ret_postE rfl rfl ?_)
              exact ⟨_, rfl, by omega, by omega, by omega⟩
            · refine ar_nil ?_
              refine then_n ?_
              refine wp_condF rfl ?_
              refine wp_skip ?_
              exact cut_n ⟨_, _, _⟩ ⟨by omega, by omega⟩ (le_to ⟨rfl, rfl, rfl, rfl, rfl, trivial⟩ trivial rfl rfl rfl rfl)
      · refine ar_move rfl rfl rfl rfl ?_
        refine ar_skip rfl rfl ?_
        refine ar_skip rfl rfl ?_
        refine ar_pickF rfl rfl rfl rfl rfl ?_
        refine ar_nil ?_
        refine then_n ?_
        refine wp_condF rfl ?_
        refine wp_seq ?_
        refine wp_reg (by kernel_rfl) ?_
        refine ar_move rfl rfl rfl rfl ?_
        refine ar_geq_s rfl rfl rfl rfl rfl (fun h30 => ?_) (fun h30 => ?_)
        · refine ar_move rfl rfl rfl rfl ?_
          refine ar_move rfl rfl rfl rfl ?_
          refine ar_lss_s rfl rfl rfl rfl rfl (fun h33 => ?_) (fun h33 => ?_)
          · refine ar_pickT rfl rfl rfl rfl rfl ?_
            refine ar_nil ?_
            refine then_n ?_
            refine wp_condT rfl ?_
            refine wp_seq ?_
            refine wp_reg (by kernel_rfl) ?_
            refine ar_assign rfl rfl rfl rfl ?_
            refine ar_nil ?_
            refine then_n ?_
            refine wp_seq ?_
            refine wp_reg (by kernel_rfl) ?_
            refine ar_move rfl rfl rfl rfl ?_
            refine ar_sub rfl rfl rfl rfl rfl rfl ?_
            refine ar_assign rfl rfl rfl rfl ?_
            refine ar_nil ?_
            refine then_n ?_
            refine wp_reg (by kernel_rfl) ?_
            refine ar_assign rfl rfl rfl rfl ?_
            refine ar_nil ?_
            exact cut_n ⟨_, _, _⟩ ⟨by omega, by omega⟩ (le_to ⟨rfl, rfl, rfl, rfl, rfl, trivial⟩ trivial rfl rfl rfl rfl)
          · refine ar_pickT rfl rfl rfl rfl rfl ?_
            refine ar_nil ?_
            refine then_n ?_
            refine wp_condF rfl ?_
            refine wp_seq ?_
            refine wp_reg (by kernel_rfl) ?_
            refine ar_move rfl rfl rfl rfl ?_
            refine ar_geq_s rfl rfl rfl rfl rfl (fun h38 => ?_) (fun h38 => ?_)
            · refine ar_nil ?_
              refine then_n ?_
              refine wp_condT rfl ?_
              refine wp_seq ?_
              refine wp_reg (by kernel_rfl) ?_
              refine ar_assign rfl rfl rfl rfl ?_
              refine ar_nil ?_
              refine then_n ?_
              refine wp_ret ?_
              refine then_r (ret_postE rfl rfl ?_)
              exact ⟨_, rfl, by omega, by omega, by omega⟩
            · refine ar_nil ?_
              refine then_n ?_
              refine wp_condF rfl ?_
              refine wp_skip ?_
              exact cut_n ⟨_, _, _⟩ ⟨by omega, by omega⟩ (le_to ⟨rfl, rfl, rfl, rfl, rfl, trivial⟩ trivial rfl rfl rfl rfl)
        · refine ar_move rfl rfl rfl rfl ?_
          refine ar_skip rfl rfl ?_
          refine ar_skip rfl rfl ?_
          refine ar_pickF rfl rfl rfl rfl rfl ?_
          refine ar_nil ?_
          refine then_n ?_
          refine wp_condF rfl ?_
          refine wp_seq ?_
          refine wp_reg (by kernel_rfl) ?_
          refine ar_move rfl rfl rfl rfl ?_
          refine ar_geq_s rfl rfl rfl rfl rfl (fun h38 => ?_) (fun h38 => ?_)
          · refine ar_nil ?_
            refine then_n ?_
            refine wp_condT rfl ?_
            refine wp_seq ?_
            refine wp_reg (by kernel_rfl) ?_
            refine ar_assign rfl rfl rfl rfl ?_
            refine ar_nil ?_
            refine then_n ?_
            refine wp_ret ?_
            refine then_r (ret_postE rfl rfl ?_)
            exact ⟨_, rfl, by omega, by omega, by omega⟩
          · refine ar_nil ?_
            refine then_n ?_
            refine wp_condF rfl ?_
            refine wp_skip ?_
            exact cut_n ⟨_, _, _⟩ ⟨by omega, by omega⟩ (le_to ⟨rfl, rfl, rfl, rfl, rfl, trivial⟩ trivial rfl rfl rfl rfl)
  · rintro ⟨n, c, l⟩ ⟨hn1, hn2⟩
    refine wp_seq ?_
    refine wp_seq ?_
    refine wp_reg (by kernel_rfl) ?_
    refine ar_assign rfl rfl rfl rfl ?_
    refine ar_nil ?_
    refine then_n ?_
    refine wp_block ?_
    refine wp_loop (α := Int × Int) (fun ⟨j, c⟩ => mk [(0, .v (.str s)), (1, .v (.int .i64 at_)), (5, .v (.int .i64 n)), (6, .v (.int .i64 c)), (7, .v (.int .i64 l)), (8, .v (.int .i64 j))] [] 0) (fun ⟨j, c⟩ => 1 ≤ j ∧ j ≤ n ∧ at_ + j ≤ s.size) (fun ⟨j, c⟩ => (n - j).toNat) ⟨1, _⟩ ⟨by omega, by omega, by omega⟩ (le_to ⟨rfl, rfl, rfl, rfl, rfl, rfl, trivial⟩ trivial rfl rfl rfl rfl) ?_
    rintro ⟨j, c⟩ ⟨hj1, hj2, hj3⟩
    refine wp_seq ?_
    refine wp_seq ?_
    refine wp_reg (by kernel_rfl) ?_
    refine ar_move rfl rfl rfl rfl ?_
    refine ar_move rfl rfl rfl rfl ?_
    refine ar_lss_s rfl rfl rfl rfl rfl (fun h41 => ?_) (fun h41 => ?_)
    · refine ar_nil ?_
      refine then_n ?_
      refine wp_condT rfl ?_
      refine wp_skip ?_
      refine then_n ?_
      refine wp_seq ?_
      refine wp_block ?_
      refine wp_seq ?_
      refine wp_seq ?_
      refine wp_reg (by kernel_rfl) ?_
      refine ar_move rfl rfl rfl rfl ?_
      refine ar_move rfl rfl rfl rfl ?_
      refine ar_len_str tab_ok rfl rfl tb9 rfl rfl rfl ?_
      refine ar_move rfl rfl rfl rfl ?_
      refine ar_subi rfl rfl rfl rfl (by omega) (by omega) rfl rfl ?_
      refine ar_geq_s rfl rfl rfl rfl rfl (fun h49 => ?_) (fun h49 => ?_)
      · refine ar_move rfl rfl rfl rfl ?_
        refine ar_skip rfl rfl ?_
        refine ar_skip rfl rfl ?_
        refine ar_skip rfl rfl ?_
        refine ar_skip rfl rfl ?_
        refine ar_skip rfl rfl ?_
        refine ar_skip rfl rfl ?_
        refine ar_pickT rfl rfl rfl rfl rfl ?_
        refine ar_move rfl rfl rfl rfl ?_
        refine ar_skip rfl rfl ?_
        refine ar_skip rfl rfl ?_
        refine ar_skip rfl rfl ?_
        refine ar_skip rfl rfl ?_
        refine ar_skip rfl rfl ?_
        refine ar_skip rfl rfl ?_
        refine ar_pickT rfl rfl rfl rfl rfl ?_
        refine ar_nil ?_
        refine then_n ?_
        refine wp_condT rfl ?_
        refine wp_seq ?_
        refine wp_reg (by kernel_rfl) ?_
        refine ar_assign rfl rfl rfl rfl ?_
        refine ar_nil ?_
        refine then_n ?_
        refine wp_ret ?_
        refine then_r (inblk_r (then_r (loop_r (inblk_r (then_r (ret_postE rfl rfl ?_))))))
        exact ⟨_, rfl, by omega, by omega, by omega⟩
      · refine ar_move rfl rfl rfl rfl ?_
        refine ar_move rfl rfl rfl rfl ?_
        refine ar_move rfl rfl rfl rfl ?_
        refine ar_move rfl rfl rfl rfl ?_
        refine ar_addi rfl rfl rfl rfl (by omega) (by omega) rfl rfl ?_
        refine ar_ix_str tab_ok rfl rfl rfl tb9 rfl (by omega) (getElem?_pos s _ (by omega)) rfl rfl ?_
        refine ar_lss_s rfl rfl rfl rfl rfl (fun h56 => ?_) (fun h56 => ?_)
        · refine ar_pickF rfl rfl rfl rfl rfl ?_
          refine ar_move rfl rfl rfl rfl ?_
          refine ar_skip rfl rfl ?_
          refine ar_skip rfl rfl ?_
          refine ar_skip rfl rfl ?_
          refine ar_skip rfl rfl ?_
          refine ar_skip rfl rfl ?_
          refine ar_skip rfl rfl ?_
          refine ar_pickT rfl rfl rfl rfl rfl ?_
          refine ar_nil ?_
          refine then_n ?_
          refine wp_condT rfl ?_
          refine wp_seq ?_
          refine wp_reg (by kernel_rfl) ?_
          refine ar_assign rfl rfl rfl rfl ?_
          refine ar_nil ?_
          refine then_n ?_
          refine wp_ret ?_
          refine then_r (inblk_r (then_r (loop_r (inblk_r (then_r (ret_postE rfl rfl ?_))))))
          exact ⟨_, rfl, by omega, by omega, by omega⟩
        · refine ar_pickF rfl rfl rfl rfl rfl ?_
          refine ar_move rfl rfl rfl rfl ?_
          refine ar_move rfl rfl rfl rfl ?_
          refine ar_move rfl rfl rfl rfl ?_
          refine ar_move rfl rfl rfl rfl ?_
          refine ar_addi rfl rfl rfl rfl (by omega) (by omega) rfl rfl ?_
          refine ar_ix_str tab_ok rfl rfl rfl tb9 rfl (by omega) (getElem?_pos s _ (by omega)) rfl rfl ?_
          refine ar_gtr_s rfl rfl rfl rfl rfl (fun h64 => ?_) (fun h64 => ?_)
          · refine ar_pickF rfl rfl rfl rfl rfl ?_
            refine ar_nil ?_
            refine then_n ?_
            refine wp_condT rfl ?_
            refine wp_seq ?_
            refine wp_reg (by kernel_rfl) ?_
            refine ar_assign rfl rfl rfl rfl ?_
            refine ar_nil ?_
            refine then_n ?_
            refine wp_ret ?_
            refine then_r (inblk_r (then_r (loop_r (inblk_r (then_r (ret_postE rfl rfl ?_))))))
            exact ⟨_, rfl, by omega, by omega, by omega⟩
          · refine ar_pickF rfl rfl rfl rfl rfl ?_
            refine ar_nil ?_
            refine then_n ?_
            refine wp_condF rfl ?_
            refine wp_skip ?_
            refine then_n ?_
            refine wp_reg (by kernel_rfl) ?_
            refine ar_move rfl rfl rfl rfl ?_
            refine ar_mul rfl rfl rfl rfl rfl rfl ?_
            refine ar_move rfl rfl rfl rfl ?_
            refine ar_move rfl rfl rfl rfl ?_
            refine ar_move rfl rfl rfl rfl ?_
            refine ar_addi rfl rfl rfl rfl (by omega) (by omega) rfl rfl ?_
            refine ar_ix_str tab_ok rfl rfl rfl tb9 rfl (by omega) (getElem?_pos s _ (by omega)) rfl rfl ?_
            refine ar_conv tab_ok rfl rfl tb5 tb3 rfl rfl rfl rfl rfl ?_
            refine ar_add rfl rfl rfl rfl rfl rfl ?_
            refine ar_sub rfl rfl rfl rfl rfl rfl ?_
            refine ar_assign rfl rfl rfl rfl ?_
            refine ar_nil ?_
            refine inblk_n ?_
            refine then_n ?_
            refine wp_reg (by kernel_rfl) ?_
            refine ar_move rfl rfl rfl rfl ?_
            refine ar_addi rfl rfl rfl rfl (by omega) (by omega) rfl rfl ?_
            refine ar_assign rfl rfl rfl rfl ?_
            refine ar_nil ?_
            exact loop_n ⟨j + 1, _⟩ ⟨by omega, by omega, by omega⟩ (by show (n - (j + 1)).toNat < (n - j).toNat; omega) (le_to ⟨rfl, rfl, rfl, rfl, rfl, rfl, trivial⟩ trivial rfl rfl rfl rfl)
    · refine ar_nil ?_
      refine then_n ?_
      refine wp_condF rfl ?_
      refine wp_exit ?_
      refine then_x (loop_x (inblk_e ?_))
      refine then_n ?_
      refine wp_seq ?_
      refine wp_seq ?_
      refine wp_reg (by kernel_rfl) ?_
      refine ar_move rfl rfl rfl rfl ?_
      refine ar_move rfl rfl rfl rfl ?_
      refine ar_lss_s rfl rfl rfl rfl rfl (fun h78 => ?_) (fun h78 => ?_)
      · refine ar_move rfl rfl rfl rfl ?_
        refine ar_skip rfl rfl ?_
        refine ar_skip rfl rfl ?_
        refine ar_pickT rfl rfl rfl rfl rfl ?_
        refine ar_move rfl rfl rfl rfl ?_
        refine ar_skip rfl rfl ?_
        refine ar_skip rfl rfl ?_
        refine ar_skip rfl rfl ?_
        refine ar_skip rfl rfl ?_
        refine ar_skip rfl rfl ?_
        refine ar_skip rfl rfl ?_
        refine ar_pickT rfl rfl rfl rfl rfl ?_
        refine ar_nil ?_
        refine then_n ?_
        refine wp_condT rfl ?_
        refine wp_seq ?_
        refine wp_reg (by kernel_rfl) ?_
        refine ar_assign rfl rfl rfl rfl ?_
        refine ar_nil ?_
        refine then_n ?_
        refine wp_ret ?_
        refine then_r (ret_postE rfl rfl ?_)
        exact ⟨_, rfl, by omega, by omega, by omega⟩
      · refine ar_move rfl rfl rfl rfl ?_
        refine ar_move rfl rfl rfl rfl ?_
        refine ar_gtr_s rfl rfl rfl rfl rfl (fun h81 => ?_) (fun h81 => ?_)
        · refine ar_pickF rfl rfl rfl rfl rfl ?_
          refine ar_move rfl rfl rfl rfl ?_
          refine ar_skip rfl rfl ?_
          refine ar_skip rfl rfl ?_
          refine ar_skip rfl rfl ?_
          refine ar_skip rfl rfl ?_
          refine ar_skip rfl rfl ?_
          refine ar_skip rfl rfl ?_
          refine ar_pickT rfl rfl rfl rfl rfl ?_
          refine ar_nil ?_
          refine then_n ?_
          refine wp_condT rfl ?_
          refine wp_seq ?_
          refine wp_reg (by kernel_rfl) ?_
          refine ar_assign rfl rfl rfl rfl ?_
          refine ar_nil ?_
          refine then_n ?_
          refine wp_ret ?_
          refine then_r (ret_postE rfl rfl ?_)
          exact ⟨_, rfl, by omega, by omega, by omega⟩
        · refine ar_pickF rfl rfl rfl rfl rfl ?_
          refine ar_move rfl rfl rfl rfl ?_
          refine ar_move rfl rfl rfl rfl ?_
          refine ar_geq_s rfl rfl rfl rfl rfl (fun h85 => ?_) (fun h85 => ?_)
          · refine ar_move rfl rfl rfl rfl ?_
            refine ar_move rfl rfl rfl rfl ?_
            refine ar_lss_s rfl rfl rfl rfl rfl (fun h88 => ?_) (fun h88 => ?_)
            · refine ar_pickT rfl rfl rfl rfl rfl ?_
              refine ar_pickF rfl rfl rfl rfl rfl ?_
              refine ar_nil ?_
              refine then_n ?_
              refine wp_condT rfl ?_
              refine wp_seq ?_
              refine wp_reg (by kernel_rfl) ?_
              refine ar_assign rfl rfl rfl rfl ?_
              refine ar_nil ?_
              refine then_n ?_
              refine wp_ret ?_
              refine then_r (ret_postE rfl rfl ?_)
              exact ⟨_, rfl, by omega, by omega, by omega⟩
            · refine ar_pickT rfl rfl rfl rfl rfl ?_
              refine ar_pickF rfl rfl rfl rfl rfl ?_
              refine ar_nil ?_
              refine then_n ?_
              refine wp_condF rfl ?_
              refine wp_skip ?_
              refine then_n ?_
              refine wp_seq ?_
              refine wp_reg (by kernel_rfl) ?_
              refine ar_move rfl rfl rfl rfl ?_
              refine ar_assign rfl rfl rfl rfl ?_
              refine ar_nil ?_
              refine then_n ?_
              refine wp_ret ?_
              refine ret_postE rfl rfl ?_
              exact ⟨_, rfl, by omega, by omega, by omega⟩
          · refine ar_move rfl rfl rfl rfl ?_
            refine ar_skip rfl rfl ?_
            refine ar_skip rfl rfl ?_
            refine ar_pickF rfl rfl rfl rfl rfl ?_
            refine ar_pickF rfl rfl rfl rfl rfl ?_
            refine ar_nil ?_
            refine then_n ?_
            refine wp_condF rfl ?_
            refine wp_skip ?_
            refine then_n ?_
            refine wp_seq ?_
            refine wp_reg (by kernel_rfl) ?_
            refine ar_move rfl rfl rfl rfl ?_
            refine ar_assign rfl rfl rfl rfl ?_
            refine ar_nil ?_
            refine then_n ?_
            refine wp_ret ?_
            refine ret_postE rfl rfl ?_
            exact ⟨_, rfl, by omega, by omega, by omega⟩
theorem pce_131 (s : ByteArray) (h2 : s.size ≤ 9223372036854775807) : PCallE Try.prog 131 [.str s] (fun v => ∃ b : Bool, v = .bool b) := by
  refine pce_of tab_ok (f := 131) (fn := Try.f131) (N := 38) (rs := [.tmp 2]) (by kernel_rfl) rfl (by kernel_rfl) rfl rfl [(0, .v (.str s))] ⟨rfl, trivial⟩ rfl rfl ?_
  intro B
  refine wp_seq ?_
  refine wp_reg (by kernel_rfl) ?_
  refine ar_assign rfl rfl rfl rfl ?_
  refine ar_nil ?_
  refine then_n ?_
  refine wp_seq ?_
  refine wp_reg (by kernel_rfl) ?_
  refine ar_assign rfl rfl rfl rfl ?_
  refine ar_nil ?_
  refine then_n ?_
  refine wp_seq ?_
  refine wp_seq ?_
  refine wp_reg (by kernel_rfl) ?_
  refine ar_assign rfl rfl rfl rfl ?_
  refine ar_nil ?_
  refine then_n ?_
  refine wp_block ?_
  refine wp_loop (α := Int × Int) (fun ⟨m, j⟩ => mk [(0, .v (.str s)), (3, .v (.int .i64 m)), (4, .v (.int .i64 j))] [] 0) (fun ⟨m, j⟩ => 0 ≤ m ∧ m ≤ j ∧ j ≤ s.size) (fun ⟨m, j⟩ => (s.size - j).toNat) ⟨0, 0⟩ ⟨by omega, by omega, by omega⟩ (le_to ⟨rfl, rfl, rfl, trivial⟩ trivial rfl rfl rfl rfl) ?_
  rintro ⟨m, j⟩ ⟨hj1, hj2, hj3⟩
  refine wp_seq ?_
  refine wp_seq ?_
  refine wp_reg (by kernel_rfl) ?_
  refine ar_move rfl rfl rfl rfl ?_
  refine ar_move rfl rfl rfl rfl ?_
  refine ar_len_str tab_ok rfl rfl tb9 rfl rfl rfl ?_
  refine ar_lss_s rfl rfl rfl rfl rfl (fun h9 => ?_) (fun h9 => ?_)
  · refine ar_nil ?_
    refine then_n ?_
    refine wp_condT rfl ?_
    refine wp_skip ?_
    refine then_n ?_
    refine wp_block ?_
    refine wp_seq ?_
    refine wp_reg (by kernel_rfl) ?_
    refine ar_move rfl rfl rfl rfl ?_
    refine ar_move rfl rfl rfl rfl ?_
    refine ar_callE [] (pce_145 s j (by omega) (by omega) h2) rfl rfl rfl rfl rfl rfl trivial (.inl rfl) rfl rfl rfl ?_
    rintro _ ⟨n, rfl, hn1, hn2, hn3⟩
    refine ar_assign rfl rfl rfl rfl ?_
    refine ar_nil ?_
    refine then_n ?_
    refine wp_seq ?_
    refine wp_seq ?_
    refine wp_reg (by kernel_rfl) ?_
    refine ar_move rfl rfl rfl rfl ?_
    refine ar_eql_s rfl rfl rfl rfl rfl (fun h14 => ?_) (fun h14 => ?_)
    · refine ar_move rfl rfl rfl rfl ?_
      refine ar_skip rfl rfl ?_
      refine ar_skip rfl rfl ?_
      refine ar_skip rfl rfl ?_
      refine ar_skip rfl rfl ?_
      refine ar_pickT rfl rfl rfl rfl rfl ?_
      refine ar_move rfl rfl rfl rfl ?_
      refine ar_skip rfl rfl ?_
      refine ar_skip rfl rfl ?_
      refine ar_skip rfl rfl ?_
      refine ar_skip rfl rfl ?_
      refine ar_pickT rfl rfl rfl rfl rfl ?_
      refine ar_nil ?_
      refine then_n ?_
      refine wp_condT rfl ?_
      refine wp_seq ?_
      refine wp_reg (by kernel_rfl) ?_
      refine ar_assign rfl rfl rfl rfl ?_
      refine ar_nil ?_
      refine then_n ?_
      refine wp_ret ?_
      refine then_r (inblk_r (loop_r (inblk_r (then_r (ret_postE rfl rfl ?_)))))
      exact ⟨_, rfl⟩
    · refine ar_move rfl rfl rfl rfl ?_
      refine ar_move rfl rfl rfl rfl ?_
      refine ar_move rfl rfl rfl rfl ?_
      refine ar_ix_str tab_ok rfl rfl rfl tb9 rfl (by omega) (getElem?_pos s _ (by omega)) rfl rfl ?_
      refine ar_lss_s rfl rfl rfl rfl rfl (fun h19 => ?_) (fun h19 => ?_)
      · refine ar_pickF rfl rfl rfl rfl rfl ?_
        refine ar_move rfl rfl rfl rfl ?_
        refine ar_skip rfl rfl ?_
        refine ar_skip rfl rfl ?_
        refine ar_skip rfl rfl ?_
        refine ar_skip rfl rfl ?_
        refine ar_pickT rfl rfl rfl rfl rfl ?_
        refine ar_nil ?_
        refine then_n ?_
        refine wp_condT rfl ?_
        refine wp_seq ?_
        refine wp_reg (by kernel_rfl) ?_
        refine ar_assign rfl rfl rfl rfl ?_
        refine ar_nil ?_
        refine then_n ?_
        refine wp_ret ?_
        refine then_r (inblk_r (loop_r (inblk_r (then_r (ret_postE rfl rfl ?_)))))
        exact ⟨_, rfl⟩
      · refine ar_pickF rfl rfl rfl rfl rfl ?_
        refine ar_move rfl rfl rfl rfl ?_
        refine ar_move rfl rfl rfl rfl ?_
        refine ar_move rfl rfl rfl rfl ?_
        refine ar_ix_str tab_ok rfl rfl rfl tb9 rfl (by omega) (getElem?_pos s _ (by omega)) rfl rfl ?_
        refine ar_eql_s rfl rfl rfl rfl rfl (fun h25 => ?_) (fun h25 => ?_)
        · refine ar_pickF rfl rfl rfl rfl rfl ?_
          refine ar_nil ?_
          refine then_n ?_
          refine wp_condT rfl ?_
          refine wp_seq ?_
          refine wp_reg (by kernel_rfl) ?_
          refine ar_assign rfl rfl rfl rfl ?_
          refine ar_nil ?_
          refine then_n ?_
          refine wp_ret ?_
          refine then_r (inblk_r (loop_r (inblk_r (then_r (ret_postE rfl rfl ?_)))))
          exact ⟨_, rfl⟩
        · refine ar_pickF rfl rfl rfl rfl rfl ?_
          refine ar_nil ?_
          refine then_n ?_
          refine wp_condF rfl ?_
          refine wp_skip ?_
          refine then_n ?_
          refine wp_seq ?_
          refine wp_reg (by kernel_rfl) ?_
          refine ar_move rfl rfl rfl rfl ?_
          refine ar_move rfl rfl rfl rfl ?_
          refine ar_addi rfl rfl rfl rfl (by omega) (by omega) rfl rfl ?_
          refine ar_assign rfl rfl rfl rfl ?_
          refine ar_nil ?_
          refine then_n ?_
          refine wp_reg (by kernel_rfl) ?_
          refine ar_move rfl rfl rfl rfl ?_
          refine ar_addi rfl rfl rfl rfl (by omega) (by omega) rfl rfl ?_
          refine ar_assign rfl rfl rfl rfl ?_
          refine ar_nil ?_
          refine inblk_n ?_
          exact loop_n ⟨m + 1, j + n⟩ ⟨by show 0 ≤ m + 1; omega, by show m + 1 ≤ j + n; omega, by show j + n ≤ (s.size : Int); omega⟩ (by show ((s.size : Int) - (j + n)).toNat < ((s.size : Int) - j).toNat; omega) (le_to ⟨rfl, rfl, rfl, trivial⟩ trivial rfl rfl rfl rfl)
  · refine ar_nil ?_
    refine then_n ?_
    refine wp_condF rfl ?_
    refine wp_exit ?_
    refine then_x (loop_x (inblk_e ?_))
    refine then_n ?_
    refine wp_seq ?_
    refine wp_reg (by kernel_rfl) ?_
    refine ar_move rfl rfl rfl rfl ?_
    refine ar_geq_s rfl rfl rfl rfl rfl (fun h33 => ?_) (fun h33 => ?_)
    · refine ar_move rfl rfl rfl rfl ?_
      refine ar_move rfl rfl rfl rfl ?_
      refine ar_leq rfl rfl rfl rfl rfl rfl ?_
      refine ar_pickT rfl rfl rfl rfl rfl ?_
      refine ar_assign rfl rfl rfl rfl ?_
      refine ar_nil ?_
      refine then_n ?_
      refine wp_ret ?_
      refine ret_postE rfl rfl ?_
      exact ⟨_, rfl⟩
    · refine ar_move rfl rfl rfl rfl ?_
      refine ar_skip rfl rfl ?_
      refine ar_skip rfl rfl ?_
      refine ar_pickF rfl rfl rfl rfl rfl ?_
      refine ar_assign rfl rfl rfl rfl ?_
      refine ar_nil ?_
      refine then_n ?_
      refine wp_ret ?_
      refine ret_postE rfl rfl ?_
      exact ⟨_, rfl⟩
def kindL : List Int := [105, 108, 111, 98, 99]
def litsR (l : List Int) (v : Int) : Prop := (∀ j, j < l.length → 0 ≤ l.getD j 0 ∧ l.getD j 0 ≤ 2 * v + 1) ∧ l.length ≤ 2000
theorem pce_130 (l : List Int) (v : Int) (hl : l.length ≤ 9223372036854775807) (h0 : 0 ≤ v) (h1 : v ≤ 60000) : PCallE Try.prog 130 [slI l, .int .i64 v] (fun r => ∃ b : Bool, r = .bool b ∧ (b = true → litsR l v)) := by
  refine pce_of tab_ok (f := 130) (fn := Try.f130) (N := 30) (rs := [.tmp 4]) (by kernel_rfl) rfl (by kernel_rfl) rfl rfl [(0, .v (slI l)), (1, .v (.int .i64 v))] ⟨rfl, rfl, trivial⟩ rfl rfl ?_
  intro B
  refine wp_seq ?_
  refine wp_reg (by kernel_rfl) ?_
  refine ar_assign rfl rfl rfl rfl ?_
  refine ar_nil ?_
  refine then_n ?_
  refine wp_seq ?_
  refine wp_seq ?_
  refine wp_reg (by kernel_rfl) ?_
  refine ar_assign rfl rfl rfl rfl ?_
  refine ar_nil ?_
  refine then_n ?_
  refine wp_block ?_
  refine wp_loop (α := Nat) (fun j => mk [(0, .v (slI l)), (1, .v (.int .i64 v)), (5, .v (.int .i64 (j : Nat)))] [] 0) (fun j => j ≤ l.length ∧ ∀ q, q < j → 0 ≤ l.getD q 0 ∧ l.getD q 0 ≤ 2 * v + 1) (fun j => l.length - j) 0 ⟨Nat.zero_le _, fun q hq => absurd hq (Nat.not_lt_zero q)⟩ (le_to ⟨rfl, rfl, rfl, trivial⟩ trivial rfl rfl rfl rfl) ?_
  rintro j ⟨hj1, hj2⟩
  refine wp_seq ?_
  refine wp_seq ?_
  refine wp_reg (by kernel_rfl) ?_
  refine ar_move rfl rfl rfl rfl ?_
  refine ar_move rfl rfl rfl rfl ?_
  refine ar_len tab_ok rfl rfl tb24 rfl len_map rfl rfl ?_
  refine ar_lss_s rfl rfl rfl rfl rfl (fun h9 => ?_) (fun h9 => ?_)
  · refine ar_nil ?_
    refine then_n ?_
    refine wp_condT rfl ?_
    refine wp_skip ?_
    refine then_n ?_
    refine wp_seq ?_
    refine wp_block ?_
    refine wp_seq ?_
    refine wp_reg (by kernel_rfl) ?_
    refine ar_move rfl rfl rfl rfl ?_
    refine ar_move rfl rfl rfl rfl ?_
    refine ar_ia tab_ok rfl rfl rfl tb24 rfl tb3 (by omega) (map_get (by omega)) rfl rfl rfl ?_
    refine ar_ld_ref tab_ok rfl rfl tb3 rfl rfl rfl rfl ?_
    refine ar_lss_s rfl rfl rfl rfl rfl (fun h16 => ?_) (fun h16 => ?_)
    · refine ar_move rfl rfl rfl rfl ?_
      refine ar_skip rfl rfl ?_
      refine ar_skip rfl rfl ?_
      refine ar_skip rfl rfl ?_
      refine ar_skip rfl rfl ?_
      refine ar_skip rfl rfl ?_
      refine ar_skip rfl rfl ?_
      refine ar_skip rfl rfl ?_
      refine ar_skip rfl rfl ?_
      refine ar_pickT rfl rfl rfl rfl rfl ?_
      refine ar_nil ?_
      refine then_n ?_
      refine wp_condT rfl ?_
      refine wp_seq ?_
      refine wp_reg (by kernel_rfl) ?_
      refine ar_assign rfl rfl rfl rfl ?_
      refine ar_nil ?_
      refine then_n ?_
      refine wp_ret ?_
      refine inblk_r (then_r (loop_r (inblk_r (then_r (ret_postE rfl rfl ?_)))))
      exact ⟨_, rfl, fun h => by cases h⟩
    · refine ar_move rfl rfl rfl rfl ?_
      refine ar_move rfl rfl rfl rfl ?_
      refine ar_move rfl rfl rfl rfl ?_
      refine ar_ia tab_ok rfl rfl rfl tb24 rfl tb3 (by omega) (map_get (by omega)) rfl rfl rfl ?_
      refine ar_ld_ref tab_ok rfl rfl tb3 rfl rfl rfl rfl ?_
      refine ar_move rfl rfl rfl rfl ?_
      refine ar_muli rfl rfl rfl rfl (by omega) (by omega) rfl rfl ?_
      refine ar_addi rfl rfl rfl rfl (by omega) (by omega) rfl rfl ?_
      refine ar_gtr_s rfl rfl rfl rfl rfl (fun h25 => ?_) (fun h25 => ?_)
      · refine ar_pickF rfl rfl rfl rfl rfl ?_
        refine ar_nil ?_
        refine then_n ?_
        refine wp_condT rfl ?_
        refine wp_seq ?_
        refine wp_reg (by kernel_rfl) ?_
        refine ar_assign rfl rfl rfl rfl ?_
        refine ar_nil ?_
        refine then_n ?_
        refine wp_ret ?_
        refine inblk_r (then_r (loop_r (inblk_r (then_r (ret_postE rfl rfl ?_)))))
        exact ⟨_, rfl, fun h => by cases h⟩
      · refine ar_pickF rfl rfl rfl rfl rfl ?_
        refine ar_nil ?_
        refine then_n ?_
        refine wp_condF rfl ?_
        refine wp_skip ?_
        refine inblk_n ?_
        refine then_n ?_
        refine wp_reg (by kernel_rfl) ?_
        refine ar_move rfl rfl rfl rfl ?_
        refine ar_addi rfl rfl rfl rfl (by omega) (by omega) rfl rfl ?_
        refine ar_assign rfl rfl rfl rfl ?_
        refine ar_nil ?_
        exact loop_n (j + 1) ⟨by omega, fun q hq => (Nat.lt_succ_iff_lt_or_eq.1 hq).elim (hj2 q) (fun e => e ▸ ⟨Int.not_lt.1 h16, Int.not_lt.1 h25⟩)⟩ (by omega) (le_to ⟨rfl, rfl, rfl, trivial⟩ trivial rfl rfl rfl rfl)
  · refine ar_nil ?_
    refine then_n ?_
    refine wp_condF rfl ?_
    refine wp_exit ?_
    refine then_x (loop_x (inblk_e ?_))
    refine then_n ?_
    refine wp_seq ?_
    refine wp_reg (by kernel_rfl) ?_
    refine ar_move rfl rfl rfl rfl ?_
    refine ar_len tab_ok rfl rfl tb24 rfl len_map rfl rfl ?_
    refine ar_leq rfl rfl rfl rfl rfl rfl ?_
    refine ar_assign rfl rfl rfl rfl ?_
    refine ar_nil ?_
    refine then_n ?_
    refine wp_ret ?_
    refine ret_postE rfl rfl ?_
    refine ⟨_, rfl, fun h => ⟨fun q hq => hj2 q (by omega), by have := of_decide_eq_true h; omega⟩⟩
end Go.Vd
namespace Go.Vd
open Go.Proofs
structure SmallP (a : Aig) (n : Int) : Prop where
  i1 : a.i ≤ n
  l1 : (a.l.length : Int) ≤ n
  g1 : (a.g.length : Int) ≤ n
  o1 : (a.outs.length : Int) ≤ n
  b1 : (a.bad.length : Int) ≤ n
  c1 : (a.con.length : Int) ≤ n
def latchR (a : Aig) (j : Nat) (l : Latch) : Prop := 0 ≤ l.next ∧ l.next ≤ 2 * varsS a + 1 ∧ (l.reset = 0 ∨ l.reset = 1 ∨ l.reset = 2 * (a.i + j + 1))
def gateR (a : Aig) (j : Nat) (g : Gate) : Prop := 0 ≤ g.b ∧ g.b ≤ g.a ∧ g.a < 2 * (a.i + a.l.length + j + 1)
structure RightP (a : Aig) : Prop where
  i0 : 0 ≤ a.i
  outs : litsR a.outs (varsS a)
  bad : litsR a.bad (varsS a)
  con : litsR a.con (varsS a)
  l : ∀ j, j < a.l.length → latchR a j (a.l.getD j default)
  g : ∀ j, j < a.g.length → gateR a j (a.g.getD j default)
structure Good (a : Aig) : Prop where
  small : SmallP a 40
  right : RightP a
/-- Sizes that memory holds. -/
structure Fit (a : Aig) : Prop where
  l : a.l.length ≤ 9223372036854775807
  g : a.g.length ≤ 9223372036854775807
  o : a.outs.length ≤ 9223372036854775807
  b : a.bad.length ≤ 9223372036854775807
  c : a.con.length ≤ 9223372036854775807
  n : a.names.length ≤ 9223372036854775807
  s : ∀ j, j < a.names.length → (a.names.getD j default).s.size ≤ 9223372036854775807
theorem pce_91 (a : Aig) (n : Int) (hf : Fit a) : PCallE Try.prog 91 [aigV a, .int .i64 n] (fun r => ∃ b : Bool, r = .bool b ∧ (b = true → SmallP a n)) := by
  refine pce_of tab_ok (f := 91) (fn := Try.f91) (N := 67) (rs := [.tmp 4]) (by kernel_rfl) rfl (by kernel_rfl) rfl rfl [(0, .v (aigV a)), (1, .v (.int .i64 n))] ⟨rfl, rfl, trivial⟩ rfl rfl ?_
  intro B
  have hn := hf.n
  refine wp_seq ?_
  refine wp_reg (by kernel_rfl) ?_
  refine ar_box 2 [] rfl rfl rfl ⟨rfl, trivial⟩ rfl rfl rfl ?_
  refine ar_assign rfl rfl rfl rfl ?_
  refine ar_nil ?_
  refine then_n ?_
  refine wp_seq ?_
  refine wp_seq ?_
  refine wp_reg (by kernel_rfl) ?_
  refine ar_fa tab_ok rfl rfl rfl tb27 rfl rfl rfl rfl rfl ?_
  refine ar_ld tab_ok rfl rfl rfl tb3 rfl rfl rfl rfl rfl ?_
  refine ar_move rfl rfl rfl rfl ?_
  refine ar_gtr_s rfl rfl rfl rfl rfl (fun h9 => ?_) (fun h9 => ?_)
  · refine ar_move rfl rfl rfl rfl ?_
    refine ar_skip rfl rfl ?_
    refine ar_skip rfl rfl ?_
    refine ar_skip rfl rfl ?_
    refine ar_skip rfl rfl ?_
    refine ar_skip rfl rfl ?_
    refine ar_pickT rfl rfl rfl rfl rfl ?_
    refine ar_move rfl rfl rfl rfl ?_
    refine ar_skip rfl rfl ?_
    refine ar_skip rfl rfl ?_
    refine ar_skip rfl rfl ?_
    refine ar_skip rfl rfl ?_
    refine ar_skip rfl rfl ?_
    refine ar_pickT rfl rfl rfl rfl rfl ?_
    refine ar_move rfl rfl rfl rfl ?_
    refine ar_skip rfl rfl ?_
    refine ar_skip rfl rfl ?_
    refine ar_skip rfl rfl ?_
    refine ar_skip rfl rfl ?_
    refine ar_skip rfl rfl ?_
    refine ar_pickT rfl rfl rfl rfl rfl ?_
    refine ar_move rfl rfl rfl rfl ?_
    refine ar_skip rfl rfl ?_
    refine ar_skip rfl rfl ?_
    refine ar_skip rfl rfl ?_
    refine ar_skip rfl rfl ?_
    refine ar_skip rfl rfl ?_
    refine ar_pickT rfl rfl rfl rfl rfl ?_
    refine ar_move rfl rfl rfl rfl ?_
    refine ar_skip rfl rfl ?_
    refine ar_skip rfl rfl ?_
    refine ar_skip rfl rfl ?_
    refine ar_skip rfl rfl ?_
    refine ar_skip rfl rfl ?_
    refine ar_pickT rfl rfl rfl rfl rfl ?_
    refine ar_move rfl rfl rfl rfl ?_
    refine ar_skip rfl rfl ?_
    refine ar_skip rfl rfl ?_
    refine ar_skip rfl rfl ?_
    refine ar_skip rfl rfl ?_
    refine ar_skip rfl rfl ?_
    refine ar_pickT rfl rfl rfl rfl rfl ?_
    refine ar_nil ?_
    refine then_n ?_
    refine wp_condT rfl ?_
    refine wp_seq ?_
    refine wp_reg (by kernel_rfl) ?_
    refine ar_assign rfl rfl rfl rfl ?_
    refine ar_nil ?_
    refine then_n ?_
    refine wp_ret ?_
    refine then_r (ret_postE rfl rfl ?_)
    exact ⟨_, rfl, fun h => by cases h⟩
  · refine ar_move rfl rfl rfl rfl ?_
    refine ar_fa tab_ok rfl rfl rfl tb27 rfl rfl rfl rfl rfl ?_
    refine ar_ld tab_ok rfl rfl rfl tb22 rfl rfl rfl rfl rfl ?_
    refine ar_len tab_ok rfl rfl tb22 rfl len_map rfl rfl ?_
    refine ar_move rfl rfl rfl rfl ?_
    refine ar_gtr_s rfl rfl rfl rfl rfl (fun h15 => ?_) (fun h15 => ?_)
    · refine ar_pickF rfl rfl rfl rfl rfl ?_
      refine ar_move rfl rfl rfl rfl ?_
      refine ar_skip rfl rfl ?_
      refine ar_skip rfl rfl ?_
      refine ar_skip rfl rfl ?_
      refine ar_skip rfl rfl ?_
      refine ar_skip rfl rfl ?_
      refine ar_pickT rfl rfl rfl rfl rfl ?_
      refine ar_move rfl rfl rfl rfl ?_
      refine ar_skip rfl rfl ?_
      refine ar_skip rfl rfl ?_
      refine ar_skip rfl rfl ?_
      refine ar_skip rfl rfl ?_
      refine ar_skip rfl rfl ?_
      refine ar_pickT rfl rfl rfl rfl rfl ?_
      refine ar_move rfl rfl rfl rfl ?_
      refine ar_skip rfl rfl ?_
      refine ar_skip rfl rfl ?_
      refine ar_skip rfl rfl ?_
      refine ar_skip rfl rfl ?_
      refine ar_skip rfl rfl ?_
      refine ar_pickT rfl rfl rfl rfl rfl ?_
      refine ar_move rfl rfl rfl rfl ?_
      refine ar_skip rfl rfl ?_
      refine ar_skip rfl rfl ?_
      refine ar_skip rfl rfl ?_
      refine ar_skip rfl rfl ?_
      refine ar_skip rfl rfl ?_
      refine ar_pickT rfl rfl rfl rfl rfl ?_
      refine ar_move rfl rfl rfl rfl ?_
      refine ar_skip rfl rfl ?_
      refine ar_skip rfl rfl ?_
      refine ar_skip rfl rfl ?_
      refine ar_skip rfl rfl ?_
      refine ar_skip rfl rfl ?_
      refine ar_pickT rfl rfl rfl rfl rfl ?_
      refine ar_nil ?_
      refine then_n ?_
      refine wp_condT rfl ?_
      refine wp_seq ?_
      refine wp_reg (by kernel_rfl) ?_
      refine ar_assign rfl rfl rfl rfl ?_
      refine ar_nil ?_
      refine then_n ?_
      refine wp_ret ?_
      refine then_r (ret_postE rfl rfl ?_)
      exact ⟨_, rfl, fun h => by cases h⟩
    · refine ar_pickF rfl rfl rfl rfl rfl ?_
      refine ar_move rfl rfl rfl rfl ?_
      refine ar_fa tab_ok rfl rfl rfl tb27 rfl rfl rfl rfl rfl ?_
      refine ar_ld tab_ok rfl rfl rfl tb23 rfl rfl rfl rfl rfl ?_
      refine ar_len tab_ok rfl rfl tb23 rfl len_map rfl rfl ?_
      refine ar_move rfl rfl rfl rfl ?_
      refine ar_gtr_s rfl rfl rfl rfl rfl (fun h22 => ?_) (fun h22 => ?_)
      · refine ar_pickF rfl rfl rfl rfl rfl ?_
        refine ar_move rfl rfl rfl rfl ?_
        refine ar_skip rfl rfl ?_
        refine ar_skip rfl rfl ?_
        refine ar_skip rfl rfl ?_
        refine ar_skip rfl rfl ?_
        refine ar_skip rfl rfl ?_
        refine ar_pickT rfl rfl rfl rfl rfl ?_
        refine ar_move rfl rfl rfl rfl ?_
        refine ar_skip rfl rfl ?_
        refine ar_skip rfl rfl ?_
        refine ar_skip rfl rfl ?_
        refine ar_skip rfl rfl ?_
        refine ar_skip rfl rfl ?_
        refine ar_pickT rfl rfl rfl rfl rfl ?_
        refine ar_move rfl rfl rfl rfl ?_
        refine ar_skip rfl rfl ?_
        refine ar_skip rfl rfl ?_
        refine ar_skip rfl rfl ?_
        refine ar_skip rfl rfl ?_
        refine ar_skip rfl rfl ?_
        refine ar_pickT rfl rfl rfl rfl rfl ?_
        refine ar_move rfl rfl rfl rfl ?_
        refine ar_skip rfl rfl ?_
        refine ar_skip rfl rfl ?_
        refine ar_skip rfl rfl ?_
        refine ar_skip rfl rfl ?_
        refine ar_skip rfl rfl ?_
        refine ar_pickT rfl rfl rfl rfl rfl ?_
        refine ar_nil ?_
        refine then_n ?_
        refine wp_condT rfl ?_
        refine wp_seq ?_
        refine wp_reg (by kernel_rfl) ?_
        refine ar_assign rfl rfl rfl rfl ?_
        refine ar_nil ?_
        refine then_n ?_
        refine wp_ret ?_
        refine then_r (ret_postE rfl rfl ?_)
        exact ⟨_, rfl, fun h => by cases h⟩
      · refine ar_pickF rfl rfl rfl rfl rfl ?_
        refine ar_move rfl rfl rfl rfl ?_
        refine ar_fa tab_ok rfl rfl rfl tb27 rfl rfl rfl rfl rfl ?_
        refine ar_ld tab_ok rfl rfl rfl tb24 rfl rfl rfl rfl rfl ?_
        refine ar_len tab_ok rfl rfl tb24 rfl len_map rfl rfl ?_
        refine ar_move rfl rfl rfl rfl ?_
        refine ar_gtr_s rfl rfl rfl rfl rfl (fun h29 => ?_) (fun h29 => ?_)
        · refine ar_pickF rfl rfl rfl rfl rfl ?_
          refine ar_move rfl rfl rfl rfl ?_
          refine ar_skip rfl rfl ?_
          refine ar_skip rfl rfl ?_
          refine ar_skip rfl rfl ?_
          refine ar_skip rfl rfl ?_
          refine ar_skip rfl rfl ?_
          refine ar_pickT rfl rfl rfl rfl rfl ?_
          refine ar_move rfl rfl rfl rfl ?_
          refine ar_skip rfl rfl ?_
          refine ar_skip rfl rfl ?_
          refine ar_skip rfl rfl ?_
          refine ar_skip rfl rfl ?_
          refine ar_skip rfl rfl ?_
          refine ar_pickT rfl rfl rfl rfl rfl ?_
          refine ar_move rfl rfl rfl rfl ?_
          refine ar_skip rfl rfl ?_
          refine ar_skip rfl rfl ?_
          refine ar_skip rfl rfl ?_
          refine ar_skip rfl rfl ?_
          refine ar_skip rfl rfl ?_
          refine ar_pickT rfl rfl rfl rfl rfl ?_
          refine ar_nil ?_
          refine then_n ?_
          refine wp_condT rfl ?_
          refine wp_seq ?_
          refine wp_reg (by kernel_rfl) ?_
          refine ar_assign rfl rfl rfl rfl ?_
          refine ar_nil ?_
          refine then_n ?_
          refine wp_ret ?_
          refine then_r (ret_postE rfl rfl ?_)
          exact ⟨_, rfl, fun h => by cases h⟩
        · refine ar_pickF rfl rfl rfl rfl rfl ?_
          refine ar_move rfl rfl rfl rfl ?_
          refine ar_fa tab_ok rfl rfl rfl tb27 rfl rfl rfl rfl rfl ?_
          refine ar_ld tab_ok rfl rfl rfl tb24 rfl rfl rfl rfl rfl ?_
          refine ar_len tab_ok rfl rfl tb24 rfl len_map rfl rfl ?_
          refine ar_move rfl rfl rfl rfl ?_
          refine ar_gtr_s rfl rfl rfl rfl rfl (fun h36 => ?_) (fun h36 => ?_)
          · refine ar_pickF rfl rfl rfl rfl rfl ?_
            refine ar_move rfl rfl rfl rfl ?_
            refine ar_skip rfl rfl ?_
            refine ar_skip rfl rfl ?_
            refine ar_skip rfl rfl ?_
            refine ar_skip rfl rfl ?_
            refine ar_skip rfl rfl ?_
            refine ar_pickT rfl rfl rfl rfl rfl ?_
            refine ar_move rfl rfl rfl rfl ?_
            refine ar_skip rfl rfl ?_
            refine ar_skip rfl rfl ?_
            refine ar_skip rfl rfl ?_
            refine ar_skip rfl rfl ?_
            refine ar_skip rfl rfl ?_
            refine ar_pickT rfl rfl rfl rfl rfl ?_
            refine ar_nil ?_
            refine then_n ?_
            refine wp_condT rfl ?_
            refine wp_seq ?_
            refine wp_reg (by kernel_rfl) ?_
            refine ar_assign rfl rfl rfl rfl ?_
            refine ar_nil ?_
            refine then_n ?_
            refine wp_ret ?_
            refine then_r (ret_postE rfl rfl ?_)
            exact ⟨_, rfl, fun h => by cases h⟩
          · refine ar_pickF rfl rfl rfl rfl rfl ?_
            refine ar_move rfl rfl rfl rfl ?_
            refine ar_fa tab_ok rfl rfl rfl tb27 rfl rfl rfl rfl rfl ?_
            refine ar_ld tab_ok rfl rfl rfl tb24 rfl rfl rfl rfl rfl ?_
            refine ar_len tab_ok rfl rfl tb24 rfl len_map rfl rfl ?_
            refine ar_move rfl rfl rfl rfl ?_
            refine ar_gtr_s rfl rfl rfl rfl rfl (fun h43 => ?_) (fun h43 => ?_)
            · refine ar_pickF rfl rfl rfl rfl rfl ?_
              refine ar_move rfl rfl rfl rfl ?_
              refine ar_skip rfl rfl ?_
              refine ar_skip rfl rfl ?_
              refine ar_skip rfl rfl ?_
              refine ar_skip rfl rfl ?_
              refine ar_skip rfl rfl ?_
              refine ar_pickT rfl rfl rfl rfl rfl ?_
              refine ar_nil ?_
              refine then_n ?_
              refine wp_condT rfl ?_
              refine wp_seq ?_
              refine wp_reg (by kernel_rfl) ?_
              refine ar_assign rfl rfl rfl rfl ?_
              refine ar_nil ?_
              refine then_n ?_
              refine wp_ret ?_
              refine then_r (ret_postE rfl rfl ?_)
              exact ⟨_, rfl, fun h => by cases h⟩
            · refine ar_pickF rfl rfl rfl rfl rfl ?_
              refine ar_move rfl rfl rfl rfl ?_
              refine ar_fa tab_ok rfl rfl rfl tb27 rfl rfl rfl rfl rfl ?_
              refine ar_ld tab_ok rfl rfl rfl tb25 rfl rfl rfl rfl rfl ?_
              refine ar_len tab_ok rfl rfl tb25 rfl len_map rfl rfl ?_
              refine ar_move rfl rfl rfl rfl ?_
              refine ar_gtr_s rfl rfl rfl rfl rfl (fun h50 => ?_) (fun h50 => ?_)
              · refine ar_pickF rfl rfl rfl rfl rfl ?_
                refine ar_nil ?_
                refine then_n ?_
                refine wp_condT rfl ?_
                refine wp_seq ?_
                refine wp_reg (by kernel_rfl) ?_
                refine ar_assign rfl rfl rfl rfl ?_
                refine ar_nil ?_
                refine then_n ?_
                refine wp_ret ?_
                refine then_r (ret_postE rfl rfl ?_)
                exact ⟨_, rfl, fun h => by cases h⟩
              · refine ar_pickF rfl rfl rfl rfl rfl ?_
                refine ar_nil ?_
                refine then_n ?_
                refine wp_condF rfl ?_
                refine wp_skip ?_
                refine then_n ?_
                refine wp_seq ?_
                refine wp_seq ?_
                refine wp_reg (by kernel_rfl) ?_
                refine ar_assign rfl rfl rfl rfl ?_
                refine ar_nil ?_
                refine then_n ?_
                refine wp_block ?_
                refine wp_loop (α := Nat) (fun j => mk [(2, .ptr 2 0), (5, .v (.int .i64 (j : Nat)))] [(2, .box ((encA a).map .v))] 0) (fun j => j ≤ a.names.length) (fun j => a.names.length - j) 0 (Nat.zero_le _) (le_to ⟨rfl, rfl, trivial⟩ ⟨rfl, trivial⟩ rfl rfl rfl rfl) ?_
                rintro j hinv
                refine wp_seq ?_
                refine wp_seq ?_
                refine wp_reg (by kernel_rfl) ?_
                refine ar_move rfl rfl rfl rfl ?_
                refine ar_fa tab_ok rfl rfl rfl tb27 rfl rfl rfl rfl rfl ?_
                refine ar_ld tab_ok rfl rfl rfl tb25 rfl rfl rfl rfl rfl ?_
                refine ar_len tab_ok rfl rfl tb25 rfl len_map rfl rfl ?_
                refine ar_lss_s rfl rfl rfl rfl rfl (fun h56 => ?_) (fun h56 => ?_)
                · refine ar_nil ?_
                  refine then_n ?_
                  refine wp_condT rfl ?_
                  refine wp_skip ?_
                  refine then_n ?_
                  refine wp_seq ?_
                  refine wp_block ?_
                  refine wp_seq ?_
                  refine wp_reg (by kernel_rfl) ?_
                  refine ar_fa tab_ok rfl rfl rfl tb27 rfl rfl rfl rfl rfl ?_
                  refine ar_ld tab_ok rfl rfl rfl tb25 rfl rfl rfl rfl rfl ?_
                  refine ar_move rfl rfl rfl rfl ?_
                  refine ar_ia tab_ok rfl rfl rfl tb25 rfl tb171 (by omega) (map_get (by omega)) rfl rfl rfl ?_
                  refine ar_fa_ref tab_ok rfl rfl tb171 rfl rfl rfl rfl ?_
                  refine ar_ld_ref tab_ok rfl rfl tb9 rfl rfl rfl rfl ?_
                  refine ar_len_str tab_ok rfl rfl tb9 rfl rfl rfl ?_
                  refine ar_gtr_s rfl rfl rfl rfl rfl (fun h66 => ?_) (fun h66 => ?_)
                  · refine ar_nil ?_
                    refine then_n ?_
                    refine wp_condT rfl ?_
                    refine wp_seq ?_
                    refine wp_reg (by kernel_rfl) ?_
                    refine ar_assign rfl rfl rfl rfl ?_
                    refine ar_nil ?_
                    refine then_n ?_
                    refine wp_ret ?_
                    refine inblk_r (then_r (loop_r (inblk_r (then_r (ret_postE rfl rfl ?_)))))
                    exact ⟨_, rfl, fun h => by cases h⟩
                  · refine ar_nil ?_
                    refine then_n ?_
                    refine wp_condF rfl ?_
                    refine wp_skip ?_
                    refine inblk_n ?_
                    refine then_n ?_
                    refine wp_reg (by kernel_rfl) ?_
                    refine ar_move rfl rfl rfl rfl ?_
                    refine ar_addi rfl rfl rfl rfl (by omega) (by omega) rfl rfl ?_
                    refine ar_assign rfl rfl rfl rfl ?_
                    refine ar_nil ?_
                    exact loop_n (j + 1) (by omega) (by omega) (le_to ⟨rfl, rfl, trivial⟩ ⟨rfl, trivial⟩ rfl rfl rfl rfl)
                · refine ar_nil ?_
                  refine then_n ?_
                  refine wp_condF rfl ?_
                  refine wp_exit ?_
                  refine then_x (loop_x (inblk_e ?_))
                  refine then_n ?_
                  refine wp_seq ?_
                  refine wp_reg (by kernel_rfl) ?_
                  refine ar_assign rfl rfl rfl rfl ?_
                  refine ar_nil ?_
                  refine then_n ?_
                  refine wp_ret ?_
                  refine ret_postE rfl rfl ?_
                  refine ⟨_, rfl, fun _ => ⟨by omega, by omega, by omega, by omega, by omega, by omega⟩⟩
def kindS (c : Int) : Int := if c = 105 then 0 else if c = 108 then 1 else if c = 111 then 2 else if c = 98 then 3 else if c = 99 then 4 else -1
theorem kindS_found {c : Int} {j : Nat} (hj : j < 5) (hn : ∀ q, q < j → kindL.getD q 0 ≠ c) (h : kindL.getD j 0 = c) : kindS c = j := by
  rcases j with _ | _ | _ | _ | _ | j
  · subst h; rfl
  · subst h; rfl
  · subst h; rfl
  · subst h; rfl
  · subst h; rfl
  · omega
theorem kindS_none {c : Int} (hn : ∀ q, q < 5 → kindL.getD q 0 ≠ c) : kindS c = -1 := by
  have h0 := hn 0 (by omega); have h1 := hn 1 (by omega); have h2 := hn 2 (by omega); have h3 := hn 3 (by omega); have h4 := hn 4 (by omega)
  simp only [kindL, List.getD_cons_zero, List.getD_cons_succ] at h0 h1 h2 h3 h4
  simp [kindS, Ne.symm h0, Ne.symm h1, Ne.symm h2, Ne.symm h3, Ne.symm h4]
def manyS (a : Aig) (n : Int) : Int := if n = 0 then a.i else if n = 1 then a.l.length else if n = 2 then a.outs.length else if n = 3 then a.bad.length else if n = 4 then a.con.length else 0
def behindS (x y : Name) : Bool := decide (kindS x.kind < kindS y.kind) || (decide (kindS x.kind = kindS y.kind) && decide (x.pos < y.pos))
theorem pc_133 (c : Int) : PCall Try.prog 133 [.int .u8 c] (.int .i64 (kindS c)) := by
  refine pc_of tab_ok (f := 133) (fn := Try.f133) (N := 17) (rs := [.tmp 2]) (by kernel_rfl) rfl (by kernel_rfl) rfl rfl [(0, .v (.int .u8 c))] ⟨rfl, trivial⟩ rfl rfl ?_
  intro B
  refine wp_seq ?_
  refine wp_reg (by kernel_rfl) ?_
  refine ar_assign rfl rfl rfl rfl ?_
  refine ar_nil ?_
  refine then_n ?_
  refine wp_seq ?_
  refine wp_reg (by kernel_rfl) ?_
  refine ar_bs (es := kindL.map encU) [] tab_ok rfl tb146 rfl tb5 rfl trivial rfl rfl rfl rfl rfl rfl rfl rfl ?_
  refine ar_assign rfl rfl rfl rfl ?_
  refine ar_nil ?_
  refine then_n ?_
  refine wp_seq ?_
  refine wp_seq ?_
  refine wp_reg (by kernel_rfl) ?_
  refine ar_assign rfl rfl rfl rfl ?_
  refine ar_nil ?_
  refine then_n ?_
  refine wp_block ?_
  refine wp_loop (α := Nat) (fun j => mk [(0, .v (.int .u8 c)), (3, .v (.sl (kindL.map encU))), (4, .v (.int .i64 (j : Nat)))] [] 0) (fun j => j ≤ 5 ∧ ∀ q, q < j → kindL.getD q 0 ≠ c) (fun j => 5 - j) 0 ⟨by omega, fun q hq => absurd hq (Nat.not_lt_zero q)⟩ (le_to ⟨rfl, rfl, rfl, trivial⟩ trivial rfl rfl rfl rfl) ?_
  rintro j ⟨hj1, hj2⟩
  refine wp_seq ?_
  refine wp_seq ?_
  refine wp_reg (by kernel_rfl) ?_
  refine ar_move rfl rfl rfl rfl ?_
  refine ar_lss_s rfl rfl rfl rfl rfl (fun h7 => ?_) (fun h7 => ?_)
  · refine ar_nil ?_
    refine then_n ?_
    refine wp_condT rfl ?_
    refine wp_skip ?_
    refine then_n ?_
    refine wp_seq ?_
    refine wp_block ?_
    refine wp_seq ?_
    refine wp_reg (by kernel_rfl) ?_
    refine ar_move rfl rfl rfl rfl ?_
    refine ar_move rfl rfl rfl rfl ?_
    refine ar_ia tab_ok rfl rfl rfl tb146 rfl tb5 (by omega) (map_get (xs := kindL) (n := j) (by show _ < 5; omega)) rfl rfl rfl ?_
    refine ar_ld_ref tab_ok rfl rfl tb5 rfl rfl rfl rfl ?_
    refine ar_move rfl rfl rfl rfl ?_
    refine ar_eql_s rfl rfl rfl rfl rfl (fun h15 => ?_) (fun h15 => ?_)
    · refine ar_nil ?_
      refine then_n ?_
      refine wp_condT rfl ?_
      refine wp_seq ?_
      refine wp_reg (by kernel_rfl) ?_
      refine ar_move rfl rfl rfl rfl ?_
      refine ar_assign rfl rfl rfl rfl ?_
      refine ar_nil ?_
      refine then_n ?_
      refine wp_ret ?_
      refine inblk_r (then_r (loop_r (inblk_r (then_r (ret_post rfl rfl ?_)))))
      rw [kindS_found (by omega) hj2 h15]
    · refine ar_nil ?_
      refine then_n ?_
      refine wp_condF rfl ?_
      refine wp_skip ?_
      refine inblk_n ?_
      refine then_n ?_
      refine wp_reg (by kernel_rfl) ?_
      refine ar_move rfl rfl rfl rfl ?_
      refine ar_addi rfl rfl rfl rfl (by omega) (by omega) rfl rfl ?_
      refine ar_assign rfl rfl rfl rfl ?_
      refine ar_nil ?_
      exact loop_n (j + 1) ⟨by omega, fun q hq => (Nat.lt_succ_iff_lt_or_eq.1 hq).elim (hj2 q) (fun e => e ▸ h15)⟩ (by omega) (le_to ⟨rfl, rfl, rfl, trivial⟩ trivial rfl rfl rfl rfl)
  · refine ar_nil ?_
    refine then_n ?_
    refine wp_condF rfl ?_
    refine wp_exit ?_
    refine then_x (loop_x (inblk_e ?_))
    refine then_n ?_
    refine wp_seq ?_
    refine wp_reg (by kernel_rfl) ?_
    refine ar_assign rfl rfl rfl rfl ?_
    refine ar_nil ?_
    refine then_n ?_
    refine wp_ret ?_
    refine ret_post rfl rfl ?_
    rw [kindS_none fun q hq => hj2 q (by omega)]
theorem pc_132 (a : Aig) (n : Int) : PCall Try.prog 132 [aigV a, .int .i64 n] (.int .i64 (manyS a n)) := by
  refine pc_of tab_ok (f := 132) (fn := Try.f132) (N := 30) (rs := [.tmp 4]) (by kernel_rfl) rfl (by kernel_rfl) rfl rfl [(0, .v (aigV a)), (1, .v (.int .i64 n))] ⟨rfl, rfl, trivial⟩ rfl rfl ?_
  intro B
  refine wp_seq ?_
  refine wp_reg (by kernel_rfl) ?_
  refine ar_box 2 [] rfl rfl rfl ⟨rfl, trivial⟩ rfl rfl rfl ?_
  refine ar_assign rfl rfl rfl rfl ?_
  refine ar_nil ?_
  refine then_n ?_
  refine wp_seq ?_
  refine wp_seq ?_
  refine wp_reg (by kernel_rfl) ?_
  refine ar_move rfl rfl rfl rfl ?_
  refine ar_nil ?_
  refine then_n ?_
  refine wp_block ?_
  refine wp_seq ?_
  refine wp_reg (by kernel_rfl) ?_
  refine ar_eql_s rfl rfl rfl rfl rfl (fun h7 => ?_) (fun h7 => ?_)
  · refine ar_assign rfl rfl rfl rfl ?_
    refine ar_nil ?_
    refine then_n ?_
    refine wp_condT rfl ?_
    refine wp_seq ?_
    refine wp_reg (by kernel_rfl) ?_
    refine ar_fa tab_ok rfl rfl rfl tb27 rfl rfl rfl rfl rfl ?_
    refine ar_ld tab_ok rfl rfl rfl tb3 rfl rfl rfl rfl rfl ?_
    refine ar_assign rfl rfl rfl rfl ?_
    refine ar_nil ?_
    refine then_n ?_
    refine wp_ret ?_
    refine inblk_r (then_r (ret_post rfl rfl ?_))
    simp [manyS, *]
  · refine ar_assign rfl rfl rfl rfl ?_
    refine ar_nil ?_
    refine then_n ?_
    refine wp_condF rfl ?_
    refine wp_seq ?_
    refine wp_reg (by kernel_rfl) ?_
    refine ar_eql_s rfl rfl rfl rfl rfl (fun h11 => ?_) (fun h11 => ?_)
    · refine ar_assign rfl rfl rfl rfl ?_
      refine ar_nil ?_
      refine then_n ?_
      refine wp_condT rfl ?_
      refine wp_seq ?_
      refine wp_reg (by kernel_rfl) ?_
      refine ar_fa tab_ok rfl rfl rfl tb27 rfl rfl rfl rfl rfl ?_
      refine ar_ld tab_ok rfl rfl rfl tb22 rfl rfl rfl rfl rfl ?_
      refine ar_len tab_ok rfl rfl tb22 rfl len_map rfl rfl ?_
      refine ar_assign rfl rfl rfl rfl ?_
      refine ar_nil ?_
      refine then_n ?_
      refine wp_ret ?_
      refine inblk_r (then_r (ret_post rfl rfl ?_))
      simp [manyS, *]
    · refine ar_assign rfl rfl rfl rfl ?_
      refine ar_nil ?_
      refine then_n ?_
      refine wp_condF rfl ?_
      refine wp_seq ?_
      refine wp_reg (by kernel_rfl) ?_
      refine ar_eql_s rfl rfl rfl rfl rfl (fun h16 => ?_) (fun h16 => ?_)
      · refine ar_assign rfl rfl rfl rfl ?_
        refine ar_nil ?_
        refine then_n ?_
        refine wp_condT rfl ?_
        refine wp_seq ?_
        refine wp_reg (by kernel_rfl) ?_
        refine ar_fa tab_ok rfl rfl rfl tb27 rfl rfl rfl rfl rfl ?_
        refine ar_ld tab_ok rfl rfl rfl tb24 rfl rfl rfl rfl rfl ?_
        refine ar_len tab_ok rfl rfl tb24 rfl len_map rfl rfl ?_
        refine ar_assign rfl rfl rfl rfl ?_
        refine ar_nil ?_
        refine then_n ?_
        refine wp_ret ?_
        refine inblk_r (then_r (ret_post rfl rfl ?_))
        simp [manyS, *]
      · refine ar_assign rfl rfl rfl rfl ?_
        refine ar_nil ?_
        refine then_n ?_
        refine wp_condF rfl ?_
        refine wp_seq ?_
        refine wp_reg (by kernel_rfl) ?_
        refine ar_eql_s rfl rfl rfl rfl rfl (fun h21 => ?_) (fun h21 => ?_)
        · refine ar_assign rfl rfl rfl rfl ?_
          refine ar_nil ?_
          refine then_n ?_
          refine wp_condT rfl ?_
          refine wp_seq ?_
          refine wp_reg (by kernel_rfl) ?_
          refine ar_fa tab_ok rfl rfl rfl tb27 rfl rfl rfl rfl rfl ?_
          refine ar_ld tab_ok rfl rfl rfl tb24 rfl rfl rfl rfl rfl ?_
          refine ar_len tab_ok rfl rfl tb24 rfl len_map rfl rfl ?_
          refine ar_assign rfl rfl rfl rfl ?_
          refine ar_nil ?_
          refine then_n ?_
          refine wp_ret ?_
          refine inblk_r (then_r (ret_post rfl rfl ?_))
          simp [manyS, *]
        · refine ar_assign rfl rfl rfl rfl ?_
          refine ar_nil ?_
          refine then_n ?_
          refine wp_condF rfl ?_
          refine wp_seq ?_
          refine wp_reg (by kernel_rfl) ?_
          refine ar_eql_s rfl rfl rfl rfl rfl (fun h26 => ?_) (fun h26 => ?_)
          · refine ar_assign rfl rfl rfl rfl ?_
            refine ar_nil ?_
            refine then_n ?_
            refine wp_condT rfl ?_
            refine wp_seq ?_
            refine wp_reg (by kernel_rfl) ?_
            refine ar_fa tab_ok rfl rfl rfl tb27 rfl rfl rfl rfl rfl ?_
            refine ar_ld tab_ok rfl rfl rfl tb24 rfl rfl rfl rfl rfl ?_
            refine ar_len tab_ok rfl rfl tb24 rfl len_map rfl rfl ?_
            refine ar_assign rfl rfl rfl rfl ?_
            refine ar_nil ?_
            refine then_n ?_
            refine wp_ret ?_
            refine inblk_r (then_r (ret_post rfl rfl ?_))
            simp [manyS, *]
          · refine ar_assign rfl rfl rfl rfl ?_
            refine ar_nil ?_
            refine then_n ?_
            refine wp_condF rfl ?_
            refine wp_skip ?_
            refine inblk_n ?_
            refine then_n ?_
            refine wp_seq ?_
            refine wp_reg (by kernel_rfl) ?_
            refine ar_assign rfl rfl rfl rfl ?_
            refine ar_nil ?_
            refine then_n ?_
            refine wp_ret ?_
            refine ret_post rfl rfl ?_
            simp [manyS, *]
theorem pc_134 (x y : Name) : PCall Try.prog 134 [.agg (encN x), .agg (encN y)] (.bool (behindS x y)) := by
  refine pc_of tab_ok (f := 134) (fn := Try.f134) (N := 28) (rs := [.tmp 4]) (by kernel_rfl) rfl (by kernel_rfl) rfl rfl [(0, .v (.agg (encN x))), (1, .v (.agg (encN y)))] ⟨rfl, rfl, trivial⟩ rfl rfl ?_
  intro B
  refine wp_seq ?_
  refine wp_reg (by kernel_rfl) ?_
  refine ar_box 2 [] rfl rfl rfl ⟨rfl, trivial⟩ rfl rfl rfl ?_
  refine ar_box 3 [] rfl rfl rfl ⟨rfl, trivial⟩ rfl rfl rfl ?_
  refine ar_assign rfl rfl rfl rfl ?_
  refine ar_nil ?_
  refine then_n ?_
  refine wp_seq ?_
  refine wp_reg (by kernel_rfl) ?_
  refine ar_fa tab_ok rfl rfl rfl tb171 rfl rfl rfl rfl rfl ?_
  refine ar_ld tab_ok rfl rfl rfl tb5 rfl rfl rfl rfl rfl ?_
  refine ar_call [] (pc_133 _) rfl rfl rfl rfl rfl rfl trivial (.inl rfl) rfl rfl rfl ?_
  refine ar_assign rfl rfl rfl rfl ?_
  refine ar_nil ?_
  refine then_n ?_
  refine wp_seq ?_
  refine wp_reg (by kernel_rfl) ?_
  refine ar_fa tab_ok rfl rfl rfl tb171 rfl rfl rfl rfl rfl ?_
  refine ar_ld tab_ok rfl rfl rfl tb5 rfl rfl rfl rfl rfl ?_
  refine ar_call [] (pc_133 _) rfl rfl rfl rfl rfl rfl trivial (.inl rfl) rfl rfl rfl ?_
  refine ar_assign rfl rfl rfl rfl ?_
  refine ar_nil ?_
  refine then_n ?_
  refine wp_seq ?_
  refine wp_reg (by kernel_rfl) ?_
  refine ar_move rfl rfl rfl rfl ?_
  refine ar_move rfl rfl rfl rfl ?_
  refine ar_lss_s rfl rfl rfl rfl rfl (fun h15 => ?_) (fun h15 => ?_)
  · refine ar_move rfl rfl rfl rfl ?_
    refine ar_skip rfl rfl ?_
    refine ar_skip rfl rfl ?_
    refine ar_skip rfl rfl ?_
    refine ar_skip rfl rfl ?_
    refine ar_skip rfl rfl ?_
    refine ar_skip rfl rfl ?_
    refine ar_skip rfl rfl ?_
    refine ar_skip rfl rfl ?_
    refine ar_skip rfl rfl ?_
    refine ar_skip rfl rfl ?_
    refine ar_pickT rfl rfl rfl rfl rfl ?_
    refine ar_assign rfl rfl rfl rfl ?_
    refine ar_nil ?_
    refine then_n ?_
    refine wp_ret ?_
    refine ret_post rfl rfl ?_
    simp [behindS, *]
  · refine ar_move rfl rfl rfl rfl ?_
    refine ar_move rfl rfl rfl rfl ?_
    refine ar_move rfl rfl rfl rfl ?_
    refine ar_eql_s rfl rfl rfl rfl rfl (fun h19 => ?_) (fun h19 => ?_)
    · refine ar_move rfl rfl rfl rfl ?_
      refine ar_fa tab_ok rfl rfl rfl tb171 rfl rfl rfl rfl rfl ?_
      refine ar_ld tab_ok rfl rfl rfl tb3 rfl rfl rfl rfl rfl ?_
      refine ar_fa tab_ok rfl rfl rfl tb171 rfl rfl rfl rfl rfl ?_
      refine ar_ld tab_ok rfl rfl rfl tb3 rfl rfl rfl rfl rfl ?_
      refine ar_lss rfl rfl rfl rfl rfl rfl ?_
      refine ar_pickT rfl rfl rfl rfl rfl ?_
      refine ar_pickF rfl rfl rfl rfl rfl ?_
      refine ar_assign rfl rfl rfl rfl ?_
      refine ar_nil ?_
      refine then_n ?_
      refine wp_ret ?_
      refine ret_post rfl rfl ?_
      simp [behindS, *]
    · refine ar_move rfl rfl rfl rfl ?_
      refine ar_skip rfl rfl ?_
      refine ar_skip rfl rfl ?_
      refine ar_skip rfl rfl ?_
      refine ar_skip rfl rfl ?_
      refine ar_skip rfl rfl ?_
      refine ar_pickF rfl rfl rfl rfl rfl ?_
      refine ar_pickF rfl rfl rfl rfl rfl ?_
      refine ar_assign rfl rfl rfl rfl ?_
      refine ar_nil ?_
      refine then_n ?_
      refine wp_ret ?_
      refine ret_post rfl rfl ?_
      simp [behindS, *]
theorem pce_92 (a : Aig) (hf : Fit a) : PCallE Try.prog 92 [aigV a] (fun r => ∃ b : Bool, r = .bool b ∧ (b = true → RightP a)) := by
  refine pce_of tab_ok (f := 92) (fn := Try.f92) (N := 195) (rs := [.tmp 2]) (by kernel_rfl) rfl (by kernel_rfl) rfl rfl [(0, .v (aigV a))] ⟨rfl, trivial⟩ rfl rfl ?_
  intro B
  have hn := hf.n; have hv : varsS a = a.i + a.l.length + a.g.length := rfl
  refine wp_seq ?_
  refine wp_reg (by kernel_rfl) ?_
  refine ar_box 1 [] rfl rfl rfl ⟨rfl, trivial⟩ rfl rfl rfl ?_
  refine ar_assign rfl rfl rfl rfl ?_
  refine ar_nil ?_
  refine then_n ?_
  refine wp_seq ?_
  refine wp_seq ?_
  refine wp_reg (by kernel_rfl) ?_
  refine ar_fa tab_ok rfl rfl rfl tb27 rfl rfl rfl rfl rfl ?_
  refine ar_ld tab_ok rfl rfl rfl tb3 rfl rfl rfl rfl rfl ?_
  refine ar_lss_s rfl rfl rfl rfl rfl (fun h17 => ?_) (fun h17 => ?_)
  · refine ar_move rfl rfl rfl rfl ?_
    refine ar_skip rfl rfl ?_
    refine ar_skip rfl rfl ?_
    refine ar_skip rfl rfl ?_
    refine ar_pickT rfl rfl rfl rfl rfl ?_
    refine ar_move rfl rfl rfl rfl ?_
    refine ar_skip rfl rfl ?_
    refine ar_skip rfl rfl ?_
    refine ar_skip rfl rfl ?_
    refine ar_skip rfl rfl ?_
    refine ar_pickT rfl rfl rfl rfl rfl ?_
    refine ar_move rfl rfl rfl rfl ?_
    refine ar_skip rfl rfl ?_
    refine ar_skip rfl rfl ?_
    refine ar_skip rfl rfl ?_
    refine ar_skip rfl rfl ?_
    refine ar_pickT rfl rfl rfl rfl rfl ?_
    refine ar_move rfl rfl rfl rfl ?_
    refine ar_skip rfl rfl ?_
    refine ar_skip rfl rfl ?_
    refine ar_skip rfl rfl ?_
    refine ar_pickT rfl rfl rfl rfl rfl ?_
    refine ar_move rfl rfl rfl rfl ?_
    refine ar_skip rfl rfl ?_
    refine ar_skip rfl rfl ?_
    refine ar_skip rfl rfl ?_
    refine ar_skip rfl rfl ?_
    refine ar_pickT rfl rfl rfl rfl rfl ?_
    refine ar_nil ?_
    refine then_n ?_
    refine wp_condT rfl ?_
    refine wp_seq ?_
    refine wp_reg (by kernel_rfl) ?_
    refine ar_assign rfl rfl rfl rfl ?_
    refine ar_nil ?_
    refine then_n ?_
    refine wp_ret ?_
    refine then_r (ret_postE rfl rfl ?_)
    exact ⟨_, rfl, fun h => by cases h⟩
  · refine ar_move rfl rfl rfl rfl ?_
    refine ar_fa tab_ok rfl rfl rfl tb27 rfl rfl rfl rfl rfl ?_
    refine ar_ld tab_ok rfl rfl rfl tb3 rfl rfl rfl rfl rfl ?_
    refine ar_gtr_s rfl rfl rfl rfl rfl (fun h21 => ?_) (fun h21 => ?_)
    · refine ar_pickF rfl rfl rfl rfl rfl ?_
      refine ar_move rfl rfl rfl rfl ?_
      refine ar_skip rfl rfl ?_
      refine ar_skip rfl rfl ?_
      refine ar_skip rfl rfl ?_
      refine ar_skip rfl rfl ?_
      refine ar_pickT rfl rfl rfl rfl rfl ?_
      refine ar_move rfl rfl rfl rfl ?_
      refine ar_skip rfl rfl ?_
      refine ar_skip rfl rfl ?_
      refine ar_skip rfl rfl ?_
      refine ar_skip rfl rfl ?_
      refine ar_pickT rfl rfl rfl rfl rfl ?_
      refine ar_move rfl rfl rfl rfl ?_
      refine ar_skip rfl rfl ?_
      refine ar_skip rfl rfl ?_
      refine ar_skip rfl rfl ?_
      refine ar_pickT rfl rfl rfl rfl rfl ?_
      refine ar_move rfl rfl rfl rfl ?_
      refine ar_skip rfl rfl ?_
      refine ar_skip rfl rfl ?_
      refine ar_skip rfl rfl ?_
      refine ar_skip rfl rfl ?_
      refine ar_pickT rfl rfl rfl rfl rfl ?_
      refine ar_nil ?_
      refine then_n ?_
      refine wp_condT rfl ?_
      refine wp_seq ?_
      refine wp_reg (by kernel_rfl) ?_
      refine ar_assign rfl rfl rfl rfl ?_
      refine ar_nil ?_
      refine then_n ?_
      refine wp_ret ?_
      refine then_r (ret_postE rfl rfl ?_)
      exact ⟨_, rfl, fun h => by cases h⟩
    · refine ar_pickF rfl rfl rfl rfl rfl ?_
      refine ar_move rfl rfl rfl rfl ?_
      refine ar_fa tab_ok rfl rfl rfl tb27 rfl rfl rfl rfl rfl ?_
      refine ar_ld tab_ok rfl rfl rfl tb22 rfl rfl rfl rfl rfl ?_
      refine ar_len tab_ok rfl rfl tb22 rfl len_map rfl rfl ?_
      refine ar_gtr_s rfl rfl rfl rfl rfl (fun h27 => ?_) (fun h27 => ?_)
      · refine ar_pickF rfl rfl rfl rfl rfl ?_
        refine ar_move rfl rfl rfl rfl ?_
        refine ar_skip rfl rfl ?_
        refine ar_skip rfl rfl ?_
        refine ar_skip rfl rfl ?_
        refine ar_skip rfl rfl ?_
        refine ar_pickT rfl rfl rfl rfl rfl ?_
        refine ar_move rfl rfl rfl rfl ?_
        refine ar_skip rfl rfl ?_
        refine ar_skip rfl rfl ?_
        refine ar_skip rfl rfl ?_
        refine ar_pickT rfl rfl rfl rfl rfl ?_
        refine ar_move rfl rfl rfl rfl ?_
        refine ar_skip rfl rfl ?_
        refine ar_skip rfl rfl ?_
        refine ar_skip rfl rfl ?_
        refine ar_skip rfl rfl ?_
        refine ar_pickT rfl rfl rfl rfl rfl ?_
        refine ar_nil ?_
        refine then_n ?_
        refine wp_condT rfl ?_
        refine wp_seq ?_
        refine wp_reg (by kernel_rfl) ?_
        refine ar_assign rfl rfl rfl rfl ?_
        refine ar_nil ?_
        refine then_n ?_
        refine wp_ret ?_
        refine then_r (ret_postE rfl rfl ?_)
        exact ⟨_, rfl, fun h => by cases h⟩
      · refine ar_pickF rfl rfl rfl rfl rfl ?_
        refine ar_move rfl rfl rfl rfl ?_
        refine ar_fa tab_ok rfl rfl rfl tb27 rfl rfl rfl rfl rfl ?_
        refine ar_ld tab_ok rfl rfl rfl tb23 rfl rfl rfl rfl rfl ?_
        refine ar_len tab_ok rfl rfl tb23 rfl len_map rfl rfl ?_
        refine ar_gtr_s rfl rfl rfl rfl rfl (fun h33 => ?_) (fun h33 => ?_)
        · refine ar_pickF rfl rfl rfl rfl rfl ?_
          refine ar_move rfl rfl rfl rfl ?_
          refine ar_skip rfl rfl ?_
          refine ar_skip rfl rfl ?_
          refine ar_skip rfl rfl ?_
          refine ar_pickT rfl rfl rfl rfl rfl ?_
          refine ar_move rfl rfl rfl rfl ?_
          refine ar_skip rfl rfl ?_
          refine ar_skip rfl rfl ?_
          refine ar_skip rfl rfl ?_
          refine ar_skip rfl rfl ?_
          refine ar_pickT rfl rfl rfl rfl rfl ?_
          refine ar_nil ?_
          refine then_n ?_
          refine wp_condT rfl ?_
          refine wp_seq ?_
          refine wp_reg (by kernel_rfl) ?_
          refine ar_assign rfl rfl rfl rfl ?_
          refine ar_nil ?_
          refine then_n ?_
          refine wp_ret ?_
          refine then_r (ret_postE rfl rfl ?_)
          exact ⟨_, rfl, fun h => by cases h⟩
        · refine ar_pickF rfl rfl rfl rfl rfl ?_
          refine ar_move rfl rfl rfl rfl ?_
          refine ar_lda tab_ok rfl rfl rfl tb27 rfl rfl rfl rfl rfl rfl ?_
          refine ar_call [] (pc_129 a (by omega) (by omega) (by omega) (by omega)) rfl rfl rfl rfl rfl rfl trivial (.inl rfl) rfl rfl rfl ?_
          refine ar_gtr_s rfl rfl rfl rfl rfl (fun h38 => ?_) (fun h38 => ?_)
          · refine ar_pickF rfl rfl rfl rfl rfl ?_
            refine ar_move rfl rfl rfl rfl ?_
            refine ar_skip rfl rfl ?_
            refine ar_skip rfl rfl ?_
            refine ar_skip rfl rfl ?_
            refine ar_skip rfl rfl ?_
            refine ar_pickT rfl rfl rfl rfl rfl ?_
            refine ar_nil ?_
            refine then_n ?_
            refine wp_condT rfl ?_
            refine wp_seq ?_
            refine wp_reg (by kernel_rfl) ?_
            refine ar_assign rfl rfl rfl rfl ?_
            refine ar_nil ?_
            refine then_n ?_
            refine wp_ret ?_
            refine then_r (ret_postE rfl rfl ?_)
            exact ⟨_, rfl, fun h => by cases h⟩
          · refine ar_pickF rfl rfl rfl rfl rfl ?_
            refine ar_move rfl rfl rfl rfl ?_
            refine ar_fa tab_ok rfl rfl rfl tb27 rfl rfl rfl rfl rfl ?_
            refine ar_ld tab_ok rfl rfl rfl tb25 rfl rfl rfl rfl rfl ?_
            refine ar_len tab_ok rfl rfl tb25 rfl len_map rfl rfl ?_
            refine ar_gtr_s rfl rfl rfl rfl rfl (fun h44 => ?_) (fun h44 => ?_)
            · refine ar_pickF rfl rfl rfl rfl rfl ?_
              refine ar_nil ?_
              refine then_n ?_
              refine wp_condT rfl ?_
              refine wp_seq ?_
              refine wp_reg (by kernel_rfl) ?_
              refine ar_assign rfl rfl rfl rfl ?_
              refine ar_nil ?_
              refine then_n ?_
              refine wp_ret ?_
              refine then_r (ret_postE rfl rfl ?_)
              exact ⟨_, rfl, fun h => by cases h⟩
            · refine ar_pickF rfl rfl rfl rfl rfl ?_
              refine ar_nil ?_
              refine then_n ?_
              refine wp_condF rfl ?_
              refine wp_skip ?_
              refine then_n ?_
              refine wp_seq ?_
              refine wp_reg (by kernel_rfl) ?_
              refine ar_lda tab_ok rfl rfl rfl tb27 rfl rfl rfl rfl rfl rfl ?_
              refine ar_call [] (pc_129 a (by omega) (by omega) (by omega) (by omega)) rfl rfl rfl rfl rfl rfl trivial (.inl rfl) rfl rfl rfl ?_
              refine ar_assign rfl rfl rfl rfl ?_
              refine ar_nil ?_
              refine then_n ?_
              refine wp_seq ?_
              refine wp_reg (by kernel_rfl) ?_
              refine ar_fa tab_ok rfl rfl rfl tb27 rfl rfl rfl rfl rfl ?_
              refine ar_ld tab_ok rfl rfl rfl tb24 rfl rfl rfl rfl rfl ?_
              refine ar_move rfl rfl rfl rfl ?_
              refine ar_callE [] (pce_130 a.outs (varsS a) hf.o (by omega) (by omega)) rfl rfl rfl rfl rfl rfl trivial (.inl rfl) rfl rfl rfl ?_
              rintro _ ⟨b51, rfl, hb51⟩
              refine ar_split (fun h51 => ?_) (fun h51 => ?_)
              · refine ar_assign rfl rfl rfl rfl ?_
                refine ar_nil ?_
                refine then_n ?_
                refine wp_seq ?_
                refine wp_reg (by kernel_rfl) ?_
                refine ar_fa tab_ok rfl rfl rfl tb27 rfl rfl rfl rfl rfl ?_
                refine ar_ld tab_ok rfl rfl rfl tb24 rfl rfl rfl rfl rfl ?_
                refine ar_move rfl rfl rfl rfl ?_
                refine ar_callE [] (pce_130 a.bad (varsS a) hf.b (by omega) (by omega)) rfl rfl rfl rfl rfl rfl trivial (.inl rfl) rfl rfl rfl ?_
                rintro _ ⟨b55, rfl, hb55⟩
                refine ar_split (fun h55 => ?_) (fun h55 => ?_)
                · refine ar_assign rfl rfl rfl rfl ?_
                  refine ar_nil ?_
                  refine then_n ?_
                  refine wp_seq ?_
                  refine wp_reg (by kernel_rfl) ?_
                  refine ar_fa tab_ok rfl rfl rfl tb27 rfl rfl rfl rfl rfl ?_
                  refine ar_ld tab_ok rfl rfl rfl tb24 rfl rfl rfl rfl rfl ?_
                  refine ar_move rfl rfl rfl rfl ?_
                  refine ar_callE [] (pce_130 a.con (varsS a) hf.c (by omega) (by omega)) rfl rfl rfl rfl rfl rfl trivial (.inl rfl) rfl rfl rfl ?_
                  rintro _ ⟨b59, rfl, hb59⟩
                  refine ar_split (fun h59 => ?_) (fun h59 => ?_)
                  · refine ar_assign rfl rfl rfl rfl ?_
                    refine ar_nil ?_
                    refine then_n ?_
                    refine wp_seq ?_
                    refine wp_seq ?_
                    refine wp_reg (by kernel_rfl) ?_
                    refine ar_move rfl rfl rfl rfl ?_
                    refine ar_not rfl rfl rfl rfl rfl ?_
                    refine ar_move rfl rfl rfl rfl ?_
                    refine ar_move rfl rfl rfl rfl ?_
                    refine ar_not rfl rfl rfl rfl rfl ?_
                    refine ar_pickF rfl rfl rfl rfl rfl ?_
                    refine ar_move rfl rfl rfl rfl ?_
                    refine ar_move rfl rfl rfl rfl ?_
                    refine ar_not rfl rfl rfl rfl rfl ?_
                    refine ar_pickF rfl rfl rfl rfl rfl ?_
                    refine ar_nil ?_
                    refine then_n ?_
                    refine wp_condF rfl ?_
                    refine wp_skip ?_
                    refine then_n ?_
                    refine wp_seq ?_
                    refine wp_seq ?_
                    refine wp_reg (by kernel_rfl) ?_
                    refine ar_assign rfl rfl rfl rfl ?_
                    refine ar_nil ?_
                    refine then_n ?_
                    refine wp_block ?_
                    refine wp_loop (α := Nat) (fun j1 => mk [(1, .ptr 1 0), (3, .v (.int .i64 (varsS a))), (7, .v (.int .i64 (j1 : Nat)))] [(1, .box ((encA a).map .v))] 0) (fun j1 => j1 ≤ a.l.length ∧ ∀ q, q < j1 → latchR a q (a.l.getD q default)) (fun j1 => a.l.length - j1) 0 ⟨Nat.zero_le _, fun q hq => absurd hq (Nat.not_lt_zero q)⟩ (le_to ⟨rfl, rfl, rfl, trivial⟩ ⟨rfl, trivial⟩ rfl rfl rfl rfl) ?_
                    rintro j1 ⟨hj1a, hj1b⟩
                    refine wp_seq ?_
                    refine wp_seq ?_
                    refine wp_reg (by kernel_rfl) ?_
                    refine ar_move rfl rfl rfl rfl ?_
                    refine ar_fa tab_ok rfl rfl rfl tb27 rfl rfl rfl rfl rfl ?_
                    refine ar_ld tab_ok rfl rfl rfl tb22 rfl rfl rfl rfl rfl ?_
                    refine ar_len tab_ok rfl rfl tb22 rfl len_map rfl rfl ?_
                    refine ar_lss_s rfl rfl rfl rfl rfl (fun h74 => ?_) (fun h74 => ?_)
                    · refine ar_nil ?_
                      refine then_n ?_
                      refine wp_condT rfl ?_
                      refine wp_skip ?_
                      refine then_n ?_
                      refine wp_seq ?_
                      refine wp_block ?_
                      refine wp_seq ?_
                      refine wp_reg (by kernel_rfl) ?_
                      refine ar_fa tab_ok rfl rfl rfl tb27 rfl rfl rfl rfl rfl ?_
                      refine ar_ld tab_ok rfl rfl rfl tb22 rfl rfl rfl rfl rfl ?_
                      refine ar_move rfl rfl rfl rfl ?_
                      refine ar_ia tab_ok rfl rfl rfl tb22 rfl tb63 (by omega) (map_get (n := j1) (by omega)) rfl rfl rfl ?_
                      refine ar_ld_refa tab_ok rfl rfl tb63 rfl rfl rfl rfl rfl ?_
                      refine ar_alloc (id := 8) tab_ok rfl rfl tb63 rfl rfl rfl rfl ?_
                      refine ar_st [] tab_ok rfl tb63 rfl rfl rfl trivial rfl rfl rfl rfl rfl rfl rfl rfl ?_
                      refine ar_nil ?_
                      refine then_n ?_
                      refine wp_seq ?_
                      refine wp_reg (by kernel_rfl) ?_
                      refine ar_fa tab_ok rfl rfl rfl tb63 rfl rfl rfl rfl rfl ?_
                      refine ar_ld tab_ok rfl rfl rfl tb3 rfl rfl rfl rfl rfl ?_
                      refine ar_lss_s rfl rfl rfl rfl rfl (fun h84 => ?_) (fun h84 => ?_)
                      · refine ar_move rfl rfl rfl rfl ?_
                        refine ar_skip rfl rfl ?_
                        refine ar_skip rfl rfl ?_
                        refine ar_skip rfl rfl ?_
                        refine ar_skip rfl rfl ?_
                        refine ar_skip rfl rfl ?_
                        refine ar_skip rfl rfl ?_
                        refine ar_pickT rfl rfl rfl rfl rfl ?_
                        refine ar_move rfl rfl rfl rfl ?_
                        refine ar_skip rfl rfl ?_
                        refine ar_skip rfl rfl ?_
                        refine ar_skip rfl rfl ?_
                        refine ar_skip rfl rfl ?_
                        refine ar_skip rfl rfl ?_
                        refine ar_skip rfl rfl ?_
                        refine ar_skip rfl rfl ?_
                        refine ar_skip rfl rfl ?_
                        refine ar_skip rfl rfl ?_
                        refine ar_skip rfl rfl ?_
                        refine ar_skip rfl rfl ?_
                        refine ar_skip rfl rfl ?_
                        refine ar_skip rfl rfl ?_
                        refine ar_skip rfl rfl ?_
                        refine ar_skip rfl rfl ?_
                        refine ar_skip rfl rfl ?_
                        refine ar_skip rfl rfl ?_
                        refine ar_skip rfl rfl ?_
                        refine ar_skip rfl rfl ?_
                        refine ar_pickT rfl rfl rfl rfl rfl ?_
                        refine ar_nil ?_
                        refine then_n ?_
                        refine wp_condT rfl ?_
                        refine wp_seq ?_
                        refine wp_reg (by kernel_rfl) ?_
                        refine ar_assign rfl rfl rfl rfl ?_
                        refine ar_nil ?_
                        refine then_n ?_
                        refine wp_ret ?_
                        refine inblk_r (then_r (loop_r (inblk_r (then_r (ret_postE rfl rfl ?_)))))
                        exact ⟨_, rfl, fun h => by cases h⟩
                      · refine ar_move rfl rfl rfl rfl ?_
                        refine ar_fa tab_ok rfl rfl rfl tb63 rfl rfl rfl rfl rfl ?_
                        refine ar_ld tab_ok rfl rfl rfl tb3 rfl rfl rfl rfl rfl ?_
                        refine ar_move rfl rfl rfl rfl ?_
                        refine ar_muli rfl rfl rfl rfl (by omega) (by omega) rfl rfl ?_
                        refine ar_addi rfl rfl rfl rfl (by omega) (by omega) rfl rfl ?_
                        refine ar_gtr_s rfl rfl rfl rfl rfl (fun h91 => ?_) (fun h91 => ?_)
                        · refine ar_pickF rfl rfl rfl rfl rfl ?_
                          refine ar_move rfl rfl rfl rfl ?_
                          refine ar_skip rfl rfl ?_
                          refine ar_skip rfl rfl ?_
                          refine ar_skip rfl rfl ?_
                          refine ar_skip rfl rfl ?_
                          refine ar_skip rfl rfl ?_
                          refine ar_skip rfl rfl ?_
                          refine ar_skip rfl rfl ?_
                          refine ar_skip rfl rfl ?_
                          refine ar_skip rfl rfl ?_
                          refine ar_skip rfl rfl ?_
                          refine ar_skip rfl rfl ?_
                          refine ar_skip rfl rfl ?_
                          refine ar_skip rfl rfl ?_
                          refine ar_skip rfl rfl ?_
                          refine ar_skip rfl rfl ?_
                          refine ar_skip rfl rfl ?_
                          refine ar_skip rfl rfl ?_
                          refine ar_skip rfl rfl ?_
                          refine ar_skip rfl rfl ?_
                          refine ar_pickT rfl rfl rfl rfl rfl ?_
                          refine ar_nil ?_
                          refine then_n ?_
                          refine wp_condT rfl ?_
                          refine wp_seq ?_
                          refine wp_reg (by kernel_rfl) ?_
                          refine ar_assign rfl rfl rfl rfl ?_
                          refine ar_nil ?_
                          refine then_n ?_
                          refine wp_ret ?_
                          refine inblk_r (then_r (loop_r (inblk_r (then_r (ret_postE rfl rfl ?_)))))
                          exact ⟨_, rfl, fun h => by cases h⟩
                        · refine ar_pickF rfl rfl rfl rfl rfl ?_
                          refine ar_move rfl rfl rfl rfl ?_
                          refine ar_fa tab_ok rfl rfl rfl tb63 rfl rfl rfl rfl rfl ?_
                          refine ar_ld tab_ok rfl rfl rfl tb3 rfl rfl rfl rfl rfl ?_
                          refine ar_neq_s rfl rfl rfl rfl rfl (fun h96 => ?_) (fun h96 => ?_)
                          · refine ar_move rfl rfl rfl rfl ?_
                            refine ar_fa tab_ok rfl rfl rfl tb63 rfl rfl rfl rfl rfl ?_
                            refine ar_ld tab_ok rfl rfl rfl tb3 rfl rfl rfl rfl rfl ?_
                            refine ar_neq_s rfl rfl rfl rfl rfl (fun h100 => ?_) (fun h100 => ?_)
                            · refine ar_pickT rfl rfl rfl rfl rfl ?_
                              refine ar_move rfl rfl rfl rfl ?_
                              refine ar_fa tab_ok rfl rfl rfl tb63 rfl rfl rfl rfl rfl ?_
                              refine ar_ld tab_ok rfl rfl rfl tb3 rfl rfl rfl rfl rfl ?_
                              refine ar_fa tab_ok rfl rfl rfl tb27 rfl rfl rfl rfl rfl ?_
                              refine ar_ld tab_ok rfl rfl rfl tb3 rfl rfl rfl rfl rfl ?_
                              refine ar_move rfl rfl rfl rfl ?_
                              refine ar_addi rfl rfl rfl rfl (by omega) (by omega) rfl rfl ?_
                              refine ar_addi rfl rfl rfl rfl (by omega) (by omega) rfl rfl ?_
                              refine ar_muli rfl rfl rfl rfl (by omega) (by omega) rfl rfl ?_
                              refine ar_neq_s rfl rfl rfl rfl rfl (fun h111 => ?_) (fun h111 => ?_)
                              · refine ar_pickT rfl rfl rfl rfl rfl ?_
                                refine ar_pickF rfl rfl rfl rfl rfl ?_
                                refine ar_nil ?_
                                refine then_n ?_
                                refine wp_condT rfl ?_
                                refine wp_seq ?_
                                refine wp_reg (by kernel_rfl) ?_
                                refine ar_assign rfl rfl rfl rfl ?_
                                refine ar_nil ?_
                                refine then_n ?_
                                refine wp_ret ?_
                                refine inblk_r (then_r (loop_r (inblk_r (then_r (ret_postE rfl rfl ?_)))))
                                exact ⟨_, rfl, fun h => by cases h⟩
                              · refine ar_pickT rfl rfl rfl rfl rfl ?_
                                refine ar_pickF rfl rfl rfl rfl rfl ?_
                                refine ar_nil ?_
                                refine then_n ?_
                                refine wp_condF rfl ?_
                                refine wp_skip ?_
                                refine inblk_n ?_
                                refine then_n ?_
                                refine wp_reg (by kernel_rfl) ?_
                                refine ar_move rfl rfl rfl rfl ?_
                                refine ar_addi rfl rfl rfl rfl (by omega) (by omega) rfl rfl ?_
                                refine ar_assign rfl rfl rfl rfl ?_
                                refine ar_nil ?_
                                exact loop_n (j1 + 1) ⟨by omega, fun q hq => (Nat.lt_succ_iff_lt_or_eq.1 hq).elim (hj1b q) (fun e => e ▸ ⟨by omega, by omega, by omega⟩)⟩ (by omega) (le_to ⟨rfl, rfl, rfl, trivial⟩ ⟨rfl, trivial⟩ rfl rfl rfl rfl)
                            · refine ar_pickT rfl rfl rfl rfl rfl ?_
                              refine ar_move rfl rfl rfl rfl ?_
                              refine ar_skip rfl rfl ?_
                              refine ar_skip rfl rfl ?_
                              refine ar_skip rfl rfl ?_
                              refine ar_skip rfl rfl ?_
                              refine ar_skip rfl rfl ?_
                              refine ar_skip rfl rfl ?_
                              refine ar_skip rfl rfl ?_
                              refine ar_skip rfl rfl ?_
                              refine ar_skip rfl rfl ?_
                              refine ar_pickF rfl rfl rfl rfl rfl ?_
                              refine ar_pickF rfl rfl rfl rfl rfl ?_
                              refine ar_nil ?_
                              refine then_n ?_
                              refine wp_condF rfl ?_
                              refine wp_skip ?_
                              refine inblk_n ?_
                              refine then_n ?_
                              refine wp_reg (by kernel_rfl) ?_
                              refine ar_move rfl rfl rfl rfl ?_
                              refine ar_addi rfl rfl rfl rfl (by omega) (by omega) rfl rfl ?_
                              refine ar_assign rfl rfl rfl rfl ?_
                              refine ar_nil ?_
                              exact loop_n (j1 + 1) ⟨by omega, fun q hq => (Nat.lt_succ_iff_lt_or_eq.1 hq).elim (hj1b q) (fun e => e ▸ ⟨by omega, by omega, by omega⟩)⟩ (by omega) (le_to ⟨rfl, rfl, rfl, trivial⟩ ⟨rfl, trivial⟩ rfl rfl rfl rfl)
                          · refine ar_move rfl rfl rfl rfl ?_
                            refine ar_skip rfl rfl ?_
                            refine ar_skip rfl rfl ?_
                            refine ar_skip rfl rfl ?_
                            refine ar_pickF rfl rfl rfl rfl rfl ?_
                            refine ar_move rfl rfl rfl rfl ?_
                            refine ar_skip rfl rfl ?_
                            refine ar_skip rfl rfl ?_
                            refine ar_skip rfl rfl ?_
                            refine ar_skip rfl rfl ?_
                            refine ar_skip rfl rfl ?_
                            refine ar_skip rfl rfl ?_
                            refine ar_skip rfl rfl ?_
                            refine ar_skip rfl rfl ?_
                            refine ar_skip rfl rfl ?_
                            refine ar_pickF rfl rfl rfl rfl rfl ?_
                            refine ar_pickF rfl rfl rfl rfl rfl ?_
                            refine ar_nil ?_
                            refine then_n ?_
                            refine wp_condF rfl ?_
                            refine wp_skip ?_
                            refine inblk_n ?_
                            refine then_n ?_
                            refine wp_reg (by kernel_rfl) ?_
                            refine ar_move rfl rfl rfl rfl ?_
                            refine ar_addi rfl rfl rfl rfl (by omega) (by omega) rfl rfl ?_
                            refine ar_assign rfl rfl rfl rfl ?_
                            refine ar_nil ?_
                            exact loop_n (j1 + 1) ⟨by omega, fun q hq => (Nat.lt_succ_iff_lt_or_eq.1 hq).elim (hj1b q) (fun e => e ▸ ⟨by omega, by omega, by omega⟩)⟩ (by omega) (le_to ⟨rfl, rfl, rfl, trivial⟩ ⟨rfl, trivial⟩ rfl rfl rfl rfl)
                    · refine ar_nil ?_
                      refine then_n ?_
                      refine wp_condF rfl ?_
                      refine wp_exit ?_
                      refine then_x (loop_x (inblk_e ?_))
                      refine then_n ?_
                      refine wp_seq ?_
                      refine wp_seq ?_
                      refine wp_reg (by kernel_rfl) ?_
                      refine ar_assign rfl rfl rfl rfl ?_
                      refine ar_nil ?_
                      refine then_n ?_
                      refine wp_block ?_
                      refine wp_loop (α := Nat) (fun j2 => mk [(1, .ptr 1 0), (3, .v (.int .i64 (varsS a))), (9, .v (.int .i64 (j2 : Nat)))] [(1, .box ((encA a).map .v))] 0) (fun j2 => j2 ≤ a.g.length ∧ ∀ q, q < j2 → gateR a q (a.g.getD q default)) (fun j2 => a.g.length - j2) 0 ⟨Nat.zero_le _, fun q hq => absurd hq (Nat.not_lt_zero q)⟩ (le_to ⟨rfl, rfl, rfl, trivial⟩ ⟨rfl, trivial⟩ rfl rfl rfl rfl) ?_
                      rintro j2 ⟨hj2a, hj2b⟩
                      refine wp_seq ?_
                      refine wp_seq ?_
                      refine wp_reg (by kernel_rfl) ?_
                      refine ar_move rfl rfl rfl rfl ?_
                      refine ar_fa tab_ok rfl rfl rfl tb27 rfl rfl rfl rfl rfl ?_
                      refine ar_ld tab_ok rfl rfl rfl tb23 rfl rfl rfl rfl rfl ?_
                      refine ar_len tab_ok rfl rfl tb23 rfl len_map rfl rfl ?_
                      refine ar_lss_s rfl rfl rfl rfl rfl (fun h118 => ?_) (fun h118 => ?_)
                      · refine ar_nil ?_
                        refine then_n ?_
                        refine wp_condT rfl ?_
                        refine wp_skip ?_
                        refine then_n ?_
                        refine wp_seq ?_
                        refine wp_block ?_
                        refine wp_seq ?_
                        refine wp_reg (by kernel_rfl) ?_
                        refine ar_fa tab_ok rfl rfl rfl tb27 rfl rfl rfl rfl rfl ?_
                        refine ar_ld tab_ok rfl rfl rfl tb23 rfl rfl rfl rfl rfl ?_
                        refine ar_move rfl rfl rfl rfl ?_
                        refine ar_ia tab_ok rfl rfl rfl tb23 rfl tb58 (by omega) (map_get (n := j2) (by omega)) rfl rfl rfl ?_
                        refine ar_ld_refa tab_ok rfl rfl tb58 rfl rfl rfl rfl rfl ?_
                        refine ar_alloc (id := 10) tab_ok rfl rfl tb58 rfl rfl rfl rfl ?_
                        refine ar_st [] tab_ok rfl tb58 rfl rfl rfl trivial rfl rfl rfl rfl rfl rfl rfl rfl ?_
                        refine ar_nil ?_
                        refine then_n ?_
                        refine wp_seq ?_
                        refine wp_reg (by kernel_rfl) ?_
                        refine ar_fa tab_ok rfl rfl rfl tb58 rfl rfl rfl rfl rfl ?_
                        refine ar_ld tab_ok rfl rfl rfl tb3 rfl rfl rfl rfl rfl ?_
                        refine ar_lss_s rfl rfl rfl rfl rfl (fun h128 => ?_) (fun h128 => ?_)
                        · refine ar_move rfl rfl rfl rfl ?_
                          refine ar_skip rfl rfl ?_
                          refine ar_skip rfl rfl ?_
                          refine ar_skip rfl rfl ?_
                          refine ar_skip rfl rfl ?_
                          refine ar_skip rfl rfl ?_
                          refine ar_pickT rfl rfl rfl rfl rfl ?_
                          refine ar_move rfl rfl rfl rfl ?_
                          refine ar_skip rfl rfl ?_
                          refine ar_skip rfl rfl ?_
                          refine ar_skip rfl rfl ?_
                          refine ar_skip rfl rfl ?_
                          refine ar_skip rfl rfl ?_
                          refine ar_skip rfl rfl ?_
                          refine ar_skip rfl rfl ?_
                          refine ar_skip rfl rfl ?_
                          refine ar_skip rfl rfl ?_
                          refine ar_skip rfl rfl ?_
                          refine ar_skip rfl rfl ?_
                          refine ar_skip rfl rfl ?_
                          refine ar_skip rfl rfl ?_
                          refine ar_pickT rfl rfl rfl rfl rfl ?_
                          refine ar_nil ?_
                          refine then_n ?_
                          refine wp_condT rfl ?_
                          refine wp_seq ?_
                          refine wp_reg (by kernel_rfl) ?_
                          refine ar_assign rfl rfl rfl rfl ?_
                          refine ar_nil ?_
                          refine then_n ?_
                          refine wp_ret ?_
                          refine inblk_r (then_r (loop_r (inblk_r (then_r (ret_postE rfl rfl ?_)))))
                          exact ⟨_, rfl, fun h => by cases h⟩
                        · refine ar_move rfl rfl rfl rfl ?_
                          refine ar_fa tab_ok rfl rfl rfl tb58 rfl rfl rfl rfl rfl ?_
                          refine ar_ld tab_ok rfl rfl rfl tb3 rfl rfl rfl rfl rfl ?_
                          refine ar_fa tab_ok rfl rfl rfl tb58 rfl rfl rfl rfl rfl ?_
                          refine ar_ld tab_ok rfl rfl rfl tb3 rfl rfl rfl rfl rfl ?_
                          refine ar_gtr_s rfl rfl rfl rfl rfl (fun h134 => ?_) (fun h134 => ?_)
                          · refine ar_pickF rfl rfl rfl rfl rfl ?_
                            refine ar_move rfl rfl rfl rfl ?_
                            refine ar_skip rfl rfl ?_
                            refine ar_skip rfl rfl ?_
                            refine ar_skip rfl rfl ?_
                            refine ar_skip rfl rfl ?_
                            refine ar_skip rfl rfl ?_
                            refine ar_skip rfl rfl ?_
                            refine ar_skip rfl rfl ?_
                            refine ar_skip rfl rfl ?_
                            refine ar_skip rfl rfl ?_
                            refine ar_skip rfl rfl ?_
                            refine ar_skip rfl rfl ?_
                            refine ar_skip rfl rfl ?_
                            refine ar_skip rfl rfl ?_
                            refine ar_pickT rfl rfl rfl rfl rfl ?_
                            refine ar_nil ?_
                            refine then_n ?_
                            refine wp_condT rfl ?_
                            refine wp_seq ?_
                            refine wp_reg (by kernel_rfl) ?_
                            refine ar_assign rfl rfl rfl rfl ?_
                            refine ar_nil ?_
                            refine then_n ?_
                            refine wp_ret ?_
                            refine inblk_r (then_r (loop_r (inblk_r (then_r (ret_postE rfl rfl ?_)))))
                            exact ⟨_, rfl, fun h => by cases h⟩
                          · refine ar_pickF rfl rfl rfl rfl rfl ?_
                            refine ar_move rfl rfl rfl rfl ?_
                            refine ar_fa tab_ok rfl rfl rfl tb58 rfl rfl rfl rfl rfl ?_
                            refine ar_ld tab_ok rfl rfl rfl tb3 rfl rfl rfl rfl rfl ?_
                            refine ar_fa tab_ok rfl rfl rfl tb27 rfl rfl rfl rfl rfl ?_
                            refine ar_ld tab_ok rfl rfl rfl tb3 rfl rfl rfl rfl rfl ?_
                            refine ar_fa tab_ok rfl rfl rfl tb27 rfl rfl rfl rfl rfl ?_
                            refine ar_ld tab_ok rfl rfl rfl tb22 rfl rfl rfl rfl rfl ?_
                            refine ar_len tab_ok rfl rfl tb22 rfl len_map rfl rfl ?_
                            refine ar_addi rfl rfl rfl rfl (by omega) (by omega) rfl rfl ?_
                            refine ar_move rfl rfl rfl rfl ?_
                            refine ar_addi rfl rfl rfl rfl (by omega) (by omega) rfl rfl ?_
                            refine ar_addi rfl rfl rfl rfl (by omega) (by omega) rfl rfl ?_
                            refine ar_muli rfl rfl rfl rfl (by omega) (by omega) rfl rfl ?_
                            refine ar_geq_s rfl rfl rfl rfl rfl (fun h149 => ?_) (fun h149 => ?_)
                            · refine ar_pickF rfl rfl rfl rfl rfl ?_
                              refine ar_nil ?_
                              refine then_n ?_
                              refine wp_condT rfl ?_
                              refine wp_seq ?_
                              refine wp_reg (by kernel_rfl) ?_
                              refine ar_assign rfl rfl rfl rfl ?_
                              refine ar_nil ?_
                              refine then_n ?_
                              refine wp_ret ?_
                              refine inblk_r (then_r (loop_r (inblk_r (then_r (ret_postE rfl rfl ?_)))))
                              exact ⟨_, rfl, fun h => by cases h⟩
                            · refine ar_pickF rfl rfl rfl rfl rfl ?_
                              refine ar_nil ?_
                              refine then_n ?_
                              refine wp_condF rfl ?_
                              refine wp_skip ?_
                              refine inblk_n ?_
                              refine then_n ?_
                              refine wp_reg (by kernel_rfl) ?_
                              refine ar_move rfl rfl rfl rfl ?_
                              refine ar_addi rfl rfl rfl rfl (by omega) (by omega) rfl rfl ?_
                              refine ar_assign rfl rfl rfl rfl ?_
                              refine ar_nil ?_
                              exact loop_n (j2 + 1) ⟨by omega, fun q hq => (Nat.lt_succ_iff_lt_or_eq.1 hq).elim (hj2b q) (fun e => e ▸ ⟨by omega, by omega, by omega⟩)⟩ (by omega) (le_to ⟨rfl, rfl, rfl, trivial⟩ ⟨rfl, trivial⟩ rfl rfl rfl rfl)
                      · refine ar_nil ?_
                        refine then_n ?_
                        refine wp_condF rfl ?_
                        refine wp_exit ?_
                        refine then_x (loop_x (inblk_e ?_))
                        refine then_n ?_
                        refine wp_seq ?_
                        refine wp_seq ?_
                        refine wp_reg (by kernel_rfl) ?_
                        refine ar_assign rfl rfl rfl rfl ?_
                        refine ar_nil ?_
                        refine then_n ?_
                        refine wp_block ?_
                        refine wp_loop (α := Nat) (fun j3 => mk [(1, .ptr 1 0), (3, .v (.int .i64 (varsS a))), (11, .v (.int .i64 (j3 : Nat)))] [(1, .box ((encA a).map .v))] 0) (fun j3 => j3 ≤ a.names.length ∧ ∀ q, q < j3 → True) (fun j3 => a.names.length - j3) 0 ⟨Nat.zero_le _, fun q hq => absurd hq (Nat.not_lt_zero q)⟩ (le_to ⟨rfl, rfl, rfl, trivial⟩ ⟨rfl, trivial⟩ rfl rfl rfl rfl) ?_
                        rintro j3 ⟨hj3a, hj3b⟩
                        refine wp_seq ?_
                        refine wp_seq ?_
                        refine wp_reg (by kernel_rfl) ?_
                        refine ar_move rfl rfl rfl rfl ?_
                        refine ar_fa tab_ok rfl rfl rfl tb27 rfl rfl rfl rfl rfl ?_
                        refine ar_ld tab_ok rfl rfl rfl tb25 rfl rfl rfl rfl rfl ?_
                        refine ar_len tab_ok rfl rfl tb25 rfl len_map rfl rfl ?_
                        refine ar_lss_s rfl rfl rfl rfl rfl (fun h155 => ?_) (fun h155 => ?_)
                        · refine ar_nil ?_
                          refine then_n ?_
                          refine wp_condT rfl ?_
                          refine wp_skip ?_
                          refine then_n ?_
                          refine wp_seq ?_
                          refine wp_block ?_
                          refine wp_seq ?_
                          refine wp_reg (by kernel_rfl) ?_
                          refine ar_fa tab_ok rfl rfl rfl tb27 rfl rfl rfl rfl rfl ?_
                          refine ar_ld tab_ok rfl rfl rfl tb25 rfl rfl rfl rfl rfl ?_
                          refine ar_move rfl rfl rfl rfl ?_
                          refine ar_ia tab_ok rfl rfl rfl tb25 rfl tb171 (by omega) (map_get (n := j3) (by omega)) rfl rfl rfl ?_
                          refine ar_ld_refa tab_ok rfl rfl tb171 rfl rfl rfl rfl rfl ?_
                          refine ar_alloc (id := 12) tab_ok rfl rfl tb171 rfl rfl rfl rfl ?_
                          refine ar_st [] tab_ok rfl tb171 rfl rfl rfl trivial rfl rfl rfl rfl rfl rfl rfl rfl ?_
                          refine ar_nil ?_
                          refine then_n ?_
                          refine wp_seq ?_
                          refine wp_reg (by kernel_rfl) ?_
                          refine ar_fa tab_ok rfl rfl rfl tb171 rfl rfl rfl rfl rfl ?_
                          refine ar_ld tab_ok rfl rfl rfl tb9 rfl rfl rfl rfl rfl ?_
                          refine ar_callE [] (pce_131 (a.names.getD j3 default).s (hf.s j3 (by omega))) rfl rfl rfl rfl rfl rfl trivial (.inl rfl) rfl rfl rfl ?_
                          rintro _ ⟨b165, rfl⟩
                          refine ar_split (fun h165 => ?_) (fun h165 => ?_)
                          · refine ar_assign rfl rfl rfl rfl ?_
                            refine ar_nil ?_
                            refine then_n ?_
                            refine wp_seq ?_
                            refine wp_seq ?_
                            refine wp_draw (L := [([], []), ([], []), ([], []), ([12], []), ([12], []), ([], []), ([], []), ([], []), ([12], []), ([12], []), ([1], []), ([12], []), ([12], []), ([], []), ([], []), ([], []), ([], [])]) (by kernel_rfl) mixed (by kernel_rfl) ?_
                            refine ar_move rfl rfl rfl rfl ?_
                            refine ar_not rfl rfl rfl rfl rfl ?_
                            refine ar_move rfl rfl rfl rfl ?_
                            refine ar_fa tab_ok rfl rfl rfl tb171 rfl rfl rfl rfl rfl ?_
                            refine ar_ld tab_ok rfl rfl rfl tb3 rfl rfl rfl rfl rfl ?_
                            refine ar_lss_s rfl rfl rfl rfl rfl (fun h171 => ?_) (fun h171 => ?_)
                            · refine ar_pickF rfl rfl rfl rfl rfl ?_
                              refine ar_move rfl rfl rfl rfl ?_
                              refine ar_skip rfl rfl ?_
                              refine ar_skip rfl rfl ?_
                              refine ar_skip rfl rfl ?_
                              refine ar_skip rfl rfl ?_
                              refine ar_skip rfl rfl ?_
                              refine ar_skip rfl rfl ?_
                              refine ar_skip rfl rfl ?_
                              refine ar_skip rfl rfl ?_
                              refine ar_pickT rfl rfl rfl rfl rfl ?_
                              refine ar_nil ?_
                              refine then_n ?_
                              refine wp_condT rfl ?_
                              refine wp_seq ?_
                              refine wp_reg (by kernel_rfl) ?_
                              refine ar_assign rfl rfl rfl rfl ?_
                              refine ar_nil ?_
                              refine then_n ?_
                              refine wp_ret ?_
                              refine then_r (inblk_r (then_r (loop_r (inblk_r (then_r (ret_postE rfl rfl ?_))))))
                              exact ⟨_, rfl, fun h => by cases h⟩
                            · refine ar_pickF rfl rfl rfl rfl rfl ?_
                              refine ar_move rfl rfl rfl rfl ?_
                              refine ar_fa tab_ok rfl rfl rfl tb171 rfl rfl rfl rfl rfl ?_
                              refine ar_ld tab_ok rfl rfl rfl tb3 rfl rfl rfl rfl rfl ?_
                              refine ar_lda tab_ok rfl rfl rfl tb27 rfl rfl rfl rfl rfl rfl ?_
                              refine ar_fa tab_ok rfl rfl rfl tb171 rfl rfl rfl rfl rfl ?_
                              refine ar_ld tab_ok rfl rfl rfl tb5 rfl rfl rfl rfl rfl ?_
                              refine ar_call [] (pc_133 _) rfl rfl rfl rfl rfl rfl trivial (.inl rfl) rfl rfl rfl ?_
                              refine ar_call [] (pc_132 _ _) rfl rfl rfl rfl rfl rfl trivial (.inl rfl) rfl rfl rfl ?_
                              refine ar_geq_s rfl rfl rfl rfl rfl (fun h181 => ?_) (fun h181 => ?_)
                              · refine ar_pickF rfl rfl rfl rfl rfl ?_
                                refine ar_nil ?_
                                refine then_n ?_
                                refine wp_condT rfl ?_
                                refine wp_seq ?_
                                refine wp_reg (by kernel_rfl) ?_
                                refine ar_assign rfl rfl rfl rfl ?_
                                refine ar_nil ?_
                                refine then_n ?_
                                refine wp_ret ?_
                                refine then_r (inblk_r (then_r (loop_r (inblk_r (then_r (ret_postE rfl rfl ?_))))))
                                exact ⟨_, rfl, fun h => by cases h⟩
                              · refine ar_pickF rfl rfl rfl rfl rfl ?_
                                refine ar_nil ?_
                                refine then_n ?_
                                refine wp_condF rfl ?_
                                refine wp_skip ?_
                                refine then_n ?_
                                refine wp_seq ?_
                                refine wp_reg (by kernel_rfl) ?_
                                refine ar_move rfl rfl rfl rfl ?_
                                refine ar_gtr_s rfl rfl rfl rfl rfl (fun h184 => ?_) (fun h184 => ?_)
                                · refine ar_nil ?_
                                  refine then_n ?_
                                  refine wp_condT rfl ?_
                                  refine wp_seq ?_
                                  refine wp_draw (L := [([1], []), ([1], []), ([], []), ([], []), ([], []), ([], []), ([12], []), ([], []), ([], [])]) (by kernel_rfl) mixed (by kernel_rfl) ?_
                                  refine ar_fa tab_ok rfl rfl rfl tb27 rfl rfl rfl rfl rfl ?_
                                  refine ar_ld tab_ok rfl rfl rfl tb25 rfl rfl rfl rfl rfl ?_
                                  refine ar_move rfl rfl rfl rfl ?_
                                  refine ar_subi rfl rfl rfl rfl (by omega) (by omega) rfl rfl ?_
                                  refine ar_ia tab_ok rfl rfl rfl tb25 rfl tb171 (by omega) (map_get (by omega)) rfl rfl rfl ?_
                                  refine ar_ld_refa tab_ok rfl rfl tb171 rfl rfl rfl rfl rfl ?_
                                  refine ar_lda tab_ok rfl rfl rfl tb171 rfl rfl rfl rfl rfl rfl ?_
                                  refine ar_call [] (pc_134 _ _) rfl rfl rfl rfl rfl rfl trivial (.inl rfl) rfl rfl rfl ?_
                                  refine ar_split (fun h192 => ?_) (fun h192 => ?_)
                                  · refine ar_assign rfl rfl rfl rfl ?_
                                    refine ar_nil ?_
                                    refine then_n ?_
                                    refine wp_seq ?_
                                    refine wp_reg (by kernel_rfl) ?_
                                    refine ar_move rfl rfl rfl rfl ?_
                                    refine ar_not rfl rfl rfl rfl rfl ?_
                                    refine ar_nil ?_
                                    refine then_n ?_
                                    refine wp_condF rfl ?_
                                    refine wp_skip ?_
                                    refine inblk_n ?_
                                    refine then_n ?_
                                    refine wp_reg (by kernel_rfl) ?_
                                    refine ar_move rfl rfl rfl rfl ?_
                                    refine ar_addi rfl rfl rfl rfl (by omega) (by omega) rfl rfl ?_
                                    refine ar_assign rfl rfl rfl rfl ?_
                                    refine ar_nil ?_
                                    exact loop_n (j3 + 1) ⟨by omega, fun _ _ => trivial⟩ (by omega) (le_to ⟨rfl, rfl, rfl, trivial⟩ ⟨rfl, trivial⟩ rfl rfl rfl rfl)
                                  · refine ar_assign rfl rfl rfl rfl ?_
                                    refine ar_nil ?_
                                    refine then_n ?_
                                    refine wp_seq ?_
                                    refine wp_reg (by kernel_rfl) ?_
                                    refine ar_move rfl rfl rfl rfl ?_
                                    refine ar_not rfl rfl rfl rfl rfl ?_
                                    refine ar_nil ?_
                                    refine then_n ?_
                                    refine wp_condT rfl ?_
                                    refine wp_seq ?_
                                    refine wp_reg (by kernel_rfl) ?_
                                    refine ar_assign rfl rfl rfl rfl ?_
                                    refine ar_nil ?_
                                    refine then_n ?_
                                    refine wp_ret ?_
                                    refine inblk_r (then_r (loop_r (inblk_r (then_r (ret_postE rfl rfl ?_)))))
                                    exact ⟨_, rfl, fun h => by cases h⟩
                                · refine ar_nil ?_
                                  refine then_n ?_
                                  refine wp_condF rfl ?_
                                  refine wp_skip ?_
                                  refine inblk_n ?_
                                  refine then_n ?_
                                  refine wp_reg (by kernel_rfl) ?_
                                  refine ar_move rfl rfl rfl rfl ?_
                                  refine ar_addi rfl rfl rfl rfl (by omega) (by omega) rfl rfl ?_
                                  refine ar_assign rfl rfl rfl rfl ?_
                                  refine ar_nil ?_
                                  exact loop_n (j3 + 1) ⟨by omega, fun _ _ => trivial⟩ (by omega) (le_to ⟨rfl, rfl, rfl, trivial⟩ ⟨rfl, trivial⟩ rfl rfl rfl rfl)
                          · refine ar_assign rfl rfl rfl rfl ?_
                            refine ar_nil ?_
                            refine then_n ?_
                            refine wp_seq ?_
                            refine wp_seq ?_
                            refine wp_draw (L := [([], []), ([], []), ([], []), ([12], []), ([12], []), ([], []), ([], []), ([], []), ([12], []), ([12], []), ([1], []), ([12], []), ([12], []), ([], []), ([], []), ([], []), ([], [])]) (by kernel_rfl) mixed (by kernel_rfl) ?_
                            refine ar_move rfl rfl rfl rfl ?_
                            refine ar_not rfl rfl rfl rfl rfl ?_
                            refine ar_move rfl rfl rfl rfl ?_
                            refine ar_skip rfl rfl ?_
                            refine ar_skip rfl rfl ?_
                            refine ar_skip rfl rfl ?_
                            refine ar_pickT rfl rfl rfl rfl rfl ?_
                            refine ar_move rfl rfl rfl rfl ?_
                            refine ar_skip rfl rfl ?_
                            refine ar_skip rfl rfl ?_
                            refine ar_skip rfl rfl ?_
                            refine ar_skip rfl rfl ?_
                            refine ar_skip rfl rfl ?_
                            refine ar_skip rfl rfl ?_
                            refine ar_skip rfl rfl ?_
                            refine ar_skip rfl rfl ?_
                            refine ar_pickT rfl rfl rfl rfl rfl ?_
                            refine ar_nil ?_
                            refine then_n ?_
                            refine wp_condT rfl ?_
                            refine wp_seq ?_
                            refine wp_reg (by kernel_rfl) ?_
                            refine ar_assign rfl rfl rfl rfl ?_
                            refine ar_nil ?_
                            refine then_n ?_
                            refine wp_ret ?_
                            refine then_r (inblk_r (then_r (loop_r (inblk_r (then_r (ret_postE rfl rfl ?_))))))
                            exact ⟨_, rfl, fun h => by cases h⟩
                        · refine ar_nil ?_
                          refine then_n ?_
                          refine wp_condF rfl ?_
                          refine wp_exit ?_
                          refine then_x (loop_x (inblk_e ?_))
                          refine then_n ?_
                          refine wp_seq ?_
                          refine wp_reg (by kernel_rfl) ?_
                          refine ar_assign rfl rfl rfl rfl ?_
                          refine ar_nil ?_
                          refine then_n ?_
                          refine wp_ret ?_
                          refine ret_postE rfl rfl ?_
                          refine ⟨_, rfl, fun _ => ⟨by omega, hb51 h51, hb55 h55, hb59 h59, fun q hq => hj1b q (by omega), fun q hq => hj2b q (by omega)⟩⟩
                  · refine ar_assign rfl rfl rfl rfl ?_
                    refine ar_nil ?_
                    refine then_n ?_
                    refine wp_seq ?_
                    refine wp_seq ?_
                    refine wp_reg (by kernel_rfl) ?_
                    refine ar_move rfl rfl rfl rfl ?_
                    refine ar_not rfl rfl rfl rfl rfl ?_
                    refine ar_move rfl rfl rfl rfl ?_
                    refine ar_move rfl rfl rfl rfl ?_
                    refine ar_not rfl rfl rfl rfl rfl ?_
                    refine ar_pickF rfl rfl rfl rfl rfl ?_
                    refine ar_move rfl rfl rfl rfl ?_
                    refine ar_move rfl rfl rfl rfl ?_
                    refine ar_not rfl rfl rfl rfl rfl ?_
                    refine ar_pickF rfl rfl rfl rfl rfl ?_
                    refine ar_nil ?_
                    refine then_n ?_
                    refine wp_condT rfl ?_
                    refine wp_seq ?_
                    refine wp_reg (by kernel_rfl) ?_
                    refine ar_assign rfl rfl rfl rfl ?_
                    refine ar_nil ?_
                    refine then_n ?_
                    refine wp_ret ?_
                    refine then_r (ret_postE rfl rfl ?_)
                    exact ⟨_, rfl, fun h => by cases h⟩
                · refine ar_assign rfl rfl rfl rfl ?_
                  refine ar_nil ?_
                  refine then_n ?_
                  refine wp_seq ?_
                  refine wp_reg (by kernel_rfl) ?_
                  refine ar_fa tab_ok rfl rfl rfl tb27 rfl rfl rfl rfl rfl ?_
                  refine ar_ld tab_ok rfl rfl rfl tb24 rfl rfl rfl rfl rfl ?_
                  refine ar_move rfl rfl rfl rfl ?_
                  refine ar_callE [] (pce_130 a.con (varsS a) hf.c (by omega) (by omega)) rfl rfl rfl rfl rfl rfl trivial (.inl rfl) rfl rfl rfl ?_
                  rintro _ ⟨b59, rfl, hb59⟩
                  refine ar_split (fun h59 => ?_) (fun h59 => ?_)
                  · refine ar_assign rfl rfl rfl rfl ?_
                    refine ar_nil ?_
                    refine then_n ?_
                    refine wp_seq ?_
                    refine wp_seq ?_
                    refine wp_reg (by kernel_rfl) ?_
                    refine ar_move rfl rfl rfl rfl ?_
                    refine ar_not rfl rfl rfl rfl rfl ?_
                    refine ar_move rfl rfl rfl rfl ?_
                    refine ar_move rfl rfl rfl rfl ?_
                    refine ar_not rfl rfl rfl rfl rfl ?_
                    refine ar_pickF rfl rfl rfl rfl rfl ?_
                    refine ar_move rfl rfl rfl rfl ?_
                    refine ar_skip rfl rfl ?_
                    refine ar_skip rfl rfl ?_
                    refine ar_pickT rfl rfl rfl rfl rfl ?_
                    refine ar_nil ?_
                    refine then_n ?_
                    refine wp_condT rfl ?_
                    refine wp_seq ?_
                    refine wp_reg (by kernel_rfl) ?_
                    refine ar_assign rfl rfl rfl rfl ?_
                    refine ar_nil ?_
                    refine then_n ?_
                    refine wp_ret ?_
                    refine then_r (ret_postE rfl rfl ?_)
                    exact ⟨_, rfl, fun h => by cases h⟩
                  · refine ar_assign rfl rfl rfl rfl ?_
                    refine ar_nil ?_
                    refine then_n ?_
                    refine wp_seq ?_
                    refine wp_seq ?_
                    refine wp_reg (by kernel_rfl) ?_
                    refine ar_move rfl rfl rfl rfl ?_
                    refine ar_not rfl rfl rfl rfl rfl ?_
                    refine ar_move rfl rfl rfl rfl ?_
                    refine ar_move rfl rfl rfl rfl ?_
                    refine ar_not rfl rfl rfl rfl rfl ?_
                    refine ar_pickF rfl rfl rfl rfl rfl ?_
                    refine ar_move rfl rfl rfl rfl ?_
                    refine ar_skip rfl rfl ?_
                    refine ar_skip rfl rfl ?_
                    refine ar_pickT rfl rfl rfl rfl rfl ?_
                    refine ar_nil ?_
                    refine then_n ?_
                    refine wp_condT rfl ?_
                    refine wp_seq ?_
                    refine wp_reg (by kernel_rfl) ?_
                    refine ar_assign rfl rfl rfl rfl ?_
                    refine ar_nil ?_
                    refine then_n ?_
                    refine wp_ret ?_
                    refine then_r (ret_postE rfl rfl ?_)
                    exact ⟨_, rfl, fun h => by cases h⟩
              · refine ar_assign rfl rfl rfl rfl ?_
                refine ar_nil ?_
                refine then_n ?_
                refine wp_seq ?_
                refine wp_reg (by kernel_rfl) ?_
                refine ar_fa tab_ok rfl rfl rfl tb27 rfl rfl rfl rfl rfl ?_
                refine ar_ld tab_ok rfl rfl rfl tb24 rfl rfl rfl rfl rfl ?_
                refine ar_move rfl rfl rfl rfl ?_
                refine ar_callE [] (pce_130 a.bad (varsS a) hf.b (by omega) (by omega)) rfl rfl rfl rfl rfl rfl trivial (.inl rfl) rfl rfl rfl ?_
                rintro _ ⟨b55, rfl, hb55⟩
                refine ar_split (fun h55 => ?_) (fun h55 => ?_)
                · refine ar_assign rfl rfl rfl rfl ?_
                  refine ar_nil ?_
                  refine then_n ?_
                  refine wp_seq ?_
                  refine wp_reg (by kernel_rfl) ?_
                  refine ar_fa tab_ok rfl rfl rfl tb27 rfl rfl rfl rfl rfl ?_
                  refine ar_ld tab_ok rfl rfl rfl tb24 rfl rfl rfl rfl rfl ?_
                  refine ar_move rfl rfl rfl rfl ?_
                  refine ar_callE [] (pce_130 a.con (varsS a) hf.c (by omega) (by omega)) rfl rfl rfl rfl rfl rfl trivial (.inl rfl) rfl rfl rfl ?_
                  rintro _ ⟨b59, rfl, hb59⟩
                  refine ar_split (fun h59 => ?_) (fun h59 => ?_)
                  · refine ar_assign rfl rfl rfl rfl ?_
                    refine ar_nil ?_
                    refine then_n ?_
                    refine wp_seq ?_
                    refine wp_seq ?_
                    refine wp_reg (by kernel_rfl) ?_
                    refine ar_move rfl rfl rfl rfl ?_
                    refine ar_not rfl rfl rfl rfl rfl ?_
                    refine ar_move rfl rfl rfl rfl ?_
                    refine ar_skip rfl rfl ?_
                    refine ar_skip rfl rfl ?_
                    refine ar_pickT rfl rfl rfl rfl rfl ?_
                    refine ar_move rfl rfl rfl rfl ?_
                    refine ar_skip rfl rfl ?_
                    refine ar_skip rfl rfl ?_
                    refine ar_pickT rfl rfl rfl rfl rfl ?_
                    refine ar_nil ?_
                    refine then_n ?_
                    refine wp_condT rfl ?_
                    refine wp_seq ?_
                    refine wp_reg (by kernel_rfl) ?_
                    refine ar_assign rfl rfl rfl rfl ?_
                    refine ar_nil ?_
                    refine then_n ?_
                    refine wp_ret ?_
                    refine then_r (ret_postE rfl rfl ?_)
                    exact ⟨_, rfl, fun h => by cases h⟩
                  · refine ar_assign rfl rfl rfl rfl ?_
                    refine ar_nil ?_
                    refine then_n ?_
                    refine wp_seq ?_
                    refine wp_seq ?_
                    refine wp_reg (by kernel_rfl) ?_
                    refine ar_move rfl rfl rfl rfl ?_
                    refine ar_not rfl rfl rfl rfl rfl ?_
                    refine ar_move rfl rfl rfl rfl ?_
                    refine ar_skip rfl rfl ?_
                    refine ar_skip rfl rfl ?_
                    refine ar_pickT rfl rfl rfl rfl rfl ?_
                    refine ar_move rfl rfl rfl rfl ?_
                    refine ar_skip rfl rfl ?_
                    refine ar_skip rfl rfl ?_
                    refine ar_pickT rfl rfl rfl rfl rfl ?_
                    refine ar_nil ?_
                    refine then_n ?_
                    refine wp_condT rfl ?_
                    refine wp_seq ?_
                    refine wp_reg (by kernel_rfl) ?_
                    refine ar_assign rfl rfl rfl rfl ?_
                    refine ar_nil ?_
                    refine then_n ?_
                    refine wp_ret ?_
                    refine then_r (ret_postE rfl rfl ?_)
                    exact ⟨_, rfl, fun h => by cases h⟩
                · refine ar_assign rfl rfl rfl rfl ?_
                  refine ar_nil ?_
                  refine then_n ?_
                  refine wp_seq ?_
                  refine wp_reg (by kernel_rfl) ?_
                  refine ar_fa tab_ok rfl rfl rfl tb27 rfl rfl rfl rfl rfl ?_
                  refine ar_ld tab_ok rfl rfl rfl tb24 rfl rfl rfl rfl rfl ?_
                  refine ar_move rfl rfl rfl rfl ?_
                  refine ar_callE [] (pce_130 a.con (varsS a) hf.c (by omega) (by omega)) rfl rfl rfl rfl rfl rfl trivial (.inl rfl) rfl rfl rfl ?_
                  rintro _ ⟨b59, rfl, hb59⟩
                  refine ar_split (fun h59 => ?_) (fun h59 => ?_)
                  · refine ar_assign rfl rfl rfl rfl ?_
                    refine ar_nil ?_
                    refine then_n ?_
                    refine wp_seq ?_
                    refine wp_seq ?_
                    refine wp_reg (by kernel_rfl) ?_
                    refine ar_move rfl rfl rfl rfl ?_
                    refine ar_not rfl rfl rfl rfl rfl ?_
                    refine ar_move rfl rfl rfl rfl ?_
                    refine ar_skip rfl rfl ?_
                    refine ar_skip rfl rfl ?_
                    refine ar_pickT rfl rfl rfl rfl rfl ?_
                    refine ar_move rfl rfl rfl rfl ?_
                    refine ar_skip rfl rfl ?_
                    refine ar_skip rfl rfl ?_
                    refine ar_pickT rfl rfl rfl rfl rfl ?_
                    refine ar_nil ?_
                    refine then_n ?_
                    refine wp_condT rfl ?_
                    refine wp_seq ?_
                    refine wp_reg (by kernel_rfl) ?_
                    refine ar_assign rfl rfl rfl rfl ?_
                    refine ar_nil ?_
                    refine then_n ?_
                    refine wp_ret ?_
                    refine then_r (ret_postE rfl rfl ?_)
                    exact ⟨_, rfl, fun h => by cases h⟩
                  · refine ar_assign rfl rfl rfl rfl ?_
                    refine ar_nil ?_
                    refine then_n ?_
                    refine wp_seq ?_
                    refine wp_seq ?_
                    refine wp_reg (by kernel_rfl) ?_
                    refine ar_move rfl rfl rfl rfl ?_
                    refine ar_not rfl rfl rfl rfl rfl ?_
                    refine ar_move rfl rfl rfl rfl ?_
                    refine ar_skip rfl rfl ?_
                    refine ar_skip rfl rfl ?_
                    refine ar_pickT rfl rfl rfl rfl rfl ?_
                    refine ar_move rfl rfl rfl rfl ?_
                    refine ar_skip rfl rfl ?_
                    refine ar_skip rfl rfl ?_
                    refine ar_pickT rfl rfl rfl rfl rfl ?_
                    refine ar_nil ?_
                    refine then_n ?_
                    refine wp_condT rfl ?_
                    refine wp_seq ?_
                    refine wp_reg (by kernel_rfl) ?_
                    refine ar_assign rfl rfl rfl rfl ?_
                    refine ar_nil ?_
                    refine then_n ?_
                    refine wp_ret ?_
                    refine then_r (ret_postE rfl rfl ?_)
                    exact ⟨_, rfl, fun h => by cases h⟩
theorem pce_30 (a : Aig) (hf : Fit a) : PCallE Try.prog 30 [aigV a] (fun r => ∃ b : Bool, r = .bool b ∧ (b = true → Good a)) := by
  refine pce_of tab_ok (f := 30) (fn := Try.f30) (N := 13) (rs := [.tmp 2]) (by kernel_rfl) rfl (by kernel_rfl) rfl rfl [(0, .v (aigV a))] ⟨rfl, trivial⟩ rfl rfl ?_
  intro B
  refine wp_seq ?_
  refine wp_reg (by kernel_rfl) ?_
  refine ar_box 1 [] rfl rfl rfl ⟨rfl, trivial⟩ rfl rfl rfl ?_
  refine ar_assign rfl rfl rfl rfl ?_
  refine ar_nil ?_
  refine then_n ?_
  refine wp_seq ?_
  refine wp_reg (by kernel_rfl) ?_
  refine ar_lda tab_ok rfl rfl rfl tb27 rfl rfl rfl rfl rfl rfl ?_
  refine ar_callE [] (pce_91 a 40 hf) rfl rfl rfl rfl rfl rfl trivial (.inl rfl) rfl rfl rfl ?_
  rintro _ ⟨b6, rfl, hb6⟩
  refine ar_split (fun h6 => ?_) (fun h6 => ?_)
  · refine ar_assign rfl rfl rfl rfl ?_
    refine ar_nil ?_
    refine then_n ?_
    refine wp_seq ?_
    refine wp_reg (by kernel_rfl) ?_
    refine ar_lda tab_ok rfl rfl rfl tb27 rfl rfl rfl rfl rfl rfl ?_
    refine ar_callE [] (pce_92 a hf) rfl rfl rfl rfl rfl rfl trivial (.inl rfl) rfl rfl rfl ?_
    rintro _ ⟨b8, rfl, hb8⟩
    refine ar_assign rfl rfl rfl rfl ?_
    refine ar_nil ?_
    refine then_n ?_
    refine wp_seq ?_
    refine wp_reg (by kernel_rfl) ?_
    refine ar_move rfl rfl rfl rfl ?_
    refine ar_move rfl rfl rfl rfl ?_
    refine ar_move rfl rfl rfl rfl ?_
    refine ar_pickT rfl rfl rfl rfl rfl ?_
    refine ar_assign rfl rfl rfl rfl ?_
    refine ar_nil ?_
    refine then_n ?_
    refine wp_ret ?_
    refine ret_postE rfl rfl ?_
    refine ⟨_, rfl, fun h => ⟨hb6 h6, hb8 h⟩⟩
  · refine ar_assign rfl rfl rfl rfl ?_
    refine ar_nil ?_
    refine then_n ?_
    refine wp_seq ?_
    refine wp_reg (by kernel_rfl) ?_
    refine ar_lda tab_ok rfl rfl rfl tb27 rfl rfl rfl rfl rfl rfl ?_
    refine ar_callE [] (pce_92 a hf) rfl rfl rfl rfl rfl rfl trivial (.inl rfl) rfl rfl rfl ?_
    rintro _ ⟨b8, rfl, hb8⟩
    refine ar_assign rfl rfl rfl rfl ?_
    refine ar_nil ?_
    refine then_n ?_
    refine wp_seq ?_
    refine wp_reg (by kernel_rfl) ?_
    refine ar_move rfl rfl rfl rfl ?_
    refine ar_move rfl rfl rfl rfl ?_
    refine ar_skip rfl rfl ?_
    refine ar_pickF rfl rfl rfl rfl rfl ?_
    refine ar_assign rfl rfl rfl rfl ?_
    refine ar_nil ?_
    refine then_n ?_
    refine wp_ret ?_
    refine ret_postE rfl rfl ?_
    exact ⟨_, rfl, fun h => by cases h⟩
end Go.Vd
namespace Go.Vd
open Go.Proofs Go.RowKit Go.ChangeShapes
theorem rd3 : Reads Try.prog 3 encI (fun n => -9223372036854775808 ≤ n ∧ n ≤ 9223372036854775807) := (reads_int (k := .i64) (by kernel_rfl)).map (fun n => n) (fun _ => rfl) (fun n h => h)
theorem rd5 : Reads Try.prog 5 encU (fun n => 0 ≤ n ∧ n ≤ 255) := (reads_int (k := .u8) (by kernel_rfl)).map (fun n => n) (fun _ => rfl) (fun n h => h)
theorem rd4 : Reads Try.prog 4 encB (fun _ => True) := reads_bool (by kernel_rfl)
theorem rd9 : Reads Try.prog 9 (fun s : ByteArray => [.str s]) (fun s => s.size ≤ 9223372036854775807) := reads_str (by kernel_rfl)
def lenOk {α : Type} (xs : List α) : Prop := xs.length ≤ 9223372036854775807
theorem rd28 : Reads Try.prog 28 (fun xs => [slB xs]) (fun xs => lenOk xs) := (reads_slice (e := 4) (sz := 1) (by kernel_rfl) (by kernel_rfl) (by decide) rd4 (fun _ => rfl)).map (fun x => x) (fun _ => rfl) (fun _ h => h.1)
theorem rd24 : Reads Try.prog 24 (fun xs => [slI xs]) (fun xs => lenOk xs) := (reads_slice (e := 3) (sz := 1) (by kernel_rfl) (by kernel_rfl) (by decide) rd3 (fun _ => rfl)).map (fun x => x) (fun _ => rfl) (fun _ h => h.1)
theorem rd63 : Reads Try.prog 63 encL (fun _ => True) :=
  (reads_struct (T := 63) (N := 2) (flds := [(0, 3), (1, 3)]) Try.underlying63 (by kernel_rfl) rfl (readsF_cons (sz := 1) (o' := 1) rd3 (by kernel_rfl) rfl (readsF_cons (sz := 1) (o' := 2) rd3 (by kernel_rfl) rfl (readsF_nil (Nat.le_refl _))))).map (fun p => ⟨p.1, p.2.1⟩) (fun _ => rfl) (fun _ _ => trivial)
theorem rd58 : Reads Try.prog 58 encG (fun _ => True) :=
  (reads_struct (T := 58) (N := 2) (flds := [(0, 3), (1, 3)]) Try.underlying58 (by kernel_rfl) rfl (readsF_cons (sz := 1) (o' := 1) rd3 (by kernel_rfl) rfl (readsF_cons (sz := 1) (o' := 2) rd3 (by kernel_rfl) rfl (readsF_nil (Nat.le_refl _))))).map (fun p => ⟨p.1, p.2.1⟩) (fun _ => rfl) (fun _ _ => trivial)
theorem rd171 : Reads Try.prog 171 encN (fun n => n.s.size ≤ 9223372036854775807) :=
  (reads_struct (T := 171) (N := 3) (flds := [(0, 5), (1, 3), (2, 9)]) Try.underlying171 (by kernel_rfl) rfl (readsF_cons (sz := 1) (o' := 1) rd5 (by kernel_rfl) rfl (readsF_cons (sz := 1) (o' := 2) rd3 (by kernel_rfl) rfl (readsF_cons (sz := 1) (o' := 3) rd9 (by kernel_rfl) rfl (readsF_nil (Nat.le_refl _)))))).map (fun p => ⟨p.1, p.2.1, p.2.2.1⟩) (fun _ => rfl) (fun _ h => h.2.2.1)
theorem rd22 : Reads Try.prog 22 (fun xs => [slL xs]) (fun xs => lenOk xs) := (reads_slice (e := 63) (sz := 2) (by kernel_rfl) (by kernel_rfl) (by decide) rd63 (fun _ => rfl)).map (fun x => x) (fun _ => rfl) (fun _ h => h.1)
theorem rd23 : Reads Try.prog 23 (fun xs => [slG xs]) (fun xs => lenOk xs) := (reads_slice (e := 58) (sz := 2) (by kernel_rfl) (by kernel_rfl) (by decide) rd58 (fun _ => rfl)).map (fun x => x) (fun _ => rfl) (fun _ h => h.1)
theorem rd25 : Reads Try.prog 25 (fun xs => [slN xs]) (fun xs => lenOk xs ∧ ∀ n, n ∈ xs → n.s.size ≤ 9223372036854775807) := (reads_slice (e := 171) (sz := 3) (by kernel_rfl) (by kernel_rfl) (by decide) rd171 (fun _ => rfl)).map (fun x => x) (fun _ => rfl) (fun _ h => h)
theorem rd27 : Reads Try.prog 27 encA Fit :=
  (reads_struct (T := 27) (N := 7) (flds := [(0, 3), (1, 22), (2, 23), (3, 24), (4, 24), (5, 24), (6, 25)]) Try.underlying27 (by kernel_rfl) rfl
    (readsF_cons (sz := 1) (o' := 1) rd3 (by kernel_rfl) rfl (readsF_cons (sz := 1) (o' := 2) rd22 (by kernel_rfl) rfl (readsF_cons (sz := 1) (o' := 3) rd23 (by kernel_rfl) rfl (readsF_cons (sz := 1) (o' := 4) rd24 (by kernel_rfl) rfl
      (readsF_cons (sz := 1) (o' := 5) rd24 (by kernel_rfl) rfl (readsF_cons (sz := 1) (o' := 6) rd24 (by kernel_rfl) rfl (readsF_cons (sz := 1) (o' := 7) rd25 (by kernel_rfl) rfl (readsF_nil (Nat.le_refl _)))))))))).map
    (fun p => ⟨p.1, p.2.1, p.2.2.1, p.2.2.2.1, p.2.2.2.2.1, p.2.2.2.2.2.1, p.2.2.2.2.2.2.1⟩) (fun _ => rfl)
    (fun _ ⟨_, h1, h2, h3, h4, h5, h6, _⟩ => ⟨h1, h2, h3, h4, h5, h6.1, fun j hj => h6.2 _ (by rw [List.getD_eq_getElem?_getD, List.getElem?_eq_getElem hj]; exact List.getElem_mem hj)⟩)
theorem ownK : ownKnob Try.prog.godebug = none := by kernel_rfl
theorem laidK : laidOutB Try.prog = true := by kernel_rfl
theorem and_t {a b : Bool} (h : a = true) (h' : b = true) : (a && b) = true := by rw [h, h']; rfl
theorem mapsK : mapsRowed Try.prog = true := by kernel_rfl
theorem stopsK : (Try.prog.stops == []) = true := by kernel_rfl
theorem knobsK : (Try.prog.stopKnobs == []) = true := by kernel_rfl
theorem heardK : Try.prog.stopsHeard = true := by kernel_rfl
/-- An argument reads behind the call as it did. -/
theorem stays {H : Type} {enc : TypeId × Value → H} {t : TypeId} (hr : Try.prog.readableRec t = true) (hrow : t < Try.prog.types.size) {W W' : World} {v : Value} {d : DataW H} {ps : List MemPlace}
    (h : DataW.Trod enc Try.prog W 0 (fun _ => true) true t v d ps) (hb : Below W.heap.size W W') (hlt : ∀ x ∈ ps, x.block < W.heap.size) {sp : Nat → Bool} (hs : ∀ x ∈ ps, sp x.block = true) : DataW.Trod enc Try.prog W' 0 sp true t v d ps :=
  WideElems.Trod_stays laidK hr hrow h (fun x hx => hb.same (hlt x hx)) hs
end Go.Vd
namespace Go.Vd
open Go.Proofs
theorem words_cons : ∀ (w r : List Char), w.all (fun c => !(c == Char.ofNat 32)) = true → wordsSigns (w ++ Char.ofNat 32 :: r) = w :: wordsSigns r
  | [], r, _ => rfl
  | c :: w, r, h => by
    simp only [List.all_cons, Bool.and_eq_true] at h
    have ih := words_cons w r h.2
    have hc : c ≠ Char.ofNat 32 := by simpa using h.1
    rw [List.cons_append, wordsSigns, ih]
    exact hc
def hdH : List Char := [Char.ofNat 104, Char.ofNat 97, Char.ofNat 114, Char.ofNat 110, Char.ofNat 101, Char.ofNat 115, Char.ofNat 115]
def hdS : List Char := [Char.ofNat 53, Char.ofNat 57, Char.ofNat 97, Char.ofNat 57, Char.ofNat 54, Char.ofNat 54, Char.ofNat 101, Char.ofNat 54, Char.ofNat 49, Char.ofNat 56, Char.ofNat 52, Char.ofNat 52, Char.ofNat 99, Char.ofNat 101, Char.ofNat 98, Char.ofNat 99, Char.ofNat 52, Char.ofNat 101, Char.ofNat 101, Char.ofNat 101, Char.ofNat 101, Char.ofNat 98, Char.ofNat 101, Char.ofNat 51, Char.ofNat 100, Char.ofNat 55, Char.ofNat 53, Char.ofNat 98, Char.ofNat 53, Char.ofNat 51, Char.ofNat 54, Char.ofNat 99, Char.ofNat 49, Char.ofNat 52, Char.ofNat 101, Char.ofNat 57, Char.ofNat 56, Char.ofNat 98, Char.ofNat 102, Char.ofNat 102, Char.ofNat 57, Char.ofNat 49, Char.ofNat 99, Char.ofNat 98, Char.ofNat 48, Char.ofNat 55, Char.ofNat 50, Char.ofNat 48, Char.ofNat 56, Char.ofNat 97, Char.ofNat 49, Char.ofNat 51, Char.ofNat 57, Char.ofNat 97, Char.ofNat 48, Char.ofNat 98, Char.ofNat 48, Char.ofNat 101, Char.ofNat 102, Char.ofNat 50, Char.ofNat 102, Char.ofNat 57, Char.ofNat 55, Char.ofNat 53]
def hdC : List Char := [Char.ofNat 99, Char.ofNat 117, Char.ofNat 116]
def hdR : List Char := [Char.ofNat 97, Char.ofNat 116, Char.ofNat 32, Char.ofNat 118, Char.ofNat 105, Char.ofNat 100, Char.ofNat 105, Char.ofNat 109, Char.ofNat 117, Char.ofNat 115, Char.ofNat 47, Char.ofNat 118, Char.ofNat 105, Char.ofNat 100, Char.ofNat 105, Char.ofNat 109, Char.ofNat 117, Char.ofNat 115, Char.ofNat 108, Char.ofNat 97, Char.ofNat 119, Char.ofNat 48, Char.ofNat 56, Char.ofNat 46, Char.ofNat 83, Char.ofNat 105, Char.ofNat 109, Char.ofNat 84, Char.ofNat 101, Char.ofNat 108, Char.ofNat 108, Char.ofNat 115, Char.ofNat 32, Char.ofNat 118, Char.ofNat 105, Char.ofNat 100, Char.ofNat 105, Char.ofNat 109, Char.ofNat 117, Char.ofNat 115, Char.ofNat 47, Char.ofNat 118, Char.ofNat 105, Char.ofNat 100, Char.ofNat 105, Char.ofNat 109, Char.ofNat 117, Char.ofNat 115, Char.ofNat 108, Char.ofNat 97, Char.ofNat 119, Char.ofNat 48, Char.ofNat 56, Char.ofNat 46, Char.ofNat 83, Char.ofNat 105, Char.ofNat 109, Char.ofNat 71, Char.ofNat 97, Char.ofNat 116, Char.ofNat 101, Char.ofNat 115, Char.ofNat 32, Char.ofNat 118, Char.ofNat 105, Char.ofNat 100, Char.ofNat 105, Char.ofNat 109, Char.ofNat 117, Char.ofNat 115, Char.ofNat 47, Char.ofNat 118, Char.ofNat 105, Char.ofNat 100, Char.ofNat 105, Char.ofNat 109, Char.ofNat 117, Char.ofNat 115, Char.ofNat 108, Char.ofNat 97, Char.ofNat 119, Char.ofNat 48, Char.ofNat 56, Char.ofNat 46, Char.ofNat 83, Char.ofNat 105, Char.ofNat 109, Char.ofNat 82, Char.ofNat 117, Char.ofNat 110, Char.ofNat 115, Char.ofNat 32, Char.ofNat 118, Char.ofNat 105, Char.ofNat 100, Char.ofNat 105, Char.ofNat 109, Char.ofNat 117, Char.ofNat 115, Char.ofNat 47, Char.ofNat 118, Char.ofNat 105, Char.ofNat 100, Char.ofNat 105, Char.ofNat 109, Char.ofNat 117, Char.ofNat 115, Char.ofNat 108, Char.ofNat 97, Char.ofNat 119, Char.ofNat 48, Char.ofNat 56, Char.ofNat 46, Char.ofNat 83, Char.ofNat 105, Char.ofNat 109, Char.ofNat 83, Char.ofNat 104, Char.ofNat 97, Char.ofNat 112, Char.ofNat 101, Char.ofNat 115, Char.ofNat 32, Char.ofNat 118, Char.ofNat 105, Char.ofNat 100, Char.ofNat 105, Char.ofNat 109, Char.ofNat 117, Char.ofNat 115, Char.ofNat 47, Char.ofNat 118, Char.ofNat 105, Char.ofNat 100, Char.ofNat 105, Char.ofNat 109, Char.ofNat 117, Char.ofNat 115, Char.ofNat 108, Char.ofNat 97, Char.ofNat 119, Char.ofNat 48, Char.ofNat 56, Char.ofNat 46, Char.ofNat 83, Char.ofNat 105, Char.ofNat 109, Char.ofNat 84, Char.ofNat 97, Char.ofNat 107, Char.ofNat 101, Char.ofNat 110, Char.ofNat 32, Char.ofNat 118, Char.ofNat 105, Char.ofNat 100, Char.ofNat 105, Char.ofNat 109, Char.ofNat 117, Char.ofNat 115, Char.ofNat 47, Char.ofNat 118, Char.ofNat 105, Char.ofNat 100, Char.ofNat 105, Char.ofNat 109, Char.ofNat 117, Char.ofNat 115, Char.ofNat 108, Char.ofNat 97, Char.ofNat 119, Char.ofNat 48, Char.ofNat 56, Char.ofNat 46, Char.ofNat 83, Char.ofNat 105, Char.ofNat 109, Char.ofNat 77, Char.ofNat 111, Char.ofNat 114, Char.ofNat 101, Char.ofNat 32, Char.ofNat 118, Char.ofNat 105, Char.ofNat 100, Char.ofNat 105, Char.ofNat 109, Char.ofNat 117, Char.ofNat 115, Char.ofNat 47, Char.ofNat 118, Char.ofNat 105, Char.ofNat 100, Char.ofNat 105, Char.ofNat 109, Char.ofNat 117, Char.ofNat 115, Char.ofNat 108, Char.ofNat 97, Char.ofNat 119, Char.ofNat 48, Char.ofNat 56, Char.ofNat 46, Char.ofNat 83, Char.ofNat 105, Char.ofNat 109, Char.ofNat 70, Char.ofNat 105, Char.ofNat 114, Char.ofNat 115, Char.ofNat 116, Char.ofNat 32, Char.ofNat 118, Char.ofNat 105, Char.ofNat 100, Char.ofNat 105, Char.ofNat 109, Char.ofNat 117, Char.ofNat 115, Char.ofNat 47, Char.ofNat 118, Char.ofNat 105, Char.ofNat 100, Char.ofNat 105, Char.ofNat 109, Char.ofNat 117, Char.ofNat 115, Char.ofNat 108, Char.ofNat 97, Char.ofNat 119, Char.ofNat 48, Char.ofNat 57, Char.ofNat 46, Char.ofNat 84, Char.ofNat 101, Char.ofNat 114, Char.ofNat 110, Char.ofNat 84, Char.ofNat 101, Char.ofNat 108, Char.ofNat 108, Char.ofNat 115, Char.ofNat 32, Char.ofNat 118, Char.ofNat 105, Char.ofNat 100, Char.ofNat 105, Char.ofNat 109, Char.ofNat 117, Char.ofNat 115, Char.ofNat 47, Char.ofNat 118, Char.ofNat 105, Char.ofNat 100, Char.ofNat 105, Char.ofNat 109, Char.ofNat 117, Char.ofNat 115, Char.ofNat 108, Char.ofNat 97, Char.ofNat 119, Char.ofNat 48, Char.ofNat 57, Char.ofNat 46, Char.ofNat 84, Char.ofNat 101, Char.ofNat 114, Char.ofNat 110, Char.ofNat 83, Char.ofNat 116, Char.ofNat 101, Char.ofNat 112, Char.ofNat 115, Char.ofNat 32, Char.ofNat 118, Char.ofNat 105, Char.ofNat 100, Char.ofNat 105, Char.ofNat 109, Char.ofNat 117, Char.ofNat 115, Char.ofNat 47, Char.ofNat 118, Char.ofNat 105, Char.ofNat 100, Char.ofNat 105, Char.ofNat 109, Char.ofNat 117, Char.ofNat 115, Char.ofNat 108, Char.ofNat 97, Char.ofNat 119, Char.ofNat 48, Char.ofNat 57, Char.ofNat 46, Char.ofNat 84, Char.ofNat 101, Char.ofNat 114, Char.ofNat 110, Char.ofNat 66, Char.ofNat 101, Char.ofNat 108, Char.ofNat 111, Char.ofNat 119, Char.ofNat 32, Char.ofNat 118, Char.ofNat 105, Char.ofNat 100, Char.ofNat 105, Char.ofNat 109, Char.ofNat 117, Char.ofNat 115, Char.ofNat 47, Char.ofNat 118, Char.ofNat 105, Char.ofNat 100, Char.ofNat 105, Char.ofNat 109, Char.ofNat 117, Char.ofNat 115, Char.ofNat 108, Char.ofNat 97, Char.ofNat 119, Char.ofNat 48, Char.ofNat 57, Char.ofNat 46, Char.ofNat 84, Char.ofNat 101, Char.ofNat 114, Char.ofNat 110, Char.ofNat 79, Char.ofNat 114, Char.ofNat 100, Char.ofNat 101, Char.ofNat 114, Char.ofNat 32, Char.ofNat 118, Char.ofNat 105, Char.ofNat 100, Char.ofNat 105, Char.ofNat 109, Char.ofNat 117, Char.ofNat 115, Char.ofNat 47, Char.ofNat 118, Char.ofNat 105, Char.ofNat 100, Char.ofNat 105, Char.ofNat 109, Char.ofNat 117, Char.ofNat 115, Char.ofNat 108, Char.ofNat 97, Char.ofNat 119, Char.ofNat 48, Char.ofNat 57, Char.ofNat 46, Char.ofNat 84, Char.ofNat 101, Char.ofNat 114, Char.ofNat 110, Char.ofNat 66, Char.ofNat 101, Char.ofNat 108, Char.ofNat 111, Char.ofNat 119, Char.ofNat 115, Char.ofNat 32, Char.ofNat 118, Char.ofNat 105, Char.ofNat 100, Char.ofNat 105, Char.ofNat 109, Char.ofNat 117, Char.ofNat 115, Char.ofNat 47, Char.ofNat 118, Char.ofNat 105, Char.ofNat 100, Char.ofNat 105, Char.ofNat 109, Char.ofNat 117, Char.ofNat 115, Char.ofNat 108, Char.ofNat 97, Char.ofNat 119, Char.ofNat 48, Char.ofNat 57, Char.ofNat 46, Char.ofNat 84, Char.ofNat 101, Char.ofNat 114, Char.ofNat 110, Char.ofNat 69, Char.ofNat 120, Char.ofNat 97, Char.ofNat 99, Char.ofNat 116, Char.ofNat 32, Char.ofNat 118, Char.ofNat 105, Char.ofNat 100, Char.ofNat 105, Char.ofNat 109, Char.ofNat 117, Char.ofNat 115, Char.ofNat 47, Char.ofNat 118, Char.ofNat 105, Char.ofNat 100, Char.ofNat 105, Char.ofNat 109, Char.ofNat 117, Char.ofNat 115, Char.ofNat 108, Char.ofNat 97, Char.ofNat 119, Char.ofNat 48, Char.ofNat 57, Char.ofNat 46, Char.ofNat 84, Char.ofNat 101, Char.ofNat 114, Char.ofNat 110, Char.ofNat 84, Char.ofNat 119, Char.ofNat 111, Char.ofNat 32, Char.ofNat 118, Char.ofNat 105, Char.ofNat 100, Char.ofNat 105, Char.ofNat 109, Char.ofNat 117, Char.ofNat 115, Char.ofNat 47, Char.ofNat 118, Char.ofNat 105, Char.ofNat 100, Char.ofNat 105, Char.ofNat 109, Char.ofNat 117, Char.ofNat 115, Char.ofNat 108, Char.ofNat 97, Char.ofNat 119, Char.ofNat 49, Char.ofNat 50, Char.ofNat 46, Char.ofNat 83, Char.ofNat 104, Char.ofNat 114, Char.ofNat 105, Char.ofNat 110, Char.ofNat 107, Char.ofNat 76, Char.ofNat 101, Char.ofNat 97, Char.ofNat 115, Char.ofNat 116, Char.ofNat 32, Char.ofNat 118, Char.ofNat 105, Char.ofNat 100, Char.ofNat 105, Char.ofNat 109, Char.ofNat 117, Char.ofNat 115, Char.ofNat 47, Char.ofNat 118, Char.ofNat 105, Char.ofNat 100, Char.ofNat 105, Char.ofNat 109, Char.ofNat 117, Char.ofNat 115, Char.ofNat 108, Char.ofNat 97, Char.ofNat 119, Char.ofNat 49, Char.ofNat 50, Char.ofNat 46, Char.ofNat 83, Char.ofNat 104, Char.ofNat 114, Char.ofNat 105, Char.ofNat 110, Char.ofNat 107, Char.ofNat 70, Char.ofNat 105, Char.ofNat 108, Char.ofNat 108, Char.ofNat 115, Char.ofNat 32, Char.ofNat 118, Char.ofNat 105, Char.ofNat 100, Char.ofNat 105, Char.ofNat 109, Char.ofNat 117, Char.ofNat 115, Char.ofNat 47, Char.ofNat 118, Char.ofNat 105, Char.ofNat 100, Char.ofNat 105, Char.ofNat 109, Char.ofNat 117, Char.ofNat 115, Char.ofNat 108, Char.ofNat 97, Char.ofNat 119, Char.ofNat 49, Char.ofNat 50, Char.ofNat 46, Char.ofNat 83, Char.ofNat 104, Char.ofNat 114, Char.ofNat 105, Char.ofNat 110, Char.ofNat 107, Char.ofNat 85, Char.ofNat 110, Char.ofNat 100, Char.ofNat 101, Char.ofNat 114, Char.ofNat 32, Char.ofNat 118, Char.ofNat 105, Char.ofNat 100, Char.ofNat 105, Char.ofNat 109, Char.ofNat 117, Char.ofNat 115, Char.ofNat 47, Char.ofNat 118, Char.ofNat 105, Char.ofNat 100, Char.ofNat 105, Char.ofNat 109, Char.ofNat 117, Char.ofNat 115, Char.ofNat 108, Char.ofNat 97, Char.ofNat 119, Char.ofNat 49, Char.ofNat 50, Char.ofNat 46, Char.ofNat 83, Char.ofNat 104, Char.ofNat 114, Char.ofNat 105, Char.ofNat 110, Char.ofNat 107, Char.ofNat 79, Char.ofNat 102, Char.ofNat 32, Char.ofNat 118, Char.ofNat 105, Char.ofNat 100, Char.ofNat 105, Char.ofNat 109, Char.ofNat 117, Char.ofNat 115, Char.ofNat 47, Char.ofNat 118, Char.ofNat 105, Char.ofNat 100, Char.ofNat 105, Char.ofNat 109, Char.ofNat 117, Char.ofNat 115, Char.ofNat 108, Char.ofNat 97, Char.ofNat 119, Char.ofNat 49, Char.ofNat 50, Char.ofNat 46, Char.ofNat 83, Char.ofNat 104, Char.ofNat 114, Char.ofNat 105, Char.ofNat 110, Char.ofNat 107, Char.ofNat 72, Char.ofNat 111, Char.ofNat 108, Char.ofNat 101, Char.ofNat 115, Char.ofNat 32, Char.ofNat 118, Char.ofNat 105, Char.ofNat 100, Char.ofNat 105, Char.ofNat 109, Char.ofNat 117, Char.ofNat 115, Char.ofNat 47, Char.ofNat 118, Char.ofNat 105, Char.ofNat 100, Char.ofNat 105, Char.ofNat 109, Char.ofNat 117, Char.ofNat 115, Char.ofNat 108, Char.ofNat 97, Char.ofNat 119, Char.ofNat 49, Char.ofNat 49, Char.ofNat 46, Char.ofNat 80, Char.ofNat 108, Char.ofNat 97, Char.ofNat 121, Char.ofNat 84, Char.ofNat 101, Char.ofNat 108, Char.ofNat 108, Char.ofNat 115, Char.ofNat 32, Char.ofNat 118, Char.ofNat 105, Char.ofNat 100, Char.ofNat 105, Char.ofNat 109, Char.ofNat 117, Char.ofNat 115, Char.ofNat 47, Char.ofNat 118, Char.ofNat 105, Char.ofNat 100, Char.ofNat 105, Char.ofNat 109, Char.ofNat 117, Char.ofNat 115, Char.ofNat 108, Char.ofNat 97, Char.ofNat 119, Char.ofNat 49, Char.ofNat 49, Char.ofNat 46, Char.ofNat 80, Char.ofNat 108, Char.ofNat 97, Char.ofNat 121, Char.ofNat 69, Char.ofNat 118, Char.ofNat 101, Char.ofNat 114, Char.ofNat 121, Char.ofNat 32, Char.ofNat 118, Char.ofNat 105, Char.ofNat 100, Char.ofNat 105, Char.ofNat 109, Char.ofNat 117, Char.ofNat 115, Char.ofNat 47, Char.ofNat 118, Char.ofNat 105, Char.ofNat 100, Char.ofNat 105, Char.ofNat 109, Char.ofNat 117, Char.ofNat 115, Char.ofNat 108, Char.ofNat 97, Char.ofNat 119, Char.ofNat 49, Char.ofNat 49, Char.ofNat 46, Char.ofNat 80, Char.ofNat 108, Char.ofNat 97, Char.ofNat 121, Char.ofNat 73, Char.ofNat 109, Char.ofNat 112, Char.ofNat 108, Char.ofNat 105, Char.ofNat 101, Char.ofNat 115, Char.ofNat 32, Char.ofNat 118, Char.ofNat 105, Char.ofNat 100, Char.ofNat 105, Char.ofNat 109, Char.ofNat 117, Char.ofNat 115, Char.ofNat 47, Char.ofNat 118, Char.ofNat 105, Char.ofNat 100, Char.ofNat 105, Char.ofNat 109, Char.ofNat 117, Char.ofNat 115, Char.ofNat 108, Char.ofNat 97, Char.ofNat 119, Char.ofNat 49, Char.ofNat 49, Char.ofNat 46, Char.ofNat 80, Char.ofNat 108, Char.ofNat 97, Char.ofNat 121, Char.ofNat 66, Char.ofNat 101, Char.ofNat 108, Char.ofNat 111, Char.ofNat 119, Char.ofNat 32, Char.ofNat 118, Char.ofNat 105, Char.ofNat 100, Char.ofNat 105, Char.ofNat 109, Char.ofNat 117, Char.ofNat 115, Char.ofNat 47, Char.ofNat 118, Char.ofNat 105, Char.ofNat 100, Char.ofNat 105, Char.ofNat 109, Char.ofNat 117, Char.ofNat 115, Char.ofNat 108, Char.ofNat 97, Char.ofNat 119, Char.ofNat 49, Char.ofNat 49, Char.ofNat 46, Char.ofNat 80, Char.ofNat 108, Char.ofNat 97, Char.ofNat 121, Char.ofNat 70, Char.ofNat 114, Char.ofNat 97, Char.ofNat 109, Char.ofNat 101, Char.ofNat 115, Char.ofNat 32, Char.ofNat 118, Char.ofNat 105, Char.ofNat 100, Char.ofNat 105, Char.ofNat 109, Char.ofNat 117, Char.ofNat 115, Char.ofNat 47, Char.ofNat 118, Char.ofNat 105, Char.ofNat 100, Char.ofNat 105, Char.ofNat 109, Char.ofNat 117, Char.ofNat 115, Char.ofNat 108, Char.ofNat 97, Char.ofNat 119, Char.ofNat 49, Char.ofNat 49, Char.ofNat 46, Char.ofNat 80, Char.ofNat 108, Char.ofNat 97, Char.ofNat 121, Char.ofNat 67, Char.ofNat 111, Char.ofNat 110, Char.ofNat 32, Char.ofNat 118, Char.ofNat 105, Char.ofNat 100, Char.ofNat 105, Char.ofNat 109, Char.ofNat 117, Char.ofNat 115, Char.ofNat 47, Char.ofNat 118, Char.ofNat 105, Char.ofNat 100, Char.ofNat 105, Char.ofNat 109, Char.ofNat 117, Char.ofNat 115, Char.ofNat 108, Char.ofNat 97, Char.ofNat 119, Char.ofNat 49, Char.ofNat 49, Char.ofNat 46, Char.ofNat 80, Char.ofNat 108, Char.ofNat 97, Char.ofNat 121, Char.ofNat 76, Char.ofNat 97, Char.ofNat 115, Char.ofNat 116]
set_option maxRecDepth 100000 in
theorem head_str : Try.prog.initOrder = String.ofList (hdH ++ Char.ofNat 32 :: (hdS ++ Char.ofNat 32 :: (hdC ++ Char.ofNat 32 :: hdR))) := by kernel_rfl
theorem head_words : wordsSigns Try.prog.initOrder.toList = hdH :: hdS :: hdC :: wordsSigns hdR := by
  rw [head_str, String.toList_ofList, words_cons _ _ (by kernel_rfl), words_cons _ _ (by kernel_rfl), words_cons _ _ (by kernel_rfl)]
theorem head_sum : ((hdH == "harness".toList || hdH == "ownmain".toList) && isSumSigns hdS) = true := by kernel_rfl
theorem head_behind : behindMainWord (wordsSigns Try.prog.initOrder.toList) = hdC :: wordsSigns hdR := by
  rw [head_words, behindMainWord, if_pos head_sum]
theorem hdC_cut : hdC = "cut".toList := by kernel_rfl
theorem head_lifts (rest : List (List Char)) : stripLifts liftWords ("cut".toList :: rest) = ([], "cut".toList :: rest) := rfl
theorem mayEnter_of {P : Program} {ws : List (List Char)} (hb : behindMainWord (wordsSigns P.initOrder.toList) = "cut".toList :: ws) (h1 : P.laysLater = false) (h2 : P.bearsReflect = false) (h3 : P.doorFits [] = true) : P.mayEnter = true := by
  unfold Program.mayEnter
  rw [hb]
  simp only [head_lifts, h1, h2, h3]
  simp
theorem laterK : Try.prog.laysLater = false := by kernel_rfl
theorem reflectK : Try.prog.bearsReflect = false := by kernel_rfl
theorem doorK : Try.prog.doorFits [] = true := by kernel_rfl
theorem head_cut : behindMainWord (wordsSigns Try.prog.initOrder.toList) = "cut".toList :: wordsSigns hdR := by rw [← hdC_cut]; exact head_behind
theorem enterK : Try.prog.mayEnter = true := mayEnter_of head_cut laterK reflectK doorK
theorem make_of {P : Program} {ws : List (List Char)} (hb : behindMainWord (wordsSigns P.initOrder.toList) = "cut".toList :: ws) : P.make = some .cut := by
  unfold Program.make
  rw [hb]
  rfl
theorem lifts_of {P : Program} {ws : List (List Char)} (hb : behindMainWord (wordsSigns P.initOrder.toList) = "cut".toList :: ws) : P.liftsFinal = false := by
  unfold Program.liftsFinal Program.headLifts
  rw [hb]
  simp only [head_lifts]
  rfl
theorem makeK : Try.prog.make = some .cut := make_of head_cut
theorem liftsK : Try.prog.liftsFinal = false := lifts_of head_cut
theorem make_eq {m : Make} (h : m = .cut) : (Try.prog.make == some m) = true := by rw [makeK, h]; rfl
theorem lifts_eq {b : Bool} (h : b = false) : (b == Try.prog.liftsFinal) = true := by rw [liftsK, h]; rfl
end Go.Vd
namespace Go.Vd
open Go.Proofs
theorem Good.bd {a : Aig} (h : Good a) : Bd a := by
  have h1 := h.small
  exact ⟨h.right.i0, by have := h1.i1; omega, by have := h1.l1; omega, by have := h1.g1; omega, by have := h1.o1; omega, by have := h1.b1; omega, by have := h1.c1; omega⟩
theorem Good.vars {a : Aig} (h : Good a) : varsS a ≤ 120 := by
  have h1 := h.small
  have := h1.i1; have := h1.l1; have := h1.g1
  simp only [varsS]; omega
theorem getD_mem {α : Type} [Inhabited α] {xs : List α} {n : Nat} (h : n < xs.length) : xs.getD n default ∈ xs := by
  rw [List.getD_eq_getElem?_getD, List.getElem?_eq_getElem h]; exact List.getElem_mem h
theorem pc_33 (a : Aig) (st inp : List Bool) (hg : Good a) : PCall Try.prog 33 [aigV a, slB st, slB inp] (.tup [slB (valuesS a st inp).1, .int .i64 (valuesS a st inp).2]) := by
  refine pc_of tab_ok (f := 33) (fn := Try.f33) (N := 63) (rs := [.tmp 6, .tmp 7]) (by kernel_rfl) rfl (by kernel_rfl) rfl rfl [(0, .v (aigV a)), (1, .v (slB st)), (2, .v (slB inp))] ⟨rfl, rfl, rfl, trivial⟩ rfl rfl ?_
  intro B
  have hb := hg.bd; have h0 := hb.i0; have h1 := hb.i1; have h2 := hb.l1; have h3 := hb.g1
  refine wp_seq ?_
  refine wp_reg (by kernel_rfl) ?_
  refine ar_box 3 [] rfl rfl rfl ⟨rfl, trivial⟩ rfl rfl rfl ?_
  refine ar_assign rfl rfl rfl rfl ?_
  refine ar_assign rfl rfl rfl rfl ?_
  refine ar_nil ?_
  refine then_n ?_
  refine wp_seq ?_
  refine wp_seq ?_
  refine wp_reg (by kernel_rfl) ?_
  refine ar_move rfl rfl rfl rfl ?_
  refine ar_len tab_ok rfl rfl tb28 rfl len_map rfl rfl ?_
  refine ar_fa tab_ok rfl rfl rfl tb27 rfl rfl rfl rfl rfl ?_
  refine ar_ld tab_ok rfl rfl rfl tb22 rfl rfl rfl rfl rfl ?_
  refine ar_len tab_ok rfl rfl tb22 rfl len_map rfl rfl ?_
  refine ar_neq_s rfl rfl rfl rfl rfl (fun h17 => ?_) (fun h17 => ?_)
  · refine ar_move rfl rfl rfl rfl ?_
    refine ar_skip rfl rfl ?_
    refine ar_skip rfl rfl ?_
    refine ar_skip rfl rfl ?_
    refine ar_skip rfl rfl ?_
    refine ar_skip rfl rfl ?_
    refine ar_pickT rfl rfl rfl rfl rfl ?_
    refine ar_nil ?_
    refine then_n ?_
    refine wp_condT rfl ?_
    refine wp_seq ?_
    refine wp_reg (by kernel_rfl) ?_
    refine ar_assign rfl rfl rfl rfl ?_
    refine ar_assign rfl rfl rfl rfl ?_
    refine ar_nil ?_
    refine then_n ?_
    refine wp_ret ?_
    refine then_r (ret_post rfl rfl ?_)
    rw [valuesS_bad (by omega)]; rfl
  · refine ar_move rfl rfl rfl rfl ?_
    refine ar_move rfl rfl rfl rfl ?_
    refine ar_len tab_ok rfl rfl tb28 rfl len_map rfl rfl ?_
    refine ar_fa tab_ok rfl rfl rfl tb27 rfl rfl rfl rfl rfl ?_
    refine ar_ld tab_ok rfl rfl rfl tb3 rfl rfl rfl rfl rfl ?_
    refine ar_neq_s rfl rfl rfl rfl rfl (fun h23 => ?_) (fun h23 => ?_)
    · refine ar_pickF rfl rfl rfl rfl rfl ?_
      refine ar_nil ?_
      refine then_n ?_
      refine wp_condT rfl ?_
      refine wp_seq ?_
      refine wp_reg (by kernel_rfl) ?_
      refine ar_assign rfl rfl rfl rfl ?_
      refine ar_assign rfl rfl rfl rfl ?_
      refine ar_nil ?_
      refine then_n ?_
      refine wp_ret ?_
      refine then_r (ret_post rfl rfl ?_)
      rw [valuesS_bad (by omega)]; rfl
    · refine ar_pickF rfl rfl rfl rfl rfl ?_
      refine ar_nil ?_
      refine then_n ?_
      refine wp_condF rfl ?_
      refine wp_skip ?_
      refine then_n ?_
      refine wp_seq ?_
      refine wp_reg (by kernel_rfl) ?_
      refine ar_bs_own (es := [false].map encB) 25 [] tab_ok rfl tb28 rfl tb4 rfl rfl ⟨rfl, trivial⟩ rfl rfl rfl rfl rfl rfl rfl rfl rfl ?_
      refine ar_assign rfl rfl rfl rfl ?_
      refine ar_nil ?_
      refine then_n ?_
      refine wp_seq ?_
      refine wp_reg (by kernel_rfl) ?_
      refine ar_move rfl rfl rfl rfl ?_
      refine ar_move rfl rfl rfl rfl ?_
      refine ar_app 28 [] tab_ok rfl tb28 rfl tb28 rfl tb4 rfl rfl rfl rfl ⟨rfl, rfl, trivial⟩ rfl (el_4 _) app_map (by constructor <;> simp <;> omega) rfl rfl rfl ?_
      refine ar_assign rfl rfl rfl rfl ?_
      refine ar_nil ?_
      refine then_n ?_
      refine wp_seq ?_
      refine wp_reg (by kernel_rfl) ?_
      refine ar_move rfl rfl rfl rfl ?_
      refine ar_move rfl rfl rfl rfl ?_
      refine ar_app 31 [] tab_ok rfl tb28 rfl tb28 rfl tb4 rfl rfl rfl rfl ⟨rfl, rfl, trivial⟩ rfl (el_4 _) app_map (by constructor <;> simp <;> omega) rfl rfl rfl ?_
      refine ar_assign rfl rfl rfl rfl ?_
      refine ar_nil ?_
      refine then_n ?_
      refine wp_seq ?_
      refine wp_seq ?_
      refine wp_reg (by kernel_rfl) ?_
      refine ar_assign rfl rfl rfl rfl ?_
      refine ar_nil ?_
      refine then_n ?_
      refine wp_block ?_
      refine wp_loop (α := Nat) (fun j => mk [(3, .ptr 3 0), (8, .own 31), (9, .v (.int .i64 (j : Nat)))] [(3, .box ((encA a).map .v)), (31, .row 4 1 ((valsOf (false :: (inp ++ st)) (a.g.take j)).map encB))] 0) (fun j => j ≤ a.g.length) (fun j => a.g.length - j) 0 (Nat.zero_le _) (le_to ⟨rfl, rfl, rfl, trivial⟩ ⟨rfl, (row_eq rfl (by simp [valsOf])), trivial⟩ rfl rfl rfl rfl) ?_
      rintro j hinv
      have hgj : j < a.g.length → (a.g.getD j default).a ≤ 1000 ∧ (a.g.getD j default).b ≤ 1000 := fun hj => by have := hg.right.g j hj; obtain ⟨q1, q2, q3⟩ := this; have := hg.small.i1; have := hg.small.l1; have := hg.small.g1; omega
      refine wp_seq ?_
      refine wp_seq ?_
      refine wp_reg (by kernel_rfl) ?_
      refine ar_move rfl rfl rfl rfl ?_
      refine ar_fa tab_ok rfl rfl rfl tb27 rfl rfl rfl rfl rfl ?_
      refine ar_ld tab_ok rfl rfl rfl tb23 rfl rfl rfl rfl rfl ?_
      refine ar_len tab_ok rfl rfl tb23 rfl len_map rfl rfl ?_
      refine ar_lss_s rfl rfl rfl rfl rfl (fun h36 => ?_) (fun h36 => ?_)
      · refine ar_nil ?_
        refine then_n ?_
        refine wp_condT rfl ?_
        refine wp_skip ?_
        refine then_n ?_
        refine wp_seq ?_
        refine wp_block ?_
        refine wp_seq ?_
        refine wp_reg (by kernel_rfl) ?_
        refine ar_move rfl rfl rfl rfl ?_
        refine ar_fa tab_ok rfl rfl rfl tb27 rfl rfl rfl rfl rfl ?_
        refine ar_ld tab_ok rfl rfl rfl tb23 rfl rfl rfl rfl rfl ?_
        refine ar_move rfl rfl rfl rfl ?_
        refine ar_ia tab_ok rfl rfl rfl tb23 rfl tb58 (by omega) (map_get (n := j) (by omega)) rfl rfl rfl ?_
        refine ar_fa_ref tab_ok rfl rfl tb58 rfl rfl rfl rfl ?_
        refine ar_ld_ref tab_ok rfl rfl tb3 rfl rfl rfl rfl ?_
        refine ar_call [(31, _)] (pc_43 _ _ (by have := hgj (by omega); omega)) rfl rfl rfl rfl rfl rfl ⟨rfl, trivial⟩ (.inr rfl) rfl rfl rfl ?_
        refine ar_split (fun h46 => ?_) (fun h46 => ?_)
        · refine ar_assign rfl rfl rfl rfl ?_
          refine ar_nil ?_
          refine then_n ?_
          refine wp_seq ?_
          refine wp_reg (by kernel_rfl) ?_
          refine ar_move rfl rfl rfl rfl ?_
          refine ar_fa tab_ok rfl rfl rfl tb27 rfl rfl rfl rfl rfl ?_
          refine ar_ld tab_ok rfl rfl rfl tb23 rfl rfl rfl rfl rfl ?_
          refine ar_move rfl rfl rfl rfl ?_
          refine ar_ia tab_ok rfl rfl rfl tb23 rfl tb58 (by omega) (map_get (n := j) (by omega)) rfl rfl rfl ?_
          refine ar_fa_ref tab_ok rfl rfl tb58 rfl rfl rfl rfl ?_
          refine ar_ld_ref tab_ok rfl rfl tb3 rfl rfl rfl rfl ?_
          refine ar_call [(31, _)] (pc_43 _ _ (by have := hgj (by omega); omega)) rfl rfl rfl rfl rfl rfl ⟨rfl, trivial⟩ (.inr rfl) rfl rfl rfl ?_
          refine ar_assign rfl rfl rfl rfl ?_
          refine ar_nil ?_
          refine then_n ?_
          refine wp_reg (by kernel_rfl) ?_
          refine ar_move rfl rfl rfl rfl ?_
          refine ar_move rfl rfl rfl rfl ?_
          refine ar_move rfl rfl rfl rfl ?_
          refine ar_move rfl rfl rfl rfl ?_
          refine ar_pickT rfl rfl rfl rfl rfl ?_
          refine ar_bs [] tab_ok rfl tb28 rfl tb4 rfl trivial rfl rfl rfl rfl rfl rfl rfl rfl ?_
          refine ar_app 61 [] tab_ok rfl tb28 rfl tb28 rfl tb4 rfl rfl rfl rfl ⟨rfl, rfl, trivial⟩ rfl (elOk.cons rfl rfl elOk.nil) app_one (by constructor <;> simp [valsOf_len] <;> omega) rfl rfl rfl ?_
          refine ar_assign rfl rfl rfl rfl ?_
          refine ar_nil ?_
          refine inblk_n ?_
          refine then_n ?_
          refine wp_reg (by kernel_rfl) ?_
          refine ar_move rfl rfl rfl rfl ?_
          refine ar_addi rfl rfl rfl rfl (by omega) (by omega) rfl rfl ?_
          refine ar_assign rfl rfl rfl rfl ?_
          refine ar_nil ?_
          exact loop_n (j + 1) (by omega) (by omega) (le_ren [(31, 61)] ⟨rfl, rfl, rfl, trivial⟩ ⟨rfl, (row_eq rfl (by rw [vals_snoc _ _ _ (by omega)]; simp_all)), trivial⟩ rfl rfl rfl rfl rfl)
        · refine ar_assign rfl rfl rfl rfl ?_
          refine ar_nil ?_
          refine then_n ?_
          refine wp_seq ?_
          refine wp_reg (by kernel_rfl) ?_
          refine ar_move rfl rfl rfl rfl ?_
          refine ar_fa tab_ok rfl rfl rfl tb27 rfl rfl rfl rfl rfl ?_
          refine ar_ld tab_ok rfl rfl rfl tb23 rfl rfl rfl rfl rfl ?_
          refine ar_move rfl rfl rfl rfl ?_
          refine ar_ia tab_ok rfl rfl rfl tb23 rfl tb58 (by omega) (map_get (n := j) (by omega)) rfl rfl rfl ?_
          refine ar_fa_ref tab_ok rfl rfl tb58 rfl rfl rfl rfl ?_
          refine ar_ld_ref tab_ok rfl rfl tb3 rfl rfl rfl rfl ?_
          refine ar_call [(31, _)] (pc_43 _ _ (by have := hgj (by omega); omega)) rfl rfl rfl rfl rfl rfl ⟨rfl, trivial⟩ (.inr rfl) rfl rfl rfl ?_
          refine ar_assign rfl rfl rfl rfl ?_
          refine ar_nil ?_
          refine then_n ?_
          refine wp_reg (by kernel_rfl) ?_
          refine ar_move rfl rfl rfl rfl ?_
          refine ar_move rfl rfl rfl rfl ?_
          refine ar_move rfl rfl rfl rfl ?_
          refine ar_skip rfl rfl ?_
          refine ar_pickF rfl rfl rfl rfl rfl ?_
          refine ar_bs [] tab_ok rfl tb28 rfl tb4 rfl trivial rfl rfl rfl rfl rfl rfl rfl rfl ?_
          refine ar_app 61 [] tab_ok rfl tb28 rfl tb28 rfl tb4 rfl rfl rfl rfl ⟨rfl, rfl, trivial⟩ rfl (elOk.cons rfl rfl elOk.nil) app_one (by constructor <;> simp [valsOf_len] <;> omega) rfl rfl rfl ?_
          refine ar_assign rfl rfl rfl rfl ?_
          refine ar_nil ?_
          refine inblk_n ?_
          refine then_n ?_
          refine wp_reg (by kernel_rfl) ?_
          refine ar_move rfl rfl rfl rfl ?_
          refine ar_addi rfl rfl rfl rfl (by omega) (by omega) rfl rfl ?_
          refine ar_assign rfl rfl rfl rfl ?_
          refine ar_nil ?_
          exact loop_n (j + 1) (by omega) (by omega) (le_ren [(31, 61)] ⟨rfl, rfl, rfl, trivial⟩ ⟨rfl, (row_eq rfl (by rw [vals_snoc _ _ _ (by omega)]; simp_all)), trivial⟩ rfl rfl rfl rfl rfl)
      · refine ar_nil ?_
        refine then_n ?_
        refine wp_condF rfl ?_
        refine wp_exit ?_
        refine then_x (loop_x (inblk_e ?_))
        refine then_n ?_
        refine wp_seq ?_
        refine wp_reg (by kernel_rfl) ?_
        refine ar_move rfl rfl rfl rfl ?_
        refine ar_assign rfl rfl rfl rfl ?_
        refine ar_assign rfl rfl rfl rfl ?_
        refine ar_nil ?_
        refine then_n ?_
        refine wp_ret ?_
        refine ret_post rfl rfl ?_
        rw [valuesS_ok (by omega) (by omega)]
        have hi : j = a.g.length := by omega
        subst hi
        rw [List.take_length]
end Go.Vd
namespace Go.Vd
open Go.Proofs
structure StepR where
  n : List Bool
  o : List Bool
  b : List Bool
  c : List Bool
  e : Int
def StepR.v (r : StepR) : V := .tup [slB r.n, .agg [slB r.o, slB r.b, slB r.c], .int .i64 r.e]
def stepS (a : Aig) (st inp : List Bool) : StepR :=
  if (valuesS a st inp).2 = 0 then ⟨a.l.map fun l => litv (valuesS a st inp).1 l.next, a.outs.map (litv (valuesS a st inp).1), a.bad.map (litv (valuesS a st inp).1), a.con.map (litv (valuesS a st inp).1), 0⟩
  else ⟨[], [], [], [], (valuesS a st inp).2⟩
theorem stepS_ok {a : Aig} {st inp : List Bool} (h : (valuesS a st inp).2 = 0) : stepS a st inp = ⟨a.l.map fun l => litv (valuesS a st inp).1 l.next, a.outs.map (litv (valuesS a st inp).1), a.bad.map (litv (valuesS a st inp).1), a.con.map (litv (valuesS a st inp).1), 0⟩ := by
  simp only [stepS]; rw [if_pos h]
theorem stepS_bad {a : Aig} {st inp : List Bool} (h : (valuesS a st inp).2 ≠ 0) : stepS a st inp = ⟨[], [], [], [], (valuesS a st inp).2⟩ := by
  simp only [stepS]; rw [if_neg h]
theorem pc_98 (v : List Bool) (ls : List Int) (hl : ls.length ≤ 20000) (hb : ∀ l, l ∈ ls → l ≤ 9223372036854775807) : PCall Try.prog 98 [slB v, slI ls] (slB (ls.map (litv v))) := by
  refine pc_of tab_ok (f := 98) (fn := Try.f98) (N := 23) (rs := [.tmp 4]) (by kernel_rfl) rfl (by kernel_rfl) rfl rfl [(0, .v (slB v)), (1, .v (slI ls))] ⟨rfl, rfl, trivial⟩ rfl rfl ?_
  intro B
  refine wp_seq ?_
  refine wp_reg (by kernel_rfl) ?_
  refine ar_assign rfl rfl rfl rfl ?_
  refine ar_nil ?_
  refine then_n ?_
  refine wp_seq ?_
  refine wp_reg (by kernel_rfl) ?_
  refine ar_assign rfl rfl rfl rfl ?_
  refine ar_nil ?_
  refine then_n ?_
  refine wp_seq ?_
  refine wp_seq ?_
  refine wp_reg (by kernel_rfl) ?_
  refine ar_assign rfl rfl rfl rfl ?_
  refine ar_nil ?_
  refine then_n ?_
  refine wp_block ?_
  refine wp_le (le_nil (t := 5) (id := 900) (e := 4) (sz := 1) rfl rfl (by decide)) ?_
  refine wp_loop (α := Nat) (fun j => mk [(0, .v (slB v)), (1, .v (slI ls)), (5, .own 901), (6, .v (.int .i64 (j : Nat)))] [(901, .row 4 1 (((ls.take j).map (litv v)).map encB))] 0) (fun j => j ≤ ls.length) (fun j => ls.length - j) 0 (Nat.zero_le _) (le_ren [(901, 900)] ⟨rfl, rfl, rfl, rfl, trivial⟩ ⟨rfl, trivial⟩ rfl rfl rfl rfl rfl) ?_
  rintro j hinv
  refine wp_seq ?_
  refine wp_seq ?_
  refine wp_reg (by kernel_rfl) ?_
  refine ar_move rfl rfl rfl rfl ?_
  refine ar_move rfl rfl rfl rfl ?_
  refine ar_len tab_ok rfl rfl tb24 rfl len_map rfl rfl ?_
  refine ar_lss_s rfl rfl rfl rfl rfl (fun h10 => ?_) (fun h10 => ?_)
  · refine ar_nil ?_
    refine then_n ?_
    refine wp_condT rfl ?_
    refine wp_skip ?_
    refine then_n ?_
    refine wp_seq ?_
    refine wp_block ?_
    refine wp_reg (by kernel_rfl) ?_
    refine ar_move rfl rfl rfl rfl ?_
    refine ar_move rfl rfl rfl rfl ?_
    refine ar_move rfl rfl rfl rfl ?_
    refine ar_move rfl rfl rfl rfl ?_
    refine ar_ia tab_ok rfl rfl rfl tb24 rfl tb3 (by omega) (map_get (n := j) (by omega)) rfl rfl rfl ?_
    refine ar_ld_ref tab_ok rfl rfl tb3 rfl rfl rfl rfl ?_
    refine ar_call [] (pc_43 _ _ (hb _ (getD_mem (by omega)))) rfl rfl rfl rfl rfl rfl trivial (.inl rfl) rfl rfl rfl ?_
    refine ar_bs [] tab_ok rfl tb28 rfl tb4 rfl trivial rfl rfl rfl rfl rfl rfl rfl rfl ?_
    refine ar_app 21 [] tab_ok rfl tb28 rfl tb28 rfl tb4 rfl rfl rfl rfl ⟨rfl, rfl, trivial⟩ rfl (elOk.cons rfl rfl elOk.nil) app_one (by constructor <;> simp <;> omega) rfl rfl rfl ?_
    refine ar_assign rfl rfl rfl rfl ?_
    refine ar_nil ?_
    refine inblk_n ?_
    refine then_n ?_
    refine wp_reg (by kernel_rfl) ?_
    refine ar_move rfl rfl rfl rfl ?_
    refine ar_addi rfl rfl rfl rfl (by omega) (by omega) rfl rfl ?_
    refine ar_assign rfl rfl rfl rfl ?_
    refine ar_nil ?_
    exact loop_n (j + 1) (by omega) (by omega) (le_ren [(901, 21)] ⟨rfl, rfl, rfl, rfl, trivial⟩ ⟨(row_eq rfl (by rw [take_snoc (by omega)]; simp)), trivial⟩ rfl rfl rfl rfl rfl)
  · refine ar_nil ?_
    refine then_n ?_
    refine wp_condF rfl ?_
    refine wp_exit ?_
    refine then_x (loop_x (inblk_e ?_))
    refine then_n ?_
    refine wp_seq ?_
    refine wp_reg (by kernel_rfl) ?_
    refine ar_move rfl rfl rfl rfl ?_
    refine ar_assign rfl rfl rfl rfl ?_
    refine ar_nil ?_
    refine then_n ?_
    refine wp_ret ?_
    refine ret_post rfl rfl ?_
    have hi : j = ls.length := by omega
    subst hi
    rw [List.take_length]
theorem litsR.mem {l : List Int} {v x : Int} (h : litsR l v) (hx : x ∈ l) : 0 ≤ x ∧ x ≤ 2 * v + 1 := by
  obtain ⟨n, hn, rfl⟩ := List.getElem_of_mem hx
  have := h.1 n hn
  rwa [List.getD_eq_getElem?_getD, List.getElem?_eq_getElem hn] at this
theorem Good.lit {a : Aig} (h : Good a) {x : Int} (hx : x ∈ a.outs ∨ x ∈ a.bad ∨ x ∈ a.con) : 0 ≤ x ∧ x ≤ 2 * varsS a + 1 := by
  rcases hx with hx | hx | hx
  · exact h.right.outs.mem hx
  · exact h.right.bad.mem hx
  · exact h.right.con.mem hx
theorem pc_35 (a : Aig) (st inp : List Bool) (hg : Good a) : PCall Try.prog 35 [aigV a, slB st, slB inp] ((stepS a st inp).v) := by
  refine pc_of tab_ok (f := 35) (fn := Try.f35) (N := 56) (rs := [.tmp 6, .cell 7 40, .tmp 8]) (by kernel_rfl) rfl (by kernel_rfl) rfl rfl [(0, .v (aigV a)), (1, .v (slB st)), (2, .v (slB inp))] ⟨rfl, rfl, rfl, trivial⟩ rfl rfl ?_
  intro B
  have hb := hg.bd; have h0 := hb.i0; have h1 := hb.i1; have h2 := hb.l1; have h3 := hb.g1
  have hv := hg.vars
  have hn : ∀ j, j < a.l.length → (a.l.getD j default).next ≤ 9223372036854775807 := fun j hj => by have := (hg.right.l j hj).2.1; omega
  have ho : ∀ x, (x ∈ a.outs ∨ x ∈ a.bad ∨ x ∈ a.con) → x ≤ 9223372036854775807 := fun x hx => by have := (hg.lit hx).2; omega
  refine wp_seq ?_
  refine wp_reg (by kernel_rfl) ?_
  refine ar_box 3 [] rfl rfl rfl ⟨rfl, trivial⟩ rfl rfl rfl ?_
  refine ar_assign rfl rfl rfl rfl ?_
  refine ar_alloc (id := 7) tab_ok rfl rfl tb40 rfl rfl rfl rfl ?_
  refine ar_assign rfl rfl rfl rfl ?_
  refine ar_nil ?_
  refine then_n ?_
  refine wp_seq ?_
  refine wp_reg (by kernel_rfl) ?_
  refine ar_lda tab_ok rfl rfl rfl tb27 rfl rfl rfl rfl rfl rfl ?_
  refine ar_move rfl rfl rfl rfl ?_
  refine ar_move rfl rfl rfl rfl ?_
  refine ar_call [] (pc_33 a st inp hg) rfl rfl rfl rfl rfl rfl trivial (.inl rfl) rfl rfl rfl ?_
  refine ar_move rfl rfl rfl rfl ?_
  refine ar_ext rfl rfl rfl rfl rfl ?_
  refine ar_ext rfl rfl rfl rfl rfl ?_
  refine ar_assign rfl rfl rfl rfl ?_
  refine ar_assign rfl rfl rfl rfl ?_
  refine ar_nil ?_
  refine then_n ?_
  refine wp_seq ?_
  refine wp_seq ?_
  refine wp_reg (by kernel_rfl) ?_
  refine ar_move rfl rfl rfl rfl ?_
  refine ar_neq_s rfl rfl rfl rfl rfl (fun h21 => ?_) (fun h21 => ?_)
  · refine ar_nil ?_
    refine then_n ?_
    refine wp_condT rfl ?_
    refine wp_seq ?_
    refine wp_reg (by kernel_rfl) ?_
    refine ar_builda [] tab_ok rfl tb40 rfl tb28 rfl trivial rfl rfl rfl rfl rfl rfl ?_
    refine ar_move rfl rfl rfl rfl ?_
    refine ar_assign rfl rfl rfl rfl ?_
    refine ar_st [] tab_ok rfl tb40 rfl rfl rfl trivial rfl rfl rfl rfl rfl rfl rfl rfl ?_
    refine ar_assign rfl rfl rfl rfl ?_
    refine ar_nil ?_
    refine then_n ?_
    refine wp_ret ?_
    refine then_r (ret_post rfl rfl ?_)
    rw [stepS_bad h21]; rfl
  · refine ar_nil ?_
    refine then_n ?_
    refine wp_condF rfl ?_
    refine wp_skip ?_
    refine then_n ?_
    refine wp_seq ?_
    refine wp_reg (by kernel_rfl) ?_
    refine ar_assign rfl rfl rfl rfl ?_
    refine ar_nil ?_
    refine then_n ?_
    refine wp_seq ?_
    refine wp_seq ?_
    refine wp_reg (by kernel_rfl) ?_
    refine ar_assign rfl rfl rfl rfl ?_
    refine ar_nil ?_
    refine then_n ?_
    refine wp_block ?_
    refine wp_le (le_nil (t := 11) (id := 900) (e := 4) (sz := 1) rfl rfl (by decide)) ?_
    refine wp_loop (α := Nat) (fun j => mk [(3, .ptr 3 0), (7, .ptr 7 0), (9, .v (slB (valuesS a st inp).1)), (11, .own 901), (12, .v (.int .i64 (j : Nat)))] [(3, .box ((encA a).map .v)), (7, .box [.nils, .nils, .nils]), (901, .row 4 1 (((a.l.take j).map fun l => litv (valuesS a st inp).1 l.next).map encB))] 0) (fun j => j ≤ a.l.length) (fun j => a.l.length - j) 0 (Nat.zero_le _) (le_ren [(901, 900)] ⟨rfl, rfl, rfl, rfl, rfl, trivial⟩ ⟨rfl, rfl, rfl, trivial⟩ rfl rfl rfl rfl rfl) ?_
    rintro j hinv
    refine wp_seq ?_
    refine wp_seq ?_
    refine wp_reg (by kernel_rfl) ?_
    refine ar_move rfl rfl rfl rfl ?_
    refine ar_fa tab_ok rfl rfl rfl tb27 rfl rfl rfl rfl rfl ?_
    refine ar_ld tab_ok rfl rfl rfl tb22 rfl rfl rfl rfl rfl ?_
    refine ar_len tab_ok rfl rfl tb22 rfl len_map rfl rfl ?_
    refine ar_lss_s rfl rfl rfl rfl rfl (fun h28 => ?_) (fun h28 => ?_)
    · refine ar_nil ?_
      refine then_n ?_
      refine wp_condT rfl ?_
      refine wp_skip ?_
      refine then_n ?_
      refine wp_seq ?_
      refine wp_block ?_
      refine wp_reg (by kernel_rfl) ?_
      refine ar_move rfl rfl rfl rfl ?_
      refine ar_move rfl rfl rfl rfl ?_
      refine ar_fa tab_ok rfl rfl rfl tb27 rfl rfl rfl rfl rfl ?_
      refine ar_ld tab_ok rfl rfl rfl tb22 rfl rfl rfl rfl rfl ?_
      refine ar_move rfl rfl rfl rfl ?_
      refine ar_ia tab_ok rfl rfl rfl tb22 rfl tb63 (by omega) (map_get (n := j) (by omega)) rfl rfl rfl ?_
      refine ar_fa_ref tab_ok rfl rfl tb63 rfl rfl rfl rfl ?_
      refine ar_ld_ref tab_ok rfl rfl tb3 rfl rfl rfl rfl ?_
      refine ar_call [] (pc_43 _ _ (hn j (by omega))) rfl rfl rfl rfl rfl rfl trivial (.inl rfl) rfl rfl rfl ?_
      refine ar_bs [] tab_ok rfl tb28 rfl tb4 rfl trivial rfl rfl rfl rfl rfl rfl rfl rfl ?_
      refine ar_app 41 [] tab_ok rfl tb28 rfl tb28 rfl tb4 rfl rfl rfl rfl ⟨rfl, rfl, trivial⟩ rfl (elOk.cons rfl rfl elOk.nil) app_one (by constructor <;> simp <;> omega) rfl rfl rfl ?_
      refine ar_assign rfl rfl rfl rfl ?_
      refine ar_nil ?_
      refine inblk_n ?_
      refine then_n ?_
      refine wp_reg (by kernel_rfl) ?_
      refine ar_move rfl rfl rfl rfl ?_
      refine ar_addi rfl rfl rfl rfl (by omega) (by omega) rfl rfl ?_
      refine ar_assign rfl rfl rfl rfl ?_
      refine ar_nil ?_
      exact loop_n (j + 1) (by omega) (by omega) (le_ren [(901, 41)] ⟨rfl, rfl, rfl, rfl, rfl, trivial⟩ ⟨rfl, rfl, (row_eq rfl (by rw [take_snoc (by omega)]; simp)), trivial⟩ rfl rfl rfl rfl rfl)
    · refine ar_nil ?_
      refine then_n ?_
      refine wp_condF rfl ?_
      refine wp_exit ?_
      refine then_x (loop_x (inblk_e ?_))
      refine then_n ?_
      refine wp_seq ?_
      refine wp_draw (L := [([], []), ([], []), ([3], []), ([3], []), ([], []), ([], []), ([3], []), ([3], []), ([], []), ([], []), ([3], []), ([3], []), ([], []), ([], []), ([], []), ([7], [7]), ([], [])]) (by kernel_rfl) mixed (by kernel_rfl) ?_
      refine ar_move rfl rfl rfl rfl ?_
      refine ar_move rfl rfl rfl rfl ?_
      refine ar_fa tab_ok rfl rfl rfl tb27 rfl rfl rfl rfl rfl ?_
      refine ar_ld tab_ok rfl rfl rfl tb24 rfl rfl rfl rfl rfl ?_
      refine ar_call [] (pc_98 _ a.outs hb.o1 (fun l hl => ho l (.inl hl))) rfl rfl rfl rfl rfl rfl trivial (.inl rfl) rfl rfl rfl ?_
      refine ar_move rfl rfl rfl rfl ?_
      refine ar_fa tab_ok rfl rfl rfl tb27 rfl rfl rfl rfl rfl ?_
      refine ar_ld tab_ok rfl rfl rfl tb24 rfl rfl rfl rfl rfl ?_
      refine ar_call [] (pc_98 _ a.bad hb.b1 (fun l hl => ho l (.inr (.inl hl)))) rfl rfl rfl rfl rfl rfl trivial (.inl rfl) rfl rfl rfl ?_
      refine ar_move rfl rfl rfl rfl ?_
      refine ar_fa tab_ok rfl rfl rfl tb27 rfl rfl rfl rfl rfl ?_
      refine ar_ld tab_ok rfl rfl rfl tb24 rfl rfl rfl rfl rfl ?_
      refine ar_call [] (pc_98 _ a.con hb.c1 (fun l hl => ho l (.inr (.inr hl)))) rfl rfl rfl rfl rfl rfl trivial (.inl rfl) rfl rfl rfl ?_
      refine ar_builda [] tab_ok rfl tb40 rfl tb28 rfl trivial rfl rfl rfl rfl rfl rfl ?_
      refine ar_assign rfl rfl rfl rfl ?_
      refine ar_st [] tab_ok rfl tb40 rfl rfl rfl trivial rfl rfl rfl rfl rfl rfl rfl rfl ?_
      refine ar_assign rfl rfl rfl rfl ?_
      refine ar_nil ?_
      refine then_n ?_
      refine wp_ret ?_
      refine ret_post rfl rfl ?_
      have hi : j = a.l.length := by omega
      subst hi
      rw [stepS_ok (Decidable.not_not.1 h21), List.take_length]; rfl
def startF (ls : List Latch) (fr : List Bool) : List Bool := List.zipWith (fun l f => if l.reset < 2 then decide (l.reset = 1) else f) ls fr
def startS (a : Aig) (fr : List Bool) : List Bool × Int := if fr.length = a.l.length then (startF a.l fr, 0) else ([], 7)
theorem drop_cons {α : Type} [Inhabited α] {xs : List α} {j : Nat} (h : j < xs.length) : xs.drop j = xs.getD j default :: xs.drop (j + 1) := by
  rw [List.getD_eq_getElem?_getD, List.getElem?_eq_getElem h]; exact List.drop_eq_getElem_cons h
end Go.Vd
namespace Go.Vd
open Go.Proofs
abbrev valsV (a : Aig) (st inp : List Bool) : List Bool := valsOf (false :: (inp ++ st)) a.g
abbrev stepOk (a : Aig) (st inp : List Bool) : StepR := ⟨a.l.map fun l => litv (valsV a st inp) l.next, a.outs.map (litv (valsV a st inp)), a.bad.map (litv (valsV a st inp)), a.con.map (litv (valsV a st inp)), 0⟩
def shapeOk (a : Aig) (st inp : List Bool) : Prop := st.length = a.l.length ∧ (inp.length : Int) = a.i
theorem stepS_is {a : Aig} {st inp : List Bool} (h : shapeOk a st inp) : stepS a st inp = stepOk a st inp := by
  rw [stepS_ok (by rw [valuesS_ok h.1 h.2]), valuesS_ok h.1 h.2]
theorem stepS_not {a : Aig} {st inp : List Bool} (h : ¬ shapeOk a st inp) : stepS a st inp = ⟨[], [], [], [], 7⟩ := by
  rw [stepS_bad (by rw [valuesS_bad h]; decide), valuesS_bad h]
end Go.Vd
namespace Go.Vd
open Go.Proofs
abbrev slU (xs : List Int) : V := .sl (xs.map encU)
abbrev encUs (xs : List Int) : List V := [slU xs]
abbrev slUU (xs : List (List Int)) : V := .sl (xs.map encUs)
theorem el_72 (xs : List Int) : elOk 1 (xs.map encU) := el_5 xs
theorem el_70 (xs : List (List Int)) : elOk 1 (xs.map encUs) := elOk.map (enc := encUs) (fun _ => ⟨rfl, rfl⟩) xs
structure Trace where
  bad : Int
  ini : List Int
  ins : List (List Int)
  deriving Inhabited, DecidableEq
abbrev encT (t : Trace) : List V := [.int .i64 t.bad, slU t.ini, slUU t.ins]
abbrev trV (t : Trace) : V := .agg (encT t)
/-- Two rows, place by place. -/
def pairs {α β : Type} (p : α → β → Bool) : List α → List β → Bool
  | [], [] => true
  | x :: xs, y :: ys => p x y && pairs p xs ys
  | _, _ => false
theorem pairs_iff {α β : Type} [Inhabited α] [Inhabited β] (p : α → β → Bool) : ∀ (xs : List α) (ys : List β), pairs p xs ys = true ↔ xs.length = ys.length ∧ ∀ j, j < xs.length → p (xs.getD j default) (ys.getD j default) = true
  | [], [] => by simp [pairs]
  | x :: xs, y :: ys => by
    simp only [pairs, Bool.and_eq_true, pairs_iff p xs ys, List.length_cons, Nat.add_right_cancel_iff]
    constructor
    · rintro ⟨h1, h2, h3⟩
      refine ⟨h2, fun j hj => ?_⟩
      cases j with
      | zero => exact h1
      | succ j => exact h3 j (by omega)
    · rintro ⟨h1, h2⟩
      exact ⟨h2 0 (by omega), h1, fun j hj => h2 (j + 1) (by omega)⟩
  | [], y :: ys => by simp [pairs]
  | x :: xs, [] => by simp [pairs]
theorem pairs_len {α β : Type} [Inhabited α] [Inhabited β] {p : α → β → Bool} {xs : List α} {ys : List β} (h : ¬ xs.length = ys.length) : pairs p xs ys = false := by
  cases hb : pairs p xs ys with
  | false => rfl
  | true => exact absurd ((pairs_iff p xs ys).1 hb).1 h
theorem pairs_at {α β : Type} [Inhabited α] [Inhabited β] {p : α → β → Bool} {xs : List α} {ys : List β} {j : Nat} (hj : j < xs.length) (h : p (xs.getD j default) (ys.getD j default) = false) : pairs p xs ys = false := by
  cases hb : pairs p xs ys with
  | false => rfl
  | true => rw [((pairs_iff p xs ys).1 hb).2 j hj] at h; cases h
theorem pairs_of {α β : Type} [Inhabited α] [Inhabited β] {p : α → β → Bool} {xs : List α} {ys : List β} (hl : xs.length = ys.length) (h : ∀ j, j < xs.length → p (xs.getD j default) (ys.getD j default) = true) : pairs p xs ys = true := (pairs_iff p xs ys).2 ⟨hl, h⟩
theorem any_of {α : Type} [Inhabited α] {p : α → Bool} {xs : List α} {j : Nat} (hj : j < xs.length) (h : p (xs.getD j default) = true) : xs.any p = true :=
  List.any_eq_true.2 ⟨_, getD_mem hj, h⟩
theorem any_no {α : Type} [Inhabited α] {p : α → Bool} {xs : List α} (h : ∀ j, j < xs.length → p (xs.getD j default) = false) : xs.any p = false := by
  cases hb : xs.any p with
  | false => rfl
  | true =>
    obtain ⟨x, hx, hp⟩ := List.any_eq_true.1 hb
    obtain ⟨j, hj, rfl⟩ := List.getElem_of_mem hx
    have := h j hj
    rw [List.getD_eq_getElem?_getD, List.getElem?_eq_getElem hj] at this
    rw [Option.getD_some, hp] at this; cases this
end Go.Vd
namespace Go.Vd
open Go.Proofs Go.RowKit Go.ChangeShapes
section
variable {P : Program} {T : TypeId}
end
def U8L (v : List Int) : Prop := ∀ x, x ∈ v → 0 ≤ x ∧ x ≤ 255
theorem rd72 : Reads Try.prog 72 encU (fun n => 0 ≤ n ∧ n ≤ 255) := (reads_int (k := .u8) (by kernel_rfl)).map (fun n => n) (fun _ => rfl) (fun n h => h)
theorem rd70 : Reads Try.prog 70 (fun xs => [slU xs]) (fun xs => lenOk xs ∧ U8L xs) := (reads_slice (e := 72) (sz := 1) (by kernel_rfl) (by kernel_rfl) (by decide) rd72 (fun _ => rfl)).map (fun x => x) (fun _ => rfl) (fun _ h => h)
theorem rd99 : Reads Try.prog 99 (fun xs => [slUU xs]) (fun xs => lenOk xs ∧ ∀ x, x ∈ xs → lenOk x ∧ U8L x) := (reads_slice (e := 70) (sz := 1) (by kernel_rfl) (by kernel_rfl) (by decide) rd70 (fun _ => rfl)).map (fun x => x) (fun _ => rfl) (fun _ h => h)
/-- A trace as an argument brings it. -/
structure FitT (t : Trace) : Prop where
  b0 : -9223372036854775808 ≤ t.bad
  b1 : t.bad ≤ 9223372036854775807
  il : t.ini.length ≤ 9223372036854775807
  iu : U8L t.ini
  nl : t.ins.length ≤ 9223372036854775807
  rl : ∀ x, x ∈ t.ins → x.length ≤ 9223372036854775807
  ru : ∀ x, x ∈ t.ins → U8L x
theorem rd101 : Reads Try.prog 101 encT FitT :=
  (reads_struct (T := 101) (N := 3) (flds := [(0, 3), (1, 70), (2, 99)]) Try.underlying101 (by kernel_rfl) rfl (readsF_cons (sz := 1) (o' := 1) rd3 (by kernel_rfl) rfl (readsF_cons (sz := 1) (o' := 2) rd70 (by kernel_rfl) rfl (readsF_cons (sz := 1) (o' := 3) rd99 (by kernel_rfl) rfl (readsF_nil (Nat.le_refl _)))))).map
    (fun p => ⟨p.1, p.2.1, p.2.2.1⟩) (fun _ => rfl) (fun _ h => ⟨h.1.1, h.1.2, h.2.1.1, h.2.1.2, h.2.2.1.1, fun x hx => (h.2.2.1.2 x hx).1, fun x hx => (h.2.2.1.2 x hx).2⟩)
theorem U8L.nn {v : List Int} (h : U8L v) : ∀ x, x ∈ v → 0 ≤ x := fun x hx => (h x hx).1
end Go.Vd
namespace Go.Vd
open Go.Proofs
def notT (x : Int) : Int := if x = 0 then 1 else if x = 1 then 0 else 2
def andT (x y : Int) : Int := if x = 0 ∨ y = 0 then 0 else if x = 1 ∧ y = 1 then 1 else 2
def isTri (l : List Int) : Bool := !l.any fun x => decide (x > 2)
def lowT (x y : Int) : Bool := decide (x = y) || decide (y = 2)
abbrev belowT (x y : List Int) : Bool := pairs lowT x y
def chT (x : Int) : Int := if x = 0 then 48 else if x = 1 then 49 else 120
def textT (l : List Int) : ByteArray := bytesOf (l.map chT)
/-- Three values, all of them. -/
def Tri (x : Int) : Prop := 0 ≤ x ∧ x ≤ 2
theorem Tri.cases {x : Int} (h : Tri x) : x = 0 ∨ x = 1 ∨ x = 2 := by unfold Tri at h; omega
theorem not_get {x : Int} (h : Tri x) : ([V.int .u8 1, .int .u8 0, .int .u8 2] : List V)[x.toNat]? = some (.int .u8 (notT x)) := by
  rcases h.cases with rfl | rfl | rfl <;> rfl
theorem and_get {x y : Int} (h : Tri x) (h' : Tri y) : ([.v (.int .u8 0), .v (.int .u8 0), .v (.int .u8 0), .v (.int .u8 0), .v (.int .u8 1), .v (.int .u8 2), .v (.int .u8 0), .v (.int .u8 2), .v (.int .u8 2)] : List D)[0 + x.toNat * 3 + y.toNat * 1]? = some (.v (.int .u8 (andT x y))) := by
  rcases h.cases with rfl | rfl | rfl <;> rcases h'.cases with rfl | rfl | rfl <;> rfl
theorem notT_tri (x : Int) : Tri (notT x) := by unfold notT Tri; split <;> (try split) <;> omega
theorem andT_tri (x y : Int) : Tri (andT x y) := by unfold andT Tri; split <;> (try split) <;> omega
theorem pce_136 (xs : List Int) (f : FuncId) (fi ca : List V) (p : Int → Bool) (hl : xs.length ≤ 9223372036854775807) (hc : ∀ x, x ∈ xs → PCall Try.prog f (fi ++ [.int .u8 x] ++ ca) (.bool (p x))) : PCallE Try.prog 136 [slU xs, .fn (.func f) fi ca] (fun r => ∃ n : Int, r = .int .i64 n ∧ decide (n ≥ 0) = xs.any p) := by
  refine pce_of tab_ok (f := 136) (fn := Try.f136) (N := 19) (rs := [.tmp 4]) (by kernel_rfl) rfl (by kernel_rfl) rfl rfl [(0, .v (slU xs)), (1, .v (.fn (.func f) fi ca))] ⟨rfl, rfl, trivial⟩ rfl rfl ?_
  intro B
  refine wp_seq ?_
  refine wp_reg (by kernel_rfl) ?_
  refine ar_assign rfl rfl rfl rfl ?_
  refine ar_nil ?_
  refine then_n ?_
  refine wp_seq ?_
  refine wp_seq ?_
  refine wp_reg (by kernel_rfl) ?_
  refine ar_move rfl rfl rfl rfl ?_
  refine ar_len tab_ok rfl rfl tb70 rfl len_map rfl rfl ?_
  refine ar_move rfl rfl rfl rfl ?_
  refine ar_nil ?_
  refine then_n ?_
  refine wp_block ?_
  refine wp_loop (α := Nat) (fun j => mk [(0, .v (slU xs)), (1, .v (.fn (.func f) fi ca)), (7, .v (.int .i64 (xs.length : Nat))), (8, .v (.int .i64 (j : Nat)))] [] 0) (fun j => j ≤ xs.length ∧ ∀ q, q < j → p (xs.getD q default) = false) (fun j => xs.length - j) 0 ⟨Nat.zero_le _, fun q h => absurd h (Nat.not_lt_zero q)⟩ (le_to ⟨rfl, rfl, rfl, rfl, trivial⟩ trivial rfl rfl rfl rfl) ?_
  rintro j ⟨hj1, hj2⟩
  refine wp_seq ?_
  refine wp_reg (by kernel_rfl) ?_
  refine ar_lss_s rfl rfl rfl rfl rfl (fun h9 => ?_) (fun h9 => ?_)
  · refine ar_nil ?_
    refine then_n ?_
    refine wp_seq ?_
    refine wp_condT rfl ?_
    refine wp_skip ?_
    refine then_n ?_
    refine wp_seq ?_
    refine wp_block ?_
    refine wp_seq ?_
    refine wp_reg (by kernel_rfl) ?_
    refine ar_move rfl rfl rfl rfl ?_
    refine ar_assign rfl rfl rfl rfl ?_
    refine ar_nil ?_
    refine then_n ?_
    refine wp_seq ?_
    refine wp_reg (by kernel_rfl) ?_
    refine ar_move rfl rfl rfl rfl ?_
    refine ar_move rfl rfl rfl rfl ?_
    refine ar_move rfl rfl rfl rfl ?_
    refine ar_ia tab_ok rfl rfl rfl tb70 rfl tb72 (by omega) (map_get (n := j) (by omega)) rfl rfl rfl ?_
    refine ar_ld_ref tab_ok rfl rfl tb72 rfl rfl rfl rfl ?_
    refine ar_call [] (hc _ (getD_mem (by omega))) rfl rfl rfl rfl rfl rfl trivial (.inl rfl) rfl rfl rfl ?_
    refine ar_split (fun h16 => ?_) (fun h16 => ?_)
    · refine ar_nil ?_
      refine then_n ?_
      refine wp_condT rfl ?_
      refine wp_seq ?_
      refine wp_reg (by kernel_rfl) ?_
      refine ar_move rfl rfl rfl rfl ?_
      refine ar_assign rfl rfl rfl rfl ?_
      refine ar_nil ?_
      refine then_n ?_
      refine wp_ret ?_
      refine inblk_r (then_r (loop_r (inblk_r (then_r (ret_postE rfl rfl ?_)))))
      exact ⟨_, rfl, by rw [any_of (by omega) h16]; simp⟩
    · refine ar_nil ?_
      refine then_n ?_
      refine wp_condF rfl ?_
      refine wp_skip ?_
      refine inblk_n ?_
      refine then_n ?_
      refine wp_reg (by kernel_rfl) ?_
      refine ar_addi rfl rfl rfl rfl (by omega) (by omega) rfl rfl ?_
      refine ar_move rfl rfl rfl rfl ?_
      refine ar_nil ?_
      exact loop_n (j + 1) ⟨by omega, fun q hq => (Nat.lt_succ_iff_lt_or_eq.1 hq).elim (hj2 q) (fun e => e ▸ h16)⟩ (by omega) (le_to ⟨rfl, rfl, rfl, rfl, trivial⟩ trivial rfl rfl rfl rfl)
  · refine ar_nil ?_
    refine then_n ?_
    refine wp_seq ?_
    refine wp_condF rfl ?_
    refine wp_exit ?_
    refine then_x (loop_x (inblk_e ?_))
    refine then_n ?_
    refine wp_seq ?_
    refine wp_reg (by kernel_rfl) ?_
    refine ar_assign rfl rfl rfl rfl ?_
    refine ar_nil ?_
    refine then_n ?_
    refine wp_ret ?_
    refine ret_postE rfl rfl ?_
    exact ⟨_, rfl, by rw [any_no (fun q hq => hj2 q (by omega))]; rfl⟩
theorem pc_101 (xs : List Int) (f : FuncId) (fi ca : List V) (p : Int → Bool) (hl : xs.length ≤ 9223372036854775807) (hc : ∀ x, x ∈ xs → PCall Try.prog f (fi ++ [.int .u8 x] ++ ca) (.bool (p x))) : PCall Try.prog 101 [slU xs, .fn (.func f) fi ca] (.bool (xs.any p)) := by
  refine pc_of tab_ok (f := 101) (fn := Try.f101) (N := 9) (rs := [.tmp 4]) (by kernel_rfl) rfl (by kernel_rfl) rfl rfl [(0, .v (slU xs)), (1, .v (.fn (.func f) fi ca))] ⟨rfl, rfl, trivial⟩ rfl rfl ?_
  intro B
  refine wp_seq ?_
  refine wp_reg (by kernel_rfl) ?_
  refine ar_assign rfl rfl rfl rfl ?_
  refine ar_nil ?_
  refine then_n ?_
  refine wp_seq ?_
  refine wp_reg (by kernel_rfl) ?_
  refine ar_move rfl rfl rfl rfl ?_
  refine ar_move rfl rfl rfl rfl ?_
  refine ar_callE [] (pce_136 xs f fi ca p hl hc) rfl rfl rfl rfl rfl rfl trivial (.inl rfl) rfl rfl rfl ?_
  rintro _ ⟨n, rfl, hn⟩
  refine ar_geq (z := xs.any p) rfl rfl rfl hn rfl rfl ?_
  refine ar_assign rfl rfl rfl rfl ?_
  refine ar_nil ?_
  refine then_n ?_
  refine wp_ret ?_
  refine ret_post rfl rfl ?_
  rfl
theorem pc_102 (x : Int) : PCall Try.prog 102 [.int .u8 x] (.bool (decide (x > 2))) := by
  refine pc_of tab_ok (f := 102) (fn := Try.f102) (N := 5) (rs := [.tmp 2]) (by kernel_rfl) rfl (by kernel_rfl) rfl rfl [(0, .v (.int .u8 x))] ⟨rfl, trivial⟩ rfl rfl ?_
  intro B
  refine wp_seq ?_
  refine wp_reg (by kernel_rfl) ?_
  refine ar_assign rfl rfl rfl rfl ?_
  refine ar_nil ?_
  refine then_n ?_
  refine wp_seq ?_
  refine wp_reg (by kernel_rfl) ?_
  refine ar_move rfl rfl rfl rfl ?_
  refine ar_gtr rfl rfl rfl rfl rfl rfl ?_
  refine ar_assign rfl rfl rfl rfl ?_
  refine ar_nil ?_
  refine then_n ?_
  refine wp_ret ?_
  refine ret_post rfl rfl ?_
  rfl
theorem pc_45 (xs : List Int) (hl : xs.length ≤ 9223372036854775807) : PCall Try.prog 45 [slU xs] (.bool (isTri xs)) := by
  refine pc_of tab_ok (f := 45) (fn := Try.f45) (N := 6) (rs := [.tmp 2]) (by kernel_rfl) rfl (by kernel_rfl) rfl rfl [(0, .v (slU xs))] ⟨rfl, trivial⟩ rfl rfl ?_
  intro B
  refine wp_seq ?_
  refine wp_reg (by kernel_rfl) ?_
  refine ar_assign rfl rfl rfl rfl ?_
  refine ar_nil ?_
  refine then_n ?_
  refine wp_seq ?_
  refine wp_reg (by kernel_rfl) ?_
  refine ar_move rfl rfl rfl rfl ?_
  refine ar_call [] (pc_101 xs 102 [] [] (fun x => decide (x > 2)) hl (fun x _ => pc_102 x)) rfl rfl rfl rfl rfl rfl trivial (.inl rfl) rfl rfl rfl ?_
  refine ar_not rfl rfl rfl rfl rfl ?_
  refine ar_assign rfl rfl rfl rfl ?_
  refine ar_nil ?_
  refine then_n ?_
  refine wp_ret ?_
  refine ret_post rfl rfl ?_
  rfl
theorem pc_46 (xs : List Int) (hl : xs.length ≤ 9223372036854775807) : PCall Try.prog 46 [slU xs] (.bool (isTri xs)) := by
  refine pc_of tab_ok (f := 46) (fn := Try.f46) (N := 15) (rs := [.tmp 2]) (by kernel_rfl) rfl (by kernel_rfl) rfl rfl [(0, .v (slU xs))] ⟨rfl, trivial⟩ rfl rfl ?_
  intro B
  refine wp_seq ?_
  refine wp_reg (by kernel_rfl) ?_
  refine ar_assign rfl rfl rfl rfl ?_
  refine ar_nil ?_
  refine then_n ?_
  refine wp_seq ?_
  refine wp_seq ?_
  refine wp_reg (by kernel_rfl) ?_
  refine ar_assign rfl rfl rfl rfl ?_
  refine ar_nil ?_
  refine then_n ?_
  refine wp_block ?_
  refine wp_loop (α := Nat) (fun j => mk [(0, .v (slU xs)), (3, .v (.int .i64 (j : Nat)))] [] 0) (fun j => j ≤ xs.length ∧ ∀ q, q < j → decide (xs.getD q default > 2) = false) (fun j => xs.length - j) 0 ⟨Nat.zero_le _, fun q h => absurd h (Nat.not_lt_zero q)⟩ (le_to ⟨rfl, rfl, trivial⟩ trivial rfl rfl rfl rfl) ?_
  rintro j ⟨hj1, hj2⟩
  refine wp_seq ?_
  refine wp_seq ?_
  refine wp_reg (by kernel_rfl) ?_
  refine ar_move rfl rfl rfl rfl ?_
  refine ar_move rfl rfl rfl rfl ?_
  refine ar_len tab_ok rfl rfl tb70 rfl len_map rfl rfl ?_
  refine ar_lss_s rfl rfl rfl rfl rfl (fun h7 => ?_) (fun h7 => ?_)
  · refine ar_nil ?_
    refine then_n ?_
    refine wp_condT rfl ?_
    refine wp_skip ?_
    refine then_n ?_
    refine wp_seq ?_
    refine wp_block ?_
    refine wp_seq ?_
    refine wp_reg (by kernel_rfl) ?_
    refine ar_move rfl rfl rfl rfl ?_
    refine ar_move rfl rfl rfl rfl ?_
    refine ar_ia tab_ok rfl rfl rfl tb70 rfl tb72 (by omega) (map_get (n := j) (by omega)) rfl rfl rfl ?_
    refine ar_ld_ref tab_ok rfl rfl tb72 rfl rfl rfl rfl ?_
    refine ar_gtr_s rfl rfl rfl rfl rfl (fun h14 => ?_) (fun h14 => ?_)
    · refine ar_nil ?_
      refine then_n ?_
      refine wp_condT rfl ?_
      refine wp_seq ?_
      refine wp_reg (by kernel_rfl) ?_
      refine ar_assign rfl rfl rfl rfl ?_
      refine ar_nil ?_
      refine then_n ?_
      refine wp_ret ?_
      refine inblk_r (then_r (loop_r (inblk_r (then_r (ret_post rfl rfl ?_)))))
      simp only [isTri]; rw [any_of (p := fun x => decide (x > 2)) (j := j) (by omega) (decide_eq_true h14)]; rfl
    · refine ar_nil ?_
      refine then_n ?_
      refine wp_condF rfl ?_
      refine wp_skip ?_
      refine inblk_n ?_
      refine then_n ?_
      refine wp_reg (by kernel_rfl) ?_
      refine ar_move rfl rfl rfl rfl ?_
      refine ar_addi rfl rfl rfl rfl (by omega) (by omega) rfl rfl ?_
      refine ar_assign rfl rfl rfl rfl ?_
      refine ar_nil ?_
      exact loop_n (j + 1) ⟨by omega, fun q hq => (Nat.lt_succ_iff_lt_or_eq.1 hq).elim (hj2 q) (fun e => e ▸ decide_eq_false h14)⟩ (by omega) (le_to ⟨rfl, rfl, trivial⟩ trivial rfl rfl rfl rfl)
  · refine ar_nil ?_
    refine then_n ?_
    refine wp_condF rfl ?_
    refine wp_exit ?_
    refine then_x (loop_x (inblk_e ?_))
    refine then_n ?_
    refine wp_seq ?_
    refine wp_reg (by kernel_rfl) ?_
    refine ar_assign rfl rfl rfl rfl ?_
    refine ar_nil ?_
    refine then_n ?_
    refine wp_ret ?_
    refine ret_post rfl rfl ?_
    simp only [isTri]; rw [any_no (fun q hq => hj2 q (by omega))]; rfl
theorem pc_47 (x : Int) (h : Tri x) : PCall Try.prog 47 [.int .u8 x] (.int .u8 (notT x)) := by
  refine pc_of tab_ok (f := 47) (fn := Try.f47) (N := 6) (rs := [.tmp 2]) (by kernel_rfl) rfl (by kernel_rfl) rfl rfl [(0, .v (.int .u8 x))] ⟨rfl, trivial⟩ rfl rfl ?_
  intro B
  refine wp_seq ?_
  refine wp_reg (by kernel_rfl) ?_
  refine ar_assign rfl rfl rfl rfl ?_
  refine ar_nil ?_
  refine then_n ?_
  refine wp_seq ?_
  refine wp_reg (by kernel_rfl) ?_
  refine ar_builda [] tab_ok rfl tb142 rfl tb72 rfl trivial rfl rfl rfl rfl rfl rfl ?_
  refine ar_move rfl rfl rfl rfl ?_
  refine ar_ix_arr tab_ok rfl rfl rfl tb142 rfl tb72 rfl rfl h.1 (by have := h.2; omega) (not_get h) rfl rfl ?_
  refine ar_assign rfl rfl rfl rfl ?_
  refine ar_nil ?_
  refine then_n ?_
  refine wp_ret ?_
  refine ret_post rfl rfl ?_
  rfl
theorem pc_48 (x : Int) : PCall Try.prog 48 [.int .u8 x] (.int .u8 (notT x)) := by
  refine pc_of tab_ok (f := 48) (fn := Try.f48) (N := 8) (rs := [.tmp 2]) (by kernel_rfl) rfl (by kernel_rfl) rfl rfl [(0, .v (.int .u8 x))] ⟨rfl, trivial⟩ rfl rfl ?_
  intro B
  refine wp_seq ?_
  refine wp_reg (by kernel_rfl) ?_
  refine ar_assign rfl rfl rfl rfl ?_
  refine ar_nil ?_
  refine then_n ?_
  refine wp_seq ?_
  refine wp_seq ?_
  refine wp_reg (by kernel_rfl) ?_
  refine ar_move rfl rfl rfl rfl ?_
  refine ar_nil ?_
  refine then_n ?_
  refine wp_block ?_
  refine wp_seq ?_
  refine wp_reg (by kernel_rfl) ?_
  refine ar_eql_s rfl rfl rfl rfl rfl (fun h5 => ?_) (fun h5 => ?_)
  · refine ar_assign rfl rfl rfl rfl ?_
    refine ar_nil ?_
    refine then_n ?_
    refine wp_condT rfl ?_
    refine wp_seq ?_
    refine wp_reg (by kernel_rfl) ?_
    refine ar_assign rfl rfl rfl rfl ?_
    refine ar_nil ?_
    refine then_n ?_
    refine wp_ret ?_
    refine inblk_r (then_r (ret_post rfl rfl ?_))
    simp [notT, *]
  · refine ar_assign rfl rfl rfl rfl ?_
    refine ar_nil ?_
    refine then_n ?_
    refine wp_condF rfl ?_
    refine wp_seq ?_
    refine wp_reg (by kernel_rfl) ?_
    refine ar_eql_s rfl rfl rfl rfl rfl (fun h7 => ?_) (fun h7 => ?_)
    · refine ar_assign rfl rfl rfl rfl ?_
      refine ar_nil ?_
      refine then_n ?_
      refine wp_condT rfl ?_
      refine wp_seq ?_
      refine wp_reg (by kernel_rfl) ?_
      refine ar_assign rfl rfl rfl rfl ?_
      refine ar_nil ?_
      refine then_n ?_
      refine wp_ret ?_
      refine inblk_r (then_r (ret_post rfl rfl ?_))
      simp [notT, *]
    · refine ar_assign rfl rfl rfl rfl ?_
      refine ar_nil ?_
      refine then_n ?_
      refine wp_condF rfl ?_
      refine wp_skip ?_
      refine inblk_n ?_
      refine then_n ?_
      refine wp_seq ?_
      refine wp_reg (by kernel_rfl) ?_
      refine ar_assign rfl rfl rfl rfl ?_
      refine ar_nil ?_
      refine then_n ?_
      refine wp_ret ?_
      refine ret_post rfl rfl ?_
      simp [notT, *]
theorem pc_49 (x y : Int) (h : Tri x) (h' : Tri y) : PCall Try.prog 49 [.int .u8 x, .int .u8 y] (.int .u8 (andT x y)) := by
  refine pc_of tab_ok (f := 49) (fn := Try.f49) (N := 15) (rs := [.tmp 4]) (by kernel_rfl) rfl (by kernel_rfl) rfl rfl [(0, .v (.int .u8 x)), (1, .v (.int .u8 y))] ⟨rfl, rfl, trivial⟩ rfl rfl ?_
  intro B
  refine wp_seq ?_
  refine wp_reg (by kernel_rfl) ?_
  refine ar_assign rfl rfl rfl rfl ?_
  refine ar_nil ?_
  refine then_n ?_
  refine wp_seq ?_
  refine wp_reg (by kernel_rfl) ?_
  refine ar_builda [] tab_ok rfl tb142 rfl tb72 rfl trivial rfl rfl rfl rfl rfl rfl ?_
  refine ar_builda [] tab_ok rfl tb142 rfl tb72 rfl trivial rfl rfl rfl rfl rfl rfl ?_
  refine ar_builda [] tab_ok rfl tb142 rfl tb72 rfl trivial rfl rfl rfl rfl rfl rfl ?_
  refine ar_builda [] tab_ok rfl tb143 rfl tb142 rfl trivial rfl rfl rfl rfl rfl rfl ?_
  refine ar_alloc (id := 5) tab_ok rfl rfl tb143 rfl rfl rfl rfl ?_
  refine ar_st [] tab_ok rfl tb143 rfl rfl rfl trivial rfl rfl rfl rfl rfl rfl rfl rfl ?_
  refine ar_nil ?_
  refine then_n ?_
  refine wp_seq ?_
  refine wp_reg (by kernel_rfl) ?_
  refine ar_move rfl rfl rfl rfl ?_
  refine ar_move rfl rfl rfl rfl ?_
  refine ar_ia_arr (j := 0 + x.toNat * 3) tab_ok rfl rfl rfl rfl tb143 rfl tb142 h.1 (by have := h.2; omega) rfl rfl rfl rfl ?_
  refine ar_ia_arr (j := 0 + x.toNat * 3 + y.toNat * 1) tab_ok rfl rfl rfl rfl tb142 rfl tb72 h'.1 (by have := h'.2; omega) rfl rfl rfl rfl ?_
  refine ar_ld tab_ok rfl rfl rfl tb72 rfl (and_get h h') rfl rfl rfl ?_
  refine ar_assign rfl rfl rfl rfl ?_
  refine ar_nil ?_
  refine then_n ?_
  refine wp_ret ?_
  refine ret_post rfl rfl ?_
  rfl
theorem pc_50 (x y : Int) : PCall Try.prog 50 [.int .u8 x, .int .u8 y] (.int .u8 (andT x y)) := by
  refine pc_of tab_ok (f := 50) (fn := Try.f50) (N := 17) (rs := [.tmp 4]) (by kernel_rfl) rfl (by kernel_rfl) rfl rfl [(0, .v (.int .u8 x)), (1, .v (.int .u8 y))] ⟨rfl, rfl, trivial⟩ rfl rfl ?_
  intro B
  refine wp_seq ?_
  refine wp_reg (by kernel_rfl) ?_
  refine ar_assign rfl rfl rfl rfl ?_
  refine ar_nil ?_
  refine then_n ?_
  refine wp_seq ?_
  refine wp_seq ?_
  refine wp_reg (by kernel_rfl) ?_
  refine ar_move rfl rfl rfl rfl ?_
  refine ar_eql_s rfl rfl rfl rfl rfl (fun h6 => ?_) (fun h6 => ?_)
  · refine ar_move rfl rfl rfl rfl ?_
    refine ar_skip rfl rfl ?_
    refine ar_skip rfl rfl ?_
    refine ar_pickT rfl rfl rfl rfl rfl ?_
    refine ar_nil ?_
    refine then_n ?_
    refine wp_condT rfl ?_
    refine wp_seq ?_
    refine wp_reg (by kernel_rfl) ?_
    refine ar_assign rfl rfl rfl rfl ?_
    refine ar_nil ?_
    refine then_n ?_
    refine wp_ret ?_
    refine then_r (ret_post rfl rfl ?_)
    simp [andT, *]
  · refine ar_move rfl rfl rfl rfl ?_
    refine ar_move rfl rfl rfl rfl ?_
    refine ar_eql_s rfl rfl rfl rfl rfl (fun h9 => ?_) (fun h9 => ?_)
    · refine ar_pickF rfl rfl rfl rfl rfl ?_
      refine ar_nil ?_
      refine then_n ?_
      refine wp_condT rfl ?_
      refine wp_seq ?_
      refine wp_reg (by kernel_rfl) ?_
      refine ar_assign rfl rfl rfl rfl ?_
      refine ar_nil ?_
      refine then_n ?_
      refine wp_ret ?_
      refine then_r (ret_post rfl rfl ?_)
      simp [andT, *]
    · refine ar_pickF rfl rfl rfl rfl rfl ?_
      refine ar_nil ?_
      refine then_n ?_
      refine wp_condF rfl ?_
      refine wp_skip ?_
      refine then_n ?_
      refine wp_seq ?_
      refine wp_seq ?_
      refine wp_reg (by kernel_rfl) ?_
      refine ar_move rfl rfl rfl rfl ?_
      refine ar_eql_s rfl rfl rfl rfl rfl (fun h12 => ?_) (fun h12 => ?_)
      · refine ar_move rfl rfl rfl rfl ?_
        refine ar_move rfl rfl rfl rfl ?_
        refine ar_eql_s rfl rfl rfl rfl rfl (fun h15 => ?_) (fun h15 => ?_)
        · refine ar_pickT rfl rfl rfl rfl rfl ?_
          refine ar_nil ?_
          refine then_n ?_
          refine wp_condT rfl ?_
          refine wp_seq ?_
          refine wp_reg (by kernel_rfl) ?_
          refine ar_assign rfl rfl rfl rfl ?_
          refine ar_nil ?_
          refine then_n ?_
          refine wp_ret ?_
          refine then_r (ret_post rfl rfl ?_)
          simp [andT, *]
        · refine ar_pickT rfl rfl rfl rfl rfl ?_
          refine ar_nil ?_
          refine then_n ?_
          refine wp_condF rfl ?_
          refine wp_skip ?_
          refine then_n ?_
          refine wp_seq ?_
          refine wp_reg (by kernel_rfl) ?_
          refine ar_assign rfl rfl rfl rfl ?_
          refine ar_nil ?_
          refine then_n ?_
          refine wp_ret ?_
          refine ret_post rfl rfl ?_
          simp [andT, *]
      · refine ar_move rfl rfl rfl rfl ?_
        refine ar_skip rfl rfl ?_
        refine ar_skip rfl rfl ?_
        refine ar_pickF rfl rfl rfl rfl rfl ?_
        refine ar_nil ?_
        refine then_n ?_
        refine wp_condF rfl ?_
        refine wp_skip ?_
        refine then_n ?_
        refine wp_seq ?_
        refine wp_reg (by kernel_rfl) ?_
        refine ar_assign rfl rfl rfl rfl ?_
        refine ar_nil ?_
        refine then_n ?_
        refine wp_ret ?_
        refine ret_post rfl rfl ?_
        simp [andT, *]
theorem pc_103 (xs : List Int) (ys : List Int) (f : FuncId) (fi ca : List V) (p : Int → Int → Bool) (hl : xs.length ≤ 9223372036854775807) (hl2 : ys.length ≤ 9223372036854775807) (hc : ∀ x y, x ∈ xs → y ∈ ys → PCall Try.prog f (fi ++ [.int .u8 x, .int .u8 y] ++ ca) (.bool (p x y))) : PCall Try.prog 103 [slU xs, slU ys, .fn (.func f) fi ca] (.bool (pairs p xs ys)) := by
  refine pc_of tab_ok (f := 103) (fn := Try.f103) (N := 32) (rs := [.tmp 6]) (by kernel_rfl) rfl (by kernel_rfl) rfl rfl [(0, .v (slU xs)), (1, .v (slU ys)), (2, .v (.fn (.func f) fi ca))] ⟨rfl, rfl, rfl, trivial⟩ rfl rfl ?_
  intro B
  refine wp_seq ?_
  refine wp_reg (by kernel_rfl) ?_
  refine ar_assign rfl rfl rfl rfl ?_
  refine ar_nil ?_
  refine then_n ?_
  refine wp_seq ?_
  refine wp_seq ?_
  refine wp_reg (by kernel_rfl) ?_
  refine ar_move rfl rfl rfl rfl ?_
  refine ar_len tab_ok rfl rfl tb70 rfl len_map rfl rfl ?_
  refine ar_move rfl rfl rfl rfl ?_
  refine ar_len tab_ok rfl rfl tb70 rfl len_map rfl rfl ?_
  refine ar_neq_s rfl rfl rfl rfl rfl (fun h14 => ?_) (fun h14 => ?_)
  · refine ar_nil ?_
    refine then_n ?_
    refine wp_condT rfl ?_
    refine wp_seq ?_
    refine wp_reg (by kernel_rfl) ?_
    refine ar_assign rfl rfl rfl rfl ?_
    refine ar_nil ?_
    refine then_n ?_
    refine wp_ret ?_
    refine then_r (ret_post rfl rfl ?_)
    rw [pairs_len (by omega)]
  · refine ar_nil ?_
    refine then_n ?_
    refine wp_condF rfl ?_
    refine wp_skip ?_
    refine then_n ?_
    refine wp_seq ?_
    refine wp_seq ?_
    refine wp_reg (by kernel_rfl) ?_
    refine ar_move rfl rfl rfl rfl ?_
    refine ar_len tab_ok rfl rfl tb70 rfl len_map rfl rfl ?_
    refine ar_move rfl rfl rfl rfl ?_
    refine ar_nil ?_
    refine then_n ?_
    refine wp_block ?_
    refine wp_loop (α := Nat) (fun j => mk [(1, .v (slU ys)), (2, .v (.fn (.func f) fi ca)), (15, .v (slU xs)), (16, .v (.int .i64 (xs.length : Nat))), (17, .v (.int .i64 (j : Nat)))] [] 0) (fun j => j ≤ xs.length ∧ ∀ q, q < j → p (xs.getD q default) (ys.getD q default) = true) (fun j => xs.length - j) 0 ⟨Nat.zero_le _, fun q h => absurd h (Nat.not_lt_zero q)⟩ (le_to ⟨rfl, rfl, rfl, rfl, rfl, trivial⟩ trivial rfl rfl rfl rfl) ?_
    rintro j ⟨hj1, hj2⟩
    refine wp_seq ?_
    refine wp_reg (by kernel_rfl) ?_
    refine ar_lss_s rfl rfl rfl rfl rfl (fun h18 => ?_) (fun h18 => ?_)
    · refine ar_nil ?_
      refine then_n ?_
      refine wp_seq ?_
      refine wp_condT rfl ?_
      refine wp_skip ?_
      refine then_n ?_
      refine wp_seq ?_
      refine wp_block ?_
      refine wp_seq ?_
      refine wp_reg (by kernel_rfl) ?_
      refine ar_move rfl rfl rfl rfl ?_
      refine ar_ia tab_ok rfl rfl rfl tb70 rfl tb72 (by omega) (map_get (n := j) (by omega)) rfl rfl rfl ?_
      refine ar_ld_ref tab_ok rfl rfl tb72 rfl rfl rfl rfl ?_
      refine ar_assign rfl rfl rfl rfl ?_
      refine ar_assign rfl rfl rfl rfl ?_
      refine ar_nil ?_
      refine then_n ?_
      refine wp_seq ?_
      refine wp_reg (by kernel_rfl) ?_
      refine ar_move rfl rfl rfl rfl ?_
      refine ar_move rfl rfl rfl rfl ?_
      refine ar_ia tab_ok rfl rfl rfl tb70 rfl tb72 (by omega) (map_get (n := j) (by omega)) rfl rfl rfl ?_
      refine ar_ld_ref tab_ok rfl rfl tb72 rfl rfl rfl rfl ?_
      refine ar_assign rfl rfl rfl rfl ?_
      refine ar_nil ?_
      refine then_n ?_
      refine wp_seq ?_
      refine wp_reg (by kernel_rfl) ?_
      refine ar_move rfl rfl rfl rfl ?_
      refine ar_move rfl rfl rfl rfl ?_
      refine ar_move rfl rfl rfl rfl ?_
      refine ar_call [] (hc _ _ (getD_mem (by omega)) (getD_mem (by omega))) rfl rfl rfl rfl rfl rfl trivial (.inl rfl) rfl rfl rfl ?_
      refine ar_split (fun h29 => ?_) (fun h29 => ?_)
      · refine ar_not rfl rfl rfl rfl rfl ?_
        refine ar_nil ?_
        refine then_n ?_
        refine wp_condF rfl ?_
        refine wp_skip ?_
        refine inblk_n ?_
        refine then_n ?_
        refine wp_reg (by kernel_rfl) ?_
        refine ar_addi rfl rfl rfl rfl (by omega) (by omega) rfl rfl ?_
        refine ar_move rfl rfl rfl rfl ?_
        refine ar_nil ?_
        exact loop_n (j + 1) ⟨by omega, fun q hq => (Nat.lt_succ_iff_lt_or_eq.1 hq).elim (hj2 q) (fun e => e ▸ h29)⟩ (by omega) (le_to ⟨rfl, rfl, rfl, rfl, rfl, trivial⟩ trivial rfl rfl rfl rfl)
      · refine ar_not rfl rfl rfl rfl rfl ?_
        refine ar_nil ?_
        refine then_n ?_
        refine wp_condT rfl ?_
        refine wp_seq ?_
        refine wp_reg (by kernel_rfl) ?_
        refine ar_assign rfl rfl rfl rfl ?_
        refine ar_nil ?_
        refine then_n ?_
        refine wp_ret ?_
        refine inblk_r (then_r (loop_r (inblk_r (then_r (ret_post rfl rfl ?_)))))
        rw [pairs_at (j := j) (by omega) (by assumption)]
    · refine ar_nil ?_
      refine then_n ?_
      refine wp_seq ?_
      refine wp_condF rfl ?_
      refine wp_exit ?_
      refine then_x (loop_x (inblk_e ?_))
      refine then_n ?_
      refine wp_seq ?_
      refine wp_reg (by kernel_rfl) ?_
      refine ar_assign rfl rfl rfl rfl ?_
      refine ar_nil ?_
      refine then_n ?_
      refine wp_ret ?_
      refine ret_post rfl rfl ?_
      rw [pairs_of (by omega) (fun q hq => hj2 q (by omega))]
theorem pc_52 (xs ys : List Int) (hl : xs.length ≤ 9223372036854775807) (hl2 : ys.length ≤ 9223372036854775807) : PCall Try.prog 52 [slU xs, slU ys] (.bool (belowT xs ys)) := by
  refine pc_of tab_ok (f := 52) (fn := Try.f52) (N := 33) (rs := [.tmp 4]) (by kernel_rfl) rfl (by kernel_rfl) rfl rfl [(0, .v (slU xs)), (1, .v (slU ys))] ⟨rfl, rfl, trivial⟩ rfl rfl ?_
  intro B
  refine wp_seq ?_
  refine wp_reg (by kernel_rfl) ?_
  refine ar_assign rfl rfl rfl rfl ?_
  refine ar_nil ?_
  refine then_n ?_
  refine wp_seq ?_
  refine wp_seq ?_
  refine wp_reg (by kernel_rfl) ?_
  refine ar_move rfl rfl rfl rfl ?_
  refine ar_len tab_ok rfl rfl tb70 rfl len_map rfl rfl ?_
  refine ar_move rfl rfl rfl rfl ?_
  refine ar_len tab_ok rfl rfl tb70 rfl len_map rfl rfl ?_
  refine ar_neq_s rfl rfl rfl rfl rfl (fun h10 => ?_) (fun h10 => ?_)
  · refine ar_nil ?_
    refine then_n ?_
    refine wp_condT rfl ?_
    refine wp_seq ?_
    refine wp_reg (by kernel_rfl) ?_
    refine ar_assign rfl rfl rfl rfl ?_
    refine ar_nil ?_
    refine then_n ?_
    refine wp_ret ?_
    refine then_r (ret_post rfl rfl ?_)
    show _ = V.bool (pairs lowT xs ys)
    rw [pairs_len (by omega)]
  · refine ar_nil ?_
    refine then_n ?_
    refine wp_condF rfl ?_
    refine wp_skip ?_
    refine then_n ?_
    refine wp_seq ?_
    refine wp_seq ?_
    refine wp_reg (by kernel_rfl) ?_
    refine ar_assign rfl rfl rfl rfl ?_
    refine ar_nil ?_
    refine then_n ?_
    refine wp_block ?_
    refine wp_loop (α := Nat) (fun j => mk [(0, .v (slU xs)), (1, .v (slU ys)), (5, .v (.int .i64 (j : Nat)))] [] 0) (fun j => j ≤ xs.length ∧ ∀ q, q < j → lowT (xs.getD q default) (ys.getD q default) = true) (fun j => xs.length - j) 0 ⟨Nat.zero_le _, fun q h => absurd h (Nat.not_lt_zero q)⟩ (le_to ⟨rfl, rfl, rfl, trivial⟩ trivial rfl rfl rfl rfl) ?_
    rintro j ⟨hj1, hj2⟩
    refine wp_seq ?_
    refine wp_seq ?_
    refine wp_reg (by kernel_rfl) ?_
    refine ar_move rfl rfl rfl rfl ?_
    refine ar_move rfl rfl rfl rfl ?_
    refine ar_len tab_ok rfl rfl tb70 rfl len_map rfl rfl ?_
    refine ar_lss_s rfl rfl rfl rfl rfl (fun h14 => ?_) (fun h14 => ?_)
    · refine ar_nil ?_
      refine then_n ?_
      refine wp_condT rfl ?_
      refine wp_skip ?_
      refine then_n ?_
      refine wp_seq ?_
      refine wp_block ?_
      refine wp_seq ?_
      refine wp_draw (L := [([], []), ([], []), ([], []), ([], []), ([], []), ([], []), ([], []), ([], []), ([], []), ([], []), ([], []), ([], []), ([], []), ([], []), ([], []), ([], [])]) (by kernel_rfl) mixed (by kernel_rfl) ?_
      refine ar_move rfl rfl rfl rfl ?_
      refine ar_move rfl rfl rfl rfl ?_
      refine ar_ia tab_ok rfl rfl rfl tb70 rfl tb72 (by omega) (map_get (n := j) (by omega)) rfl rfl rfl ?_
      refine ar_ld_ref tab_ok rfl rfl tb72 rfl rfl rfl rfl ?_
      refine ar_move rfl rfl rfl rfl ?_
      refine ar_move rfl rfl rfl rfl ?_
      refine ar_ia tab_ok rfl rfl rfl tb70 rfl tb72 (by omega) (map_get (n := j) (by omega)) rfl rfl rfl ?_
      refine ar_ld_ref tab_ok rfl rfl tb72 rfl rfl rfl rfl ?_
      refine ar_neq_s rfl rfl rfl rfl rfl (fun h25 => ?_) (fun h25 => ?_)
      · refine ar_move rfl rfl rfl rfl ?_
        refine ar_move rfl rfl rfl rfl ?_
        refine ar_move rfl rfl rfl rfl ?_
        refine ar_ia tab_ok rfl rfl rfl tb70 rfl tb72 (by omega) (map_get (n := j) (by omega)) rfl rfl rfl ?_
        refine ar_ld_ref tab_ok rfl rfl tb72 rfl rfl rfl rfl ?_
        refine ar_neq_s rfl rfl rfl rfl rfl (fun h31 => ?_) (fun h31 => ?_)
        · refine ar_pickT rfl rfl rfl rfl rfl ?_
          refine ar_nil ?_
          refine then_n ?_
          refine wp_condT rfl ?_
          refine wp_seq ?_
          refine wp_reg (by kernel_rfl) ?_
          refine ar_assign rfl rfl rfl rfl ?_
          refine ar_nil ?_
          refine then_n ?_
          refine wp_ret ?_
          refine inblk_r (then_r (loop_r (inblk_r (then_r (ret_post rfl rfl ?_)))))
          show _ = V.bool (pairs lowT xs ys)
          rw [pairs_at (j := j) (by omega) (by simp [lowT]; exact ⟨h25, h31⟩)]
        · refine ar_pickT rfl rfl rfl rfl rfl ?_
          refine ar_nil ?_
          refine then_n ?_
          refine wp_condF rfl ?_
          refine wp_skip ?_
          refine inblk_n ?_
          refine then_n ?_
          refine wp_reg (by kernel_rfl) ?_
          refine ar_move rfl rfl rfl rfl ?_
          refine ar_addi rfl rfl rfl rfl (by omega) (by omega) rfl rfl ?_
          refine ar_assign rfl rfl rfl rfl ?_
          refine ar_nil ?_
          exact loop_n (j + 1) ⟨by omega, fun q hq => (Nat.lt_succ_iff_lt_or_eq.1 hq).elim (hj2 q) (fun e => e ▸ (by simp only [lowT, Bool.or_eq_true, decide_eq_true_eq]; omega))⟩ (by omega) (le_to ⟨rfl, rfl, rfl, trivial⟩ trivial rfl rfl rfl rfl)
      · refine ar_move rfl rfl rfl rfl ?_
        refine ar_skip rfl rfl ?_
        refine ar_skip rfl rfl ?_
        refine ar_skip rfl rfl ?_
        refine ar_skip rfl rfl ?_
        refine ar_skip rfl rfl ?_
        refine ar_pickF rfl rfl rfl rfl rfl ?_
        refine ar_nil ?_
        refine then_n ?_
        refine wp_condF rfl ?_
        refine wp_skip ?_
        refine inblk_n ?_
        refine then_n ?_
        refine wp_reg (by kernel_rfl) ?_
        refine ar_move rfl rfl rfl rfl ?_
        refine ar_addi rfl rfl rfl rfl (by omega) (by omega) rfl rfl ?_
        refine ar_assign rfl rfl rfl rfl ?_
        refine ar_nil ?_
        exact loop_n (j + 1) ⟨by omega, fun q hq => (Nat.lt_succ_iff_lt_or_eq.1 hq).elim (hj2 q) (fun e => e ▸ (by simp only [lowT, Bool.or_eq_true, decide_eq_true_eq]; omega))⟩ (by omega) (le_to ⟨rfl, rfl, rfl, trivial⟩ trivial rfl rfl rfl rfl)
    · refine ar_nil ?_
      refine then_n ?_
      refine wp_condF rfl ?_
      refine wp_exit ?_
      refine then_x (loop_x (inblk_e ?_))
      refine then_n ?_
      refine wp_seq ?_
      refine wp_reg (by kernel_rfl) ?_
      refine ar_assign rfl rfl rfl rfl ?_
      refine ar_nil ?_
      refine then_n ?_
      refine wp_ret ?_
      refine ret_post rfl rfl ?_
      show _ = V.bool (pairs lowT xs ys)
      rw [pairs_of (by omega) (fun q hq => hj2 q (by omega))]
theorem pairs_eq : ∀ {xs ys : List Int}, pairs (fun a b : Int => decide (a = b)) xs ys = decide (xs = ys)
  | [], [] => rfl
  | [], y :: ys => rfl
  | x :: xs, [] => rfl
  | x :: xs, y :: ys => by simp only [pairs, pairs_eq, List.cons.injEq, Bool.decide_and]
theorem pc_60 (xs ys : List Int) (hl : xs.length ≤ 9223372036854775807) (hl2 : ys.length ≤ 9223372036854775807) : PCall Try.prog 60 [slU xs, slU ys] (.bool (decide (xs = ys))) := by
  refine pc_of tab_ok (f := 60) (fn := Try.f60) (N := 26) (rs := [.tmp 4]) (by kernel_rfl) rfl (by kernel_rfl) rfl rfl [(0, .v (slU xs)), (1, .v (slU ys))] ⟨rfl, rfl, trivial⟩ rfl rfl ?_
  intro B
  refine wp_seq ?_
  refine wp_reg (by kernel_rfl) ?_
  refine ar_assign rfl rfl rfl rfl ?_
  refine ar_nil ?_
  refine then_n ?_
  refine wp_seq ?_
  refine wp_seq ?_
  refine wp_reg (by kernel_rfl) ?_
  refine ar_move rfl rfl rfl rfl ?_
  refine ar_len tab_ok rfl rfl tb70 rfl len_map rfl rfl ?_
  refine ar_move rfl rfl rfl rfl ?_
  refine ar_len tab_ok rfl rfl tb70 rfl len_map rfl rfl ?_
  refine ar_neq_s rfl rfl rfl rfl rfl (fun h10 => ?_) (fun h10 => ?_)
  · refine ar_nil ?_
    refine then_n ?_
    refine wp_condT rfl ?_
    refine wp_seq ?_
    refine wp_reg (by kernel_rfl) ?_
    refine ar_assign rfl rfl rfl rfl ?_
    refine ar_nil ?_
    refine then_n ?_
    refine wp_ret ?_
    refine then_r (ret_post rfl rfl ?_)
    rw [← pairs_eq, pairs_len (by omega)]
  · refine ar_nil ?_
    refine then_n ?_
    refine wp_condF rfl ?_
    refine wp_skip ?_
    refine then_n ?_
    refine wp_seq ?_
    refine wp_seq ?_
    refine wp_reg (by kernel_rfl) ?_
    refine ar_assign rfl rfl rfl rfl ?_
    refine ar_nil ?_
    refine then_n ?_
    refine wp_block ?_
    refine wp_loop (α := Nat) (fun j => mk [(0, .v (slU xs)), (1, .v (slU ys)), (5, .v (.int .i64 (j : Nat)))] [] 0) (fun j => j ≤ xs.length ∧ ∀ q, q < j → (fun a b : Int => decide (a = b)) (xs.getD q default) (ys.getD q default) = true) (fun j => xs.length - j) 0 ⟨Nat.zero_le _, fun q h => absurd h (Nat.not_lt_zero q)⟩ (le_to ⟨rfl, rfl, rfl, trivial⟩ trivial rfl rfl rfl rfl) ?_
    rintro j ⟨hj1, hj2⟩
    refine wp_seq ?_
    refine wp_seq ?_
    refine wp_reg (by kernel_rfl) ?_
    refine ar_move rfl rfl rfl rfl ?_
    refine ar_move rfl rfl rfl rfl ?_
    refine ar_len tab_ok rfl rfl tb70 rfl len_map rfl rfl ?_
    refine ar_lss_s rfl rfl rfl rfl rfl (fun h14 => ?_) (fun h14 => ?_)
    · refine ar_nil ?_
      refine then_n ?_
      refine wp_condT rfl ?_
      refine wp_skip ?_
      refine then_n ?_
      refine wp_seq ?_
      refine wp_block ?_
      refine wp_seq ?_
      refine wp_draw (L := [([], []), ([], []), ([], []), ([], []), ([], []), ([], []), ([], []), ([], []), ([], [])]) (by kernel_rfl) mixed (by kernel_rfl) ?_
      refine ar_move rfl rfl rfl rfl ?_
      refine ar_move rfl rfl rfl rfl ?_
      refine ar_ia tab_ok rfl rfl rfl tb70 rfl tb72 (by omega) (map_get (n := j) (by omega)) rfl rfl rfl ?_
      refine ar_ld_ref tab_ok rfl rfl tb72 rfl rfl rfl rfl ?_
      refine ar_move rfl rfl rfl rfl ?_
      refine ar_move rfl rfl rfl rfl ?_
      refine ar_ia tab_ok rfl rfl rfl tb70 rfl tb72 (by omega) (map_get (n := j) (by omega)) rfl rfl rfl ?_
      refine ar_ld_ref tab_ok rfl rfl tb72 rfl rfl rfl rfl ?_
      refine ar_neq_s rfl rfl rfl rfl rfl (fun h25 => ?_) (fun h25 => ?_)
      · refine ar_nil ?_
        refine then_n ?_
        refine wp_condT rfl ?_
        refine wp_seq ?_
        refine wp_reg (by kernel_rfl) ?_
        refine ar_assign rfl rfl rfl rfl ?_
        refine ar_nil ?_
        refine then_n ?_
        refine wp_ret ?_
        refine inblk_r (then_r (loop_r (inblk_r (then_r (ret_post rfl rfl ?_)))))
        rw [← pairs_eq, pairs_at (j := j) (by omega) (decide_eq_false h25)]
      · refine ar_nil ?_
        refine then_n ?_
        refine wp_condF rfl ?_
        refine wp_skip ?_
        refine inblk_n ?_
        refine then_n ?_
        refine wp_reg (by kernel_rfl) ?_
        refine ar_move rfl rfl rfl rfl ?_
        refine ar_addi rfl rfl rfl rfl (by omega) (by omega) rfl rfl ?_
        refine ar_assign rfl rfl rfl rfl ?_
        refine ar_nil ?_
        exact loop_n (j + 1) ⟨by omega, fun q hq => (Nat.lt_succ_iff_lt_or_eq.1 hq).elim (hj2 q) (fun e => e ▸ decide_eq_true (Decidable.not_not.1 h25))⟩ (by omega) (le_to ⟨rfl, rfl, rfl, trivial⟩ trivial rfl rfl rfl rfl)
    · refine ar_nil ?_
      refine then_n ?_
      refine wp_condF rfl ?_
      refine wp_exit ?_
      refine then_x (loop_x (inblk_e ?_))
      refine then_n ?_
      refine wp_seq ?_
      refine wp_reg (by kernel_rfl) ?_
      refine ar_assign rfl rfl rfl rfl ?_
      refine ar_nil ?_
      refine then_n ?_
      refine wp_ret ?_
      refine ret_post rfl rfl ?_
      rw [← pairs_eq, pairs_of (by omega) (fun q hq => hj2 q (by omega))]
end Go.Vd
