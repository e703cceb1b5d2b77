/- The types of the seat's program, as data; the things of the statements, as data. -/
import Derived.Test.YtjbfplfopagpjaaA18
import Derived.Test.YtjbfplfopagpjaaChecked
import Derived.KernelRfl
namespace Go.Vd
open Go.Proofs

abbrev ti3 : TI := ⟨.int .i64, 1, 8, [.i .i64]⟩
abbrev ti4 : TI := ⟨.bool, 1, 1, [.b]⟩
abbrev ti28 : TI := ⟨.slice 4, 1, 24, [.n]⟩
abbrev ti27 : TI := ⟨.struct [(0, 1), (1, 1), (2, 1), (3, 1), (4, 1), (5, 1), (6, 1)], 7, 152, [.i .i64, .n, .n, .n, .n, .n, .n]⟩
abbrev ti24 : TI := ⟨.slice 3, 1, 24, [.n]⟩
abbrev ti22 : TI := ⟨.slice 63, 1, 24, [.n]⟩
abbrev ti23 : TI := ⟨.slice 58, 1, 24, [.n]⟩
abbrev ti63 : TI := ⟨.struct [(0, 1), (1, 1)], 2, 16, [.i .i64, .i .i64]⟩
abbrev ti58 : TI := ⟨.struct [(0, 1), (1, 1)], 2, 16, [.i .i64, .i .i64]⟩
abbrev ti29 : TI := ⟨.slice 28, 1, 24, [.n]⟩
abbrev ti72 : TI := ⟨.int .u8, 1, 1, [.i .u8]⟩
abbrev ti70 : TI := ⟨.slice 72, 1, 24, [.n]⟩
abbrev ti9 : TI := ⟨.string, 1, 16, [.s]⟩
abbrev ti5 : TI := ⟨.int .u8, 1, 1, [.i .u8]⟩
abbrev ti25 : TI := ⟨.slice 171, 1, 24, [.n]⟩
abbrev ti171 : TI := ⟨.struct [(0, 1), (1, 1), (2, 1)], 3, 32, [.i .u8, .i .i64, .s]⟩
abbrev ti40 : TI := ⟨.array 3 28, 3, 72, [.n, .n, .n]⟩
abbrev ti129 : TI := ⟨.slice 4, 1, 24, [.n]⟩
abbrev ti35 : TI := ⟨.int .i64, 1, 8, [.i .i64]⟩
abbrev ti99 : TI := ⟨.slice 70, 1, 24, [.n]⟩
abbrev ti101 : TI := ⟨.struct [(0, 1), (1, 1), (2, 1)], 3, 56, [.i .i64, .n, .n]⟩
abbrev ti83 : TI := ⟨.array 3 70, 3, 72, [.n, .n, .n]⟩
abbrev ti131 : TI := ⟨.other, 1, 8, [.o]⟩
abbrev ti133 : TI := ⟨.other, 1, 8, [.o]⟩
abbrev ti141 : TI := ⟨.other, 1, 8, [.o]⟩
abbrev ti31 : TI := ⟨.struct [(0, 7), (7, 1), (8, 1), (9, 1)], 10, 208, [.i .i64, .n, .n, .n, .n, .n, .n, .n, .n, .i .i64]⟩
abbrev ti56 : TI := ⟨.struct [(0, 7), (7, 1), (8, 1), (9, 1)], 10, 208, [.i .i64, .n, .n, .n, .n, .n, .n, .n, .n, .i .i64]⟩
abbrev ti61 : TI := ⟨.struct [(0, 7), (7, 1), (8, 1), (9, 1), (10, 1)], 11, 232, [.i .i64, .n, .n, .n, .n, .n, .n, .n, .n, .i .u8, .n]⟩
abbrev ti67 : TI := ⟨.struct [(0, 7), (7, 2), (9, 1), (10, 1)], 11, 216, [.i .i64, .n, .n, .n, .n, .n, .n, .i .i64, .i .i64, .n, .n]⟩
abbrev ti78 : TI := ⟨.struct [(0, 7), (7, 1), (8, 1), (9, 1)], 10, 208, [.i .i64, .n, .n, .n, .n, .n, .n, .n, .n, .i .i64]⟩
abbrev ti90 : TI := ⟨.array 2 70, 2, 48, [.n, .n]⟩
abbrev ti95 : TI := ⟨.struct [(0, 7), (7, 1), (8, 1), (9, 1)], 10, 208, [.i .i64, .n, .n, .n, .n, .n, .n, .n, .n, .i .i64]⟩
abbrev ti113 : TI := ⟨.struct [(0, 7), (7, 3), (10, 3), (13, 3), (16, 1)], 17, 328, [.i .i64, .n, .n, .n, .n, .n, .n, .i .i64, .n, .n, .i .i64, .n, .n, .i .i64, .n, .n, .i .i64]⟩
abbrev ti142 : TI := ⟨.array 3 72, 3, 3, [.i .u8, .i .u8, .i .u8]⟩
abbrev ti143 : TI := ⟨.array 3 142, 9, 9, [.i .u8, .i .u8, .i .u8, .i .u8, .i .u8, .i .u8, .i .u8, .i .u8, .i .u8]⟩
abbrev ti146 : TI := ⟨.slice 5, 1, 24, [.n]⟩
abbrev ti148 : TI := ⟨.struct [(0, 1), (1, 1)], 2, 32, [.o, .n]⟩
abbrev ti150 : TI := ⟨.int .u64, 1, 8, [.i .u64]⟩
abbrev ti167 : TI := ⟨.struct [(0, 1), (1, 3)], 4, 96, [.n, .n, .n, .n]⟩
abbrev ti145 : TI := ⟨.other, 1, 8, [.o]⟩
abbrev ti75 : TI := ⟨.other, 1, 8, [.o]⟩
abbrev ti130 : TI := ⟨.other, 1, 8, [.o]⟩
abbrev ti181 : TI := ⟨.other, 1, 8, [.o]⟩
abbrev ti71 : TI := ⟨.other, 1, 8, [.o]⟩
abbrev ti187 : TI := ⟨.struct [(0, 1)], 1, 24, [.n]⟩

def tab : Tab := [(3, ti3), (4, ti4), (28, ti28), (27, ti27), (24, ti24), (22, ti22), (23, ti23), (63, ti63), (58, ti58), (29, ti29), (72, ti72), (70, ti70), (9, ti9), (5, ti5), (25, ti25), (171, ti171), (40, ti40), (129, ti129), (35, ti35), (99, ti99), (101, ti101), (83, ti83), (131, ti131), (133, ti133), (141, ti141), (31, ti31), (56, ti56), (61, ti61), (67, ti67), (78, ti78), (90, ti90), (95, ti95), (113, ti113), (142, ti142), (143, ti143), (146, ti146), (148, ti148), (150, ti150), (167, ti167), (187, ti187), (145, ti145), (75, ti75), (130, ti130), (181, ti181), (71, ti71)]

theorem tb3 : lk tab 3 = some ti3 := rfl
theorem tb4 : lk tab 4 = some ti4 := rfl
theorem tb28 : lk tab 28 = some ti28 := rfl
theorem tb27 : lk tab 27 = some ti27 := rfl
theorem tb24 : lk tab 24 = some ti24 := rfl
theorem tb22 : lk tab 22 = some ti22 := rfl
theorem tb23 : lk tab 23 = some ti23 := rfl
theorem tb63 : lk tab 63 = some ti63 := rfl
theorem tb58 : lk tab 58 = some ti58 := rfl
theorem tb29 : lk tab 29 = some ti29 := rfl
theorem tb72 : lk tab 72 = some ti72 := rfl
theorem tb70 : lk tab 70 = some ti70 := rfl
theorem tb9 : lk tab 9 = some ti9 := rfl
theorem tb5 : lk tab 5 = some ti5 := rfl
theorem tb25 : lk tab 25 = some ti25 := rfl
theorem tb171 : lk tab 171 = some ti171 := rfl
theorem tb40 : lk tab 40 = some ti40 := rfl
theorem tb129 : lk tab 129 = some ti129 := rfl
theorem tb35 : lk tab 35 = some ti35 := rfl
theorem tb99 : lk tab 99 = some ti99 := rfl
theorem tb101 : lk tab 101 = some ti101 := rfl
theorem tb83 : lk tab 83 = some ti83 := rfl
theorem tb131 : lk tab 131 = some ti131 := rfl
theorem tb133 : lk tab 133 = some ti133 := rfl
theorem tb141 : lk tab 141 = some ti141 := rfl
theorem tb31 : lk tab 31 = some ti31 := rfl
theorem tb56 : lk tab 56 = some ti56 := rfl
theorem tb61 : lk tab 61 = some ti61 := rfl
theorem tb67 : lk tab 67 = some ti67 := rfl
theorem tb78 : lk tab 78 = some ti78 := rfl
theorem tb90 : lk tab 90 = some ti90 := rfl
theorem tb95 : lk tab 95 = some ti95 := rfl
theorem tb113 : lk tab 113 = some ti113 := rfl
theorem tb142 : lk tab 142 = some ti142 := rfl
theorem tb143 : lk tab 143 = some ti143 := rfl
theorem tb146 : lk tab 146 = some ti146 := rfl
theorem tb148 : lk tab 148 = some ti148 := rfl
theorem tb150 : lk tab 150 = some ti150 := rfl
theorem tb167 : lk tab 167 = some ti167 := rfl
theorem tb145 : lk tab 145 = some ti145 := rfl
theorem tb75 : lk tab 75 = some ti75 := rfl
theorem tb130 : lk tab 130 = some ti130 := rfl
theorem tb181 : lk tab 181 = some ti181 := rfl
theorem tb71 : lk tab 71 = some ti71 := rfl
theorem tb187 : lk tab 187 = some ti187 := rfl

theorem tab_ok : tabOk Try.prog tab = true := by kernel_rfl
theorem mixed : Try.prog.follows .mixedOrders = true := by kernel_rfl

theorem len_map {α β : Type} {enc : α → β} {xs : List α} : ((xs.map enc).length : Int) = (xs.length : Int) := by simp
theorem app_one {α β : Type} {enc : α → β} {xs : List α} {x : α} : xs.map enc ++ [enc x] = (xs ++ [x]).map enc := by simp
theorem app_map {α β : Type} {enc : α → β} {xs ys : List α} : xs.map enc ++ ys.map enc = (xs ++ ys).map enc := by simp
theorem set_map {α β : Type} {enc : α → β} {xs : List α} {n : Nat} {x : α} : (xs.map enc).set n (enc x) = (xs.set n x).map enc := by simp

@[simp] theorem dflt_b : (default : Bool) = false := rfl
@[simp] theorem dflt_i : (default : Int) = 0 := rfl

/-! ### Things -/

structure Latch where
  next : Int
  reset : Int
  deriving Inhabited, DecidableEq

structure Gate where
  a : Int
  b : Int
  deriving Inhabited, DecidableEq

structure Name where
  kind : Int
  pos : Int
  s : ByteArray
  deriving Inhabited

structure Aig where
  i : Int
  l : List Latch
  g : List Gate
  outs : List Int
  bad : List Int
  con : List Int
  names : List Name
  deriving Inhabited

abbrev encB (b : Bool) : List V := [.bool b]
abbrev encI (n : Int) : List V := [.int .i64 n]
abbrev encL (l : Latch) : List V := [.int .i64 l.next, .int .i64 l.reset]
abbrev encG (g : Gate) : List V := [.int .i64 g.a, .int .i64 g.b]
abbrev encN (n : Name) : List V := [.int .u8 n.kind, .int .i64 n.pos, .str n.s]
abbrev slB (xs : List Bool) : V := .sl (xs.map encB)
abbrev slI (xs : List Int) : V := .sl (xs.map encI)
abbrev slL (xs : List Latch) : V := .sl (xs.map encL)
abbrev slG (xs : List Gate) : V := .sl (xs.map encG)
abbrev slN (xs : List Name) : V := .sl (xs.map encN)
abbrev encBs (xs : List Bool) : List V := [slB xs]
abbrev slBB (xs : List (List Bool)) : V := .sl (xs.map encBs)
abbrev encA (a : Aig) : List V := [.int .i64 a.i, slL a.l, slG a.g, slI a.outs, slI a.bad, slI a.con, slN a.names]
abbrev aigV (a : Aig) : V := .agg (encA a)

abbrev encU (n : Int) : List V := [.int .u8 n]
theorem el_5 (xs : List Int) : elOk 1 (xs.map encU) := elOk.map (enc := encU) (fun _ => ⟨rfl, rfl⟩) xs
theorem el_171 (xs : List Name) : elOk 3 (xs.map encN) := elOk.map (enc := encN) (fun _ => ⟨rfl, rfl⟩) xs
theorem el_4 (xs : List Bool) : elOk 1 (xs.map encB) := elOk.map (enc := encB) (fun _ => ⟨rfl, rfl⟩) xs
theorem el_3 (xs : List Int) : elOk 1 (xs.map encI) := elOk.map (enc := encI) (fun _ => ⟨rfl, rfl⟩) xs
theorem el_63 (xs : List Latch) : elOk 2 (xs.map encL) := elOk.map (enc := encL) (fun _ => ⟨rfl, rfl⟩) xs
theorem el_58 (xs : List Gate) : elOk 2 (xs.map encG) := elOk.map (enc := encG) (fun _ => ⟨rfl, rfl⟩) xs
theorem el_28 (xs : List (List Bool)) : elOk 1 (xs.map encBs) := elOk.map (enc := encBs) (fun _ => ⟨rfl, rfl⟩) xs

end Go.Vd
