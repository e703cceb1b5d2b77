/- Walks over data, merged (part 2): what the laws of this claim use. -/
import Derived.IntWalk
import Derived.Laws.BytesString
import Derived.Laws.IdiomStrings
import Derived.Laws.Slices
import Derived.Lib.SliceRun
import Derived.RangeFuncSeq
import Derived.Test.YtgnbphnbdaphpaaGreatDoorMa
set_option linter.unusedSimpArgs false
set_option linter.unusedVariables false
namespace Go.Vd
open Go.RowKit
theorem vV {tl : List (Nat × D)} {hl : List (Nat × Blk)} {m : MM} {k : Nat} {d : D} : (mk tl hl m).put (some k) d = mk ((k, d) :: tl) hl m := rfl
theorem vR : ∀ (e : List (Nat × Blk)) {tl : List (Nat × D)} {hl : List (Nat × Blk)} {m : MM}, (mk tl hl m).eff e = mk tl (e.reverse ++ hl) m
 | [], _, _, _ => rfl
 | (i, b) :: r, tl, hl, m => by
  have h := vR r (tl := tl) (hl := (i, b) :: hl) (m := m)
  have e1 : (mk tl hl m).eff ((i, b) :: r) = (mk tl ((i, b) :: hl) m).eff r := by
   simp only [St.eff, jQ, mk]
   congr 2
   funext k
   simp only [d8, lk]
   cases Nat.beq k i <;> rfl
  rw [e1, h]
  simp
section
variable {P : Program} {tab : kt} {r : Option Nat} {𝔅 : BB} {ops : List Oper} {lab : Option hY} {i : Nat} {o : Oper} {rest : List Oper} {tl : List (Nat × D)} {hl : List (Nat × Blk)} {m : MM} {K : St → Prop} {k : Nat}
theorem aX : cB lab i [] [] = true := by
 cases lab with
 | none => rfl
 | some L =>
   simp only [cB]
   cases L[i]? <;> rfl
theorem bO {E : List (Operand × D)} {F e : List (Nat × Blk)} {d : D} (hs : sY P r o E F d e) (hE : ∀ p ∈ E, (mk tl hl m).ev p.1 = some p.2) (hF : ∀ p ∈ F, (mk tl hl m).h p.1 = p.2) (hlab : cB lab i F e = true)
 (hd : o.dst = some k) (hg : aQ ops (mk tl hl m) o.guard = some true) (h : aG P r 𝔅 ops lab (i + 1) rest (mk ((k, d) :: tl) (e.reverse ++ hl) m) K) : aG P r 𝔅 ops lab i (o :: rest) (mk tl hl m) K :=
 (.inl ⟨_, .inl ⟨hg, E, F, d, e, hs, hE, hF, hlab, rfl⟩, by rw [hd, vR, vV]; exact h⟩)
theorem AN {E : List (Operand × D)} {F e : List (Nat × Blk)} {d : D} (hs : sY P r o E F d e) (hE : ∀ p ∈ E, (mk tl hl m).ev p.1 = some p.2) (hF : ∀ p ∈ F, (mk tl hl m).h p.1 = p.2) (hlab : cB lab i F e = true)
 (hd : o.dst = none) (hg : aQ ops (mk tl hl m) o.guard = some true) (h : aG P r 𝔅 ops lab (i + 1) rest (mk tl (e.reverse ++ hl) m) K) : aG P r 𝔅 ops lab i (o :: rest) (mk tl hl m) K :=
 (.inl ⟨_, .inl ⟨hg, E, F, d, e, hs, hE, hF, hlab, rfl⟩, by rw [hd, vR]; exact h⟩)
theorem BE (hg : aQ ops (mk tl hl m) o.guard = some false) (hd : o.dst = some k) (h : aG P r 𝔅 ops lab (i + 1) rest (mk ((k, ik) :: tl) hl m) K) : aG P r 𝔅 ops lab i (o :: rest) (mk tl hl m) K :=
 (.inl ⟨_, .inr ⟨hg, rfl⟩, by rw [hd, vV]; exact h⟩)
theorem ar {s : St} (h : K s) : aG P r 𝔅 ops lab i [] s K := h
theorem bf {b : Bool} (ht : b = true → aG P r 𝔅 ops lab i rest (mk ((k, .v (.bool true)) :: tl) hl m) K) (hf : b = false → aG P r 𝔅 ops lab i rest (mk ((k, .v (.bool false)) :: tl) hl m) K) :
 aG P r 𝔅 ops lab i rest (mk ((k, .v (.bool b)) :: tl) hl m) K := by cases b; exact hf rfl; exact ht rfl
theorem s9 {d d' : D} (he : d = d') (h : aG P r 𝔅 ops lab i rest (mk ((k, d') :: tl) hl m) K) : aG P r 𝔅 ops lab i rest (mk ((k, d) :: tl) hl m) K := he ▸ h
theorem aU {E : List (Operand × D)} {F e : List (Nat × Blk)} {d : D} (hops : ∀ p ∈ E, p.1 ∈ o.op.operands) (hnd : ∀ c, o.op ≠ .defer c)
 (h : ∀ s : St, (∀ p ∈ E, s.ev p.1 = some p.2) → (∀ p ∈ F, s.h p.1 = p.2) → cV P o s d e) : sY P r o E F d e := ⟨hops, fun s hE hF => sP hnd (h s hE hF)⟩
theorem et {α : Type} {p : α → Prop} {a : α} (h : p a) : ∀ x ∈ [a], p x := by simpa using h
theorem eN {α : Type} {p : α → Prop} {a b : α} (h : p a) (h' : p b) : ∀ x ∈ [a, b], p x := by simpa using ⟨h, h'⟩
theorem dz {α : Type} {p : α → Prop} : ∀ x ∈ ([] : List α), p x := by simp
theorem Cu {x : Operand} {d : D} (ho : o.op = .move x) (hx0 : (mk tl hl m).ev x = some (d)) (hd : o.dst = some k) (hg : aQ ops (mk tl hl m) o.guard = some true) (h : aG P r 𝔅 ops lab (i + 1) rest (mk ((k, d) :: tl) hl m) K) : aG P r 𝔅 ops lab i (o :: rest) (mk tl hl m) K :=
 bO (E := [(x, d)]) (F := []) (d := d) (e := []) (aU (by simp [ho, Op.operands]) (by simp [ho]) fun s hE hF => qM (.inl ho) (hE (x, d) (by simp))) (et hx0) dz aX hd hg h
theorem ye {x : Operand} {d : D} (ho : o.op = .assign x) (hx0 : (mk tl hl m).ev x = some (d)) (hd : o.dst = some k) (hg : aQ ops (mk tl hl m) o.guard = some true) (h : aG P r 𝔅 ops lab (i + 1) rest (mk ((k, d) :: tl) hl m) K) : aG P r 𝔅 ops lab i (o :: rest) (mk tl hl m) K :=
 bO (E := [(x, d)]) (F := []) (d := d) (e := []) (aU (by simp [ho, Op.operands]) (by simp [ho]) fun s hE hF => qM (.inr ho) (hE (x, d) (by simp))) (et hx0) dz aX hd hg h
theorem zL {c x y : Operand} {d : D} (ho : o.op = .pick c x y) (hx0 : (mk tl hl m).ev c = some (.v (.bool true))) (hx1 : (mk tl hl m).ev x = some (d)) (hd : o.dst = some k) (hg : aQ ops (mk tl hl m) o.guard = some true) (h : aG P r 𝔅 ops lab (i + 1) rest (mk ((k, d) :: tl) hl m) K) : aG P r 𝔅 ops lab i (o :: rest) (mk tl hl m) K :=
 bO (E := [(c, .v (.bool true)), (x, d)]) (F := []) (d := d) (e := []) (aU (by simp [ho, Op.operands]) (by simp [ho]) fun s hE hF => qN ho (hE (c, .v (.bool true)) (by simp)) (hE (x, d) (by simp))) (eN hx0 hx1) dz aX hd hg h
theorem yH {c x y : Operand} {d : D} (ho : o.op = .pick c x y) (hx0 : (mk tl hl m).ev c = some (.v (.bool false))) (hx1 : (mk tl hl m).ev y = some (d)) (hd : o.dst = some k) (hg : aQ ops (mk tl hl m) o.guard = some true) (h : aG P r 𝔅 ops lab (i + 1) rest (mk ((k, d) :: tl) hl m) K) : aG P r 𝔅 ops lab i (o :: rest) (mk tl hl m) K :=
 bO (E := [(c, .v (.bool false)), (y, d)]) (F := []) (d := d) (e := []) (aU (by simp [ho, Op.operands]) (by simp [ho]) fun s hE hF => qN ho (hE (c, .v (.bool false)) (by simp)) (hE (y, d) (by simp))) (eN hx0 hx1) dz aX hd hg h
theorem EI {x : Operand} {T : TypeId} {b b' : Bool} (ho : o.op = .unOp .not T x) (hx0 : (mk tl hl m).ev x = some (.v (.bool b))) (hb : (!b) = b') (hd : o.dst = some k) (hg : aQ ops (mk tl hl m) o.guard = some true) (h : aG P r 𝔅 ops lab (i + 1) rest (mk ((k, .v (.bool b')) :: tl) hl m) K) : aG P r 𝔅 ops lab i (o :: rest) (mk tl hl m) K :=
 bO (E := [(x, .v (.bool b))]) (F := []) (d := .v (.bool b')) (e := []) (aU (by simp [ho, Op.operands]) (by simp [ho]) fun s hE hF => hb ▸ An ho (hE (x, .v (.bool b)) (by simp))) (et hx0) dz aX hd hg h
theorem aI {t e : Nat} {ti : TI} {x : Operand} {es : List (List V)} {n : Int} (hT : bg P tab = true) (ho : o.op = .call { callee := .builtin .len, args := #[x], argTypes := #[t] }) (hx0 : (mk tl hl m).ev x = some (.v (.sl es))) (hlt : lk tab t = some ti) (he : ti.sliceElem = some e) (hn : (es.length : Int) = n) (hd : o.dst = some k) (hg : aQ ops (mk tl hl m) o.guard = some true) (h : aG P r 𝔅 ops lab (i + 1) rest (mk ((k, .v (.int .i64 n)) :: tl) hl m) K) : aG P r 𝔅 ops lab i (o :: rest) (mk tl hl m) K :=
 bO (E := [(x, .v (.sl es))]) (F := []) (d := .v (.int .i64 n)) (e := []) (aU (by simp [ho, Op.operands, Call.operands]) (by simp [ho]) fun s hE hF => hn ▸ uN hT ho hlt he (hE (x, .v (.sl es)) (by simp))) (et hx0) dz aX hd hg h
theorem dW {t e : Nat} {ti : TI} {x : Operand} {id e' sz : Nat} {es : List (List V)} {n : Int} (hT : bg P tab = true) (ho : o.op = .call { callee := .builtin .len, args := #[x], argTypes := #[t] }) (hx0 : (mk tl hl m).ev x = some (.own id)) (hf0 : (mk tl hl m).h id = .row e' sz es) (hlt : lk tab t = some ti) (he : ti.sliceElem = some e) (hn : (es.length : Int) = n) (hlab : cB lab i [(id, .row e' sz es)] [] = true) (hd : o.dst = some k) (hg : aQ ops (mk tl hl m) o.guard = some true) (h : aG P r 𝔅 ops lab (i + 1) rest (mk ((k, .v (.int .i64 n)) :: tl) hl m) K) : aG P r 𝔅 ops lab i (o :: rest) (mk tl hl m) K :=
 bO (E := [(x, .own id)]) (F := [(id, .row e' sz es)]) (d := .v (.int .i64 n)) (e := []) (aU (by simp [ho, Op.operands, Call.operands]) (by simp [ho]) fun s hE hF => hn ▸ qZ hT ho hlt he (hE (x, .own id) (by simp)) (hF (id, .row e' sz es) (by simp))) (et hx0) (et hf0) hlab hd hg h
theorem we {t : Nat} {ti : TI} {x : Operand} {b : ByteArray} (hT : bg P tab = true) (ho : o.op = .call { callee := .builtin .len, args := #[x], argTypes := #[t] }) (hx0 : (mk tl hl m).ev x = some (.v (.str b))) (hlt : lk tab t = some ti) (he : ti.kind = .string) (hd : o.dst = some k) (hg : aQ ops (mk tl hl m) o.guard = some true) (h : aG P r 𝔅 ops lab (i + 1) rest (mk ((k, .v (.int .i64 b.size)) :: tl) hl m) K) : aG P r 𝔅 ops lab i (o :: rest) (mk tl hl m) K :=
 bO (E := [(x, .v (.str b))]) (F := []) (d := .v (.int .i64 b.size)) (e := []) (aU (by simp [ho, Op.operands, Call.operands]) (by simp [ho]) fun s hE hF => rQ hT ho hlt he (hE (x, .v (.str b)) (by simp))) (et hx0) dz aX hd hg h
theorem G5 {T f n : Nat} {ti : TI} {x : Operand} {id q j : Nat} {cs : List D} (hT : bg P tab = true) (ho : o.op = .fieldAddr T x f) (hx0 : (mk tl hl m).ev x = some (.ptr id q)) (hf0 : (mk tl hl m).h id = .box cs) (hlt : lk tab T = some ti) (he : ti.field f = some n) (hj : q + n = j) (hlab : cB lab i [(id, .box cs)] [] = true) (hd : o.dst = some k) (hg : aQ ops (mk tl hl m) o.guard = some true) (h : aG P r 𝔅 ops lab (i + 1) rest (mk ((k, .ptr id j) :: tl) hl m) K) : aG P r 𝔅 ops lab i (o :: rest) (mk tl hl m) K :=
 bO (E := [(x, .ptr id q)]) (F := [(id, .box cs)]) (d := .ptr id j) (e := []) (aU (by simp [ho, Op.operands]) (by simp [ho]) fun s hE hF => hj ▸ sO hT ho hlt he (hE (x, .ptr id q) (by simp)) (hF (id, .box cs) (by simp))) (et hx0) (et hf0) hlab hd hg h
theorem bU {T f n : Nat} {ti : TI} {x : Operand} {cs cs' : List V} (hT : bg P tab = true) (ho : o.op = .fieldAddr T x f) (hx0 : (mk tl hl m).ev x = some (.v (.ref cs))) (hlt : lk tab T = some ti) (he : ti.field f = some n) (hj : cs.drop n = cs') (hd : o.dst = some k) (hg : aQ ops (mk tl hl m) o.guard = some true) (h : aG P r 𝔅 ops lab (i + 1) rest (mk ((k, .v (.ref cs')) :: tl) hl m) K) : aG P r 𝔅 ops lab i (o :: rest) (mk tl hl m) K :=
 bO (E := [(x, .v (.ref cs))]) (F := []) (d := .v (.ref cs')) (e := []) (aU (by simp [ho, Op.operands]) (by simp [ho]) fun s hE hF => hj ▸ uC hT ho hlt he (hE (x, .v (.ref cs)) (by simp))) (et hx0) dz aX hd hg h
theorem Dc {T : Nat} {ti : TI} {x : Operand} {id n : Nat} {cs : List D} {d : D} (hT : bg P tab = true) (ho : o.op = .load T x) (hx0 : (mk tl hl m).ev x = some (.ptr id n)) (hf0 : (mk tl hl m).h id = .box cs) (hlt : lk tab T = some ti) (ha : ti.isAgg = false) (hc : cs[n]? = some d) (hlab : cB lab i [(id, .box cs)] [] = true) (hd : o.dst = some k) (hg : aQ ops (mk tl hl m) o.guard = some true) (h : aG P r 𝔅 ops lab (i + 1) rest (mk ((k, d) :: tl) hl m) K) : aG P r 𝔅 ops lab i (o :: rest) (mk tl hl m) K :=
 bO (E := [(x, .ptr id n)]) (F := [(id, .box cs)]) (d := d) (e := []) (aU (by simp [ho, Op.operands]) (by simp [ho]) fun s hE hF => uQ hT ho hlt ha (hE (x, .ptr id n) (by simp)) (hF (id, .box cs) (by simp)) hc) (et hx0) (et hf0) hlab hd hg h
theorem DR {T : Nat} {ti : TI} {x : Operand} {id n : Nat} {cs : List D} {d : D} (hT : bg P tab = true) (ho : o.op = .load T x) (hx0 : (mk tl hl m).ev x = some (.ptr id n)) (hf0 : (mk tl hl m).h id = .box cs) (hlt : lk tab T = some ti) (ha : ti.isAgg = true) (hle : Nat.ble (n + ti.size) cs.length = true) (hc : mkAgg ((cs.drop n).take ti.size) = d) (hlab : cB lab i [(id, .box cs)] [] = true) (hd : o.dst = some k) (hg : aQ ops (mk tl hl m) o.guard = some true) (h : aG P r 𝔅 ops lab (i + 1) rest (mk ((k, d) :: tl) hl m) K) : aG P r 𝔅 ops lab i (o :: rest) (mk tl hl m) K :=
 bO (E := [(x, .ptr id n)]) (F := [(id, .box cs)]) (d := d) (e := []) (aU (by simp [ho, Op.operands]) (by simp [ho]) fun s hE hF => hc ▸ rd hT ho hlt ha (hE (x, .ptr id n) (by simp)) (hF (id, .box cs) (by simp)) (Nat.le_of_ble_eq_true hle)) (et hx0) (et hf0) hlab hd hg h
theorem yi {T : Nat} {ti : TI} {x : Operand} {cs : List V} {y : V} (hT : bg P tab = true) (ho : o.op = .load T x) (hx0 : (mk tl hl m).ev x = some (.v (.ref cs))) (hlt : lk tab T = some ti) (ha : ti.isAgg = false) (hc : cs[0]? = some y) (hd : o.dst = some k) (hg : aQ ops (mk tl hl m) o.guard = some true) (h : aG P r 𝔅 ops lab (i + 1) rest (mk ((k, .v y) :: tl) hl m) K) : aG P r 𝔅 ops lab i (o :: rest) (mk tl hl m) K :=
 bO (E := [(x, .v (.ref cs))]) (F := []) (d := .v y) (e := []) (aU (by simp [ho, Op.operands]) (by simp [ho]) fun s hE hF => tu hT ho hlt ha (hE (x, .v (.ref cs)) (by simp)) hc) (et hx0) dz aX hd hg h
theorem cZ {T : Nat} {ti : TI} {x : Operand} {cs cs' : List V} (hT : bg P tab = true) (ho : o.op = .load T x) (hx0 : (mk tl hl m).ev x = some (.v (.ref cs))) (hlt : lk tab T = some ti) (ha : ti.isAgg = true) (hle : Nat.ble ti.size cs.length = true) (hc : cs.take ti.size = cs') (hd : o.dst = some k) (hg : aQ ops (mk tl hl m) o.guard = some true) (h : aG P r 𝔅 ops lab (i + 1) rest (mk ((k, .v (.agg cs')) :: tl) hl m) K) : aG P r 𝔅 ops lab i (o :: rest) (mk tl hl m) K :=
 bO (E := [(x, .v (.ref cs))]) (F := []) (d := .v (.agg cs')) (e := []) (aU (by simp [ho, Op.operands]) (by simp [ho]) fun s hE hF => hc ▸ rK hT ho hlt ha (hE (x, .v (.ref cs)) (by simp)) (Nat.le_of_ble_eq_true hle)) (et hx0) dz aX hd hg h
theorem gP {T : Nat} {ti : TI} {x : Operand} {id n e : Nat} {es : List (List V)} {y : V} (hT : bg P tab = true) (ho : o.op = .load T x) (hx0 : (mk tl hl m).ev x = some (.eptr id n)) (hf0 : (mk tl hl m).h id = .row e 1 es) (hlt : lk tab T = some ti) (ha : ti.isAgg = false) (hc : es[n]? = some [y]) (hlab : cB lab i [(id, .row e 1 es)] [] = true) (hd : o.dst = some k) (hg : aQ ops (mk tl hl m) o.guard = some true) (h : aG P r 𝔅 ops lab (i + 1) rest (mk ((k, .v y) :: tl) hl m) K) : aG P r 𝔅 ops lab i (o :: rest) (mk tl hl m) K :=
 bO (E := [(x, .eptr id n)]) (F := [(id, .row e 1 es)]) (d := .v y) (e := []) (aU (by simp [ho, Op.operands]) (by simp [ho]) fun s hE hF => rb hT ho hlt ha (hE (x, .eptr id n) (by simp)) (hF (id, .row e 1 es) (by simp)) hc) (et hx0) (et hf0) hlab hd hg h
theorem fZ {T e : Nat} {ti te : TI} {x y : Operand} {es : List (List V)} {el : List V} {kk : IntKind} {n : Int} (hT : bg P tab = true) (ho : o.op = .indexAddr T x y) (hx0 : (mk tl hl m).ev x = some (.v (.sl es))) (hx1 : (mk tl hl m).ev y = some (.v (.int kk n))) (hlt : lk tab T = some ti) (he : ti.sliceElem = some e) (hle : lk tab e = some te) (h0 : 0 ≤ n) (hel : es[n.toNat]? = some el) (hsz : te.size = el.length) (hd : o.dst = some k) (hg : aQ ops (mk tl hl m) o.guard = some true) (h : aG P r 𝔅 ops lab (i + 1) rest (mk ((k, .v (.ref el)) :: tl) hl m) K) : aG P r 𝔅 ops lab i (o :: rest) (mk tl hl m) K :=
 bO (E := [(x, .v (.sl es)), (y, .v (.int kk n))]) (F := []) (d := .v (.ref el)) (e := []) (aU (by simp [ho, Op.operands]) (by simp [ho]) fun s hE hF => uW hT ho hlt he hle (hE (x, .v (.sl es)) (by simp)) (hE (y, .v (.int kk n)) (by simp)) h0 hel hsz) (eN hx0 hx1) dz aX hd hg h
theorem dG {T e : Nat} {ti te : TI} {x y : Operand} {id e' : Nat} {es : List (List V)} {kk : IntKind} {n : Int} {q : Nat} (hT : bg P tab = true) (ho : o.op = .indexAddr T x y) (hx0 : (mk tl hl m).ev x = some (.own id)) (hx1 : (mk tl hl m).ev y = some (.v (.int kk n))) (hf0 : (mk tl hl m).h id = .row e' 1 es) (hlt : lk tab T = some ti) (he : ti.sliceElem = some e) (hle : lk tab e = some te) (hsz : te.size = 1) (h0 : 0 ≤ n) (h1 : n < es.length) (hq : n.toNat = q) (hlab : cB lab i [(id, .row e' 1 es)] [] = true) (hd : o.dst = some k) (hg : aQ ops (mk tl hl m) o.guard = some true) (h : aG P r 𝔅 ops lab (i + 1) rest (mk ((k, .eptr id q) :: tl) hl m) K) : aG P r 𝔅 ops lab i (o :: rest) (mk tl hl m) K :=
 bO (E := [(x, .own id), (y, .v (.int kk n))]) (F := [(id, .row e' 1 es)]) (d := .eptr id q) (e := []) (aU (by simp [ho, Op.operands]) (by simp [ho]) fun s hE hF => hq ▸ tQ hT ho hlt he hle hsz (hE (x, .own id) (by simp)) (hE (y, .v (.int kk n)) (by simp)) (hF (id, .row e' 1 es) (by simp)) h0 h1) (eN hx0 hx1) (et hf0) hlab hd hg h
theorem cI {T l e : Nat} {ti te : TI} {x y : Operand} {id q j : Nat} {cs : List D} {kk : IntKind} {n : Int} (hT : bg P tab = true) (ho : o.op = .indexAddr T x y) (hx0 : (mk tl hl m).ev x = some (.ptr id q)) (hx1 : (mk tl hl m).ev y = some (.v (.int kk n))) (hf0 : (mk tl hl m).h id = .box cs) (hlt : lk tab T = some ti) (he : ti.arr = some (l, e)) (hle : lk tab e = some te) (h0 : 0 ≤ n) (h1 : n < l) (hj : q + n.toNat * te.size = j) (hlab : cB lab i [(id, .box cs)] [] = true) (hd : o.dst = some k) (hg : aQ ops (mk tl hl m) o.guard = some true) (h : aG P r 𝔅 ops lab (i + 1) rest (mk ((k, .ptr id j) :: tl) hl m) K) : aG P r 𝔅 ops lab i (o :: rest) (mk tl hl m) K :=
 bO (E := [(x, .ptr id q), (y, .v (.int kk n))]) (F := [(id, .box cs)]) (d := .ptr id j) (e := []) (aU (by simp [ho, Op.operands]) (by simp [ho]) fun s hE hF => hj ▸ uz hT ho hlt he hle (hE (x, .ptr id q) (by simp)) (hE (y, .v (.int kk n)) (by simp)) (hF (id, .box cs) (by simp)) h0 h1) (eN hx0 hx1) (et hf0) hlab hd hg h
theorem gM {T l e : Nat} {ti te : TI} {x y : Operand} {cs : List V} {z : V} {kk : IntKind} {n : Int} (hT : bg P tab = true) (ho : o.op = .index T x y) (hx0 : (mk tl hl m).ev x = some (.v (.agg cs))) (hx1 : (mk tl hl m).ev y = some (.v (.int kk n))) (hlt : lk tab T = some ti) (he : ti.arr = some (l, e)) (hle : lk tab e = some te) (ha : te.isAgg = false) (hsz : te.size = 1) (h0 : 0 ≤ n) (h1 : n < l) (hz : cs[n.toNat]? = some z) (hd : o.dst = some k) (hg : aQ ops (mk tl hl m) o.guard = some true) (h : aG P r 𝔅 ops lab (i + 1) rest (mk ((k, .v z) :: tl) hl m) K) : aG P r 𝔅 ops lab i (o :: rest) (mk tl hl m) K :=
 bO (E := [(x, .v (.agg cs)), (y, .v (.int kk n))]) (F := []) (d := .v z) (e := []) (aU (by simp [ho, Op.operands]) (by simp [ho]) fun s hE hF => sU hT ho hlt he hle ha hsz (hE (x, .v (.agg cs)) (by simp)) (hE (y, .v (.int kk n)) (by simp)) h0 h1 hz) (eN hx0 hx1) dz aX hd hg h
theorem dR {T : Nat} {ti : TI} {x y : Operand} {b : ByteArray} {kk : IntKind} {n : Int} {c : UInt8} (hT : bg P tab = true) (ho : o.op = .index T x y) (hx0 : (mk tl hl m).ev x = some (.v (.str b))) (hx1 : (mk tl hl m).ev y = some (.v (.int kk n))) (hlt : lk tab T = some ti) (he : ti.kind = .string) (h0 : 0 ≤ n) (hc : b[n.toNat]? = some c) (hd : o.dst = some k) (hg : aQ ops (mk tl hl m) o.guard = some true) (h : aG P r 𝔅 ops lab (i + 1) rest (mk ((k, .v (.int .u8 c.toNat)) :: tl) hl m) K) : aG P r 𝔅 ops lab i (o :: rest) (mk tl hl m) K :=
 bO (E := [(x, .v (.str b)), (y, .v (.int kk n))]) (F := []) (d := .v (.int .u8 c.toNat)) (e := []) (aU (by simp [ho, Op.operands]) (by simp [ho]) fun s hE hF => tx hT ho hlt he (hE (x, .v (.str b)) (by simp)) (hE (y, .v (.int kk n)) (by simp)) h0 hc) (eN hx0 hx1) dz aX hd hg h
theorem mA {T T' : TypeId} {x y : Operand} {a b z : Int} (ho : o.op = .binOp .add T x y T') (hx0 : (mk tl hl m).ev x = some (.v (.int .i64 a))) (hx1 : (mk tl hl m).ev y = some (.v (.int .i64 b))) (hr : a + b = z) (hr1 : -9223372036854775808 ≤ z) (hr2 : z ≤ 9223372036854775807) (hd : o.dst = some k) (hg : aQ ops (mk tl hl m) o.guard = some true) (h : aG P r 𝔅 ops lab (i + 1) rest (mk ((k, .v (.int .i64 z)) :: tl) hl m) K) : aG P r 𝔅 ops lab i (o :: rest) (mk tl hl m) K :=
 bO (E := [(x, .v (.int .i64 a)), (y, .v (.int .i64 b))]) (F := []) (d := .v (.int .i64 z)) (e := []) (aU (by simp [ho, Op.operands]) (by simp [ho]) fun s hE hF => zr ho (hE (x, .v (.int .i64 a)) (by simp)) (hE (y, .v (.int .i64 b)) (by simp)) (by rw [hr]; exact IntWalk.i64_in _ ⟨hr1, hr2⟩)) (eN hx0 hx1) dz aX hd hg h
theorem EZ {T T' : TypeId} {x y : Operand} {kk : IntKind} {a b z : Int} (ho : o.op = .binOp .sub T x y T') (hx0 : (mk tl hl m).ev x = some (.v (.int kk a))) (hx1 : (mk tl hl m).ev y = some (.v (.int kk b))) (hr : kk.wrap (a - b) = z) (hd : o.dst = some k) (hg : aQ ops (mk tl hl m) o.guard = some true) (h : aG P r 𝔅 ops lab (i + 1) rest (mk ((k, .v (.int kk z)) :: tl) hl m) K) : aG P r 𝔅 ops lab i (o :: rest) (mk tl hl m) K :=
 bO (E := [(x, .v (.int kk a)), (y, .v (.int kk b))]) (F := []) (d := .v (.int kk z)) (e := []) (aU (by simp [ho, Op.operands]) (by simp [ho]) fun s hE hF => ud ho (hE (x, .v (.int kk a)) (by simp)) (hE (y, .v (.int kk b)) (by simp)) hr) (eN hx0 hx1) dz aX hd hg h
theorem bX {T T' : TypeId} {x y : Operand} {a b z : Int} (ho : o.op = .binOp .sub T x y T') (hx0 : (mk tl hl m).ev x = some (.v (.int .i64 a))) (hx1 : (mk tl hl m).ev y = some (.v (.int .i64 b))) (hr : a - b = z) (hr1 : -9223372036854775808 ≤ z) (hr2 : z ≤ 9223372036854775807) (hd : o.dst = some k) (hg : aQ ops (mk tl hl m) o.guard = some true) (h : aG P r 𝔅 ops lab (i + 1) rest (mk ((k, .v (.int .i64 z)) :: tl) hl m) K) : aG P r 𝔅 ops lab i (o :: rest) (mk tl hl m) K :=
 bO (E := [(x, .v (.int .i64 a)), (y, .v (.int .i64 b))]) (F := []) (d := .v (.int .i64 z)) (e := []) (aU (by simp [ho, Op.operands]) (by simp [ho]) fun s hE hF => ud ho (hE (x, .v (.int .i64 a)) (by simp)) (hE (y, .v (.int .i64 b)) (by simp)) (by rw [hr]; exact IntWalk.i64_in _ ⟨hr1, hr2⟩)) (eN hx0 hx1) dz aX hd hg h
theorem dA {T T' : TypeId} {x y : Operand} {a b z : Int} (ho : o.op = .binOp .mul T x y T') (hx0 : (mk tl hl m).ev x = some (.v (.int .i64 a))) (hx1 : (mk tl hl m).ev y = some (.v (.int .i64 b))) (hr : a * b = z) (hr1 : -9223372036854775808 ≤ z) (hr2 : z ≤ 9223372036854775807) (hd : o.dst = some k) (hg : aQ ops (mk tl hl m) o.guard = some true) (h : aG P r 𝔅 ops lab (i + 1) rest (mk ((k, .v (.int .i64 z)) :: tl) hl m) K) : aG P r 𝔅 ops lab i (o :: rest) (mk tl hl m) K :=
 bO (E := [(x, .v (.int .i64 a)), (y, .v (.int .i64 b))]) (F := []) (d := .v (.int .i64 z)) (e := []) (aU (by simp [ho, Op.operands]) (by simp [ho]) fun s hE hF => zu ho (hE (x, .v (.int .i64 a)) (by simp)) (hE (y, .v (.int .i64 b)) (by simp)) (by rw [hr]; exact IntWalk.i64_in _ ⟨hr1, hr2⟩)) (eN hx0 hx1) dz aX hd hg h
theorem l8 {T T' : TypeId} {x y : Operand} {kk : IntKind} {a b z : Int} (ho : o.op = .binOp .quo T x y T') (hx0 : (mk tl hl m).ev x = some (.v (.int kk a))) (hx1 : (mk tl hl m).ev y = some (.v (.int kk b))) (h0 : b ≠ 0) (hr : kk.wrap (a.tdiv b) = z) (hd : o.dst = some k) (hg : aQ ops (mk tl hl m) o.guard = some true) (h : aG P r 𝔅 ops lab (i + 1) rest (mk ((k, .v (.int kk z)) :: tl) hl m) K) : aG P r 𝔅 ops lab i (o :: rest) (mk tl hl m) K :=
 bO (E := [(x, .v (.int kk a)), (y, .v (.int kk b))]) (F := []) (d := .v (.int kk z)) (e := []) (aU (by simp [ho, Op.operands]) (by simp [ho]) fun s hE hF => AE ho (hE (x, .v (.int kk a)) (by simp)) (hE (y, .v (.int kk b)) (by simp)) h0 hr) (eN hx0 hx1) dz aX hd hg h
theorem yO {T T' : TypeId} {x y : Operand} {kk : IntKind} {a b z : Int} (ho : o.op = .binOp .rem T x y T') (hx0 : (mk tl hl m).ev x = some (.v (.int kk a))) (hx1 : (mk tl hl m).ev y = some (.v (.int kk b))) (h0 : b ≠ 0) (hr : a.tmod b = z) (hd : o.dst = some k) (hg : aQ ops (mk tl hl m) o.guard = some true) (h : aG P r 𝔅 ops lab (i + 1) rest (mk ((k, .v (.int kk z)) :: tl) hl m) K) : aG P r 𝔅 ops lab i (o :: rest) (mk tl hl m) K :=
 bO (E := [(x, .v (.int kk a)), (y, .v (.int kk b))]) (F := []) (d := .v (.int kk z)) (e := []) (aU (by simp [ho, Op.operands]) (by simp [ho]) fun s hE hF => zZ ho (hE (x, .v (.int kk a)) (by simp)) (hE (y, .v (.int kk b)) (by simp)) h0 hr) (eN hx0 hx1) dz aX hd hg h
theorem jr {T T' : TypeId} {x y : Operand} {kk : IntKind} {a b : Int} {z : Bool} (ho : o.op = .binOp .eql T x y T') (hx0 : (mk tl hl m).ev x = some (.v (.int kk a))) (hx1 : (mk tl hl m).ev y = some (.v (.int kk b))) (hz : decide (a = b) = z) (hd : o.dst = some k) (hg : aQ ops (mk tl hl m) o.guard = some true) (h : aG P r 𝔅 ops lab (i + 1) rest (mk ((k, .v (.bool z)) :: tl) hl m) K) : aG P r 𝔅 ops lab i (o :: rest) (mk tl hl m) K :=
 bO (E := [(x, .v (.int kk a)), (y, .v (.int kk b))]) (F := []) (d := .v (.bool z)) (e := []) (aU (by simp [ho, Op.operands]) (by simp [ho]) fun s hE hF => hz ▸ zt ho (hE (x, .v (.int kk a)) (by simp)) (hE (y, .v (.int kk b)) (by simp))) (eN hx0 hx1) dz aX hd hg h
theorem bc {T T' : TypeId} {x y : Operand} {kk : IntKind} {a b : Int} (ho : o.op = .binOp .eql T x y T') (hx0 : (mk tl hl m).ev x = some (.v (.int kk a))) (hx1 : (mk tl hl m).ev y = some (.v (.int kk b))) (hd : o.dst = some k) (hg : aQ ops (mk tl hl m) o.guard = some true)
 (ht : a = b → aG P r 𝔅 ops lab (i + 1) rest (mk ((k, .v (.bool true)) :: tl) hl m) K) (hf : ¬ (a = b) → aG P r 𝔅 ops lab (i + 1) rest (mk ((k, .v (.bool false)) :: tl) hl m) K) : aG P r 𝔅 ops lab i (o :: rest) (mk tl hl m) K := by
 by_cases h : a = b
 ·exact jr ho hx0 hx1 (decide_eq_true h) hd hg (ht h)
 ·exact jr ho hx0 hx1 (decide_eq_false h) hd hg (hf h)
theorem ky {T T' : TypeId} {x y : Operand} {kk : IntKind} {a b : Int} {z : Bool} (ho : o.op = .binOp .neq T x y T') (hx0 : (mk tl hl m).ev x = some (.v (.int kk a))) (hx1 : (mk tl hl m).ev y = some (.v (.int kk b))) (hz : decide (a ≠ b) = z) (hd : o.dst = some k) (hg : aQ ops (mk tl hl m) o.guard = some true) (h : aG P r 𝔅 ops lab (i + 1) rest (mk ((k, .v (.bool z)) :: tl) hl m) K) : aG P r 𝔅 ops lab i (o :: rest) (mk tl hl m) K :=
 bO (E := [(x, .v (.int kk a)), (y, .v (.int kk b))]) (F := []) (d := .v (.bool z)) (e := []) (aU (by simp [ho, Op.operands]) (by simp [ho]) fun s hE hF => hz ▸ zo ho (hE (x, .v (.int kk a)) (by simp)) (hE (y, .v (.int kk b)) (by simp))) (eN hx0 hx1) dz aX hd hg h
theorem bt {T T' : TypeId} {x y : Operand} {kk : IntKind} {a b : Int} (ho : o.op = .binOp .neq T x y T') (hx0 : (mk tl hl m).ev x = some (.v (.int kk a))) (hx1 : (mk tl hl m).ev y = some (.v (.int kk b))) (hd : o.dst = some k) (hg : aQ ops (mk tl hl m) o.guard = some true)
 (ht : a ≠ b → aG P r 𝔅 ops lab (i + 1) rest (mk ((k, .v (.bool true)) :: tl) hl m) K) (hf : ¬ (a ≠ b) → aG P r 𝔅 ops lab (i + 1) rest (mk ((k, .v (.bool false)) :: tl) hl m) K) : aG P r 𝔅 ops lab i (o :: rest) (mk tl hl m) K := by
 by_cases h : a ≠ b
 ·exact ky ho hx0 hx1 (decide_eq_true h) hd hg (ht h)
 ·exact ky ho hx0 hx1 (decide_eq_false h) hd hg (hf h)
theorem iZ {T T' : TypeId} {x y : Operand} {kk : IntKind} {a b : Int} {z : Bool} (ho : o.op = .binOp .lss T x y T') (hx0 : (mk tl hl m).ev x = some (.v (.int kk a))) (hx1 : (mk tl hl m).ev y = some (.v (.int kk b))) (hz : decide (a < b) = z) (hd : o.dst = some k) (hg : aQ ops (mk tl hl m) o.guard = some true) (h : aG P r 𝔅 ops lab (i + 1) rest (mk ((k, .v (.bool z)) :: tl) hl m) K) : aG P r 𝔅 ops lab i (o :: rest) (mk tl hl m) K :=
 bO (E := [(x, .v (.int kk a)), (y, .v (.int kk b))]) (F := []) (d := .v (.bool z)) (e := []) (aU (by simp [ho, Op.operands]) (by simp [ho]) fun s hE hF => hz ▸ y8 ho (hE (x, .v (.int kk a)) (by simp)) (hE (y, .v (.int kk b)) (by simp))) (eN hx0 hx1) dz aX hd hg h
theorem pF {T T' : TypeId} {x y : Operand} {kk : IntKind} {a b : Int} (ho : o.op = .binOp .lss T x y T') (hx0 : (mk tl hl m).ev x = some (.v (.int kk a))) (hx1 : (mk tl hl m).ev y = some (.v (.int kk b))) (hd : o.dst = some k) (hg : aQ ops (mk tl hl m) o.guard = some true)
 (ht : a < b → aG P r 𝔅 ops lab (i + 1) rest (mk ((k, .v (.bool true)) :: tl) hl m) K) (hf : ¬ (a < b) → aG P r 𝔅 ops lab (i + 1) rest (mk ((k, .v (.bool false)) :: tl) hl m) K) : aG P r 𝔅 ops lab i (o :: rest) (mk tl hl m) K := by
 by_cases h : a < b
 ·exact iZ ho hx0 hx1 (decide_eq_true h) hd hg (ht h)
 ·exact iZ ho hx0 hx1 (decide_eq_false h) hd hg (hf h)
theorem lN {T T' : TypeId} {x y : Operand} {kk : IntKind} {a b : Int} {z : Bool} (ho : o.op = .binOp .leq T x y T') (hx0 : (mk tl hl m).ev x = some (.v (.int kk a))) (hx1 : (mk tl hl m).ev y = some (.v (.int kk b))) (hz : decide (a ≤ b) = z) (hd : o.dst = some k) (hg : aQ ops (mk tl hl m) o.guard = some true) (h : aG P r 𝔅 ops lab (i + 1) rest (mk ((k, .v (.bool z)) :: tl) hl m) K) : aG P r 𝔅 ops lab i (o :: rest) (mk tl hl m) K :=
 bO (E := [(x, .v (.int kk a)), (y, .v (.int kk b))]) (F := []) (d := .v (.bool z)) (e := []) (aU (by simp [ho, Op.operands]) (by simp [ho]) fun s hE hF => hz ▸ Ay ho (hE (x, .v (.int kk a)) (by simp)) (hE (y, .v (.int kk b)) (by simp))) (eN hx0 hx1) dz aX hd hg h
theorem kZ {T T' : TypeId} {x y : Operand} {kk : IntKind} {a b : Int} (ho : o.op = .binOp .leq T x y T') (hx0 : (mk tl hl m).ev x = some (.v (.int kk a))) (hx1 : (mk tl hl m).ev y = some (.v (.int kk b))) (hd : o.dst = some k) (hg : aQ ops (mk tl hl m) o.guard = some true)
 (ht : a ≤ b → aG P r 𝔅 ops lab (i + 1) rest (mk ((k, .v (.bool true)) :: tl) hl m) K) (hf : ¬ (a ≤ b) → aG P r 𝔅 ops lab (i + 1) rest (mk ((k, .v (.bool false)) :: tl) hl m) K) : aG P r 𝔅 ops lab i (o :: rest) (mk tl hl m) K := by
 by_cases h : a ≤ b
 ·exact lN ho hx0 hx1 (decide_eq_true h) hd hg (ht h)
 ·exact lN ho hx0 hx1 (decide_eq_false h) hd hg (hf h)
theorem lI {T T' : TypeId} {x y : Operand} {kk : IntKind} {a b : Int} {z : Bool} (ho : o.op = .binOp .gtr T x y T') (hx0 : (mk tl hl m).ev x = some (.v (.int kk a))) (hx1 : (mk tl hl m).ev y = some (.v (.int kk b))) (hz : decide (a > b) = z) (hd : o.dst = some k) (hg : aQ ops (mk tl hl m) o.guard = some true) (h : aG P r 𝔅 ops lab (i + 1) rest (mk ((k, .v (.bool z)) :: tl) hl m) K) : aG P r 𝔅 ops lab i (o :: rest) (mk tl hl m) K :=
 bO (E := [(x, .v (.int kk a)), (y, .v (.int kk b))]) (F := []) (d := .v (.bool z)) (e := []) (aU (by simp [ho, Op.operands]) (by simp [ho]) fun s hE hF => hz ▸ Ar ho (hE (x, .v (.int kk a)) (by simp)) (hE (y, .v (.int kk b)) (by simp))) (eN hx0 hx1) dz aX hd hg h
theorem bW {T T' : TypeId} {x y : Operand} {kk : IntKind} {a b : Int} (ho : o.op = .binOp .gtr T x y T') (hx0 : (mk tl hl m).ev x = some (.v (.int kk a))) (hx1 : (mk tl hl m).ev y = some (.v (.int kk b))) (hd : o.dst = some k) (hg : aQ ops (mk tl hl m) o.guard = some true)
 (ht : a > b → aG P r 𝔅 ops lab (i + 1) rest (mk ((k, .v (.bool true)) :: tl) hl m) K) (hf : ¬ (a > b) → aG P r 𝔅 ops lab (i + 1) rest (mk ((k, .v (.bool false)) :: tl) hl m) K) : aG P r 𝔅 ops lab i (o :: rest) (mk tl hl m) K := by
 by_cases h : a > b
 ·exact lI ho hx0 hx1 (decide_eq_true h) hd hg (ht h)
 ·exact lI ho hx0 hx1 (decide_eq_false h) hd hg (hf h)
theorem jX {T T' : TypeId} {x y : Operand} {kk : IntKind} {a b : Int} {z : Bool} (ho : o.op = .binOp .geq T x y T') (hx0 : (mk tl hl m).ev x = some (.v (.int kk a))) (hx1 : (mk tl hl m).ev y = some (.v (.int kk b))) (hz : decide (a ≥ b) = z) (hd : o.dst = some k) (hg : aQ ops (mk tl hl m) o.guard = some true) (h : aG P r 𝔅 ops lab (i + 1) rest (mk ((k, .v (.bool z)) :: tl) hl m) K) : aG P r 𝔅 ops lab i (o :: rest) (mk tl hl m) K :=
 bO (E := [(x, .v (.int kk a)), (y, .v (.int kk b))]) (F := []) (d := .v (.bool z)) (e := []) (aU (by simp [ho, Op.operands]) (by simp [ho]) fun s hE hF => hz ▸ Ak ho (hE (x, .v (.int kk a)) (by simp)) (hE (y, .v (.int kk b)) (by simp))) (eN hx0 hx1) dz aX hd hg h
theorem bY {T T' : TypeId} {x y : Operand} {kk : IntKind} {a b : Int} (ho : o.op = .binOp .geq T x y T') (hx0 : (mk tl hl m).ev x = some (.v (.int kk a))) (hx1 : (mk tl hl m).ev y = some (.v (.int kk b))) (hd : o.dst = some k) (hg : aQ ops (mk tl hl m) o.guard = some true)
 (ht : a ≥ b → aG P r 𝔅 ops lab (i + 1) rest (mk ((k, .v (.bool true)) :: tl) hl m) K) (hf : ¬ (a ≥ b) → aG P r 𝔅 ops lab (i + 1) rest (mk ((k, .v (.bool false)) :: tl) hl m) K) : aG P r 𝔅 ops lab i (o :: rest) (mk tl hl m) K := by
 by_cases h : a ≥ b
 ·exact jX ho hx0 hx1 (decide_eq_true h) hd hg (ht h)
 ·exact jX ho hx0 hx1 (decide_eq_false h) hd hg (hf h)
theorem D4 {T T' : TypeId} {x y : Operand} {kk : IntKind} {a b z : Int} (ho : o.op = .binOp .and T x y T') (hx0 : (mk tl hl m).ev x = some (.v (.int kk a))) (hx1 : (mk tl hl m).ev y = some (.v (.int kk b))) (hr : bits .and kk a b = z) (hd : o.dst = some k) (hg : aQ ops (mk tl hl m) o.guard = some true) (h : aG P r 𝔅 ops lab (i + 1) rest (mk ((k, .v (.int kk z)) :: tl) hl m) K) : aG P r 𝔅 ops lab i (o :: rest) (mk tl hl m) K :=
 bO (E := [(x, .v (.int kk a)), (y, .v (.int kk b))]) (F := []) (d := .v (.int kk z)) (e := []) (aU (by simp [ho, Op.operands]) (by simp [ho]) fun s hE hF => qH ho (by simp) (hE (x, .v (.int kk a)) (by simp)) (hE (y, .v (.int kk b)) (by simp)) hr) (eN hx0 hx1) dz aX hd hg h
theorem nC {T T' : TypeId} {x y : Operand} {kk : IntKind} {a b z : Int} (ho : o.op = .binOp .xor T x y T') (hx0 : (mk tl hl m).ev x = some (.v (.int kk a))) (hx1 : (mk tl hl m).ev y = some (.v (.int kk b))) (hr : bits .xor kk a b = z) (hd : o.dst = some k) (hg : aQ ops (mk tl hl m) o.guard = some true) (h : aG P r 𝔅 ops lab (i + 1) rest (mk ((k, .v (.int kk z)) :: tl) hl m) K) : aG P r 𝔅 ops lab i (o :: rest) (mk tl hl m) K :=
 bO (E := [(x, .v (.int kk a)), (y, .v (.int kk b))]) (F := []) (d := .v (.int kk z)) (e := []) (aU (by simp [ho, Op.operands]) (by simp [ho]) fun s hE hF => qH ho (by simp) (hE (x, .v (.int kk a)) (by simp)) (hE (y, .v (.int kk b)) (by simp)) hr) (eN hx0 hx1) dz aX hd hg h
theorem EE {T T' : TypeId} {x y : Operand} {kk kj : IntKind} {a b z : Int} (ho : o.op = .binOp .shr T x y T') (hx0 : (mk tl hl m).ev x = some (.v (.int kk a))) (hx1 : (mk tl hl m).ev y = some (.v (.int kj b))) (h0 : 0 ≤ b) (h1 : b ≤ kk.bits) (hr : a / 2 ^ b.toNat = z) (hd : o.dst = some k) (hg : aQ ops (mk tl hl m) o.guard = some true) (h : aG P r 𝔅 ops lab (i + 1) rest (mk ((k, .v (.int kk z)) :: tl) hl m) K) : aG P r 𝔅 ops lab i (o :: rest) (mk tl hl m) K :=
 bO (E := [(x, .v (.int kk a)), (y, .v (.int kj b))]) (F := []) (d := .v (.int kk z)) (e := []) (aU (by simp [ho, Op.operands]) (by simp [ho]) fun s hE hF => AS ho (hE (x, .v (.int kk a)) (by simp)) (hE (y, .v (.int kj b)) (by simp)) h0 h1 hr) (eN hx0 hx1) dz aX hd hg h
theorem BW {T T' : TypeId} {ti : TI} {x y : Operand} {a b z : Bool} (hT : bg P tab = true) (ho : o.op = .binOp .eql T x y T') (hx0 : (mk tl hl m).ev x = some (.v (.bool a))) (hx1 : (mk tl hl m).ev y = some (.v (.bool b))) (hlt : lk tab T = some ti) (he : ti.kind = .bool) (hz : (a == b) = z) (hd : o.dst = some k) (hg : aQ ops (mk tl hl m) o.guard = some true) (h : aG P r 𝔅 ops lab (i + 1) rest (mk ((k, .v (.bool z)) :: tl) hl m) K) : aG P r 𝔅 ops lab i (o :: rest) (mk tl hl m) K :=
 bO (E := [(x, .v (.bool a)), (y, .v (.bool b))]) (F := []) (d := .v (.bool z)) (e := []) (aU (by simp [ho, Op.operands]) (by simp [ho]) fun s hE hF => hz ▸ yA hT ho hlt he (hE (x, .v (.bool a)) (by simp)) (hE (y, .v (.bool b)) (by simp))) (eN hx0 hx1) dz aX hd hg h
theorem Cn {T T' : TypeId} {x y : Operand} {a b : ByteArray} {z : Bool} (ho : o.op = .binOp .eql T x y T') (hx0 : (mk tl hl m).ev x = some (.v (.str a))) (hx1 : (mk tl hl m).ev y = some (.v (.str b))) (hz : (a.toList == b.toList) = z) (hd : o.dst = some k) (hg : aQ ops (mk tl hl m) o.guard = some true) (h : aG P r 𝔅 ops lab (i + 1) rest (mk ((k, .v (.bool z)) :: tl) hl m) K) : aG P r 𝔅 ops lab i (o :: rest) (mk tl hl m) K :=
 bO (E := [(x, .v (.str a)), (y, .v (.str b))]) (F := []) (d := .v (.bool z)) (e := []) (aU (by simp [ho, Op.operands]) (by simp [ho]) fun s hE hF => hz ▸ xM ho (hE (x, .v (.str a)) (by simp)) (hE (y, .v (.str b)) (by simp))) (eN hx0 hx1) dz aX hd hg h
theorem Co {T T' : TypeId} {x y : Operand} {a b : ByteArray} (ho : o.op = .binOp .add T x y T') (hx0 : (mk tl hl m).ev x = some (.v (.str a))) (hx1 : (mk tl hl m).ev y = some (.v (.str b))) (hs : a.size + b.size ≤ 9223372036854775807) (hd : o.dst = some k) (hg : aQ ops (mk tl hl m) o.guard = some true) (h : aG P r 𝔅 ops lab (i + 1) rest (mk ((k, .v (.str (a ++ b))) :: tl) hl m) K) : aG P r 𝔅 ops lab i (o :: rest) (mk tl hl m) K :=
 bO (E := [(x, .v (.str a)), (y, .v (.str b))]) (F := []) (d := .v (.str (a ++ b))) (e := []) (aU (by simp [ho, Op.operands]) (by simp [ho]) fun s hE hF => x8 ho (hE (x, .v (.str a)) (by simp)) (hE (y, .v (.str b)) (by simp)) hs) (eN hx0 hx1) dz aX hd hg h
theorem fR {src dst : TypeId} {ts td : TI} {x : Operand} {kk kj : IntKind} {n z : Int} (hT : bg P tab = true) (ho : o.op = .convert src dst x) (hx0 : (mk tl hl m).ev x = some (.v (.int kk n))) (hs : lk tab src = some ts) (hdd : lk tab dst = some td) (hk : ts.kind = .int kk) (hk' : td.kind = .int kj) (hr : kj.wrap n = z) (hd : o.dst = some k) (hg : aQ ops (mk tl hl m) o.guard = some true) (h : aG P r 𝔅 ops lab (i + 1) rest (mk ((k, .v (.int kj z)) :: tl) hl m) K) : aG P r 𝔅 ops lab i (o :: rest) (mk tl hl m) K :=
 bO (E := [(x, .v (.int kk n))]) (F := []) (d := .v (.int kj z)) (e := []) (aU (by simp [ho, Op.operands]) (by simp [ho]) fun s hE hF => pW hT ho hs hdd hk hk' (hE (x, .v (.int kk n)) (by simp)) hr) (et hx0) dz aX hd hg h
theorem Ax {x : Operand} {id n : Nat} {cs : List D} (ho : o.op = .nilCheck x) (hx0 : (mk tl hl m).ev x = some (.ptr id n)) (hf0 : (mk tl hl m).h id = .box cs) (hlab : cB lab i [(id, .box cs)] [] = true) (hd : o.dst = some k) (hg : aQ ops (mk tl hl m) o.guard = some true) (h : aG P r 𝔅 ops lab (i + 1) rest (mk ((k, .ptr id n) :: tl) hl m) K) : aG P r 𝔅 ops lab i (o :: rest) (mk tl hl m) K :=
 bO (E := [(x, .ptr id n)]) (F := [(id, .box cs)]) (d := .ptr id n) (e := []) (aU (by simp [ho, Op.operands]) (by simp [ho]) fun s hE hF => mL ho (hE (x, .ptr id n) (by simp)) (hF (id, .box cs) (by simp))) (et hx0) (et hf0) hlab hd hg h
theorem D7 {x : Operand} {j : Nat} {vs : List V} {v : V} (ho : o.op = .extract x j) (hx0 : (mk tl hl m).ev x = some (.v (.tup vs))) (hv : vs[j]? = some v) (hd : o.dst = some k) (hg : aQ ops (mk tl hl m) o.guard = some true) (h : aG P r 𝔅 ops lab (i + 1) rest (mk ((k, .v v) :: tl) hl m) K) : aG P r 𝔅 ops lab i (o :: rest) (mk tl hl m) K :=
 bO (E := [(x, .v (.tup vs))]) (F := []) (d := .v v) (e := []) (aU (by simp [ho, Op.operands]) (by simp [ho]) fun s hE hF => rD ho (hE (x, .v (.tup vs)) (by simp)) hv) (et hx0) dz aX hd hg h
theorem qY {x : Operand} {j : Nat} {vs : List D} {v : D} (ho : o.op = .extract x j) (hx0 : (mk tl hl m).ev x = some (.tup vs)) (hv : vs[j]? = some v) (hd : o.dst = some k) (hg : aQ ops (mk tl hl m) o.guard = some true) (h : aG P r 𝔅 ops lab (i + 1) rest (mk ((k, v) :: tl) hl m) K) : aG P r 𝔅 ops lab i (o :: rest) (mk tl hl m) K :=
 bO (E := [(x, .tup vs)]) (F := []) (d := v) (e := []) (aU (by simp [ho, Op.operands]) (by simp [ho]) fun s hE hF => pS ho (hE (x, .tup vs) (by simp)) hv) (et hx0) dz aX hd hg h
theorem AG {T : Nat} {ti : TI} {id : Nat} {cs : List D} (hT : bg P tab = true) (ho : o.op = .alloc T) (hf0 : (mk tl hl m).h id = .res) (hlt : lk tab T = some ti) (hc : ti.zero.map Z.toD = cs) (hlab : cB lab i [(id, .res)] [(id, .box cs)] = true) (hd : o.dst = some k) (hg : aQ ops (mk tl hl m) o.guard = some true) (h : aG P r 𝔅 ops lab (i + 1) rest (mk ((k, .ptr id 0) :: tl) ((id, .box cs) :: hl) m) K) : aG P r 𝔅 ops lab i (o :: rest) (mk tl hl m) K :=
 bO (E := []) (F := [(id, .res)]) (d := .ptr id 0) (e := [(id, .box cs)]) (aU (by simp [ho, Op.operands]) (by simp [ho]) fun s hE hF => hc ▸ vt hT ho hlt (hF (id, .res) (by simp))) dz (et hf0) hlab hd hg h
theorem ro {F : List (Nat × Blk)} {s : St} (hf : ∀ p ∈ F, s.h p.1 = p.2) {d : D} {ds : List D} (h : d.flat (hF F) = some ds) : d.flat s.h = some ds := by
 have key := om hf
 cases d with
 | own id =>
   simp only [D.flat] at h ⊢
   rcases key id with h1 | h1
   ·rw [h1] at h; cases h
   ·rw [← h1]; exact h
 | ptr id n =>
   simp only [D.flat] at h ⊢
   rcases key id with h1 | h1
   ·rw [h1] at h; cases h
   ·rw [← h1]; exact h
 | v x => cases x <;> exact h
 | _ => exact h
theorem DS {F : List (Nat × Blk)} {s : St} (hf : ∀ p ∈ F, s.h p.1 = p.2) {d : D} (h : d.one (hF F) = true) : d.one s.h = true := by
 have key := om hf
 cases d with
 | own id =>
   simp only [D.one] at h ⊢
   rcases key id with h1 | h1
   ·rw [h1] at h; cases h
   ·rw [← h1]; exact h
 | ptr id n =>
   simp only [D.one] at h ⊢
   rcases key id with h1 | h1
   ·rw [h1] at h; cases h
   ·rw [← h1]; exact h
 | _ => exact h
def HasH (s : St) : List (Nat × Blk) → Prop
 | [] => True
 | p :: r => s.h p.1 = p.2 ∧ HasH s r
theorem HasH.all {s : St} : ∀ {l : List (Nat × Blk)}, HasH s l → ∀ p ∈ l, s.h p.1 = p.2
 | [], _ => by simp
 | q :: r, h => by
   intro p hp
   rcases List.mem_cons.1 hp with rfl | hp
   ·exact h.1
   ·exact HasH.all h.2 p hp
def HasT (s : St) : List (Nat × D) → Prop
 | [] => True
 | p :: r => s.t p.1 = some p.2 ∧ HasT s r
theorem HasT.all {s : St} : ∀ {l : List (Nat × D)}, HasT s l → ∀ p ∈ l, s.t p.1 = some p.2
 | [], _ => by simp
 | q :: r, h => by
   intro p hp
   rcases List.mem_cons.1 hp with rfl | hp
   ·exact h.1
   ·exact HasT.all h.2 p hp
theorem cT {N : Nat} {B : BB} {c : Code} {Q : Exit → St → Prop} {s : St} (tl : List (Nat × D)) (hl : List (Nat × Blk)) {m : MM} (ht : HasT s tl) (hh : HasH s hl) (hm : s.m = m) (hi : (tl.all fun p => p.2.inn (hl.map (·.1))) = true) (hj : (hl.all fun p => p.2.inn (hl.map (·.1))) = true) (hp : (m.pins.all fun p => (hl.map (·.1)).contains p.1) = true)
 (h : Wp P r N B c Q (mk tl hl m)) : Wp P r N B c Q s := cg (wV ht.all hh.all hm hi hj hp) h
theorem aL {s : St} {tl : List (Nat × D)} {hl : List (Nat × Blk)} {m : MM} (ht : HasT s tl) (hh : HasH s hl) (hm : s.m = m) (hi : (tl.all fun p => p.2.inn (hl.map (·.1))) = true) (hj : (hl.all fun p => p.2.inn (hl.map (·.1))) = true) (hp : (m.pins.all fun p => (hl.map (·.1)).contains p.1) = true) :
 Le s (mk tl hl m) := wV ht.all hh.all hm hi hj hp
theorem bE {T : Nat} {x : Operand} {d : D} (id : Nat) (F : List (Nat × Blk)) {ds : List D} (ho : o.op = .box T x) (hx : (mk tl hl m).ev x = some d) (hds : d.flat (hF F) = some ds) (hF' : HasH (mk tl hl m) ((id, .res) :: F)) (hlab : cB lab i ((id, .res) :: F) [(id, .box ds)] = true)
 (hd : o.dst = some k) (hg : aQ ops (mk tl hl m) o.guard = some true) (h : aG P r 𝔅 ops lab (i + 1) rest (mk ((k, .ptr id 0) :: tl) ((id, .box ds) :: hl) m) K) : aG P r 𝔅 ops lab i (o :: rest) (mk tl hl m) K :=
 bO (E := [(x, d)]) (F := (id, .res) :: F) (d := .ptr id 0) (e := [(id, .box ds)]) (aU (by simp [ho, Op.operands]) (by simp [ho]) fun s hE hFs => yM ho (hE (x, d) (by simp)) (ro (fun p hp => hFs p (List.mem_cons_of_mem _ hp)) hds) (hFs (id, .res) (by simp))) (et hx) hF'.all hlab hd hg h
theorem gF {T : Nat} {ti : TI} {x y : Operand} {id n : Nat} {cs ds cs' : List D} {d : D} (F : List (Nat × Blk)) (hT : bg P tab = true) (ho : o.op = .store T x y) (hl' : lk tab T = some ti) (hx : (mk tl hl m).ev x = some (.ptr id n)) (hy : (mk tl hl m).ev y = some d)
 (hb : (mk tl hl m).h id = .box cs) (hFs : HasH (mk tl hl m) F) (hds : d.flat (hF F) = some ds) (h1 : ds.all (·.one (hF F)) = true) (hs : ti.size = ds.length) (hfit : Nat.ble (n + ds.length) cs.length = true) (hcs : cs.take n ++ ds ++ cs.drop (n + ds.length) = cs')
 (hlab : cB lab i ((id, .box cs) :: F) [(id, .box cs')] = true) (hd : o.dst = none) (hg : aQ ops (mk tl hl m) o.guard = some true) (h : aG P r 𝔅 ops lab (i + 1) rest (mk tl ((id, .box cs') :: hl) m) K) : aG P r 𝔅 ops lab i (o :: rest) (mk tl hl m) K :=
 AN (E := [(x, .ptr id n), (y, d)]) (F := (id, .box cs) :: F) (d := .v (.tup [])) (e := [(id, .box cs')]) (aU (by simp [ho, Op.operands]) (by simp [ho]) fun s hE hF0 => by
  have hF1 : ∀ p ∈ F, s.h p.1 = p.2 := fun p hp => hF0 p (List.mem_cons_of_mem _ hp)
  subst hcs
  refine uF hT ho hl' (hE (x, .ptr id n) (by simp)) (hE (y, d) (by simp)) (hF0 (id, .box cs) (by simp)) (ro hF1 hds) ?_ hs (Nat.le_of_ble_eq_true hfit)
  rw [List.all_eq_true] at h1 ⊢
  exact fun z hz => DS hF1 (h1 z hz)) (eN hx hy) (fun p hp => by
   rcases List.mem_cons.1 hp with rfl | hp
   ·exact hb
   ·exact hFs.all p hp) hlab hd hg h
theorem jg {T : Nat} {ti : TI} {x y : Operand} {id n e : Nat} {es es' : List (List V)} {v : V} (hT : bg P tab = true) (ho : o.op = .store T x y) (hl' : lk tab T = some ti)
 (hx : (mk tl hl m).ev x = some (.eptr id n)) (hy : (mk tl hl m).ev y = some (.v v)) (hb : (mk tl hl m).h id = .row e 1 es) (h1 : v.one = true) (hs : ti.size = 1) (hn : n < es.length) (hes : es.set n [v] = es')
 (hlab : cB lab i [(id, .row e 1 es)] [(id, .row e 1 es')] = true) (hd : o.dst = none) (hg : aQ ops (mk tl hl m) o.guard = some true) (h : aG P r 𝔅 ops lab (i + 1) rest (mk tl ((id, .row e 1 es') :: hl) m) K) : aG P r 𝔅 ops lab i (o :: rest) (mk tl hl m) K :=
 AN (E := [(x, .eptr id n), (y, .v v)]) (F := [(id, .row e 1 es)]) (d := .v (.tup [])) (e := [(id, .row e 1 es')]) (aU (by simp [ho, Op.operands]) (by simp [ho]) fun s hE hF0 =>
  hes ▸ si hT ho hl' (hE (x, .eptr id n) (by simp)) (hE (y, .v v) (by simp)) (hF0 (id, .row e 1 es) (by simp)) h1 hs hn) (eN hx hy) (et hb) hlab hd hg h
def Fx (F : List (Nat × Blk)) : D → Option (List (List V))
 | .v (.sl es) => some es
 | .nils => some []
 | .own id => match hF F id with | .row _ _ es => some es | _ => none
 | _ => none
def elOk (sz : Nat) (es : List (List V)) : Prop := ∀ el ∈ es, el.length = sz ∧ ∀ v ∈ el, v.one = true
theorem elOk.nil {sz : Nat} : elOk sz [] := by simp [elOk]
theorem elOk.cons {sz : Nat} {el : List V} {es : List (List V)} (h : el.length = sz) (h' : el.all V.one = true) (hr : elOk sz es) : elOk sz (el :: es) := by
 intro x hx
 rcases List.mem_cons.1 hx with rfl | hx
 ·exact ⟨h, List.all_eq_true.1 h'⟩
 ·exact hr x hx
theorem elOk.map {α : Type} {sz : Nat} {enc : α → List V} (h : ∀ a, (enc a).length = sz ∧ (enc a).all V.one = true) (xs : List α) : elOk sz (xs.map enc) := by
 intro x hx
 obtain ⟨a, _, rfl⟩ := List.mem_map.1 hx
 exact ⟨(h a).1, List.all_eq_true.1 (h a).2⟩
theorem Fk {s : St} {F : List (Nat × Blk)} {y : Operand} {dy : D} {sz : Nat} {es2 : List (List V)} (hFf : ∀ p ∈ F, s.h p.1 = p.2) (hy : s.ev y = some dy) (hsrc : Fx F dy = some es2) (hel : elOk sz es2) : HM s y es2 sz := by
 have hF1 := om hFf
 cases dy with
 | nils => cases hsrc; exact Aw hy
 | v x =>
   cases x with
   | sl es => cases hsrc; exact F6 hy fun el hel' => (hel el hel').1
   | _ => cases hsrc
 | own id =>
   simp only [Fx] at hsrc
   have h1 := hF1 id
   cases hh : hF F id with
   | row e0 sz0 es =>
     rw [hh] at hsrc h1
     cases hsrc
     have h1 : s.h id = .row e0 sz0 es2 := by
      rcases h1 with h1 | h1
      ·cases h1
      ·exact h1.symm
     intro B ι a w S
     have h2 := S.blks id
     rw [h1] at h2
     cases es2 with
     | nil => exact ⟨(wG hy h1 B ι a w S).1, fun h => absurd rfl h⟩
     | cons el es =>
       have h3 := h2.2.1 el List.mem_cons_self
       have h4 := (hel el List.mem_cons_self).1
       have : sz0 = sz := by omega
       subst this
       exact wG hy h1 B ι a w S
   | _ => rw [hh] at hsrc; cases hsrc
 | _ => cases hsrc
theorem cw {t e t' e' : Nat} {ti ti' te : TI} {x y : Operand} {dy : D} (nid : Nat) (F : List (Nat × Blk)) {id sz : Nat} {es1 es2 es : List (List V)} (hT : bg P tab = true) (ho : o.op = .call { callee := .builtin .append, args := #[x, y], argTypes := #[t, t'] })
 (hl1 : lk tab t = some ti) (he : ti.sliceElem = some e) (hl2 : lk tab t' = some ti') (he' : ti'.sliceElem = some e') (hle : lk tab e = some te) (hte : te.size = sz) (hsz : Nat.blt 0 sz = true)
 (hx : (mk tl hl m).ev x = some (.own id)) (hy : (mk tl hl m).ev y = some dy) (hFs : HasH (mk tl hl m) ((nid, .res) :: (id, .row e sz es1) :: F)) (hsrc : Fx F dy = some es2) (hel : elOk sz es2) (hes : es1 ++ es2 = es)
 (hb : es.length * te.bytes ≤ 140737488355328 ∧ es.length ≤ 140737488355328)
 (hlab : cB lab i ((nid, .res) :: (id, .row e sz es1) :: F) [(id, .dead), (nid, .row e sz es)] = true)
 (hd : o.dst = some k) (hg : aQ ops (mk tl hl m) o.guard = some true) (h : aG P r 𝔅 ops lab (i + 1) rest (mk ((k, .own nid) :: tl) ((nid, .row e sz es) :: (id, .dead) :: hl) m) K) : aG P r 𝔅 ops lab i (o :: rest) (mk tl hl m) K :=
 bO (E := [(x, .own id), (y, dy)]) (F := (nid, .res) :: (id, .row e sz es1) :: F) (d := .own nid) (e := [(id, .dead), (nid, .row e sz es)]) (aU (by simp [ho, Op.operands, Call.operands]) (by simp [ho]) fun s hE hF0 => by
  subst hes
  have := tI (es1 := es1) (kills := [(id, .dead)]) hT ho hl1 he hl2 he' hle hte (Nat.le_of_ble_eq_true hsz) (.inr ⟨id, hE (x, .own id) List.mem_cons_self, hF0 (id, .row e sz es1) (List.mem_cons_of_mem _ List.mem_cons_self), rfl⟩) (Fk (fun p hp => hF0 p (List.mem_cons_of_mem _ (List.mem_cons_of_mem _ hp))) (hE (y, dy) (List.mem_cons_of_mem _ List.mem_cons_self)) hsrc hel) (fun el h => (hel el h).1) (fun el h => (hel el h).2) (hF0 (nid, .res) List.mem_cons_self)
   (by simpa [maxLen] using Nat.le_trans hb.2 (by decide)) (by simpa using hb.1)
  simpa using this) (eN hx hy) hFs.all hlab hd hg h
theorem md {t e : Nat} {ti te : TI} {x y : Operand} {kl kc : IntKind} {l c : Int} (nid : Nat) {sz : Nat} {el0 : List V} {es : List (List V)} (hT : bg P tab = true) (ho : o.op = .makeSlice t x y) (hl1 : lk tab t = some ti) (he : ti.sliceElem = some e) (hle : lk tab e = some te) (hte : te.size = sz)
 (hx : (mk tl hl m).ev x = some (.v (.int kl l))) (hy : (mk tl hl m).ev y = some (.v (.int kc c))) (hz : te.zero.map Z.toD = el0.map .v) (hsz : Nat.blt 0 sz = true) (h0 : 0 ≤ l ∧ l ≤ c ∧ c ≤ 140737488355328 ∧ (te.bytes : Int) * c ≤ 281474976710656) (hes : List.replicate l.toNat el0 = es)
 (hr : (mk tl hl m).h nid = .res) (hlab : cB lab i [(nid, .res)] [(nid, .row e sz es)] = true)
 (hd : o.dst = some k) (hg : aQ ops (mk tl hl m) o.guard = some true) (h : aG P r 𝔅 ops lab (i + 1) rest (mk ((k, .own nid) :: tl) ((nid, .row e sz es) :: hl) m) K) : aG P r 𝔅 ops lab i (o :: rest) (mk tl hl m) K :=
 bO (E := [(x, .v (.int kl l)), (y, .v (.int kc c))]) (F := [(nid, .res)]) (d := .own nid) (e := [(nid, .row e sz es)]) (aU (by simp [ho, Op.operands]) (by simp [ho]) fun s hE hF0 => by
  subst hes; subst hte
  exact yE hT ho hl1 he hle (hE (x, .v (.int kl l)) (by simp)) (hE (y, .v (.int kc c)) (by simp)) h0.1 h0.2.1 (by simp only [maxLen]; omega) h0.2.2.2 hz (Nat.le_of_ble_eq_true hsz) (hF0 (nid, .res) (by simp))) (eN hx hy) (et hr) hlab hd hg h
def iT (s : St) : List Operand → Option (List (Operand × D))
 | [] => some []
 | x :: r => match s.ev x, iT s r with | some d, some E => some ((x, d) :: E) | _, _ => none
theorem cM {s : St} : ∀ {xs : List Operand} {E : List (Operand × D)}, iT s xs = some E → E.map (·.1) = xs ∧ ∀ p ∈ E, s.ev p.1 = some p.2
 | [], E, h => by simp [iT] at h; subst h; simp
 | x :: r, E, h => by
   simp only [iT] at h
   split at h
   ·rename_i d E' h1 h2
    cases h
    obtain ⟨h3, h4⟩ := cM h2
    refine ⟨by simp [h3], fun p hp => ?_⟩
    rcases List.mem_cons.1 hp with rfl | hp
    ·exact h1
    ·exact h4 p hp
   ·cases h
theorem wl {s : St} : ∀ {E : List (Operand × D)}, (∀ p ∈ E, s.ev p.1 = some p.2) → s.evs (E.map (·.1)) = some (E.map (·.2))
 | [], _ => rfl
 | p :: E, h => by
   have h1 := h p List.mem_cons_self
   have h2 := wl fun q hq => h q (List.mem_cons_of_mem _ hq)
   simp [St.evs, h1, h2]
def kg (F : List (Nat × Blk)) : List Nat → List D → Option (List (Nat × List D))
 | [], [] => some []
 | n :: ns, d :: ds => match d.flat (hF F), kg F ns ds with | some c, some cs => some ((n, c) :: cs) | _, _ => none
 | _, _ => none
theorem kX {s : St} {F : List (Nat × Blk)} (hFf : ∀ p ∈ F, s.h p.1 = p.2) : ∀ {ps : List (Nat × Operand)} {E : List (Operand × D)} {pd : List (Nat × List D)}, E.map (·.1) = ps.map (·.2) → (∀ p ∈ E, s.ev p.1 = some p.2) → kg F (ps.map (·.1)) (E.map (·.2)) = some pd → s.parts ps = some pd
 | [], [], pd, _, _, h => by simpa [kg, St.parts] using h
 | [], _ :: _, _, h, _, _ => by simp at h
 | _ :: _, [], _, h, _, _ => by simp at h
 | (n, x) :: ps, (y, d) :: E, pd, h, hE, hp => by
   simp only [List.map_cons, List.cons.injEq] at h
   obtain ⟨rfl, h⟩ := h
   simp only [List.map_cons, kg] at hp
   split at hp
   ·rename_i c cs h1 h2
    cases hp
    have h3 := kX hFf h (fun p hp => hE p (List.mem_cons_of_mem _ hp)) h2
    have h4 := hE (y, d) List.mem_cons_self
    simp only at h4
    simp [St.parts, h3, h4, ro hFf h1]
   ·cases hp
theorem bD {t : Nat} {ti : TI} {fos : List (Nat × Nat)} {parts : Array (Nat × Operand)} {E : List (Operand × D)} {pd : List (Nat × List D)} {res : List D} {d : D} (F : List (Nat × Blk)) (hT : bg P tab = true) (ho : o.op = .build t parts)
 (hl1 : lk tab t = some ti) (hk : ti.kind = .struct fos) (hE : iT (mk tl hl m) (parts.toList.map (·.2)) = some E) (hFs : HasH (mk tl hl m) F) (hp : kg F (parts.toList.map (·.1)) (E.map (·.2)) = some pd)
 (hf : gd (fos[·]?) (ti.zero.map Z.toD) pd = some res) (hres : mkAgg res = d) (hlab : cB lab i F [] = true)
 (hd : o.dst = some k) (hg : aQ ops (mk tl hl m) o.guard = some true) (h : aG P r 𝔅 ops lab (i + 1) rest (mk ((k, d) :: tl) hl m) K) : aG P r 𝔅 ops lab i (o :: rest) (mk tl hl m) K := by
 obtain ⟨h1, h2⟩ := cM hE
 refine bO (E := E) (F := F) (d := d) (e := []) (aU (fun p hp => ?_) (by simp [ho]) fun s hE' hF0 => ?_) h2 hFs.all hlab hd hg h
 ·rw [ho]
  have : p.1 ∈ E.map (·.1) := List.mem_map_of_mem hp
  rw [h1] at this
  simp only [Op.operands]
  simpa using this
 ·subst hres
  exact mQ hT ho hl1 hk (kX hF0 h1 hE' hp) hf
theorem ef {t l e : Nat} {ti te : TI} {parts : Array (Nat × Operand)} {E : List (Operand × D)} {pd : List (Nat × List D)} {res : List D} {d : D} (F : List (Nat × Blk)) (hT : bg P tab = true) (ho : o.op = .build t parts)
 (hl1 : lk tab t = some ti) (hk : ti.arr = some (l, e)) (hle : lk tab e = some te) (hE : iT (mk tl hl m) (parts.toList.map (·.2)) = some E) (hFs : HasH (mk tl hl m) F) (hp : kg F (parts.toList.map (·.1)) (E.map (·.2)) = some pd)
 (hf : gd (fun i => some (i * te.size, te.size)) (ti.zero.map Z.toD) pd = some res) (hres : mkAgg res = d) (hlab : cB lab i F [] = true)
 (hd : o.dst = some k) (hg : aQ ops (mk tl hl m) o.guard = some true) (h : aG P r 𝔅 ops lab (i + 1) rest (mk ((k, d) :: tl) hl m) K) : aG P r 𝔅 ops lab i (o :: rest) (mk tl hl m) K := by
 obtain ⟨h1, h2⟩ := cM hE
 refine bO (E := E) (F := F) (d := d) (e := []) (aU (fun p hp => ?_) (by simp [ho]) fun s hE' hF0 => ?_) h2 hFs.all hlab hd hg h
 ·rw [ho]
  have : p.1 ∈ E.map (·.1) := List.mem_map_of_mem hp
  rw [h1] at this
  simp only [Op.operands]
  simpa using this
 ·subst hres
  exact nu hT ho hl1 hk hle (kX hF0 h1 hE' hp) hf
theorem Dh {t e n : Nat} {ti te : TI} {parts : Array (Nat × Operand)} {E : List (Operand × D)} {pd : List (Nat × List D)} {res : List D} {vs : List V} {es : List (List V)} (F : List (Nat × Blk)) (hT : bg P tab = true) (ho : o.op = .buildSlice t n parts)
 (hl1 : lk tab t = some ti) (he : ti.sliceElem = some e) (hle : lk tab e = some te) (hE : iT (mk tl hl m) (parts.toList.map (·.2)) = some E) (hFs : HasH (mk tl hl m) F) (hp : kg F (parts.toList.map (·.1)) (E.map (·.2)) = some pd)
 (hf : gd (fun i => some (i * te.size, te.size)) (mY (te.zero.map Z.toD) n) pd = some res) (hv : ks res = some vs) (hlt : Nat.ble (n * te.size) 16777216 = true) (hes : jw te.size n vs = es) (hlab : cB lab i F [] = true)
 (hd : o.dst = some k) (hg : aQ ops (mk tl hl m) o.guard = some true) (h : aG P r 𝔅 ops lab (i + 1) rest (mk ((k, .v (.sl es)) :: tl) hl m) K) : aG P r 𝔅 ops lab i (o :: rest) (mk tl hl m) K := by
 obtain ⟨h1, h2⟩ := cM hE
 refine bO (E := E) (F := F) (d := .v (.sl es)) (e := []) (aU (fun p hp => ?_) (by simp [ho]) fun s hE' hF0 => ?_) h2 hFs.all hlab hd hg h
 ·rw [ho]
  have : p.1 ∈ E.map (·.1) := List.mem_map_of_mem hp
  rw [h1] at this
  simp only [Op.operands]
  simpa using this
 ·subst hes
  exact yy hT ho hl1 he hle (kX hF0 h1 hE' hp) hf hv (Nat.le_of_ble_eq_true hlt)
theorem fV {t e n : Nat} {ti te : TI} {parts : Array (Nat × Operand)} {E : List (Operand × D)} {pd : List (Nat × List D)} {res : List D} {vs : List V} {es : List (List V)} {sz : Nat} (nid : Nat) (F : List (Nat × Blk)) (hT : bg P tab = true) (ho : o.op = .buildSlice t n parts)
 (hl1 : lk tab t = some ti) (he : ti.sliceElem = some e) (hle : lk tab e = some te) (hte : te.size = sz) (hE : iT (mk tl hl m) (parts.toList.map (·.2)) = some E) (hFs : HasH (mk tl hl m) ((nid, .res) :: F)) (hp : kg F (parts.toList.map (·.1)) (E.map (·.2)) = some pd)
 (hf : gd (fun i => some (i * te.size, te.size)) (mY (te.zero.map Z.toD) n) pd = some res) (hv : ks res = some vs) (hlt : Nat.ble (n * te.size) 16777216 = true) (hsz : Nat.blt 0 sz = true) (hes : jw te.size n vs = es) (hlab : cB lab i ((nid, .res) :: F) [(nid, .row e sz es)] = true)
 (hd : o.dst = some k) (hg : aQ ops (mk tl hl m) o.guard = some true) (h : aG P r 𝔅 ops lab (i + 1) rest (mk ((k, .own nid) :: tl) ((nid, .row e sz es) :: hl) m) K) : aG P r 𝔅 ops lab i (o :: rest) (mk tl hl m) K := by
 obtain ⟨h1, h2⟩ := cM hE
 refine bO (E := E) (F := (nid, .res) :: F) (d := .own nid) (e := [(nid, .row e sz es)]) (aU (fun p hp => ?_) (by simp [ho]) fun s hE' hF0 => ?_) h2 hFs.all hlab hd hg h
 ·rw [ho]
  have : p.1 ∈ E.map (·.1) := List.mem_map_of_mem hp
  rw [h1] at this
  simp only [Op.operands]
  simpa using this
 ·subst hes; subst hte
  exact uJ hT ho hl1 he hle (kX (fun p hp => hF0 p (List.mem_cons_of_mem _ hp)) h1 hE' hp) hf hv (Nat.le_of_ble_eq_true hlt) (Nat.le_of_ble_eq_true hsz) (hF0 (nid, .res) List.mem_cons_self)
theorem jP {f : Fn} {first cap : Array Operand} {E1 E2 : List (Operand × D)} {d : D} (ho : o.op = .makeFunc f first cap) (hE1 : iT (mk tl hl m) first.toList = some E1) (hE2 : iT (mk tl hl m) cap.toList = some E2) (hres : mkFn f (E1.map (·.2)) (E2.map (·.2)) = d)
 (hd : o.dst = some k) (hg : aQ ops (mk tl hl m) o.guard = some true) (h : aG P r 𝔅 ops lab (i + 1) rest (mk ((k, d) :: tl) hl m) K) : aG P r 𝔅 ops lab i (o :: rest) (mk tl hl m) K := by
 obtain ⟨h1, h2⟩ := cM hE1
 obtain ⟨h3, h4⟩ := cM hE2
 refine bO (E := E1 ++ E2) (F := []) (d := d) (e := []) (aU (fun p hp => ?_) (by simp [ho]) fun s hE' hF0 => ?_) (fun p hp => by
  rcases List.mem_append.1 hp with h | h
  ·exact h2 p h
  ·exact h4 p h) dz aX hd hg h
 ·rw [ho]
  have : p.1 ∈ E1.map (·.1) ++ E2.map (·.1) := by rw [← List.map_append]; exact List.mem_map_of_mem hp
  rw [h1, h3] at this
  simp only [Op.operands]
  simpa using this
 ·subst hres
  exact pP ho (by rw [← h1]; exact wl fun p hp => hE' p (List.mem_append_left _ hp)) (by rw [← h3]; exact wl fun p hp => hE' p (List.mem_append_right _ hp))
theorem jc {T e : Nat} {ti te : TI} {x y : Operand} {kk : IntKind} {n : Int} {es es' : List (List V)} (q : Nat) (hT : bg P tab = true) (ho : o.op = .slice T x (some y) none none) (hl1 : lk tab T = some ti) (he : ti.sliceElem = some e) (hle : lk tab e = some te)
 (hx : (mk tl hl m).ev x = some (.v (.sl es))) (hy : (mk tl hl m).ev y = some (.v (.int kk n))) (hn : n = (q : Int)) (h2 : q ≤ es.length) (hsz : ∀ el ∈ es, el.length = te.size) (hes : es.drop q = es')
 (hd : o.dst = some k) (hg : aQ ops (mk tl hl m) o.guard = some true) (h : aG P r 𝔅 ops lab (i + 1) rest (mk ((k, .v (.sl es')) :: tl) hl m) K) : aG P r 𝔅 ops lab i (o :: rest) (mk tl hl m) K :=
 bO (E := [(x, .v (.sl es)), (y, .v (.int kk n))]) (F := []) (d := .v (.sl es')) (e := []) (aU (by simp [ho, Op.operands]) (by simp [ho]) fun s hE hF0 => by
  subst hes
  have := ox hT ho hl1 he hle (hE (x, .v (.sl es)) (by simp)) (l := q) (h := es.length) (.inr ⟨y, kk, n, rfl, hE (y, .v (.int kk n)) (by simp), hn⟩) (.inl ⟨rfl, rfl⟩) h2 (Nat.le_refl _) hsz
  simpa using this) (eN hx hy) dz aX hd hg h
theorem kH {T e : Nat} {ti te : TI} {x y z : Operand} {kk kj : IntKind} {n n' : Int} {es es' : List (List V)} (q q' : Nat) (hT : bg P tab = true) (ho : o.op = .slice T x (some y) (some z) none) (hl1 : lk tab T = some ti) (he : ti.sliceElem = some e) (hle : lk tab e = some te)
 (hx : (mk tl hl m).ev x = some (.v (.sl es))) (hy : (mk tl hl m).ev y = some (.v (.int kk n))) (hz : (mk tl hl m).ev z = some (.v (.int kj n'))) (hn : n = (q : Int)) (hn' : n' = (q' : Int)) (h1 : q ≤ q') (h2 : q' ≤ es.length) (hsz : ∀ el ∈ es, el.length = te.size) (hes : (es.take q').drop q = es')
 (hd : o.dst = some k) (hg : aQ ops (mk tl hl m) o.guard = some true) (h : aG P r 𝔅 ops lab (i + 1) rest (mk ((k, .v (.sl es')) :: tl) hl m) K) : aG P r 𝔅 ops lab i (o :: rest) (mk tl hl m) K :=
 bO (E := [(x, .v (.sl es)), (y, .v (.int kk n)), (z, .v (.int kj n'))]) (F := []) (d := .v (.sl es')) (e := []) (aU (by simp [ho, Op.operands]) (by simp [ho]) fun s hE hF0 => by
  subst hes
  exact ox hT ho hl1 he hle (hE (x, .v (.sl es)) (by simp)) (l := q) (h := q') (.inr ⟨y, kk, n, rfl, hE (y, .v (.int kk n)) (by simp), hn⟩) (.inr ⟨z, kj, n', rfl, hE (z, .v (.int kj n')) (by simp), hn'⟩) h1 h2 hsz) (by simp [hx, hy, hz]) dz aX hd hg h
theorem ap {f : FuncId} {x : Operand} {args : Array Operand} {ats : Array TypeId} {dx : D} {E : List (Operand × D)} {first vs cap ds : List V} {res : V} (F : List (Nat × Blk)) (hp : PCall P f ds res)
 (ho : o.op = .call { callee := .value x, args := args, argTypes := ats }) (hx : (mk tl hl m).ev x = some dx) (hvx : vw (hF F) dx = some (.fn (.func f) first cap)) (hE : iT (mk tl hl m) args.toList = some E) (ha : nW (hF F) (E.map (·.2)) = some vs) (hds : first ++ vs ++ cap = ds)
 (hFs : HasH (mk tl hl m) F) (hs : F = [] ∨ res.sc = true) (hlab : cB lab i F [] = true) (hd : o.dst = some k) (hg : aQ ops (mk tl hl m) o.guard = some true) (h : aG P r 𝔅 ops lab (i + 1) rest (mk ((k, .v res) :: tl) hl m) K) : aG P r 𝔅 ops lab i (o :: rest) (mk tl hl m) K := by
 obtain ⟨h1, h2⟩ := cM hE
 subst hds
 have hz : args.toList.zip (E.map (·.2)) = E := by rw [← h1]; exact (List.zip_of_prod rfl rfl).symm
 have hstep := yp (r := r) ho hvx ha (by rw [← h1]; simp) hp hs
 rw [hz] at hstep
 exact bO hstep (fun p hp => by
  rcases List.mem_cons.1 hp with rfl | hp
  ·exact hx
  ·exact h2 p hp) hFs.all hlab hd hg h
end
end Go.Vd
namespace Go.Vd
open Go.RowKit
section
variable {P : Program} {tab : kt} {r : Option Nat} {𝔅 : BB} {ops : List Oper} {lab : Option hY} {i : Nat} {o : Oper} {rest : List Oper} {tl : List (Nat × D)} {hl : List (Nat × Blk)} {m : MM} {K : St → Prop} {k : Nat}
theorem cJ {f : FuncId} {fn : Func} {c : Code} (hf : P.funcs[f]? = some fn) (hb : fn.body = some c) (hn : (fn.name == "runtime.NumGoroutine") = false) :
 ∀ args w, (callFunc f args).run P w = .ok (.enter f args) w := fun args w => by
 have h1 : fn.name ≠ "runtime.NumGoroutine" := by simpa using hn
 simp [callFunc, hf, h1, hb]
theorem oG {N : Nat} {B : BB} {c : Code} {Q : Exit → St → Prop} {ds : List V} (tl : List (Nat × D)) (ht : HasT (start ds) tl) (hi : (tl.all fun p => p.2.inn []) = true) (h : Wp P r N B c Q (mk tl [] 0)) : Wp P r N B c Q (start ds) :=
 cT tl [] ht trivial rfl hi rfl rfl h
theorem bC (hT : bg P tab = true) {f : FuncId} {fn : Func} {c : Code} {ds : List V} {res : V} {N : Nat} {rs : List ResultVar} (hf : P.funcs[f]? = some fn) (hb : fn.body = some c) (hn : (fn.name == "runtime.NumGoroutine") = false)
 (hN : fn.ntmps = N) (hrs : fn.results = rs.toArray) (tl : List (Nat × D)) (ht : HasT (start ds) tl) (hlen : Nat.ble ds.length N = true) (hi : (tl.all fun p => p.2.inn []) = true)
 (h : ∀ B, Wp P none N B c (wm tab rs res) (mk tl [] 0)) : PCall P f ds res :=
 sW hT hf hb (cJ hf hb hn) hN hlen hrs fun _ _ => oG tl ht hi (h _)
theorem mJ (hT : bg P tab = true) {f : FuncId} {fn : Func} {c : Code} {ds : List V} {N t e sz : Nat} {es : List (List V)} (hf : P.funcs[f]? = some fn) (hb : fn.body = some c) (hn : (fn.name == "runtime.NumGoroutine") = false)
 (hN : fn.ntmps = N) (hrs : fn.results = [ResultVar.tmp t].toArray) (tl : List (Nat × D)) (ht : HasT (start ds) tl) (hlen : Nat.ble ds.length N = true) (hi : (tl.all fun p => p.2.inn []) = true)
 (h : ∀ B, Wp P none N B c (fun ex s => wQ t e sz es ex s ∧ Nat.ble s.m.d 1 = true) (mk tl [] 0)) : PRow P f ds e sz es :=
 vA hT hf hb (cJ hf hb hn) hN hlen hrs fun _ _ => oG tl ht hi (h _)
theorem an {rs : List ResultVar} {s : St} {v v' : V} (h : pU tab s rs = some v') (hm : Nat.ble s.m.d 1 = true) (he : v' = v) : wm tab rs v .ret s := ⟨he ▸ h, hm⟩
theorem ak {N : Nat} {B : BB} {c : Code} {Q : Exit → St → Prop} {s : St} (h : Wp P r N B c Q s) : oA (Wp P r N B c Q) Q .normal s := h
theorem au {K : St → Prop} {Q : Exit → St → Prop} {s : St} (h : Q .ret s) : oA K Q .ret s := h
theorem ba {K : St → Prop} {Q : Exit → St → Prop} {s : St} {j : Nat} (h : Q (.exit j) s) : oA K Q (.exit j) s := h
theorem az {id : Nat} {K : St → Prop} {Q : Exit → St → Prop} {s : St} (h : Q .ret s) : mH id K Q .ret s := h
theorem aP {id : Nat} {K : St → Prop} {Q : Exit → St → Prop} {s : St} (h : K s) : mH id K Q (.exit id) s := by simp [mH, h]
theorem ir {id j : Nat} {K : St → Prop} {Q : Exit → St → Prop} {s : St} (hj : Nat.beq j id = false) (h : Q (.exit j) s) : mH id K Q (.exit j) s := by simp only [mH, hj, cond_false]; exact h
theorem bR {α : Type} {st : α → St} {inv : α → Prop} {μ : α → Nat} {x : α} {Q : Exit → St → Prop} {s : St} (h : Q .ret s) : tc st inv μ x Q .ret s := h
theorem a8 {α : Type} {st : α → St} {inv : α → Prop} {μ : α → Nat} {x : α} {Q : Exit → St → Prop} {s : St} {j : Nat} (h : Q (.exit j) s) : tc st inv μ x Q (.exit j) s := h
theorem aT {α : Type} {st : α → St} {inv : α → Prop} {μ : α → Nat} {x : α} {Q : Exit → St → Prop} {s : St} (y : α) (h : inv y) (hm : μ y < μ x) (hle : Le s (st y)) : tc st inv μ x Q .normal s := ⟨y, h, hm, hle⟩
theorem cX {α : Type} {st : α → St} {inv : α → Prop} {s : St} (y : α) (h : inv y) (hle : Le s (st y)) : (fun s' => ∃ a, inv a ∧ Le s' (st a)) s := ⟨y, h, hle⟩
theorem aH {id : Nat} {K : St → Prop} {Q : Exit → St → Prop} {s : St} (h : K s) : mH id K Q .normal s := h
theorem gN {N : Nat} {B : BB} {x y : Code} {Q : Exit → St → Prop} {s : St} {α : Type} (st : α → St) (inv : α → Prop) (hx : Wp P r N B x (oA (fun s' => ∃ a, inv a ∧ Le s' (st a)) Q) s) (hy : ∀ a, inv a → Wp P r N B y Q (st a)) :
 Wp P r N B (.seq x y) Q s :=
 ae (n9 hx fun e s' h => by
  cases e with
  | normal => obtain ⟨a, h1, h2⟩ := h; exact cg h2 (hy a h1)
  | _ => exact h)
def ren (ρ : List (Nat × Nat)) (id : Nat) : Nat := (lk ρ id).getD id
mutual
def D.ren (ρ : List (Nat × Nat)) : D → D
 | .own id => .own (Vd.ren ρ id)
 | .ptr id n => .ptr (Vd.ren ρ id) n
 | .eptr id n => .eptr (Vd.ren ρ id) n
 | .agg cs => .agg (mK ρ cs)
 | .fn f a b => .fn f (mK ρ a) (mK ρ b)
 | .tup ds => .tup (mK ρ ds)
 | .v x => .v x
 | .nils => .nils
 | .any => .any
def mK (ρ : List (Nat × Nat)) : List D → List D
 | [] => []
 | d :: r => d.ren ρ :: mK ρ r
end
theorem l9 {ρ : List (Nat × Nat)} : ∀ {ds : List D} {i : Nat}, (mK ρ ds)[i]? = (ds[i]?).map (D.ren ρ)
 | [], _ => by simp [mK]
 | d :: r, i => by
   cases i with
   | zero => simp [mK]
   | succ i => simpa [mK] using l9 (ds := r) (i := i)
theorem mP {ρ : List (Nat × Nat)} : ∀ {ds : List D}, (mK ρ ds).length = ds.length
 | [] => rfl
 | d :: r => by simp [mK, mP (ds := r)]
def Blk.ren (ρ : List (Nat × Nat)) : Blk → Blk
 | .box cs => .box (mK ρ cs)
 | .rowh e es id => .rowh e es (Vd.ren ρ id)
 | .tbox T cs => .tbox T (mK ρ cs)
 | b => b
theorem RepD.renIds {w : World} {im im' : Nat → Prop} {ι ι' : Nat → Con} {l : List Nat} {ρ : List (Nat × Nat)} (him : ∀ b, im b → im' b) (hι : ∀ id, l.contains id = true → ι' id = ι (ren ρ id)) {d' : D} {u : Value}
 (h : RepD w im ι d' u) : ∀ d : D, d.ren ρ = d' → d.inn l = true → RepD w im' ι' d u := by
 have lists : ∀ {cs ds : List D} {us : Array Value}, mK ρ ds = cs → us.size = cs.length → ly l ds = true →
  (∀ (i : Nat) v u, cs[i]? = some v → us[i]? = some u → ∀ d : D, d.ren ρ = v → d.inn l = true → RepD w im' ι' d u) →
  us.size = ds.length ∧ ∀ (i : Nat) v u, ds[i]? = some v → us[i]? = some u → RepD w im' ι' v u := by
  intro cs ds us he hs hin ih
  subst he
  rw [mP] at hs
  refine ⟨hs, fun i v u hv hu => ih i (v.ren ρ) u (by rw [l9, hv]; rfl) hu v rfl (eQ hin hv)⟩
 induction h with
 | v hv =>
   intro d he _
   cases d with
   | v y => simp only [D.ren] at he; cases he; exact .v (hv.mono fun b hb _ => ⟨him b hb, rfl⟩)
   | _ => simp [D.ren] at he
 | nils =>
   intro d he _
   cases d with
   | nils => exact .nils
   | _ => simp [D.ren] at he
 | own id u h0 h1 =>
   intro d he hi
   cases d with
   | own id' =>
     simp only [D.ren] at he; cases he
     have := hι id' hi
     exact .own id' u (by rw [this]; exact h0) (fun g n c h => h1 g n c (by rw [← this]; exact h))
   | _ => simp [D.ren] at he
 | ptr id n u h0 h1 =>
   intro d he hi
   cases d with
   | ptr id' n' =>
     simp only [D.ren] at he; cases he
     have := hι id' hi
     exact .ptr id' n u (by rw [this]; exact h0) (fun b h => h1 b (by rw [← this]; exact h))
   | _ => simp [D.ren] at he
 | eptr id n u h0 h1 =>
   intro d he hi
   cases d with
   | eptr id' n' =>
     simp only [D.ren] at he; cases he
     have := hι id' hi
     exact .eptr id' n u (by rw [this]; exact h0) (fun g n c h => h1 g n c (by rw [← this]; exact h))
   | _ => simp [D.ren] at he
 | agg cs us hs hv ih =>
   intro d he hi
   cases d with
   | agg ds =>
     simp only [D.ren, D.agg.injEq] at he
     obtain ⟨h1, h2⟩ := lists he hs hi ih
     exact .agg _ _ h1 h2
   | _ => simp [D.ren] at he
 | fn f a b us ws hs hs' hv hv' ih ih' =>
   intro d he hi
   cases d with
   | fn f' a' b' =>
     simp only [D.ren, D.fn.injEq] at he
     obtain ⟨rfl, he1, he2⟩ := he
     simp only [D.inn, Bool.and_eq_true] at hi
     obtain ⟨h1, h2⟩ := lists he1 hs hi.1 ih
     obtain ⟨h3, h4⟩ := lists he2 hs' hi.2 ih'
     exact .fn _ _ _ _ _ h1 h3 h2 h4
   | _ => simp [D.ren] at he
 | tup cs us hs hv ih =>
   intro d he hi
   cases d with
   | tup ds =>
     simp only [D.ren, D.tup.injEq] at he
     obtain ⟨h1, h2⟩ := lists he hs hi ih
     exact .tup _ _ h1 h2
   | _ => simp [D.ren] at he
 | any u =>
   intro d he _
   cases d with
   | any => exact .any u
   | _ => simp [D.ren] at he
def HasTr (ρ : List (Nat × Nat)) (s : St) : List (Nat × D) → Prop
 | [] => True
 | p :: r => s.t p.1 = some (p.2.ren ρ) ∧ HasTr ρ s r
theorem HasTr.all {ρ : List (Nat × Nat)} {s : St} : ∀ {l : List (Nat × D)}, HasTr ρ s l → ∀ p ∈ l, s.t p.1 = some (p.2.ren ρ)
 | [], _ => by simp
 | q :: r, h => by
   intro p hp
   rcases List.mem_cons.1 hp with rfl | hp
   ·exact h.1
   ·exact HasTr.all h.2 p hp
def HasHr (ρ : List (Nat × Nat)) (s : St) : List (Nat × Blk) → Prop
 | [] => True
 | p :: r => s.h (ren ρ p.1) = p.2.ren ρ ∧ HasHr ρ s r
theorem HasHr.all {ρ : List (Nat × Nat)} {s : St} : ∀ {l : List (Nat × Blk)}, HasHr ρ s l → ∀ p ∈ l, s.h (ren ρ p.1) = p.2.ren ρ
 | [], _ => by simp
 | q :: r, h => by
   intro p hp
   rcases List.mem_cons.1 hp with rfl | hp
   ·exact h.1
   ·exact HasHr.all h.2 p hp
def FW (ρ : List (Nat × Nat)) (l : List Nat) : Bool := l.all fun a => l.all fun b => Nat.beq a b || !Nat.beq (ren ρ a) (ren ρ b)
theorem cd (ρ : List (Nat × Nat)) {s : St} {tl : List (Nat × D)} {hl : List (Nat × Blk)} {m : MM} (ht : HasTr ρ s tl) (hh : HasHr ρ s hl) (hm : s.m = m) (hj0 : FW ρ (hl.map (·.1)) = true)
 (hi : (tl.all fun p => p.2.inn (hl.map (·.1))) = true) (hj : (hl.all fun p => p.2.inn (hl.map (·.1))) = true) (hp : (m.pins.all fun p => (hl.map (·.1)).contains p.1 && Nat.beq (ren ρ p.1) p.1) = true) : Le s (mk tl hl m) := by
 refine ⟨hm.symm, ?_⟩
 intro B ι a w S
 let ι' : Nat → Con := fun id => if (hl.map (·.1)).contains id then ι (ren ρ id) else .res
 have hι : ∀ id, (hl.map (·.1)).contains id = true → ι' id = ι (ren ρ id) := fun id h => if_pos h
 have hι0 : ∀ id, (hl.map (·.1)).contains id = false → ι' id = .res := fun id h => if_neg (by rw [h]; simp)
 have hblk : ∀ id b, (ι' id).blk = some b → (hl.map (·.1)).contains id = true ∧ (ι (ren ρ id)).blk = some b := by
  intro id b h
  cases hc : (hl.map (·.1)).contains id with
  | true => rw [hι id hc] at h; exact ⟨rfl, h⟩
  | false => rw [hι0 id hc] at h; cases h
 have him : ∀ b, cx B ι b → cx B ι' b := fun b hb => ⟨hb.1, fun id h => hb.2 _ (hblk id b h).2⟩
 have hinj : ∀ a b, (hl.map (·.1)).contains a = true → (hl.map (·.1)).contains b = true → ren ρ a = ren ρ b → a = b := by
  intro a b ha hb he
  have h1 := List.all_eq_true.1 hj0 a (by simpa using ha)
  have h2 := List.all_eq_true.1 h1 b (by simpa using hb)
  simp only [Bool.or_eq_true, Bool.not_eq_true'] at h2
  rcases h2 with h2 | h2
  ·exact Nat.eq_of_beq_eq_true h2
  ·rw [he] at h2; simp at h2
 refine ⟨ι', S.os, S.tape, S.output, S.size, S.frame, fun id id' b h h' => hinj _ _ (hblk id b h).1 (hblk id' b h').1 (S.inj _ _ b (hblk id b h).2 (hblk id' b h').2), fun id b h => S.bnd _ b (hblk id b h).2, ?_, ?_, by rw [← hm] at *; exact S.marks, fun p hp' => by
  have h1 := List.all_eq_true.1 hp p hp'
  simp only [Bool.and_eq_true] at h1
  rw [hι _ h1.1, Nat.eq_of_beq_eq_true h1.2]; exact S.pins p (by rw [hm]; exact hp'), S.defs, S.glob⟩
 ·intro id
  show BlkRel w (cx B ι') ι' ((lk hl id).getD .res) (ι' id)
  cases hk : lk hl id with
  | none => rw [hι0 id (jY hk)]; rfl
  | some b =>
    have hin := fT hk
    have hmem := eM hk
    have hb : s.h (ren ρ id) = b.ren ρ := hh.all (id, b) hmem
    have hbi : b.inn (hl.map (·.1)) = true := List.all_eq_true.1 hj (id, b) hmem
    have h1 := S.blks (ren ρ id)
    rw [hb] at h1
    simp only [Option.getD_some, hι id hin]
    cases b with
    | res => exact h1
    | dead => exact h1
    | box cs =>
      obtain ⟨bb, arr, ty, h2, h3, h4, h5⟩ := h1
      rw [mP] at h4
      exact ⟨bb, arr, ty, h2, h3, h4, fun i d u hd hu => (h5 i (d.ren ρ) u (by rw [l9, hd]; rfl) hu).renIds him hι d rfl (eQ hbi hd)⟩
    | row e sz es =>
      obtain ⟨h2, h3, h4⟩ := h1
      refine ⟨h2, h3, ?_⟩
      rcases h4 with h4 | ⟨g, cap, arr, h4, h5, h6, h7, h8, h9⟩
      ·exact .inl h4
      ·exact .inr ⟨g, cap, arr, h4, h5, h6, h7, h8, fun i j el v u a1 a2 a3 => (h9 i j el v u a1 a2 a3).mono fun b hb _ => ⟨him b hb, rfl⟩⟩
    | rowh e es id' =>
      obtain ⟨g, n, h2, h3, h4⟩ := h1
      have hid : ι' id' = ι (ren ρ id') := hι id' hbi
      exact ⟨g, n, by rw [hid]; exact h2, by rw [hid]; exact h3, h4.mono (fun b hb _ => ⟨him b hb, rfl⟩) fun _ _ => rfl⟩
    | tbox T cs =>
      obtain ⟨bb, arr, h2, h3, h4, h5⟩ := h1
      rw [mP] at h4
      exact ⟨bb, arr, h2, h3, h4, fun i d u hd hu => (h5 i (d.ren ρ) u (by rw [l9, hd]; rfl) hu).renIds him hι d rfl (eQ hbi hd)⟩
 ·intro n d hn
  have hmem := eM hn
  obtain ⟨u, h1, h2⟩ := S.tmps n _ (ht.all (n, d) hmem)
  exact ⟨u, h1, h2.renIds him hι d rfl (List.all_eq_true.1 hi (n, d) hmem)⟩
theorem AV {T e : Nat} {T' : TypeId} {ti : TI} {x : Operand} {es : List (List V)} (hT : bg P tab = true) (ho : o.op = .binOp .eql T x (.const (.slice none 0 0)) T') (hlt : lk tab T = some ti) (he : ti.sliceElem = some e)
 (hx : (mk tl hl m).ev x = some (.v (.sl es))) (hlab : lab = none) (hd : o.dst = some k) (hg : aQ ops (mk tl hl m) o.guard = some true)
 (ht : es = [] → aG P r 𝔅 ops lab (i + 1) rest (mk ((k, .v (.bool true)) :: tl) hl m) K) (hf : aG P r 𝔅 ops lab (i + 1) rest (mk ((k, .v (.bool false)) :: tl) hl m) K) : aG P r 𝔅 ops lab i (o :: rest) (mk tl hl m) K := by
 refine .inr ⟨fun s' => ∃ b : Bool, (b = true → es = []) ∧ s' = mk ((k, .v (.bool b)) :: tl) hl m, ⟨hlab, hg, fun N a w n Q ⟨hN, B, ι, hB, S⟩ hd' => ?_⟩, ?_⟩
 ·refine ⟨fun _ _ => trivial, ?_⟩
  rw [Oper.semAt_eq _ _ _ (by rw [ho]; simp)]
  have h1 := aA (S.ev hx)
  obtain ⟨ad, c, hu⟩ := je h1
  have hrun : (execOp a.eval o).run P w = .ok (.value (.bool ad.isNone)) w := by
   have hc : a.eval (.const (.slice none 0 0)) = .slice none 0 0 := rfl
   simp [execOp, ho, hu, hc, eqGuard_at_slice, Lib.run_eql_slice_nil w T e ad es.length c 0 0 (ct hT hlt he)]
  rw [hrun]
  refine ⟨mk ((k, .v (.bool ad.isNone)) :: tl) hl m, ⟨ad.isNone, fun hn => ?_, rfl⟩, by rw [eh]; exact hN, B, ι, hB, ?_⟩
  ·rw [hu] at h1
   cases h1 with
   | sl0 => rfl
   | sl es b o sz c hb hl hcap hs hc hv => simp at hn
  ·have := S.putAny (dst := some k) (by rw [hN]; exact fun j hj => hd' j (by rw [hd]; exact hj)) (d := .v (.bool ad.isNone)) (u := .bool ad.isNone) (.v (.bool _))
   rw [hd]
   exact this
 ·rintro s' ⟨b, hb, rfl⟩
  cases b with
  | true => exact ht (hb rfl)
  | false => exact hf
theorem nv {x : Value} (ho : o.op = .assign (.const x)) (hd : o.dst = some k) (hg : aQ ops (mk tl hl m) o.guard = some true) (h : aG P r 𝔅 ops lab (i + 1) rest (mk ((k, .any) :: tl) hl m) K) : aG P r 𝔅 ops lab i (o :: rest) (mk tl hl m) K :=
 bO (E := []) (F := []) (d := .any) (e := []) (aU (by simp) (by simp [ho]) fun s _ _ => bi fun B ι a w S => ⟨x, by simp [execOp, ho, Act.eval], .any _⟩) dz dz aX hd hg h
theorem ov {f : FuncId} {x : Operand} {args : Array Operand} {ats : Array TypeId} {dx : D} {E : List (Operand × D)} {first vs cap ds : List V} {e sz : Nat} {es : List (List V)} (nid : Nat) (hp : PRow P f ds e sz es)
 (ho : o.op = .call { callee := .value x, args := args, argTypes := ats }) (hx : (mk tl hl m).ev x = some dx) (hvx : vw (hF []) dx = some (.fn (.func f) first cap)) (hE : iT (mk tl hl m) args.toList = some E) (ha : nW (hF []) (E.map (·.2)) = some vs) (hds : first ++ vs ++ cap = ds)
 (hr : (mk tl hl m).h nid = .res) (hlab : cB lab i [(nid, .res)] [(nid, .row e sz es)] = true) (hd : o.dst = some k) (hg : aQ ops (mk tl hl m) o.guard = some true)
 (h : aG P r 𝔅 ops lab (i + 1) rest (mk ((k, .own nid) :: tl) ((nid, .row e sz es) :: hl) m) K) : aG P r 𝔅 ops lab i (o :: rest) (mk tl hl m) K := by
 obtain ⟨h1, h2⟩ := cM hE
 subst hds
 have hz : args.toList.zip (E.map (·.2)) = E := by rw [← h1]; exact (List.zip_of_prod rfl rfl).symm
 have hstep := rX (r := r) (nid := nid) ho hvx ha (by rw [← h1]; simp) hp
 rw [hz] at hstep
 exact bO hstep (fun p hp => by
  rcases List.mem_cons.1 hp with rfl | hp
  ·exact hx
  ·exact h2 p hp) (et hr) hlab hd hg h
theorem dV {s : St} {id e sz : Nat} {es es' : List (List V)} (h : s.h id = .row e sz es) (he : es = es') : s.h id = .row e sz es' := he ▸ h
theorem Ih {s : St} {n : Nat} {d d' : D} (h : s.t n = some d) (he : d = d') : s.t n = some d' := he ▸ h
theorem fJ {s : St} {n : Nat} {kk : IntKind} {x y : Int} (h : s.t n = some (.v (.int kk x))) (he : x = y) : s.t n = some (.v (.int kk y)) := he ▸ h
theorem Dp {s : St} {n : Nat} {x y : List (List V)} (h : s.t n = some (.v (.sl x))) (he : x = y) : s.t n = some (.v (.sl y)) := he ▸ h
theorem bz {α β : Type} [Inhabited α] {enc : α → β} {xs : List α} {n : Nat} (h : n < xs.length) : (xs.map enc)[n]? = some (enc (xs.getD n default)) := by
 simp [List.getD_eq_getElem?_getD, h]
end
end Go.Vd
namespace Go.Vd
open Go.RowKit
def PCallE (P : Program) (f : FuncId) (ds : List V) (R : V → Prop) : Prop :=
 (∀ args w, (callFunc f args).run P w = .ok (.enter f args) w) ∧
 ∀ (w : World) (im : Nat → Prop) (us : Array Value), Glob w → PW (RepV w im) ds us.toList →
   Calls P f us w fun e w' => ∃ r u, R r ∧ e = .returned u ∧ Below w.heap.size w w' ∧ RepV w' (fun b => im b ∨ w.heap.size ≤ b) r u
theorem PCall.toE {P : Program} {f : FuncId} {ds : List V} {r : V} {R : V → Prop} (h : PCall P f ds r) (hr : R r) : PCallE P f ds R :=
 ⟨h.1, fun w im us hG hp => Calls.mono (h.2 w im us hG hp) fun _ _ ⟨u, h1, h2, h3⟩ => ⟨r, u, hr, h1, h2, h3⟩⟩
theorem PCallE.mono {P : Program} {f : FuncId} {ds : List V} {R R' : V → Prop} (h : PCallE P f ds R) (hr : ∀ r, R r → R' r) : PCallE P f ds R' :=
 ⟨h.1, fun w im us hG hp => Calls.mono (h.2 w im us hG hp) fun _ _ ⟨r, u, h0, h1, h2, h3⟩ => ⟨r, u, hr r h0, h1, h2, h3⟩⟩
def rH (tab : kt) (rs : List ResultVar) (R : V → Prop) : Exit → St → Prop
 | .normal, s => (∃ v, pU tab s rs = some v ∧ R v) ∧ Nat.ble s.m.d 1 = true
 | .ret, s => (∃ v, pU tab s rs = some v ∧ R v) ∧ Nat.ble s.m.d 1 = true
 | _, _ => False
section
variable {P : Program} {tab : kt} {r : Option Nat} {𝔅 : BB} {ops : List Oper} {lab : Option hY} {i : Nat} {o : Oper} {rest : List Oper} {tl : List (Nat × D)} {hl : List (Nat × Blk)} {m : MM} {K : St → Prop} {k : Nat}
theorem rY (hT : bg P tab = true) {f : FuncId} {fn : Func} {c : Code} {ds : List V} {R : V → Prop} {N : Nat} {rs : List ResultVar} (hf : P.funcs[f]? = some fn) (hb : fn.body = some c)
 (hen : ∀ args w, (callFunc f args).run P w = .ok (.enter f args) w) (hN : fn.ntmps = N) (hlen : Nat.ble ds.length N = true) (hrs : fn.results = rs.toArray)
 (h : ∀ w im, Wp P none N (only ⟨w, im, fun _ => False⟩) c (rH tab rs R) (start ds)) : PCallE P f ds R := by
 refine ⟨hen, fun w im us hG hp => ?_⟩
 have hlen' := Nat.le_of_ble_eq_true hlen
 have hsz : us.size = ds.length := by simpa using hp.1
 have S0 := nE (B := ⟨w, im, fun _ => False⟩) (N := fn.ntmps) rfl hG hp
 have hq : ∀ s : St, ((∃ v, pU tab s rs = some v ∧ R v) ∧ Nat.ble s.m.d 1 = true) → (Nat.ble s.m.d 1 = true ∧ ∃ ds, fM tab s rs = some ds ∧ (fun ds (h : Nat → Blk) => ∃ v, (match nW h ds with | some [x] => some x | some xs => some (.tup xs) | none => none) = some v ∧ R v) ds s.h) := by
  intro s ⟨⟨v, h1, hR⟩, h2⟩
  refine ⟨h2, ?_⟩
  unfold pU at h1
  cases hd : fM tab s rs with
  | none => rw [hd] at h1; cases h1
  | some dsr => rw [hd] at h1; exact ⟨dsr, rfl, v, h1, hR⟩
 refine Calls.mono (kP hT (K := fun ds (h : Nat → Blk) _ => ∃ v, (match nW h ds with | some [x] => some x | some xs => some (.tup xs) | none => none) = some v ∧ R v) hf hb hN (by omega) hrs S0 (n9 (h w im) fun e s hp => ?_)) ?_
 ·cases e with
  | normal => exact hq s hp
  | ret => exact hq s hp
  | _ => exact hp.elim
 ·rintro e w2 ⟨dsr, us', s2, ι, a2, rfl, ⟨res, hret, hR⟩, S2, hpw⟩
  refine ⟨res, _, hR, rfl, ⟨S2.os, S2.tape, S2.output, S2.size, fun k hk => S2.frame k hk (fun h => h)⟩, ?_⟩
  cases hvl : nW s2.h dsr with
  | none => simp only [hvl] at hret; cases hret
  | some xs =>
    simp only [hvl] at hret
    have hv := sM S2 hpw hvl
    unfold ic
    by_cases h1l : us'.toArray.size = 1
    ·rw [dif_pos h1l]
     have : xs.length = 1 := by have := hv.1; simp at h1l; omega
     match xs, this with
     | [x], _ =>
       simp at hret; subst hret
       refine hv.2 0 x _ rfl ?_
       have : 0 < us'.length := by simp at h1l; omega
       simp [this]
    ·rw [dif_neg h1l]
     have hne : xs.length ≠ 1 := by have := hv.1; simp at h1l; omega
     have hr : res = .tup xs := by
      match xs, hne with
      | [], _ => simp at hret; exact hret.symm
      | _ :: _ :: _, _ => simp at hret; exact hret.symm
     subst hr
     exact .tup _ _ (by simp [hv.1]) (fun i v u hv' hu => hv.2 i v u hv' (by simpa using hu))
theorem dJ (hT : bg P tab = true) {f : FuncId} {fn : Func} {c : Code} {ds : List V} {R : V → Prop} {N : Nat} {rs : List ResultVar} (hf : P.funcs[f]? = some fn) (hb : fn.body = some c) (hn : (fn.name == "runtime.NumGoroutine") = false)
 (hN : fn.ntmps = N) (hrs : fn.results = rs.toArray) (tl : List (Nat × D)) (ht : HasT (start ds) tl) (hlen : Nat.ble ds.length N = true) (hi : (tl.all fun p => p.2.inn []) = true)
 (h : ∀ B, Wp P none N B c (rH tab rs R) (mk tl [] 0)) : PCallE P f ds R :=
 rY hT hf hb (cJ hf hb hn) hN hlen hrs fun _ _ => oG tl ht hi (h _)
theorem aD {rs : List ResultVar} {s : St} {v : V} {R : V → Prop} (h : pU tab s rs = some v) (hm : Nat.ble s.m.d 1 = true) (he : R v) : rH tab rs R .ret s := ⟨⟨v, h, he⟩, hm⟩
theorem dm {f : FuncId} {x : Operand} {args : Array Operand} {ats : Array TypeId} {dx : D} {E : List (Operand × D)} {first vs cap ds : List V} {R : V → Prop} (F : List (Nat × Blk)) (hp : PCallE P f ds R)
 (ho : o.op = .call { callee := .value x, args := args, argTypes := ats }) (hx : (mk tl hl m).ev x = some dx) (hvx : vw (hF F) dx = some (.fn (.func f) first cap)) (hE : iT (mk tl hl m) args.toList = some E) (ha : nW (hF F) (E.map (·.2)) = some vs) (hds : first ++ vs ++ cap = ds)
 (hFs : HasH (mk tl hl m) F) (hs : F = [] ∨ ∀ v, R v → v.sc = true) (hlab : lab = none) (hd : o.dst = some k) (hg : aQ ops (mk tl hl m) o.guard = some true) (h : ∀ v, R v → aG P r 𝔅 ops lab (i + 1) rest (mk ((k, .v v) :: tl) hl m) K) : aG P r 𝔅 ops lab i (o :: rest) (mk tl hl m) K := by
 refine .inr ⟨fun s' => ∃ v, R v ∧ s' = mk ((k, .v v) :: tl) hl m, ⟨hlab, hg, fun N a w n Q ⟨hN, B, ι, hB, S⟩ hd' => ?_⟩, ?_⟩
 ·refine ⟨fun _ _ => trivial, ?_⟩
  rw [Oper.semAt_eq _ _ _ (by rw [ho]; simp)]
  obtain ⟨hE1, hE2⟩ := cM hE
  have hh := xh (s := mk tl hl m) (F := F) hFs.all
  have key : ∃ im' : Nat → Prop, (∀ b, cx B ι b → im' b) ∧ (∀ id b, hF F id ≠ .dead → (ι id).blk = some b → im' b) ∧ (F = [] → ∀ b, im' b → cx B ι b) := by
   by_cases hFn : F = []
   ·exact ⟨cx B ι, fun _ h => h, fun id b h => by rw [hFn] at h; exact absurd rfl h, fun _ _ h => h⟩
   ·exact ⟨fun _ => True, fun _ _ => trivial, fun _ _ _ _ => trivial, fun h => absurd h hFn⟩
  obtain ⟨im', hi, hown, him⟩ := key
  have hfn := ft S hh hi hown (S.ev hx) _ hvx
  generalize hu : a.eval x = u at hfn
  obtain ⟨h1, h2⟩ := iA ha
  have hargs : PW (RepV w im') vs (args.toList.map a.eval) := by
   rw [← hE1]
   refine ⟨by simp only [List.length_map] at h1 ⊢; omega, fun i v u' hv hu' => ?_⟩
   have hlt : i < E.length := by have := (List.getElem?_eq_some_iff.1 hv).1; simp only [List.length_map] at h1; omega
   obtain ⟨v', h3, h4⟩ := h2 i E[i].2 (by simp [hlt])
   rw [h3] at hv; cases hv
   simp only [List.getElem?_map, List.getElem?_eq_getElem hlt, Option.map_some, Option.some.injEq] at hu'
   subst hu'
   exact ft S hh hi hown (S.ev (hE2 E[i] (List.getElem_mem hlt))) v h4
  subst hds
  cases hfn with
  | fn _ _ _ us ws hs1 hs2 hv1 hv2 =>
    have hrun : (execOp a.eval o).run P w = .ok (.enter f (us ++ args.map a.eval ++ ws)) w := by
     simp [execOp, ho, resolve, hu, Deferred.ofValue, invoke, hp.1]
    rw [hrun]
    refine ⟨fun h => by simp [WF, Fence.wide] at h, CallsIn.mono (gn _ (hp.2 w im' _ S.globW ?_)) ?_⟩
    ·have p1 : PW (RepV w im') first us.toList := gh hs1 hv1
     have p2 : PW (RepV w im') cap ws.toList := gh hs2 hv2
     have p := (p1.append hargs).append p2
     simpa using p
    ·rintro e w' ⟨v, u', hR, rfl, hb, hr⟩
     obtain ⟨S', hk⟩ := S.grow hb.os hb.tape hb.output hb.size hb.block
     refine ⟨_, ⟨v, hR, rfl⟩, by rw [eh]; exact hN, B, ι, hB, ?_⟩
     have := Sim.putAny (s := mk tl hl m) S' (dst := o.dst) (by rw [hN]; exact hd') (d := .v v) (u := u') (.v ?_)
     ·rw [hd] at this ⊢; exact this
     rcases hs with hF0 | hsc
     ·refine hr.mono fun b hbb _ => ⟨?_, rfl⟩
      rcases hbb with h3 | h3
      ·exact him hF0 b h3
      ·exact ⟨.inr (.inl (Nat.le_trans S.size h3)), fun id hid => by have := (S.bnd id b hid).1; omega⟩
     ·exact hr.scal (hsc v hR)
 ·rintro s' ⟨v, hv, rfl⟩
  exact h v hv
end
end Go.Vd
namespace Go.Vd
open Go.RowKit
theorem gJ {s : St} {t id e sz : Nat} (ht : s.t t = some .nils) (hr : s.h id = .res) (hsz : 0 < sz) : Le s { s with t := d8 s.t t (some (.own id)), h := d8 s.h id (.row e sz []) } := by
 refine ⟨rfl, ?_⟩
 intro B ι a w S
 obtain ⟨S', _⟩ := S.fresh (w' := w) hr (.row none 0 0) (.row e sz []) (fun b h => by cases h) rfl rfl rfl (Nat.le_refl _) (fun _ _ => rfl) (fun _ => ⟨hsz, by simp, .inl ⟨rfl, rfl⟩⟩)
 refine ⟨_, S'.os, S'.tape, S'.output, S'.size, S'.frame, S'.inj, S'.bnd, S'.blks, ?_, S'.marks, S'.pins, S'.defs, S'.glob⟩
 intro n d hn
 by_cases hnt : n = t
 ·subst hnt
  simp only [aE] at hn
  cases hn
  obtain ⟨u, h1, h2⟩ := S.tmps n _ ht
  refine ⟨u, h1, .own id u (by rw [aE]; simp) (fun g q c h => ?_)⟩
  rw [aE] at h
  cases h
  exact h2.nils_inv
 ·simp only [aN _ _ hnt] at hn
  exact S'.tmps n d hn
end Go.Vd
namespace Go.Vd
open Go.RowKit
def bI (ι : Nat → Con) (b : Nat) : Prop := ∃ id, (ι id).blk = some b
theorem Sim.rebase {B : dt} {s : St} {ι : Nat → Con} {a : Act} {w : World} (S : Sim B s ι a w) {w' : World} {im' : Nat → Prop}
 (hw : ∀ b, b < w.heap.size → (cx B ι b ∨ bI ι b) → w'.heap[b]? = w.heap[b]?) (hsz : w.heap.size ≤ w'.heap.size) (him : ∀ b, cx B ι b → b < w.heap.size → im' b) (hd : a.defers = []) (hG : Glob w') :
 Sim ⟨w', im', bI ι⟩ s ι a w' := by
 have hk : ∀ b, cx B ι b → b < w.heap.size → cx ⟨w', im', bI ι⟩ ι b ∧ w'.heap[b]? = w.heap[b]? := fun b hb hlt => ⟨⟨.inl (him b hb hlt), hb.2⟩, hw b hlt (.inl hb)⟩
 refine ⟨rfl, rfl, rfl, Nat.le_refl _, fun _ _ _ => rfl, S.inj, fun id b h => ⟨Nat.lt_of_lt_of_le (S.bnd id b h).1 hsz, .inr ⟨id, h⟩⟩, fun id => ?_, fun n d hn => ?_, S.marks, S.pins, (fun d h => by rw [hd] at h; cases h), ⟨hG, fun b ⟨id, hb⟩ => S.glob9 hb⟩⟩
 ·exact (S.blks id).mono hk (fun _ _ => .inl rfl) fun k hkk => hw k (S.bnd id k hkk).1 (.inr ⟨id, hkk⟩)
 ·obtain ⟨u, h1, h2⟩ := S.tmps n d hn
  exact ⟨u, h1, h2.mono hk fun _ _ => .inl rfl⟩
def rO (P : Program) (𝔅 : BB) (l : Nat) (xs : List (List V)) : Prop :=
 ∀ k x, xs[k]? = some x → ∀ (N : Nat) (s : St) (a : Act) (w : World) (args : Array Value) (n : Nat), s.m.k = k + 1 → eJ 𝔅 N s a w → a.defers = [] → (∀ B ι, Sim B s ι a w → PW (RepV w (cx B ι)) x args.toList) →
   YieldAt (WF none) n P l args w fun e w' => ∃ b : Bool, e = .returned (.bool b) ∧ eJ 𝔅 N { s with m := { s.m with k := if b then k + 2 else 0 } } a w'
section
variable {P : Program} {tab : kt} {𝔅 : BB} {ops : List Oper} {lab : Option hY} {i : Nat} {o : Oper} {rest : List Oper} {tl : List (Nat × D)} {hl : List (Nat × Blk)} {d : Nat} {K : St → Prop} {k : Nat}
theorem y9 {l q : Nat} {x : Operand} {args : Array Operand} {ats : Array TypeId} {E : List (Operand × D)} {vs : List V} {xs : List (List V)} {j : Nat} (hy : rO P 𝔅 l xs) (hj : xs[j]? = some vs)
 (ho : o.op = .call { callee := .value x, args := args, argTypes := ats }) (hx : (mk tl hl ⟨d, q, []⟩).ev x = some (.v (.fn (.yield l) [] []))) (hE : iT (mk tl hl ⟨d, q, []⟩) args.toList = some E) (ha : nW (hF []) (E.map (·.2)) = some vs) (hq : q = j + 1) (h0 : d = 0)
 (hlab : lab = none) (hd : o.dst = some k) (hg : aQ ops (mk tl hl ⟨d, q, []⟩) o.guard = some true)
 (ht : aG P none 𝔅 ops lab (i + 1) rest (mk ((k, .v (.bool true)) :: tl) hl ⟨d, j + 2, []⟩) K) (hf : aG P none 𝔅 ops lab (i + 1) rest (mk ((k, .v (.bool false)) :: tl) hl ⟨d, 0, []⟩) K) :
 aG P none 𝔅 ops lab i (o :: rest) (mk tl hl ⟨d, q, []⟩) K := by
 refine .inr ⟨fun s' => ∃ b : Bool, s' = mk ((k, .v (.bool b)) :: tl) hl ⟨d, if b then j + 2 else 0, []⟩, ⟨hlab, hg, fun N a w n Q hp hd' => ?_⟩, ?_⟩
 ·subst h0
  refine ⟨fun _ _ => trivial, ?_⟩
  rw [Oper.semAt_eq _ _ _ (by rw [ho]; simp)]
  obtain ⟨hE1, hE2⟩ := cM hE
  have hp0 := hp
  obtain ⟨hN, B, ι, hB, S⟩ := hp
  have hfn := aA (S.ev hx)
  generalize hu : a.eval x = u at hfn
  have hargs : ∀ B ι, Sim B (mk tl hl ⟨0, q, []⟩) ι a w → PW (RepV w (cx B ι)) vs (args.map a.eval).toList := by
   intro B ι S
   obtain ⟨h1, h2⟩ := iA ha
   rw [Array.toList_map, ← hE1]
   refine ⟨by simp only [List.length_map] at h1 ⊢; omega, fun i v u' hv hu' => ?_⟩
   have hlt : i < E.length := by have := (List.getElem?_eq_some_iff.1 hv).1; simp only [List.length_map] at h1; omega
   obtain ⟨v', h3, h4⟩ := h2 i E[i].2 (by simp [hlt])
   rw [h3] at hv; cases hv
   simp only [List.getElem?_map, List.getElem?_eq_getElem hlt, Option.map_some, Option.some.injEq] at hu'
   subst hu'
   exact ft S (fun _ => .inl rfl) (fun _ h => h) (fun id b h => absurd rfl h) (S.ev (hE2 E[i] (List.getElem_mem hlt))) v h4
  cases hfn with
  | fn _ _ _ us ws hs1 hs2 hv1 hv2 =>
    have hus : us = #[] := Array.eq_empty_of_size_eq_zero (by simpa using hs1)
    have hws : ws = #[] := Array.eq_empty_of_size_eq_zero (by simpa using hs2)
    subst hus; subst hws
    have hdef : a.defers = [] := List.eq_nil_of_length_eq_zero S.marks
    obtain ⟨fn, tm, fas, bd, hr, hround⟩ := hy j vs hj N _ a w (args.map a.eval) (n - 1) hq hp0 hdef hargs
    have hrun : (execOp a.eval o).run P w = .ok (.round l fn tm fas bd) w := by
     simp [execOp, ho, resolve, hu, Deferred.ofValue, invoke, hr]
    rw [hrun]
    refine ⟨fun h => by simp [WF, Fence.wide] at h, hround.mono ?_⟩
    rintro e w' ⟨b, rfl, hN', B', ι', hB', S'⟩
    refine ⟨_, ⟨b, rfl⟩, by rw [eh]; exact hN', B', ι', hB', ?_⟩
    have := S'.putAny (dst := o.dst) (by rw [hN']; exact hd') (d := .v (.bool b)) (u := .bool b) (.v (.bool _))
    rw [hd] at this ⊢
    exact this
 ·rintro s' ⟨b, rfl⟩
  cases b with
  | true => exact ht
  | false => exact hf
abbrev JJ := Nat → (Nat → Prop) → (Nat → Prop) → World → Prop
def rW (l : Nat) (J : JJ) : Prop := ∀ n im φ (w : World) im' (w' : World), J n im φ w → w.heap.size ≤ w'.heap.size → w'.os = w.os → w'.tape = w.tape → w'.output = w.output →
 (∀ b, b < w.heap.size → (b ≤ l ∨ im b ∨ φ b) → w'.heap[b]? = w.heap[b]?) → (∀ b, im b → im' b) → (∀ b, im' b → im b ∨ (l < b ∧ ¬ φ b)) → (∀ b, im' b → b < w'.heap.size) → J n im' φ w'
def wu (P : Program) (l : Nat) (xs : List (List V)) (J : JJ) : Prop := ∀ k x im φ (w : World) (args : Array Value) (n : Nat), xs[k]? = some x → J (k + 1) im φ w → Glob w → PW (RepV w im) x args.toList →
 YieldAt (WF none) n P l args w fun e w' => ∃ (b : Bool) (φ' : Nat → Prop), e = .returned (.bool b) ∧ J (if b then k + 2 else 0) im φ' w' ∧ w.heap.size ≤ w'.heap.size ∧
  (∀ c, c < w.heap.size → ¬ φ c → c ≠ l → w'.heap[c]? = w.heap[c]?) ∧ (∀ c, φ' c → φ c ∨ w.heap.size ≤ c) ∧ (∀ c, φ' c → c < w'.heap.size) ∧ Glob w'
def qI (P : Program) (g : FuncId) (caps : List V) (xs : List (List V)) : Prop :=
 (∀ args w, (callFunc g args).run P w = .ok (.enter g args) w) ∧
 ∀ (l : Nat) (W : World) (im φ : Nat → Prop) (J : JJ) (lb : Array Value), Glob W → W.heap.size = l + 1 → (∀ b, im b → b < l ∧ ¬ φ b) → (∀ b, φ b → b < l) → PW (RepV W im) caps lb.toList → rW l J → wu P l xs J → J 1 im φ W →
   Calls P g (#[.func (.yield l) #[] #[]] ++ lb) W fun e w' => (∃ v, e = .returned v) ∧ ∃ n im' φ', (n = xs.length + 1 ∨ n = 0) ∧ J n im' φ' w'
def uB (l : Nat) (J : JJ) : BB := fun n B => ∃ φ, J n B.im0 φ B.w0 ∧ l < B.w0.heap.size ∧ (∀ b, B.im0 b → b < B.w0.heap.size ∧ b ≠ l ∧ ¬ φ b ∧ ¬ B.own0 b) ∧ (∀ b, B.own0 b → l < b ∧ ¬ φ b) ∧ (∀ b, φ b → b < B.w0.heap.size)
theorem qC {l : Nat} {J : JJ} (hA : rW l J) {n : Nat} {B : dt} (hB : uB l J n B) {s : St} {ι : Nat → Con} {a : Act} {w : World} (S : Sim B s ι a w) :
 ∃ φ, J n (fun b => cx B ι b ∧ b < w.heap.size) φ w ∧ l < w.heap.size ∧ (∀ b, cx B ι b → b ≠ l ∧ ¬ φ b) ∧ (∀ b, bI ι b → l < b ∧ ¬ φ b) ∧ (∀ b, φ b → b < w.heap.size) := by
 obtain ⟨φ, hJ, hl, him, hown, hφ⟩ := hB
 have hs := S.size
 have ho : ∀ b, bI ι b → l < b ∧ ¬ φ b := by
  rintro b ⟨id, hid⟩
  rcases (S.bnd id b hid).2 with h | h
  ·exact ⟨by omega, fun hp => by have := hφ b hp; omega⟩
  ·exact hown b h
 have hi0 : ∀ b, B.im0 b → cx B ι b := fun b hb => ⟨.inl hb, fun id hid => by
  obtain ⟨h1, h2, h3, h4⟩ := him b hb
  rcases (S.bnd id b hid).2 with h | h
  ·omega
  ·exact h4 h⟩
 have hi1 : ∀ b, cx B ι b → B.im0 b ∨ (l < b ∧ ¬ φ b) := by
  rintro b ⟨hb, _⟩
  rcases hb with h | h | h
  ·exact .inl h
  ·exact .inr ⟨by omega, fun hp => by have := hφ b hp; omega⟩
  ·exact .inr (hown b h)
 refine ⟨φ, hA n B.im0 φ B.w0 _ w hJ S.size S.os S.tape S.output (fun b hb h => S.frame b hb fun ho' => ?_) (fun b hb => ⟨hi0 b hb, Nat.lt_of_lt_of_le (him b hb).1 hs⟩) (fun b hb => hi1 b hb.1) (fun b hb => hb.2), by omega, fun b hb => ?_, ho, fun b hb => Nat.lt_of_lt_of_le (hφ b hb) hs⟩
 ·rcases h with h | h | h
  ·have := (hown b ho').1; omega
  ·exact (him b h).2.2.2 ho'
  ·exact (hown b ho').2 h
 ·rcases hi1 b hb with h | h
  ·exact ⟨(him b h).2.1, (him b h).2.2.1⟩
  ·exact ⟨by omega, h.2⟩
theorem yt {l : Nat} {xs : List (List V)} {J : JJ} (hA : rW l J) (hR : wu P l xs J) : rO P (uB l J) l xs := by
 intro k x hx N s a w args n hk hp hdef hargs
 obtain ⟨hN, B, ι, hB, S⟩ := hp
 rw [hk] at hB
 obtain ⟨φ, hJ, hl, him, hown, hφ⟩ := qC hA hB S
 have hpw : PW (RepV w (fun b => cx B ι b ∧ b < w.heap.size)) x args.toList := (hargs B ι S).mono fun v u h => h.mono fun b hb hlt => ⟨⟨hb, hlt⟩, rfl⟩
 obtain ⟨fn, tm, fas, bd, hr, hround⟩ := hR k x _ φ w args n hx hJ S.globW hpw
 refine ⟨fn, tm, fas, bd, hr, hround.mono ?_⟩
 rintro e w' ⟨b, φ', rfl, hJ', hsz, hw, hφ1, hφ2, hG'⟩
 refine ⟨b, rfl, hN, ⟨w', fun b => cx B ι b ∧ b < w.heap.size, bI ι⟩, ι, ⟨φ', hJ', by show l < w'.heap.size; omega, ?_, ?_, hφ2⟩, ?_⟩
 ·rintro c ⟨hc, hlt⟩
  refine ⟨by show c < w'.heap.size; omega, (him c hc).1, fun hp => ?_, fun ⟨id, hid⟩ => hc.2 id hid⟩
  rcases hφ1 c hp with h | h
  ·exact (him c hc).2 h
  ·omega
 ·rintro c ⟨id, hid⟩
  have hoc := hown c ⟨id, hid⟩
  refine ⟨hoc.1, fun hp => ?_⟩
  rcases hφ1 c hp with h | h
  ·exact hoc.2 h
  ·have := (S.bnd id c hid).1; omega
 ·have hS := S.rebase (w' := w') (im' := fun b => cx B ι b ∧ b < w.heap.size) (fun c hc h => hw c hc (fun hp => ?_) (fun he => ?_)) hsz (fun b h1 h2 => ⟨h1, h2⟩) hdef hG'
  ·exact { hS with marks := hS.marks }
  ·rcases h with h | h
   ·exact (him c h).2 hp
   ·exact (hown c h).2 hp
  ·rcases h with h | h
   ·exact (him c h).1 he
   ·have := (hown c h).1; omega
def ry (l : Nat) (caps : List V) : St := ⟨fun n => ((V.fn (.yield l) [] [] :: caps)[n]?).map .v, fun _ => .res, ⟨0, 1, []⟩⟩
def uH (n : Nat) : Exit → St → Prop
 | .normal, s => s.m.d = 0 ∧ (s.m.k = n + 1 ∨ s.m.k = 0)
 | .ret, s => s.m.d = 0 ∧ (s.m.k = n + 1 ∨ s.m.k = 0)
 | _, _ => False
theorem ve {f : FuncId} {fn : Func} {c : Code} {N : Nat} {caps : List V} {xs : List (List V)} (hf : P.funcs[f]? = some fn) (hb : fn.body = some c) (hen : ∀ args w, (callFunc f args).run P w = .ok (.enter f args) w)
 (hN : fn.ntmps = N) (hlen : Nat.ble (caps.length + 1) N = true) (hrs : fn.results = #[])
 (h : ∀ 𝔅 l, rO P 𝔅 l xs → Wp P none N 𝔅 c (uH xs.length) (ry l caps)) : qI P f caps xs := by
 refine ⟨hen, fun l W im φ J lb hG hW him hφ hcaps hA hR hJ => ?_⟩
 have hlen' := Nat.le_of_ble_eq_true hlen
 have hlb : lb.size = caps.length := by simpa using hcaps.1
 have hwp := h (uB l J) l (yt hA hR)
 let us : Array Value := #[.func (.yield l) #[] #[]] ++ lb
 have hus : us.size = caps.length + 1 := by simp [us]; omega
 let B0 : dt := ⟨W, im, fun _ => False⟩
 have S0 : Sim B0 (ry l caps) (fun _ => .res) { tmps := us ++ Array.replicate (fn.ntmps - us.size) undef, defers := [] } W := by
  refine ⟨rfl, rfl, rfl, Nat.le_refl _, fun _ _ _ => rfl, (fun id id' b h => by cases h), (fun id b h => by cases h), fun _ => rfl, fun n d hn => ?_, rfl, (fun p hp => by cases hp), (fun d hd => by cases hd), ⟨hG, fun b hb => hb.elim⟩⟩
  simp only [ry, Option.map_eq_some_iff] at hn
  obtain ⟨v, hv, rfl⟩ := hn
  have hlt : n < us.size := by rw [hus]; exact (List.getElem?_eq_some_iff.1 hv).1
  refine ⟨us[n], by rw [Array.getElem?_append_left hlt]; simp [hlt], ?_⟩
  cases n with
  | zero =>
    simp only [List.getElem?_cons_zero, Option.some.injEq] at hv
    subst hv
    have : us[0] = .func (.yield l) #[] #[] := by simp [us]
    rw [this]
    exact .v (.fn _ _ _ _ _ rfl rfl (by simp) (by simp))
  | succ n =>
    simp only [List.getElem?_cons_succ] at hv
    have hln : n < lb.size := by omega
    have : us[n + 1] = lb[n] := by simp [us]
    rw [this]
    exact .v ((hcaps.2 n v lb[n] hv (by simp [hln])).mono fun b hb _ => ⟨⟨.inl hb, fun id h => by cases h⟩, rfl⟩)
 have hB0 : uB l J 1 B0 := ⟨φ, hJ, by show l < W.heap.size; omega, fun b hb => ⟨by have := (him b hb).1; show b < W.heap.size; omega, by have := (him b hb).1; omega, (him b hb).2, fun h => h.elim⟩, fun b h => h.elim, fun b hb => by have := hφ b hb; show b < W.heap.size; omega⟩
 have hrun := hwp { tmps := us ++ Array.replicate (fn.ntmps - us.size) undef, defers := [] } W 0 ⟨by simp [hN]; omega, B0, _, hB0, S0⟩
 suffices hc : CallsIn (WF none) 0 P f us W (fun e w' => (∃ v, e = .returned v) ∧ ∃ n im' φ', (n = xs.length + 1 ∨ n = 0) ∧ J n im' φ' w') from (callsIn_wide (n := 0)).1 hc
 refine callsIn_of_wp_marks hf hb trivial (wpIn_mono hrun ?_) rfl
 have out : ∀ (s' : St) (a' : Act) (w' : World), (s'.m.d = 0 ∧ (s'.m.k = xs.length + 1 ∨ s'.m.k = 0)) → eJ (uB l J) N s' a' w' →
  LeavesInM (WF none) 0 P fn a'.tmps (fun e w' => (∃ v, e = .returned v) ∧ ∃ n im' φ', (n = xs.length + 1 ∨ n = 0) ∧ J n im' φ' w') a'.defers .returning w' := by
  rintro s' a' w' ⟨hm, hk⟩ ⟨_, B, ι, hB, S⟩
  have hdef : a'.defers = [] := List.eq_nil_of_length_eq_zero (by rw [S.marks, hm])
  rw [hdef]
  obtain ⟨φ', hJ', _⟩ := qC hA hB S
  refine ⟨.tuple #[], ?_, ⟨_, rfl⟩, _, _, φ', hk, hJ'⟩
  simp [results, hrs]
 rintro e a' w' ⟨s', hq, hpost⟩
 cases e with
 | normal => exact out s' a' w' hq hpost
 | ret => exact out s' a' w' hq hpost
 | exit id => exact hq.elim
 | goto l => exact hq.elim
 | panic ch => exact hq.elim
 | outgrown => exact hq.elim
end
end Go.Vd
namespace Go.Vd
open Go.RowKit
def zl : Option Blk → Bool
 | some (.box _) => true
 | _ => false
def kf (ids : List Nat) (hl : List (Nat × Blk)) : Bool := ids.all fun i => zl (lk hl i)
def D.fixed (ids : List Nat) : D → Bool
 | .v _ => true
 | .nils => true
 | .any => true
 | .ptr id _ => ids.contains id
 | _ => false
def cK (ids : List Nat) (β : Nat → Nat) : List (Nat × Nat) := ids.map fun i => (i, β i)
def pg (ps : List Nat) (x : List V) : List (Nat × D) := (ps.zip x).map fun p => (p.1, .v p.2)
def Eb (N : Nat) (ps : List Nat) (tl : List (Nat × D)) : Bool := ps.all (fun p => Nat.blt p N && !(tl.map (·.1)).contains p) && decide ps.Nodup
def rh {α : Type} (tl : List (Nat × D)) (ids : List Nat) (st : α → List (Nat × Blk)) (inv : Nat → α → Prop) (Q : Exit → St → Prop) (m1 : MM) (β : Nat → Nat) (k : Nat) : Exit → St → Prop
 | .normal, s => ∃ y, inv (k + 1) y ∧ Le s (mk tl (st y) ⟨0, 0, cK ids β⟩)
 | .ret, s => ∃ hl, kf ids hl = true ∧ Le s (mk tl hl ⟨0, 0, cK ids β⟩) ∧ Q .ret (mk tl hl m1)
 | .exit j, s => ∃ hl, kf ids hl = true ∧ Le s (mk tl hl ⟨0, 0, cK ids β⟩) ∧ Q (.exit j) (mk tl hl m1)
 | _, _ => False
theorem lT : ∀ (l : List (Nat × Value)) (t : Array Value) (n : Nat), n ∉ l.map (·.1) → (l.foldl (fun t (p, v) => t.setIfInBounds p v) t)[n]? = t[n]?
 | [], _, _, _ => rfl
 | (p, v) :: l, t, n, h => by
  simp only [List.map_cons, List.mem_cons, not_or] at h
  simp only [List.foldl_cons]
  rw [lT l _ n h.2, Array.getElem?_setIfInBounds_ne (Ne.symm h.1)]
theorem qy : ∀ (l : List (Nat × Value)) (t : Array Value), (l.foldl (fun t (p, v) => t.setIfInBounds p v) t).size = t.size
 | [], _ => rfl
 | (p, v) :: l, t => by simp only [List.foldl_cons]; rw [qy l]; simp
theorem xp : ∀ (ps : List Nat) (vs : List Value) (t : Array Value) (i n : Nat) (v : Value), ps.Nodup → (∀ p ∈ ps, p < t.size) → ps[i]? = some n → vs[i]? = some v → ((ps.zip vs).foldl (fun t (p, v) => t.setIfInBounds p v) t)[n]? = some v
 | [], _, _, _, _, _, _, _, h, _ => by simp at h
 | _ :: _, [], _, _, _, _, _, _, _, h => by simp at h
 | p :: ps, u :: vs, t, i, n, v, hn, hs, hp, hv => by
   simp only [List.zip_cons_cons, List.foldl_cons]
   cases i with
   | zero =>
     simp at hp hv; subst hp; subst hv
     rw [lT _ _ _ (fun hm => ?_)]
     ·simp [hs p List.mem_cons_self]
     ·obtain ⟨⟨a, b⟩, h1, rfl⟩ := List.mem_map.1 hm
      exact (List.nodup_cons.1 hn).1 (List.of_mem_zip h1).1
   | succ i => exact xp ps vs _ i n v (List.nodup_cons.1 hn).2 (fun q hq => by simp; exact hs q (List.mem_cons_of_mem _ hq)) (by simpa using hp) (by simpa using hv)
theorem tN : ∀ {ps : List Nat} {x : List V} {tl : List (Nat × D)} {n : Nat} {d : D}, lk (pg ps x ++ tl) n = some d → (∃ (i : Nat) (v : V), ps[i]? = some n ∧ x[i]? = some v ∧ d = .v v) ∨ (lk tl n = some d)
 | [], _, _, _, _, h => .inr (by simpa [pg] using h)
 | _ :: _, [], _, _, _, h => .inr (by simpa [pg] using h)
 | p :: ps, v :: x, tl, n, d, h => by
   have h' : (bif Nat.beq n p then some (D.v v) else lk (pg ps x ++ tl) n) = some d := h
   cases hb : Nat.beq n p with
   | true =>
     rw [hb] at h'
     simp at h'
     have := Nat.eq_of_beq_eq_true hb
     subst this
     exact .inl ⟨0, v, rfl, rfl, h'.symm⟩
   | false =>
     rw [hb] at h'
     rcases tN h' with ⟨i, v', h1, h2, h3⟩ | h1
     ·exact .inl ⟨i + 1, v', h1, h2, h3⟩
     ·exact .inr h1
structure Core (B : dt) (a : Act) (w : World) (tl : List (Nat × D)) (ids : List Nat) (β : Nat → Nat) (L : Loop) (hl : List (Nat × Blk)) (im φ : Nat → Prop) (wx : World) (ι : Nat → Con) (imc : Nat → Prop) : Prop where
 sim : Sim ⟨wx, imc, bI ι⟩ (mk tl hl ⟨0, 0, cK ids β⟩) ι ⟨a.tmps, []⟩ wx
 box : kf ids hl = true
 sub : ∀ b, im b → imc b
 lt : ∀ b, imc b → b < wx.heap.size ∧ ¬ bI ι b ∧ b ≠ w.heap.size + 1
 phi : ∀ b, φ b ↔ bI ι b ∨ (imc b ∧ ¬ im b)
 rc : wx.heap[w.heap.size + 1]? = some (.loop L)
 os : wx.os = w.os
 tape : wx.tape = w.tape
 output : wx.output = w.output
 size : w.heap.size + 1 < wx.heap.size
 frame : ∀ b, b < B.w0.heap.size → ¬ B.own0 b → wx.heap[b]? = B.w0.heap[b]?
 defs : ∀ d ∈ a.defers, ∃ b, d = { target := .collected b, args := #[] } ∧ B.w0.heap.size ≤ b ∧ b < w.heap.size ∧ wx.heap[b]? = some (.deferred (some []))
 mark : wx.heap[w.heap.size]? = some (.deferred (some []))
 ims : ∀ b, imc b → B.im0 b ∨ B.w0.heap.size ≤ b ∨ B.own0 b
 owns : ∀ b, bI ι b → B.w0.heap.size ≤ b ∨ B.own0 b
def Gb {α : Type} (B : dt) (a : Act) (w : World) (tl : List (Nat × D)) (ids : List Nat) (β : Nat → Nat) (rec : LoopState → Option Code → Loop) (st : α → List (Nat × Blk)) (inv : Nat → α → Prop) (Q : Exit → St → Prop) (m1 : MM) : JJ
 | 0, im, φ, wx => ∃ c hl ι imc, Core B a w tl ids β (rec .done (some c)) hl im φ wx ι imc ∧ ((c = .ret ∧ Q .ret (mk tl hl m1)) ∨ ∃ j, c = .exit j ∧ Q (.exit j) (mk tl hl m1))
 | k + 1, im, φ, wx => ∃ y ι imc, inv k y ∧ Core B a w tl ids β (rec .ready none) (st y) im φ wx ι imc
section
variable {P : Program} {B : dt} {a : Act} {w : World} {tl : List (Nat × D)} {ids : List Nat} {β : Nat → Nat} {L : Loop} {hl : List (Nat × Blk)} {im φ : Nat → Prop} {wx : World} {ι : Nat → Con} {imc : Nat → Prop}
theorem fY {B : dt} {s : St} {ι : Nat → Con} {a : Act} {w : World} (S : Sim B s ι a w) {b : Nat} {o : Obj} (h : w.heap[b]? = some o) (ho : ∀ c t f, o ≠ .cells c t f) : ¬ bI ι b := by
 rintro ⟨id, hid⟩
 obtain ⟨c, t, f, hc⟩ := S.own_cells hid
 rw [h] at hc; cases hc; exact ho _ _ _ rfl
theorem Core.abide (C : Core B a w tl ids β L hl im φ wx ι imc) (hB : B.w0.heap.size ≤ w.heap.size) (hg9 : 9 ≤ w.heap.size) {im' : Nat → Prop} {w' : World} (h1 : wx.heap.size ≤ w'.heap.size) (h2 : w'.os = wx.os) (h3 : w'.tape = wx.tape) (h4 : w'.output = wx.output)
 (h5 : ∀ b, b < wx.heap.size → (b ≤ w.heap.size + 1 ∨ im b ∨ φ b) → w'.heap[b]? = wx.heap[b]?) (h6 : ∀ b, im b → im' b) (h7 : ∀ b, im' b → im b ∨ (w.heap.size + 1 < b ∧ ¬ φ b)) (h8 : ∀ b, im' b → b < w'.heap.size) :
 Core B a w tl ids β L hl im' φ w' ι (fun b => imc b ∨ im' b) := by
 have hsz := C.size
 have hlow : ∀ b, b ≤ w.heap.size + 1 → w'.heap[b]? = wx.heap[b]? := fun b hb => h5 b (by omega) (.inl hb)
 have hcs : ∀ b, b < wx.heap.size → (imc b ∨ bI ι b) → w'.heap[b]? = wx.heap[b]? := by
  intro b hb h
  refine h5 b hb (.inr ?_)
  rcases h with h | h
  ·by_cases hi : im b
   ·exact .inl hi
   ·exact .inr ((C.phi b).2 (.inr ⟨h, hi⟩))
  ·exact .inr ((C.phi b).2 (.inl h))
 refine ⟨?_, C.box, fun b hb => .inr hb, ?_, ?_, (hlow _ (Nat.le_refl _)).trans C.rc, h2.trans C.os, h3.trans C.tape, h4.trans C.output, by omega, ?_, ?_, (hlow _ (by omega)).trans C.mark, ?_, C.owns⟩
 ·refine C.sim.rebase (fun b hb h => hcs b hb ?_) h1 ?_ rfl (C.sim.globW.stays h1 fun g hg => hlow g (by omega))
  ·rcases h with h | h
   ·rcases h.1 with h' | h' | h'
    ·exact .inl h'
    ·have : wx.heap.size ≤ b := h'; omega
    ·exact absurd h' (fun ⟨id, hid⟩ => h.2 id hid)
   ·exact .inr h
  ·intro b hb hlt
   rcases hb.1 with h' | h' | h'
   ·exact .inl h'
   ·have : wx.heap.size ≤ b := h'; omega
   ·exact absurd h' (fun ⟨id, hid⟩ => hb.2 id hid)
 ·rintro b (h | h)
  ·obtain ⟨q1, q2, q3⟩ := C.lt b h
   exact ⟨by omega, q2, q3⟩
  ·rcases h7 b h with h' | h'
   ·obtain ⟨q1, q2, q3⟩ := C.lt b (C.sub b h')
    exact ⟨by omega, q2, q3⟩
   ·exact ⟨h8 b h, fun ho => h'.2 ((C.phi b).2 (.inl ho)), by omega⟩
 ·intro b
  rw [C.phi b]
  constructor
  ·rintro (h | ⟨h, h'⟩)
   ·exact .inl h
   ·refine .inr ⟨.inl h, fun hi => ?_⟩
    rcases h7 b hi with h'' | h''
    ·exact h' h''
    ·exact h''.2 ((C.phi b).2 (.inr ⟨h, h'⟩))
  ·rintro (h | ⟨h | h, h'⟩)
   ·exact .inl h
   ·exact .inr ⟨h, fun hi => h' (h6 b hi)⟩
   ·exact absurd h h'
 ·intro b hb hno
  rw [hlow b (by omega)]; exact C.frame b hb hno
 ·intro d hd
  obtain ⟨b, q1, q2, q3, q4⟩ := C.defs d hd
  exact ⟨b, q1, q2, q3, (hlow b (by omega)).trans q4⟩
 ·rintro b (h | h)
  ·exact C.ims b h
  ·rcases h7 b h with h' | h'
   ·exact C.ims b (C.sub b h')
   ·exact .inr (.inl (by omega))
theorem Core.pin (C : Core B a w tl ids β L hl im φ wx ι imc) {i : Nat} (hi : i ∈ ids) : ι i = .box (β i) := by
 have h1 := List.all_eq_true.1 C.box i hi
 have h2 := C.sim.blks i
 have h3 := C.sim.pins (i, β i) (List.mem_map.2 ⟨i, hi, rfl⟩)
 simp only [Vd.mk] at h2
 cases hk : lk hl i with
 | none => rw [hk] at h1; cases h1
 | some b =>
   rw [hk] at h1 h2
   cases b with
   | box cs =>
     obtain ⟨b', arr, ty, q1, _⟩ := h2
     rcases h3 with h3 | h3
     ·exact h3
     ·simp only at h3; rw [q1] at h3; cases h3
   | _ => cases h1
theorem Core.round (C : Core B a w tl ids β L hl im φ wx ι imc) (htl : (tl.all fun p => p.2.fixed ids) = true) {w1 w2 w3 w4 : World} {s1 : St} {ι1 : Nat → Con} {a1 : Act} (S1 : Sim ⟨wx, imc, bI ι⟩ s1 ι1 a1 w1)
 (L2 L4 : Loop) (hw2 : w2 = w1.putObj (w.heap.size + 1) (.loop L2)) {hl' : List (Nat × Blk)} {ι3 : Nat → Con} {a3 : Act} (hbox : kf ids hl' = true)
 (S3 : Sim ⟨w2, fun b => cx ⟨wx, imc, bI ι⟩ ι1 b ∧ b < w1.heap.size, bI ι1⟩ (Vd.mk tl hl' ⟨0, 0, cK ids β⟩) ι3 a3 w3) (hw4 : w4 = w3.putObj (w.heap.size + 1) (.loop L4)) (hB : B.w0.heap.size ≤ w.heap.size) (hg9 : 9 ≤ w.heap.size) :
 ∃ φ', Core B a w tl ids β L4 hl' im φ' w4 ι3 (fun b => cx ⟨w2, fun b => cx ⟨wx, imc, bI ι⟩ ι1 b ∧ b < w1.heap.size, bI ι1⟩ ι3 b ∧ b < w3.heap.size) ∧ wx.heap.size ≤ w4.heap.size ∧
   (∀ c, c < wx.heap.size → ¬ φ c → c ≠ w.heap.size + 1 → w4.heap[c]? = wx.heap[c]?) ∧ (∀ c, φ' c → φ c ∨ wx.heap.size ≤ c) ∧ (∀ c, φ' c → c < w4.heap.size) := by
 have hsz := C.size
 have hs1 : wx.heap.size ≤ w1.heap.size := S1.size
 have hs2 : w2.heap.size = w1.heap.size := by rw [hw2]; simp
 have hs3 : w2.heap.size ≤ w3.heap.size := S3.size
 have hs4 : w4.heap.size = w3.heap.size := by rw [hw4]; simp
 have hw2' : ∀ c, c ≠ w.heap.size + 1 → w2.heap[c]? = w1.heap[c]? := fun c hc => by rw [hw2]; exact World.putObj_heap_other hc
 have hw4' : ∀ c, c ≠ w.heap.size + 1 → w4.heap[c]? = w3.heap[c]? := fun c hc => by rw [hw4]; exact World.putObj_heap_other hc
 have ho1 : ∀ b, bI ι1 b → wx.heap.size ≤ b ∨ bI ι b := fun b ⟨id, hid⟩ => (S1.bnd id b hid).2
 have ho3 : ∀ b, bI ι3 b → w2.heap.size ≤ b ∨ bI ι1 b := fun b ⟨id, hid⟩ => (S3.bnd id b hid).2
 have ho3' : ∀ b, bI ι3 b → wx.heap.size ≤ b ∨ bI ι b := fun b hb => by
  rcases ho3 b hb with h | h
  ·exact .inl (by omega)
  ·exact ho1 b h
 have hrcx : ¬ bI ι (w.heap.size + 1) := fY C.sim C.rc (by simp)
 have hrl : ∀ b, bI ι3 b → b ≠ w.heap.size + 1 := fun b hb he => by
  subst he
  rcases ho3' _ hb with h | h
  ·omega
  ·exact hrcx h
 have hrl1 : ∀ b, bI ι1 b → b ≠ w.heap.size + 1 := fun b hb he => by
  subst he
  rcases ho1 _ hb with h | h
  ·omega
  ·exact hrcx h
 have hk1 : ∀ b, imc b → cx ⟨wx, imc, bI ι⟩ ι1 b ∧ w1.heap[b]? = wx.heap[b]? := fun b hb => by
  obtain ⟨q1, q2, q3⟩ := C.lt b hb
  refine ⟨⟨.inl hb, fun id hid => ?_⟩, S1.frame b q1 q2⟩
  rcases ho1 b ⟨id, hid⟩ with h | h
  ·omega
  ·exact q2 h
 have hk3 : ∀ b, imc b → cx ⟨w2, fun b => cx ⟨wx, imc, bI ι⟩ ι1 b ∧ b < w1.heap.size, bI ι1⟩ ι3 b ∧ w4.heap[b]? = wx.heap[b]? := fun b hb => by
  obtain ⟨q1, q2, q3⟩ := C.lt b hb
  obtain ⟨r1, r2⟩ := hk1 b hb
  have hno1 : ¬ bI ι1 b := fun h => (ho1 b h).elim (fun h => by omega) q2
  refine ⟨⟨.inl ⟨r1, by omega⟩, fun id hid => ?_⟩, ?_⟩
  ·rcases ho3 b ⟨id, hid⟩ with h | h
   ·omega
   ·exact hno1 h
  ·rw [hw4' b q3, S3.frame b (by show b < w2.heap.size; omega) hno1, hw2' b q3, r2]
 have hfr : ∀ c, c < wx.heap.size → ¬ bI ι c → c ≠ w.heap.size + 1 → w4.heap[c]? = wx.heap[c]? := fun c hc hno hne => by
  have hno1 : ¬ bI ι1 c := fun h => (ho1 c h).elim (fun h => by omega) hno
  rw [hw4' c hne, S3.frame c (by show c < w2.heap.size; omega) hno1, hw2' c hne, S1.frame c hc hno]
 have hmk : ¬ bI ι w.heap.size := fY C.sim C.mark (by simp)
 have S4 := S3.rebase (w' := w4) (im' := fun b => cx ⟨w2, fun b => cx ⟨wx, imc, bI ι⟩ ι1 b ∧ b < w1.heap.size, bI ι1⟩ ι3 b ∧ b < w3.heap.size) (fun b hb h => hw4' b fun he => by
  subst he
  rcases h with h | h
  ·rcases h.1 with h' | h' | h'
   ·rcases h'.1.1 with h'' | h'' | h''
    ·exact (C.lt _ h'').2.2 rfl
    ·have : wx.heap.size ≤ w.heap.size + 1 := h''; omega
    ·exact hrcx h''
   ·have : w2.heap.size ≤ w.heap.size + 1 := h'; omega
   ·exact hrl1 _ h' rfl
  ·exact hrl _ h rfl) (by omega) (fun b h1 h2 => ⟨h1, h2⟩) (List.eq_nil_of_length_eq_zero S3.marks) (S3.globW.stays (by omega) fun g hg => hw4' g (by omega))
 refine ⟨fun b => bI ι3 b ∨ ((cx ⟨w2, fun b => cx ⟨wx, imc, bI ι⟩ ι1 b ∧ b < w1.heap.size, bI ι1⟩ ι3 b ∧ b < w3.heap.size) ∧ ¬ im b), ⟨?_, hbox, ?_, ?_, fun _ => Iff.rfl, ?_, ?_, ?_, ?_, by omega, ?_, ?_, ?_, ?_, ?_⟩, by omega, fun c hc hno hne => hfr c hc (fun h => hno ((C.phi c).2 (.inl h))) hne, ?_, ?_⟩
 ·refine { S4 with tmps := ?_, marks := rfl, defs := fun d hd => by cases hd }
  intro n d hn
  obtain ⟨u, h1, h2⟩ := C.sim.tmps n d hn
  refine ⟨u, h1, ?_⟩
  have hd := List.all_eq_true.1 htl (n, d) (eM hn)
  cases d with
  | v x =>
    refine .v ((aA h2).mono fun b hb hlt => ?_)
    have hb' : imc b := by
     rcases hb.1 with h' | h' | h'
     ·exact h'
     ·have : wx.heap.size ≤ b := h'; omega
     ·exact absurd h' (fun ⟨id, hid⟩ => hb.2 id hid)
    obtain ⟨r1, r2⟩ := hk3 b hb'
    exact ⟨⟨.inl ⟨r1, by have := (C.lt b hb').1; omega⟩, r1.2⟩, r2⟩
  | nils => rw [h2.nils_inv]; exact .nils
  | any => exact .any u
  | ptr id o =>
    have hid : id ∈ ids := by simpa [D.fixed] using hd
    have hp := h2.ptr_inv.2 _ (C.pin hid)
    have hp3 : ι3 id = .box (β id) := by
     have h1 := List.all_eq_true.1 hbox id hid
     have h2 := S3.blks id
     have h3 := S3.pins (id, β id) (List.mem_map.2 ⟨id, hid, rfl⟩)
     simp only [Vd.mk] at h2
     cases hk : lk hl' id with
     | none => rw [hk] at h1; cases h1
     | some b =>
       rw [hk] at h1 h2
       cases b with
       | box cs =>
         obtain ⟨b', arr, ty, q1, _⟩ := h2
         rcases h3 with h3 | h3
         ·exact h3
         ·simp only at h3; rw [q1] at h3; cases h3
       | _ => cases h1
    exact .ptr id o u (by rw [hp3]; simp) (fun b hb => by rw [hp3] at hb; cases hb; exact hp)
  | own id => cases hd
  | eptr id o => cases hd
  | agg cs => cases hd
  | fn f x y => cases hd
  | tup ds => cases hd
 ·intro b hb
  have hb' := C.sub b hb
  exact ⟨(hk3 b hb').1, by have := (C.lt b hb').1; omega⟩
 ·rintro b ⟨hb, hlt⟩
  refine ⟨by omega, fun ⟨id, hid⟩ => hb.2 id hid, fun he => ?_⟩
  subst he
  rcases hb.1 with h' | h' | h'
  ·rcases h'.1.1 with h'' | h'' | h''
   ·exact (C.lt _ h'').2.2 rfl
   ·have : wx.heap.size ≤ w.heap.size + 1 := h''; omega
   ·exact hrcx h''
  ·have : w2.heap.size ≤ w.heap.size + 1 := h'; omega
  ·exact hrl1 _ h' rfl
 ·rw [hw4]; exact World.putObj_heap_same (by omega)
 ·rw [hw4]; show w3.os = w.os; rw [S3.os]; show w2.os = w.os; rw [hw2]; show w1.os = w.os; rw [S1.os]; exact C.os
 ·rw [hw4]; show w3.tape = w.tape; rw [S3.tape]; show w2.tape = w.tape; rw [hw2]; show w1.tape = w.tape; rw [S1.tape]; exact C.tape
 ·rw [hw4]; show w3.output = w.output; rw [S3.output]; show w2.output = w.output; rw [hw2]; show w1.output = w.output; rw [S1.output]; exact C.output
 ·intro b hb hno
  rw [hfr b (by omega) (fun h => ?_) (by omega)]
  ·exact C.frame b hb hno
  ·rcases C.owns b h with h | h
   ·omega
   ·exact hno h
 ·intro d hd
  obtain ⟨b, q1, q2, q3, q4⟩ := C.defs d hd
  exact ⟨b, q1, q2, q3, (hfr b (by omega) (fY C.sim q4 (by simp)) (by omega)).trans q4⟩
 ·exact (hfr _ (by omega) hmk (by omega)).trans C.mark
 ·rintro b ⟨hb, hlt⟩
  have key : ∀ b, bI ι b → B.im0 b ∨ B.w0.heap.size ≤ b ∨ B.own0 b := fun b hb => (C.owns b hb).elim (fun h => .inr (.inl h)) (fun h => .inr (.inr h))
  have key1 : ∀ b, bI ι1 b → B.im0 b ∨ B.w0.heap.size ≤ b ∨ B.own0 b := fun b hb => (ho1 b hb).elim (fun h => .inr (.inl (by omega))) (key b)
  rcases hb.1 with h' | h' | h'
  ·rcases h'.1.1 with h'' | h'' | h''
   ·exact C.ims b h''
   ·have : wx.heap.size ≤ b := h''; exact .inr (.inl (by omega))
   ·exact key b h''
  ·have : w2.heap.size ≤ b := h'; exact .inr (.inl (by omega))
  ·exact key1 b h'
 ·intro b hb
  rcases ho3' b hb with h | h
  ·exact .inl (by omega)
  ·exact C.owns b h
 ·rintro c (h | ⟨⟨h, hlt⟩, hni⟩)
  ·rcases ho3' c h with h | h
   ·exact .inr h
   ·exact .inl ((C.phi c).2 (.inl h))
  ·rcases h.1 with h' | h' | h'
   ·rcases h'.1.1 with h'' | h'' | h''
    ·exact .inl ((C.phi c).2 (.inr ⟨h'', hni⟩))
    ·exact .inr h''
    ·exact .inl ((C.phi c).2 (.inl h''))
   ·have : w2.heap.size ≤ c := h'; exact .inr (by omega)
   ·rcases ho1 c h' with h | h
    ·exact .inr h
    ·exact .inl ((C.phi c).2 (.inl h))
 ·rintro c (⟨id, hid⟩ | ⟨⟨_, hlt⟩, _⟩)
  ·have := (S3.bnd id c hid).1; omega
  ·omega
theorem Core.back (C : Core B a w tl ids β L hl im φ wx ι imc) {m1 : MM} (hm : m1.d = a.defers.length + 1) (hp : ∀ p ∈ m1.pins, p ∈ cK ids β) (hB : B.w0.heap.size ≤ w.heap.size) (hos : w.os = B.w0.os) (ht : w.tape = B.w0.tape) (hou : w.output = B.w0.output) (hGB : CY B) (L4 : Loop) :
 Sim B (Vd.mk tl hl m1) ι { tmps := a.tmps, defers := { target := .collected w.heap.size, args := #[] } :: a.defers } (wx.putObj (w.heap.size + 1) (.loop L4)) := by
 have hsz := C.size
 have hrcx : ¬ bI ι (w.heap.size + 1) := fY C.sim C.rc (by simp)
 have hoth : ∀ c, c ≠ w.heap.size + 1 → (wx.putObj (w.heap.size + 1) (.loop L4)).heap[c]? = wx.heap[c]? := fun c hc => World.putObj_heap_other hc
 have hk : ∀ b, cx ⟨wx, imc, bI ι⟩ ι b → b < wx.heap.size → cx B ι b ∧ (wx.putObj (w.heap.size + 1) (.loop L4)).heap[b]? = wx.heap[b]? := by
  intro b hb hlt
  have hb' : imc b := by
   rcases hb.1 with h' | h' | h'
   ·exact h'
   ·have : wx.heap.size ≤ b := h'; omega
   ·exact absurd h' (fun ⟨id, hid⟩ => hb.2 id hid)
  exact ⟨⟨C.ims b hb', hb.2⟩, hoth b (C.lt b hb').2.2⟩
 refine ⟨C.os.trans hos, C.tape.trans ht, C.output.trans hou, by simp; omega, fun b hb hno => by rw [hoth b (by omega)]; exact C.frame b hb hno, C.sim.inj, fun id b h => ⟨by simp; exact (C.sim.bnd id b h).1, C.owns b ⟨id, h⟩⟩, fun id => ?_, fun n d hn => ?_, by simp [Vd.mk, hm], (fun p hpp => C.sim.pins p (hp p hpp)), fun d hd => ?_, hGB⟩
 ·exact (C.sim.blks id).mono hk (fun _ _ => .inl rfl) fun k hkk => hoth k fun he => by subst he; exact hrcx ⟨id, hkk⟩
 ·obtain ⟨u, h1, h2⟩ := C.sim.tmps n d hn
  exact ⟨u, h1, h2.mono hk fun _ _ => .inl rfl⟩
 ·rcases List.mem_cons.1 hd with rfl | hd
  ·exact ⟨w.heap.size, rfl, hB, (hoth _ (by omega)).trans C.mark⟩
  ·obtain ⟨b, q1, q2, q3, q4⟩ := C.defs d hd
   exact ⟨b, q1, q2, (hoth b (by omega)).trans q4⟩
end
end Go.Vd
namespace Go.Vd
open Go.RowKit
section
variable {P : Program} {N : Nat} {𝔅 : BB} {Q : Exit → St → Prop} {s : St}
theorem zU {c : Code} {l : Nat} {R : Exit → St → Prop} {s : St} (hm : s.m.d = 0) (h : ∀ 𝔅2, Wp P (some l) N 𝔅2 c R s) : oA (fun s' => s'.m.d = 0 ∧ ∀ 𝔅2, Wp P (some l) N 𝔅2 c R s') (fun _ _ => False) .normal s := ⟨hm, h⟩
theorem BH {α : Type} {tl : List (Nat × D)} {ids : List Nat} {st : α → List (Nat × Blk)} {inv : Nat → α → Prop} {m1 : MM} {β : Nat → Nat} {k : Nat} (y : α) (h : inv (k + 1) y) (hle : Le s (mk tl (st y) ⟨0, 0, cK ids β⟩)) : rh tl ids st inv Q m1 β k .normal s := ⟨y, h, hle⟩
theorem A5 {α : Type} {tl : List (Nat × D)} {ids : List Nat} {st : α → List (Nat × Blk)} {inv : Nat → α → Prop} {m1 : MM} {β : Nat → Nat} {k j : Nat} (hl : List (Nat × Blk)) (hb : kf ids hl = true) (hle : Le s (mk tl hl ⟨0, 0, cK ids β⟩)) (h : Q (.exit j) (mk tl hl m1)) : rh tl ids st inv Q m1 β k (.exit j) s := ⟨hl, hb, hle, h⟩
theorem xv {g : Operand} {ps : Array Tmp} {assign body : Code} {α : Type} {gf : FuncId} {caps : List V} {xs : List (List V)} (hit : qI P gf caps xs) (hps : ∀ x, x ∈ xs → x.length = ps.size)
 (tl : List (Nat × D)) (ids : List Nat) (st : α → List (Nat × Blk)) (inv : Nat → α → Prop) (x0 : α) (d0 k0 : Nat) (π : List (Nat × Nat)) (hπ : ∀ p ∈ π, p.1 ∈ ids) (h0 : inv 0 x0) (hle : Le s (mk tl (st x0) ⟨d0, k0, π⟩)) (hg : (mk tl (st x0) ⟨d0, k0, π⟩).ev g = some (.v (.fn (.func gf) [] caps)))
 (htl : (tl.all fun p => p.2.fixed ids) = true) (hpo : Eb N ps.toList tl = true) (hbox : ∀ y, kf ids (st y) = true)
 (hround : ∀ (l : Nat) (β : Nat → Nat) k x y, xs[k]? = some x → inv k y → (∀ p ∈ π, β p.1 = p.2) → ∀ 𝔅1, Wp P (some l) N 𝔅1 assign (oA (fun s' => s'.m.d = 0 ∧ ∀ 𝔅2, Wp P (some l) N 𝔅2 body (rh tl ids st inv Q ⟨d0 + 1, k0, π⟩ β k) s') (fun _ _ => False)) (mk (pg ps.toList x ++ tl) (st y) ⟨0, 0, cK ids β⟩))
 (hdone : ∀ y, inv xs.length y → Q .normal (mk tl (st y) ⟨d0 + 1, k0, π⟩)) : Wp P none N 𝔅 (.rangeFunc g ps assign body) Q s := by
 intro a w n hp0
 have hg' : ∃ us : Array Value, a.eval g = .func (.func gf) #[] us ∧ ∀ B ι, Sim B (mk tl (st x0) ⟨d0, k0, π⟩) ι a w → PW (RepV w (cx B ι)) caps us.toList := by
  obtain ⟨_, B, ι, _, S⟩ := hle.post hp0
  have := aA (S.ev hg)
  generalize hu : a.eval g = u at this
  cases this with
  | fn _ _ _ us ws hs1 hs2 hv1 hv2 =>
    have hus : us = #[] := Array.eq_empty_of_size_eq_zero (by simpa using hs1)
    subst hus
    refine ⟨ws, rfl, fun B' ι' S' => ?_⟩
    have h3 := aA (S'.ev hg)
    rw [hu] at h3
    cases h3 with
    | fn _ _ _ _ _ _ hs2' _ hv2' => exact gh hs2' hv2'
 obtain ⟨us, hgu, hgc⟩ := hg'
 have hp1 := hle.post hp0
 obtain ⟨hN, B, ι00, hB00, S00⟩ := hp0
 obtain ⟨ι0, S0⟩ := hle.2 B ι00 a w S00
 have hcaps := hgc B ι0 S0
 have hBB : 𝔅 k0 B := by have : s.m.k = k0 := by rw [← hle.1]; rfl
                         rw [← this]; exact hB00
 have hd0 : a.defers.length = d0 := S0.marks
 have hsz := S0.size
 let β : Nat → Nat := fun i => match ι0 i with | .box b => b | _ => 0
 refine Go.wpIn_rangeFunc ?_
 intro fn _
 obtain ⟨rec, hrec⟩ : ∃ rec : LoopState → Option Code → Loop, rec = fun st pe => { state := st, pending := pe, fn, tmps := a.tmps, params := ps, assign, body, defers := w.heap.size } := ⟨_, rfl⟩
 obtain ⟨W1, hW1⟩ : ∃ W1, (w.alloc (.deferred (some []))).alloc (.loop (rec .ready none)) = W1 := ⟨_, rfl⟩
 have hsz1 : W1.heap.size = w.heap.size + 2 := by rw [← hW1]; simp
 have hL1 : W1.heap[w.heap.size + 1]? = some (.loop (rec .ready none)) := by
  rw [← hW1]; have := World.alloc_heap_new (w.alloc (.deferred (some []))) (.loop (rec .ready none)); rwa [World.size_alloc] at this
 have hK1 : W1.heap[w.heap.size]? = some (.deferred (some [])) := by
  rw [← hW1]; exact (Below.heap_alloc _ _ _ (by simp)).trans (World.alloc_heap_new w _)
 have hlow : ∀ b, b < w.heap.size → W1.heap[b]? = w.heap[b]? := fun b hb => by
  rw [← hW1]; exact (Below.heap_alloc _ _ _ (by simp; omega)).trans (Below.heap_alloc _ _ _ hb)
 let im0 : Nat → Prop := fun b => cx B ι0 b ∧ b < w.heap.size
 have hpins : ∀ p ∈ cK ids β, ι0 p.1 = .box p.2 ∨ ι0 p.1 = .dead := by
  intro p hp
  obtain ⟨i, hi, rfl⟩ := List.mem_map.1 hp
  have h1 := List.all_eq_true.1 (hbox x0) i hi
  have h2 := S0.blks i
  simp only [mk] at h2
  cases hk : lk (st x0) i with
  | none => rw [hk] at h1; cases h1
  | some b =>
    rw [hk] at h1 h2
    cases b with
    | box cs =>
      obtain ⟨b', arr, ty, q1, _⟩ := h2
      refine .inl ?_
      show ι0 i = .box (match ι0 i with | .box b => b | _ => 0)
      rw [q1]
    | _ => cases h1
 have hβ : ∀ p ∈ π, β p.1 = p.2 := by
  intro p hp
  have h1 := hpins (p.1, β p.1) (List.mem_map.2 ⟨p.1, hπ p hp, rfl⟩)
  have h2 := S0.pins p hp
  have h3 := List.all_eq_true.1 (hbox x0) p.1 (hπ p hp)
  have h4 := S0.blks p.1
  simp only [mk] at h4
  cases hk : lk (st x0) p.1 with
  | none => rw [hk] at h3; cases h3
  | some b =>
    rw [hk] at h3 h4
    cases b with
    | box cs =>
      obtain ⟨b', arr, ty, q1, _⟩ := h4
      rcases h2 with h2 | h2
      ·rw [q1] at h2
       show (match ι0 p.1 with | .box b => b | _ => 0) = p.2
       rw [q1]; cases h2; rfl
      ·rw [q1] at h2; cases h2
    | _ => cases h3
 have S0' : Sim B (mk tl (st x0) ⟨0, 0, cK ids β⟩) ι0 ⟨a.tmps, []⟩ w := { S0 with marks := rfl, pins := hpins, defs := fun d hd => by cases hd }
 have hg9 : 9 ≤ w.heap.size := S0.globW.1
 have hGW : Glob W1 := S0.globW.stays (by omega) fun g hg => hlow g (by omega)
 have S1 := S0'.rebase (w' := W1) (im' := im0) (fun b hb _ => hlow b hb) (by omega) (fun b h1 h2 => ⟨h1, h2⟩) rfl hGW
 have C0 : Core B a w tl ids β (rec .ready none) (st x0) im0 (bI ι0) W1 ι0 im0 := by
  refine ⟨S1, hbox x0, fun _ h => h, ?_, fun b => ⟨.inl, fun h => h.elim id (fun h => absurd h.1 h.2)⟩, hL1, by rw [← hW1]; rfl, by rw [← hW1]; rfl, by rw [← hW1]; rfl, by omega, fun b hb hno => (hlow b (by omega)).trans (S0.frame b hb hno), ?_, hK1, fun b hb => hb.1.1, ?_⟩
  ·rintro b ⟨h1, h2⟩
   exact ⟨by omega, fun ⟨id, hid⟩ => h1.2 id hid, by omega⟩
  ·intro d hd
   obtain ⟨b, q1, q2, q3⟩ := S0.defs d hd
   have hlt := (Array.getElem?_eq_some_iff.1 q3).1
   exact ⟨b, q1, q2, hlt, (hlow b hlt).trans q3⟩
  ·rintro b ⟨id, hid⟩
   exact (S0.bnd id b hid).2
 let J : JJ := Gb B a w tl ids β rec st inv Q ⟨d0 + 1, k0, π⟩
 have hA : rW (w.heap.size + 1) J := by
  intro n im φ wx im' w' hJ h1 h2 h3 h4 h5 h6 h7 h8
  cases n with
  | zero =>
    obtain ⟨c, hl, ι, imc, C, hc⟩ := hJ
    exact ⟨c, hl, ι, _, C.abide hsz hg9 h1 h2 h3 h4 h5 h6 h7 h8, hc⟩
  | succ n =>
    obtain ⟨y, ι, imc, hi, C⟩ := hJ
    exact ⟨y, ι, _, hi, C.abide hsz hg9 h1 h2 h3 h4 h5 h6 h7 h8⟩
 have hpo' : ps.toList.Nodup ∧ ∀ p, p ∈ ps.toList → p < N ∧ p ∉ tl.map (·.1) := by
  simp only [Eb, Bool.and_eq_true, decide_eq_true_eq, List.all_eq_true] at hpo
  refine ⟨hpo.2, fun p hp => ?_⟩
  have := hpo.1 p hp
  simp only [Bool.not_eq_true', List.contains_eq_mem] at this
  exact ⟨Nat.le_of_ble_eq_true this.1, by simpa using this.2⟩
 have hR : wu P (w.heap.size + 1) xs J := by
  intro k x im φ wx args n hx hJ hGx hargs
  obtain ⟨y, ι, imc, hi, C⟩ := hJ
  have hxl := hps x (List.mem_of_getElem? hx)
  have hasz : args.size = ps.size := by have := hargs.1; simp at this; omega
  have hy := run_yield (P := P) (args := args) C.rc (by rw [hrec]; exact hasz)
  rw [hrec] at hy
  refine ⟨fn, _, assign, body, hy, roundIn_of_wpIn (F := WF none) trivial ?_⟩
  show assign.wpIn (WF (some (w.heap.size + 1))) n P _ _ wx
  have hzip : (ps.zip args).foldl (fun t (p, v) => t.setIfInBounds p v) a.tmps = (ps.toList.zip args.toList).foldl (fun t (p, v) => t.setIfInBounds p v) a.tmps := by
   rw [← Array.foldl_toList, Array.toList_zip]
  have Sr : Sim ⟨wx, imc, bI ι⟩ (mk (pg ps.toList x ++ tl) (st y) ⟨0, 0, cK ids β⟩) ι { tmps := (ps.zip args).foldl (fun t (p, v) => t.setIfInBounds p v) a.tmps, defers := [] } wx := by
   refine { C.sim with tmps := fun m d hm => ?_, marks := rfl, defs := fun d hd => by cases hd }
   show ∃ u, ((ps.zip args).foldl (fun t (p, v) => t.setIfInBounds p v) a.tmps)[m]? = some u ∧ _
   rw [hzip]
   rcases tN hm with ⟨i, v, q1, q2, rfl⟩ | hm
   ·have hlt : i < args.size := by have := (List.getElem?_eq_some_iff.1 q2).1; have := hargs.1; simp at this; omega
    refine ⟨args[i], xp ps.toList args.toList a.tmps i m args[i] hpo'.1 (fun p hp => by rw [hN]; exact (hpo'.2 p hp).1) q1 (by simp [hlt]), .v ?_⟩
    refine (hargs.2 i v args[i] q2 (by simp [hlt])).mono fun b hb _ => ⟨⟨.inl (C.sub b hb), fun id hid => (C.lt b (C.sub b hb)).2.1 ⟨id, hid⟩⟩, rfl⟩
   ·obtain ⟨u, h1, h2⟩ := C.sim.tmps m d hm
    refine ⟨u, ?_, h2⟩
    rw [lT _ _ _ (fun hmem => ?_)]
    ·exact h1
    ·obtain ⟨⟨p, v⟩, h3, rfl⟩ := List.mem_map.1 hmem
     exact (hpo'.2 p (List.of_mem_zip h3).1).2 (List.mem_map.2 ⟨(p, d), eM hm, rfl⟩)
  have hNr : ((ps.zip args).foldl (fun t (p, v) => t.setIfInBounds p v) a.tmps).size = N := by rw [hzip, qy]; exact hN
  have hwp := hround (w.heap.size + 1) β k x y hx hi hβ (only ⟨wx, imc, bI ι⟩)
  refine wpIn_mono (hwp _ wx n ⟨hNr, _, ι, rfl, Sr⟩) ?_
  rintro e a1 w1 ⟨s1, hq, hN1, B1, ι1, hB1, S1⟩
  cases (show B1 = _ from hB1)
  cases e with
  | normal =>
    obtain ⟨hm1, hbody⟩ := hq
    have hd1 : a1.defers = [] := List.eq_nil_of_length_eq_zero (by rw [S1.marks, hm1])
    have hsx : wx.heap.size ≤ w1.heap.size := S1.size
    have hrcx : ¬ bI ι (w.heap.size + 1) := fY C.sim C.rc (by simp)
    have hszx := C.size
    have hrc1 : w1.heap[w.heap.size + 1]? = some (.loop (rec .ready none)) := (S1.frame _ hszx hrcx).trans C.rc
    refine ⟨_, run_beginRound hrc1 (by rw [hrec]), ?_⟩
    have hno1 : ¬ bI ι1 (w.heap.size + 1) := fY S1 hrc1 (by simp)
    have hoth : ∀ (L : Loop) c, c ≠ w.heap.size + 1 → (w1.putObj (w.heap.size + 1) (.loop L)).heap[c]? = w1.heap[c]? := fun L c hc => World.putObj_heap_other hc
    have S2 := S1.rebase (w' := w1.putObj (w.heap.size + 1) (.loop { rec .ready none with state := .busy })) (im' := fun b => cx ⟨wx, imc, bI ι⟩ ι1 b ∧ b < w1.heap.size) (fun b hb h => hoth _ b fun he => by
     subst he
     rcases h with h | h
     ·rcases h.1 with h' | h' | h'
      ·exact (C.lt _ h').2.2 rfl
      ·have : wx.heap.size ≤ w.heap.size + 1 := h'; omega
      ·exact hrcx h'
     ·exact hno1 h) (by simp) (fun b h1 h2 => ⟨h1, h2⟩) hd1 (S1.globW.stays (by simp) fun g hg => hoth _ g (by omega))
    refine wpIn_mono (hbody (only _) _ _ n ⟨hN1, _, ι1, rfl, S2⟩) ?_
    rintro e a2 w3 ⟨s2, hq2, hN2, B2, ι2, hB2, S3⟩
    cases (show B2 = _ from hB2)
    have hrc3 : w3.heap[w.heap.size + 1]? = some (.loop { rec .ready none with state := .busy }) := by
     rw [S3.frame _ (by show w.heap.size + 1 < (w1.putObj (w.heap.size + 1) _).heap.size; simp; omega) hno1]
     exact World.putObj_heap_same (by omega)
    have hend : ∀ jump, (Instr.endRound (w.heap.size + 1) jump).run P w3 = .ok (.bool jump.isNone) (w3.putObj (w.heap.size + 1) (.loop (rec (if jump.isNone then .ready else .done) jump))) := fun jump => by
     have := run_endRound (P := P) jump hrc3
     rw [hrec] at this ⊢
     exact this
    cases e with
    | normal =>
      obtain ⟨y', hi', hle'⟩ := hq2
      obtain ⟨ι3, S3'⟩ := hle'.2 _ ι2 a2 w3 S3
      obtain ⟨φ', C', q1, q2, q3, q4⟩ := C.round htl S1 { rec .ready none with state := .busy } (rec .ready none) rfl (hbox y') S3' rfl hsz hg9
      exact ⟨_, _, hend none, true, φ', rfl, ⟨y', ι3, _, hi', C'⟩, q1, q2, q3, q4, C'.sim.globW⟩
    | ret =>
      obtain ⟨hl', hb', hle', hQ⟩ := hq2
      obtain ⟨ι3, S3'⟩ := hle'.2 _ ι2 a2 w3 S3
      obtain ⟨φ', C', q1, q2, q3, q4⟩ := C.round htl S1 { rec .ready none with state := .busy } (rec .done (some .ret)) rfl hb' S3' rfl hsz hg9
      exact ⟨_, _, hend (some .ret), false, φ', rfl, ⟨.ret, hl', ι3, _, C', .inl ⟨rfl, hQ⟩⟩, q1, q2, q3, q4, C'.sim.globW⟩
    | exit j =>
      obtain ⟨hl', hb', hle', hQ⟩ := hq2
      obtain ⟨ι3, S3'⟩ := hle'.2 _ ι2 a2 w3 S3
      obtain ⟨φ', C', q1, q2, q3, q4⟩ := C.round htl S1 { rec .ready none with state := .busy } (rec .done (some (.exit j))) rfl hb' S3' rfl hsz hg9
      exact ⟨_, _, hend (some (.exit j)), false, φ', rfl, ⟨.exit j, hl', ι3, _, C', .inr ⟨j, rfl, hQ⟩⟩, q1, q2, q3, q4, C'.sim.globW⟩
    | goto t => exact hq2.elim
    | panic ch => exact hq2.elim
    | outgrown => exact hq2.elim
  | exit j => exact hq.elim
  | goto t => exact hq.elim
  | ret => exact hq.elim
  | panic ch => exact hq.elim
  | outgrown => exact hq.elim
 have hcall := hit.2 (w.heap.size + 1) W1 im0 (bI ι0) J us hGW hsz1 (fun b hb => ⟨by have := hb.2; omega, fun ⟨id, hid⟩ => hb.1.2 id hid⟩) (fun b ⟨id, hid⟩ => by have := (S0.bnd id b hid).1; omega)
  (by
   refine ⟨hcaps.1, fun i v u h1 h2 => ?_⟩
   exact (hcaps.2 i v u h1 h2).mono fun b hb hlt => ⟨⟨hb, hlt⟩, hlow b hlt⟩) hA hR ⟨x0, ι0, im0, h0, C0⟩
 refine ⟨w.heap.size + 1, [{ target := .collected w.heap.size, args := #[] }], W1, { target := .fn (.func gf) us, args := #[.func (.yield (w.heap.size + 1)) #[] #[]] }, W1, gf,
  #[.func (.yield (w.heap.size + 1)) #[] #[]] ++ us, W1, ?_, ?_, ?_, ?_, fun h => by simp [WF, Fence.wide] at h, ?_⟩
 ·rw [← hW1, hrec]; exact run_enterLoop_outer _ _ _ _ _
 ·simp only [resolve, hgu]
  simp [go_sem]
 ·intro f' _; trivial
 ·simp [invoke, go_sem, hit.1]
 ·refine CallsIn.mono (gn _ hcall) ?_
  rintro e w3 ⟨⟨v, rfl⟩, nn, im', φ', hn, hJ⟩
  have hm1 : (⟨d0 + 1, k0, π⟩ : MM).d = a.defers.length + 1 := by rw [hd0]
  rcases hn with rfl | rfl
  ·obtain ⟨y, ι, imc, hi, C⟩ := hJ
   have := run_endLoop (P := P) C.rc (by rw [hrec]; simp)
   rw [hrec] at this
   refine ⟨none, _, this, _, hdone y hi, hN, B, ι, hBB, ?_⟩
   exact C.back hm1 (fun p hp => List.mem_map.2 ⟨p.1, hπ p hp, by rw [hβ p hp]⟩) hsz S0.os S0.tape S0.output S0.glob _
  ·obtain ⟨c, hl, ι, imc, C, hc⟩ := hJ
   have := run_endLoop (P := P) C.rc (by rw [hrec]; simp)
   rw [hrec] at this
   have hpost : ∀ L4, eJ 𝔅 N (mk tl hl ⟨d0 + 1, k0, π⟩) { a with defers := [{ target := Target.collected w.heap.size, args := #[] }] ++ a.defers } (w3.putObj (w.heap.size + 1) (.loop L4)) := fun L4 => ⟨hN, B, ι, hBB, C.back hm1 (fun p hp => List.mem_map.2 ⟨p.1, hπ p hp, by rw [hβ p hp]⟩) hsz S0.os S0.tape S0.output S0.glob L4⟩
   refine ⟨some c, _, this, ?_⟩
   rcases hc with ⟨rfl, hQ⟩ | ⟨j, rfl, hQ⟩
   ·exact wpIn_ret ⟨_, hQ, hpost _⟩
   ·exact wpIn_exit ⟨_, hQ, hpost _⟩
theorem tO {g : Operand} {ps : Array Tmp} {assign body : Code} {α : Type} {gf : FuncId} {caps : List V} {xs : List (List V)} (hit : qI P gf caps xs) (hps : ∀ x, x ∈ xs → x.length = ps.size)
 (tl : List (Nat × D)) (ids : List Nat) (st : α → List (Nat × Blk)) (inv : Nat → α → Prop) (x0 : α) (d0 k0 : Nat) (h0 : inv 0 x0) (hle : Le s (mk tl (st x0) ⟨d0, k0, []⟩)) (hg : (mk tl (st x0) ⟨d0, k0, []⟩).ev g = some (.v (.fn (.func gf) [] caps)))
 (htl : (tl.all fun p => p.2.fixed ids) = true) (hpo : Eb N ps.toList tl = true) (hbox : ∀ y, kf ids (st y) = true)
 (hround : ∀ (l : Nat) (β : Nat → Nat) k x y, xs[k]? = some x → inv k y → ∀ 𝔅1, Wp P (some l) N 𝔅1 assign (oA (fun s' => s'.m.d = 0 ∧ ∀ 𝔅2, Wp P (some l) N 𝔅2 body (rh tl ids st inv Q ⟨d0 + 1, k0, []⟩ β k) s') (fun _ _ => False)) (mk (pg ps.toList x ++ tl) (st y) ⟨0, 0, cK ids β⟩))
 (hdone : ∀ y, inv xs.length y → Q .normal (mk tl (st y) ⟨d0 + 1, k0, []⟩)) : Wp P none N 𝔅 (.rangeFunc g ps assign body) Q s :=
 xv hit hps tl ids st inv x0 d0 k0 [] (by simp) h0 hle hg htl hpo hbox (fun l β k x y h1 h2 _ => hround l β k x y h1 h2) hdone
theorem Dl {f : FuncId} {fn : Func} {c : Code} {caps : List V} {xs : List (List V)} {N : Nat} (hf : P.funcs[f]? = some fn) (hb : fn.body = some c) (hn : (fn.name == "runtime.NumGoroutine") = false) (hN : fn.ntmps = N) (hrs : fn.results = #[])
 (tl : Nat → List (Nat × D)) (ht : ∀ l, HasT (ry l caps) (tl l)) (hlen : Nat.ble (caps.length + 1) N = true) (hi : ∀ l, ((tl l).all fun p => p.2.inn []) = true)
 (h : ∀ 𝔅 l, rO P 𝔅 l xs → Wp P none N 𝔅 c (uH xs.length) (mk (tl l) [] ⟨0, 1, []⟩)) : qI P f caps xs :=
 ve hf hb (cJ hf hb hn) hN hlen hrs fun 𝔅 l hy => cT (tl l) [] (ht l) trivial rfl (hi l) rfl rfl (h 𝔅 l hy)
theorem fO {bid id e sz j : Nat} {cs : List D} (hb : s.h bid = .box cs) (hj : cs[j]? = some .nils) (hr : s.h id = .res) (hsz : 0 < sz) :
 Le s { s with h := d8 (d8 s.h id (.row e sz [])) bid (.box (cs.set j (.own id))) } := by
 refine ⟨rfl, fun B ι a w S => ?_⟩
 have hne : bid ≠ id := fun he => by rw [he, hr] at hb; cases hb
 obtain ⟨S', _⟩ := S.fresh (w' := w) hr (.row none 0 0) (.row e sz []) (fun b h => by cases h) rfl rfl rfl (Nat.le_refl _) (fun _ _ => rfl) (fun _ => ⟨hsz, by simp, .inl ⟨rfl, rfl⟩⟩)
 refine ⟨_, S'.os, S'.tape, S'.output, S'.size, S'.frame, S'.inj, S'.bnd, fun k => ?_, S'.tmps, S'.marks, S'.pins, S'.defs, S'.glob⟩
 by_cases hk : k = bid
 ·subst hk
  have h1 := S'.blks k
  simp only [aN _ _ hne] at h1
  rw [hb] at h1
  obtain ⟨b, arr, ty, h2, h3, h4, h5⟩ := h1
  simp only [aE, aN _ _ hne]
  refine ⟨b, arr, ty, h2, h3, by simpa using h4, fun i d u hd hu => ?_⟩
  by_cases hij : i = j
  ·subst hij
   have hlt : i < cs.length := (List.getElem?_eq_some_iff.1 hj).1
   rw [List.getElem?_set_self hlt] at hd
   cases hd
   have := (h5 i .nils u hj hu).nils_inv
   refine .own id u (by rw [aE]; simp) (fun g n c h => ?_)
   rw [aE] at h
   cases h; exact this
  ·rw [List.getElem?_set_ne (Ne.symm hij)] at hd
   exact h5 i d u hd hu
 ·have h1 := S'.blks k
  simp only [aN _ _ hk]
  exact h1
end
end Go.Vd
namespace Go.Vd
open Go.RowKit
section
variable {F : Fence} {n : Nat} {P : Program} {Q : Exit → Act → World → Prop} {a : Act} {w : World}
def E0 (Q : Exit → Act → World → Prop) : Exit → Act → World → Prop
 | .goto _, _, _ => False
 | e, a, w => Q e a w
theorem ga {b : Frame} {k : List Item} {cs : List Frame} {c : Code} : step P (lone (b.atR a (.code (.scope c) :: k)) cs w) = .next (lone (b.atR a (.code c :: .inScope c :: k)) cs w) :=
 step_lone_go (by simp [stepG, stepG.exec, Frame.atR])
theorem pY {b : Frame} {k : List Item} {cs : List Frame} {c : Code} : step P (lone (b.atR a (.inScope c :: k)) cs w) = .next (lone (b.atR a k) cs w) :=
 step_lone_go (by simp [stepG, stepG.exec, Frame.atR])
theorem vO {c : Code} (h : c.wpIn F n P (E0 Q) a w) : (Code.scope c).wpIn F n P Q a w := by
 intro b k cs hro hb hr
 have h0 : (lone (b.atR a (.code (.scope c) :: k)) cs w).fenced P F := fenced_calm hb hr rfl
 obtain ⟨e, a₁, w₁, hq, harr⟩ := h b (.inScope c :: k) cs hro hb hr
 cases e with
 | normal => exact ⟨.normal, a₁, w₁, hq, .head h0 ga (StepsIn.trans harr (.one (fenced_calm hb hr rfl) pY))⟩
 | exit id =>
   have hx : exitTo id (.inScope c :: k) = exitTo id k := by simp [exitTo]
   exact ⟨.exit id, a₁, w₁, hq, fun k' hk => .head h0 ga (harr.1 k' (by rw [hx]; exact hk)),
    fun hr' hk => let ⟨k₁, h1, h2⟩ := harr.2 hr' (by rw [hx]; exact hk); ⟨k₁, h1, .head h0 ga h2⟩⟩
 | goto l => exact hq.elim
 | ret => exact ⟨_, a₁, w₁, hq, .of_steps (.one h0 ga) harr⟩
 | panic ch => exact ⟨_, a₁, w₁, hq, .of_steps (.one h0 ga) harr⟩
 | outgrown => exact ⟨_, a₁, w₁, hq, .of_steps (.one h0 ga) harr⟩
end
def Hd (Q : Exit → St → Prop) : Exit → St → Prop
 | .goto _, _ => False
 | e, s => Q e s
section
variable {P : Program} {tab : kt} {r : Option Nat} {N : Nat} {B : BB} {Q : Exit → St → Prop} {s : St}
theorem zv {c : Code} (h : Wp P r N B c (Hd Q) s) : Wp P r N B (.scope c) Q s := fun a w n hp =>
 vO (wpIn_mono (h a w n hp) fun e a' w' ⟨s', h1, h2⟩ => by
  cases e with
  | goto l => exact h1.elim
  | _ => exact ⟨s', h1, h2⟩)
theorem oM (h : Q .ret s) : Hd Q .ret s := h
end
theorem PRow.toCall {P : Program} {f : FuncId} {ds : List V} {e sz : Nat} {es : List (List V)} (h : PRow P f ds e sz es) : PCall P f ds (.sl es) :=
 ⟨h.1, fun w im us hG hp => Calls.mono (h.2 w im us hG hp) fun _ _ ⟨g, cap, h1, h2, h3, h4⟩ => ⟨_, h1, h2, h4.row_repV (fun b hb => .inr (h3 b (by simpa [Con.blk] using hb))) (fun b hb => hb.1) _ (fun g' n c hc => by cases hc; rfl)⟩⟩
def H3 (xs : List Int) : ByteArray := xs.foldl (fun r n => r.push (UInt8.ofNat n.toNat)) ByteArray.empty
section
variable {P : Program} {tab : kt} {r : Option Nat} {𝔅 : BB} {ops : List Oper} {lab : Option hY} {i : Nat} {o : Oper} {rest : List Oper} {tl : List (Nat × D)} {hl : List (Nat × Blk)} {m : MM} {K : St → Prop} {k : Nat} {s : St}
end
end Go.Vd
namespace Go.Vd
open Go.RowKit
def wv (T : Nat) (p e : Int) : Value := .iface T (.agg #[.int .i64 p, .int .i64 e])
def HL (T : Nat) (ch : List PanicEntry) : Prop := ∃ p e, e ≠ 0 ∧ ch = [{ v := wv T p e, recovered := false }]
def kB : Nat → List D → List (Nat × D)
 | _, [] => []
 | i, d :: r => (i, d) :: kB (i + 1) r
def cL : List (Nat × Blk) → List Nat
 | [] => []
 | (i, .box _) :: r => i :: cL r
 | (i, .tbox _ _) :: r => i :: cL r
 | (_, _) :: r => cL r
inductive sq where
 | ret (r : D) (L : List (Nat × Blk))
 | pan (T : Nat)
abbrev cb (L : List (Nat × Blk)) : List Nat := L.map (·.1)
def va (w : World) (im : Nat → Prop) (ι : Nat → Con) (β : Nat → Nat) (L : List (Nat × Blk)) : sq → Ending → World → Prop
 | .ret r L', e, w' => ∃ u ι', e = .returned u ∧ Sim ⟨w, im, bI ι⟩ (mk [(0, r)] L' ⟨0, 0, cK (cL L) β⟩) ι' ⟨#[u], []⟩ w'
 | .pan T, e, w' => (∃ ch, e = .panicked ch ∧ HL T ch) ∧ w'.os = w.os ∧ w'.tape = w.tape ∧ w'.output = w.output ∧ w.heap.size ≤ w'.heap.size ∧ ∀ c, c < w.heap.size → ¬ bI ι c → w'.heap[c]? = w.heap[c]?
def dh (P : Program) (f : FuncId) (args : List D) (L : List (Nat × Blk)) (out : sq) : Prop :=
 (∀ a w, (callFunc f a).run P w = .ok (.enter f a) w) ∧
 ∀ (w : World) (im : Nat → Prop) (ι : Nat → Con) (β : Nat → Nat) (us : Array Value), Sim ⟨w, im, bI ι⟩ (mk (kB 0 args) L ⟨0, 0, cK (cL L) β⟩) ι ⟨us, []⟩ w → us.size = args.length →
   Calls P f us w (va w im ι β L out)
def lX (ds : List D) (r : D) : Prop := ds = [r] ∨ (ds.length ≠ 1 ∧ r = .tup ds) ∨ ∃ vs : List V, ds = vs.map .v ∧ vs.length ≠ 1 ∧ r = .v (.tup vs)
def mM (tab : kt) (rs : List ResultVar) (out : sq) (π : List (Nat × Nat)) : Exit → St → Prop
 | .ret, s => ∃ r L' ds, out = .ret r L' ∧ fM tab s rs = some ds ∧ lX ds r ∧ (∀ p ∈ L', s.h p.1 = p.2) ∧ r.inn (cb L') = true ∧ (L'.all fun p => p.2.inn (cb L')) = true ∧ s.m = ⟨0, 0, π⟩ ∧ (π.all fun p => (cb L').contains p.1) = true
 | .normal, s => ∃ r L' ds, out = .ret r L' ∧ fM tab s rs = some ds ∧ lX ds r ∧ (∀ p ∈ L', s.h p.1 = p.2) ∧ r.inn (cb L') = true ∧ (L'.all fun p => p.2.inn (cb L')) = true ∧ s.m = ⟨0, 0, π⟩ ∧ (π.all fun p => (cb L').contains p.1) = true
 | .panic ch, s => ∃ T, out = .pan T ∧ HL T ch ∧ s.m.d = 0
 | _, _ => False
section
variable {P : Program} {tab : kt}
theorem vQ {w : World} {im : Nat → Prop} {ι : Nat → Con} {ds : List D} {us : List Value} {r : D} (h : lX ds r) (p : PW (RepD w im ι) ds us) : RepD w im ι r (ic us) := by
 rcases h with rfl | ⟨h1, rfl⟩ | ⟨vs, rfl, h1, rfl⟩
 ·match us, p with
  | [u], p => exact p.2 0 r u rfl rfl
  | [], p => have := p.1; simp at this
  | _ :: _ :: _, p => have := p.1; simp at this
 ·have hl := p.1
  unfold ic
  rw [dif_neg (by simp; omega)]
  exact .tup _ _ (by simpa using hl) (fun i v u a b => p.2 i v u a (by simpa using b))
 ·have hl := p.1
  simp only [List.length_map] at hl
  unfold ic
  rw [dif_neg (by simp; omega)]
  exact .v (.tup _ _ (by simpa using hl) (fun i v u a b => aA (p.2 i (.v v) u (by simp [a]) (by simpa using b))))
theorem cY (hT : bg P tab = true) {f : FuncId} {fn : Func} {c : Code} {args : List D} {L : List (Nat × Blk)} {out : sq} {N : Nat} {rs : List ResultVar} (hf : P.funcs[f]? = some fn) (hb : fn.body = some c) (hn : (fn.name == "runtime.NumGoroutine") = false)
 (hN : fn.ntmps = N) (hlen : Nat.ble args.length N = true) (hrs : fn.results = rs.toArray)
 (h : ∀ B β, Wp P none N (only B) c (mM tab rs out (cK (cL L) β)) (mk (kB 0 args) L ⟨0, 0, cK (cL L) β⟩)) : dh P f args L out := by
 refine ⟨cJ hf hb hn, fun w im ι β us S hsz => ?_⟩
 have hlen' := Nat.le_of_ble_eq_true hlen
 have S0 : Sim ⟨w, im, bI ι⟩ (mk (kB 0 args) L ⟨0, 0, cK (cL L) β⟩) ι { tmps := us ++ Array.replicate (fn.ntmps - us.size) undef, defers := [] } w := { S with
  tmps := fun n d hn => by
   obtain ⟨u, h1, h2⟩ := S.tmps n d hn
   refine ⟨u, ?_, h2⟩
   have : n < us.size := (Array.getElem?_eq_some_iff.1 h1).1
   rw [Array.getElem?_append_left this]; exact h1
  marks := rfl, defs := fun d hd => by cases hd }
 have hwp := h ⟨w, im, bI ι⟩ β _ w 0 ⟨by simp [hN]; omega, _, ι, rfl, S0⟩
 refine (callsIn_wide (n := 0)).1 (callsIn_of_wp (F := WF none) hf hb trivial (wpIn_mono hwp ?_) rfl)
 rintro e a2 w2 ⟨s2, hq, hN2, B2, ι2, hB2, S2⟩
 cases (show B2 = _ from hB2)
 have fin : (∃ r L' ds, out = .ret r L' ∧ fM tab s2 rs = some ds ∧ lX ds r ∧ (∀ p ∈ L', s2.h p.1 = p.2) ∧ r.inn (cb L') = true ∧ (L'.all fun p => p.2.inn (cb L')) = true ∧ s2.m = ⟨0, 0, cK (cL L) β⟩ ∧ ((cK (cL L) β).all fun p => (cb L').contains p.1) = true) →
  a2.defers = [] ∧ ∃ v, (results fn a2.tmps).run P w2 = .ok v w2 ∧ va w im ι β L out (.returned v) w2 := by
  rintro ⟨r, L', ds, rfl, h1, h2, h3, h4, h5, h6, h7⟩
  have hd : a2.defers = [] := List.eq_nil_of_length_eq_zero (by rw [S2.marks, h6])
  obtain ⟨us', h8, h9⟩ := kU hT S2 h1
  have hr := vQ h2 h9
  have he : results fn a2.tmps = (do let vs ← rs.toArray.mapM (pH a2.tmps); pure (if h : vs.size = 1 then vs[0] else .tuple vs)) := by rw [← hrs]; rfl
  refine ⟨hd, ic us', ?_, ?_⟩
  ·rw [he, List.mapM_toArray]
   simp only [Sem.run_bind, Sem.run_map, h8, Result.andThen_ok, Sem.run_pure, ic]
  ·have Sg : Sim ⟨w, im, bI ι⟩ { s2 with t := d8 (fun _ => none) a2.tmps.size (some r) } ι2 { a2 with tmps := a2.tmps.push (ic us') } w2 := { S2 with
    tmps := fun n d hn => by
     by_cases hnn : n = a2.tmps.size
     ·subst hnn
      rw [show ({ s2 with t := d8 (fun _ => none) a2.tmps.size (some r) } : St).t a2.tmps.size = some r from aE (fun _ => none) a2.tmps.size (some r)] at hn
      cases hn
      exact ⟨_, by simp, hr⟩
     ·rw [show ({ s2 with t := d8 (fun _ => none) a2.tmps.size (some r) } : St).t n = none from aN (fun _ => none) (some r) hnn] at hn; cases hn }
   obtain ⟨ι3, S3⟩ := (wV (s := { s2 with t := d8 (fun _ => none) a2.tmps.size (some r) }) (tl := [(a2.tmps.size, r)]) (hl := L') (m := ⟨0, 0, cK (cL L) β⟩) (fun p hp => by
    simp only [List.mem_singleton] at hp; subst hp; exact aE (fun _ => none) a2.tmps.size (some r)) h3 h6 (by simp [h4]) h5 h7).2 _ ι2 _ w2 Sg
   refine ⟨_, ι3, rfl, { S3 with tmps := fun n d hn => ?_, marks := rfl, defs := fun d hd => by cases hd }⟩
   have hn' : (bif Nat.beq n 0 then some r else none) = some d := hn
   cases hb : Nat.beq n 0 with
   | false => rw [hb] at hn'; cases hn'
   | true =>
     rw [hb] at hn'
     have := Nat.eq_of_beq_eq_true hb
     subst this
     cases hn'
     obtain ⟨u, h10, h11⟩ := S3.tmps a2.tmps.size r (by show (bif Nat.beq a2.tmps.size a2.tmps.size then some r else none) = some r; simp)
     refine ⟨ic us', rfl, ?_⟩
     have h12 : ({ a2 with tmps := a2.tmps.push (ic us') } : Act).tmps[a2.tmps.size]? = some (ic us') := by simp
     rw [h12] at h10; cases h10; exact h11
 cases e with
 | ret => exact fin hq
 | normal => exact fin hq
 | panic ch =>
   obtain ⟨T, rfl, h1, h2⟩ := hq
   exact ⟨List.eq_nil_of_length_eq_zero (by rw [S2.marks, h2]), ⟨ch, rfl, h1⟩, S2.os, S2.tape, S2.output, S2.size, fun c hc ho => S2.frame c hc ho⟩
 | exit j => exact hq.elim
 | goto j => exact hq.elim
 | outgrown => exact hq.elim
end
end Go.Vd
namespace Go.Vd
open Go.RowKit
theorem vB {α : Type} : ∀ {c d : List (Nat × α)} {n : Nat}, lk c n = none → lk (c ++ d) n = lk d n
 | [], _, _, _ => rfl
 | (j, x) :: c, d, n, h => by
  simp only [lk, List.cons_append] at h ⊢
  cases hb : Nat.beq n j with
  | true => rw [hb] at h; cases h
  | false => rw [hb] at h; simp only [cond_false] at h ⊢; exact vB h
theorem kI {α : Type} : ∀ {c d : List (Nat × α)} {n : Nat} {x : α}, lk c n = some x → lk (c ++ d) n = some x
 | [], _, _, _, h => by cases h
 | (j, y) :: c, d, n, x, h => by
  simp only [lk, List.cons_append] at h ⊢
  cases hb : Nat.beq n j with
  | true => rw [hb] at h; exact h
  | false => rw [hb] at h; exact kI (c := c) h
theorem BlkRel.keep {w : World} {im im' : Nat → Prop} {ι ι' : Nat → Con} {l : List Nat} (him : ∀ b, im b → im' b) (hι : ∀ id, l.contains id = true → ι' id = ι id) {b : Blk} {c : Con} (hbi : b.inn l = true) (h : BlkRel w im ι b c) : BlkRel w im' ι' b c := by
 cases b with
 | res => exact h
 | dead => exact h
 | box cs =>
   obtain ⟨bb, arr, ty, h2, h3, h4, h5⟩ := h
   exact ⟨bb, arr, ty, h2, h3, h4, fun i d u hd hu => (h5 i d u hd hu).keepIds him hι (eQ hbi hd)⟩
 | row e sz es =>
   obtain ⟨h2, h3, h4⟩ := h
   refine ⟨h2, h3, ?_⟩
   rcases h4 with h4 | ⟨g, cap, arr, h4, h5, h6, h7, h8, h9⟩
   ·exact .inl h4
   ·exact .inr ⟨g, cap, arr, h4, h5, h6, h7, h8, fun i j el v u a1 a2 a3 => (h9 i j el v u a1 a2 a3).mono fun b hb _ => ⟨him b hb, rfl⟩⟩
 | rowh e es id' =>
   obtain ⟨g, n, h2, h3, h4⟩ := h
   have hid : ι' id' = ι id' := hι id' hbi
   exact ⟨g, n, by rw [hid]; exact h2, by rw [hid]; exact h3, h4.mono (fun b hb _ => ⟨him b hb, rfl⟩) fun _ _ => rfl⟩
 | tbox T cs =>
   obtain ⟨bb, arr, h2, h3, h4, h5⟩ := h
   exact ⟨bb, arr, h2, h3, h4, fun i d u hd hu => (h5 i d u hd hu).keepIds him hι (eQ hbi hd)⟩
def fc (ι : Nat → Con) (L : List (Nat × Blk)) : Nat → Con := fun id => if (cb L).contains id then ι id else .res
def gG (ι : Nat → Con) (id : Nat) : Nat := match ι id with | .box b => b | _ => 0
theorem iS : ∀ {L : List (Nat × Blk)} {id : Nat}, id ∈ cL L → ∃ bk, (id, bk) ∈ L ∧ ((∃ cs, bk = .box cs) ∨ ∃ T cs, bk = .tbox T cs)
 | [], _, h => by cases h
 | (i, b) :: r, id, h => by
  cases b with
  | box cs =>
    rcases List.mem_cons.1 h with rfl | h
    ·exact ⟨_, List.mem_cons_self, .inl ⟨cs, rfl⟩⟩
    ·obtain ⟨bk, h', h2⟩ := iS h; exact ⟨bk, List.mem_cons_of_mem _ h', h2⟩
  | tbox T cs =>
    rcases List.mem_cons.1 h with rfl | h
    ·exact ⟨_, List.mem_cons_self, .inr ⟨T, cs, rfl⟩⟩
    ·obtain ⟨bk, h', h2⟩ := iS h; exact ⟨bk, List.mem_cons_of_mem _ h', h2⟩
  | _ => obtain ⟨bk, h', h2⟩ := iS (L := r) h; exact ⟨bk, List.mem_cons_of_mem _ h', h2⟩
theorem xb {B : dt} {s : St} {ι : Nat → Con} {a : Act} {w : World} (S : Sim B s ι a w) {id : Nat} {bk : Blk} (h : s.h id = bk) (hb : (∃ cs, bk = .box cs) ∨ ∃ T cs, bk = .tbox T cs) : ∃ b arr ty, ι id = .box b ∧ w.heap[b]? = some (.cells arr ty (0, 0)) := by
 have h1 := S.blks id
 rw [h] at h1
 rcases hb with ⟨cs, rfl⟩ | ⟨T, cs, rfl⟩
 ·obtain ⟨b, arr, ty, h2, h3, _⟩ := h1; exact ⟨b, arr, ty, h2, h3⟩
 ·obtain ⟨b, arr, h2, h3, _⟩ := h1; exact ⟨b, arr, T, h2, h3⟩
theorem tW : ∀ {ds : List D} {i n : Nat} {d : D}, lk (kB i ds) n = some d → ∃ j, n = i + j ∧ ds[j]? = some d
 | [], _, _, _, h => by cases h
 | x :: r, i, n, d, h => by
   simp only [kB, lk] at h
   cases hb : Nat.beq n i with
   | true => rw [hb] at h; simp at h; exact ⟨0, Nat.eq_of_beq_eq_true hb, by simp [h]⟩
   | false =>
     rw [hb] at h
     obtain ⟨j, h1, h2⟩ := tW (ds := r) (i := i + 1) (by simpa using h)
     exact ⟨j + 1, by omega, by simpa using h2⟩
theorem ED {L : List (Nat × Blk)} {p : Nat × Blk} (h : p ∈ L) : (cb L).contains p.1 = true := by
 rw [List.contains_iff_mem]; exact List.mem_map.2 ⟨p, h, rfl⟩
section
variable {B : dt} {s : St} {ι : Nat → Con} {a : Act} {w : World}
theorem jJ {L : List (Nat × Blk)} {id : Nat} (h : (cb L).contains id = true) : fc ι L id = ι id := if_pos h
theorem fy {L : List (Nat × Blk)} {id b : Nat} (h : (fc ι L id).blk = some b) : (cb L).contains id = true ∧ (ι id).blk = some b := by
 cases hc : (cb L).contains id with
 | true => rw [jJ hc] at h; exact ⟨rfl, h⟩
 | false => rw [show fc ι L id = .res from if_neg (by rw [hc]; simp)] at h; cases h
theorem kD (S : Sim B s ι a w) {args : List D} {us : Array Value} {L : List (Nat × Blk)} (hus : PW (RepD w (cx B ι) ι) args us.toList) (hL : ∀ p ∈ L, s.h p.1 = p.2) (hc : (args.all fun d => d.inn (cb L)) = true) (hcl : (L.all fun p => p.2.inn (cb L)) = true) :
 Sim ⟨w, cx B ι, bI (fc ι L)⟩ (mk (kB 0 args) L ⟨0, 0, cK (cL L) (gG ι)⟩) (fc ι L) ⟨us, []⟩ w := by
 have him : ∀ b, cx B ι b → cx ⟨w, cx B ι, bI (fc ι L)⟩ (fc ι L) b := fun b hb => ⟨.inl hb, fun id h => hb.2 id (fy h).2⟩
 refine ⟨rfl, rfl, rfl, Nat.le_refl _, fun _ _ _ => rfl, fun id id' b h h' => S.inj id id' b (fy h).2 (fy h').2, fun id b h => ⟨(S.bnd id b (fy h).2).1, .inr ⟨id, h⟩⟩, fun id => ?_, fun n d hn => ?_, rfl, fun p hp => ?_, (fun d hd => by cases hd), ⟨S.globW, fun b ⟨id, hb⟩ => S.glob9 (fy hb).2⟩⟩
 ·show BlkRel w _ _ ((lk L id).getD .res) _
  cases hk : lk L id with
  | none =>
    have := jY hk
    rw [show fc ι L id = .res from if_neg (by rw [show (cb L).contains id = false from this]; simp)]; rfl
  | some b =>
    have hin := fT hk
    rw [jJ hin]
    have h1 := S.blks id
    rw [hL (id, b) (eM hk)] at h1
    exact h1.keep him (fun id h => jJ h) (List.all_eq_true.1 hcl (id, b) (eM hk))
 ·obtain ⟨j, rfl, h1⟩ := tW hn
  have hlt : j < us.size := by have := hus.1; have := (List.getElem?_eq_some_iff.1 h1).1; simp at *; omega
  refine ⟨us[j], by simp [hlt], ?_⟩
  exact (hus.2 j d us[j] h1 (by simp [hlt])).keepIds him (fun id h => jJ h) (List.all_eq_true.1 hc d (List.mem_of_getElem? h1))
 ·obtain ⟨i, hi, rfl⟩ := List.mem_map.1 hp
  obtain ⟨bk, hm, hbk⟩ := iS hi
  obtain ⟨b, arr, ty, h1, _⟩ := xb S (hL _ hm) hbk
  refine .inl ?_
  show fc ι L i = .box (gG ι i)
  rw [jJ (ED hm), h1, gG, h1]
theorem zW (S : Sim B s ι a w) {w' : World} {L L' keep : List (Nat × Blk)} {ι1 : Nat → Con} {r : D} {u : Value} {tl' : List (Nat × D)} {k : Nat} {m : MM} (hm : s.m = m)
 (S1 : Sim ⟨w, cx B ι, bI (fc ι L)⟩ (mk [(0, r)] L' ⟨0, 0, cK (cL L) (gG ι)⟩) ι1 ⟨#[u], []⟩ w') (hL : ∀ p ∈ L, s.h p.1 = p.2)
 (hbox : ((cL L).all fun i => zl (lk L' i)) = true) (hnd : (keep.all fun p => !(cb L).contains p.1 && !(cb L').contains p.1) = true)
 (hkeep : ∀ p ∈ keep, s.h p.1 = p.2) (ht : ∀ p ∈ tl', s.t p.1 = some p.2) (hci : (tl'.all fun p => p.2.inn (cb keep ++ cL L)) = true) (hcj : (keep.all fun p => p.2.inn (cb keep ++ cL L)) = true)
 (hr : r.inn (cb L') = true) (hrl : (L'.all fun p => p.2.inn (cb L')) = true) (hp : (m.pins.all fun p => (cb keep ++ cL L).contains p.1) = true) (hk : k < a.tmps.size) :
 ∃ ι', Sim B (mk ((k, r) :: tl') (L' ++ keep) m) ι' (a.put (some k) u) w' := by
 let ι' : Nat → Con := fun id => if (cb L').contains id then ι1 id else if (cb keep).contains id then ι id else .res
 have f1 : ∀ id, (cb L').contains id = true → ι' id = ι1 id := fun id h => if_pos h
 have disj : ∀ id, (cb keep).contains id = true → (cb L).contains id = false ∧ (cb L').contains id = false := fun id h => by
  rw [List.contains_iff_mem] at h
  obtain ⟨p, hp, rfl⟩ := List.mem_map.1 h
  have := List.all_eq_true.1 hnd p hp
  simp only [Bool.and_eq_true, Bool.not_eq_true'] at this
  exact this
 have f2 : ∀ id, (cb keep).contains id = true → ι' id = ι id := fun id h => by
  show (if _ then _ else if _ then _ else _) = _
  rw [(disj id h).2, if_neg (by simp), if_pos h]
 have f3 : ∀ id, (cb L').contains id = false → (cb keep).contains id = false → ι' id = .res := fun id h h' => by
  show (if _ then _ else if _ then _ else _) = _
  rw [h, h', if_neg (by simp), if_neg (by simp)]
 have own : ∀ id b, (ι' id).blk = some b → ((cb L').contains id = true ∧ (ι1 id).blk = some b) ∨ ((cb keep).contains id = true ∧ (ι id).blk = some b) := fun id b h => by
  cases h1 : (cb L').contains id with
  | true => rw [f1 id h1] at h; exact .inl ⟨rfl, h⟩
  | false =>
    cases h2 : (cb keep).contains id with
    | true => rw [f2 id h2] at h; exact .inr ⟨rfl, h⟩
    | false => rw [f3 id h1 h2] at h; cases h
 have low : ∀ b, bI (fc ι L) b → ∃ j, (cb L).contains j = true ∧ (ι j).blk = some b := fun b ⟨j, hj⟩ => ⟨j, fy hj⟩
 have nolow : ∀ id b, (cb keep).contains id = true → (ι id).blk = some b → ¬ bI (fc ι L) b := fun id b h h' ho => by
  obtain ⟨j, h1, h2⟩ := low b ho
  have := S.inj j id b h2 h'
  subst this
  rw [(disj j h).1] at h1; cases h1
 have hbx : ∀ id, id ∈ cL L → ι' id = ι id := fun id h => by
  obtain ⟨bk, hm', hbk⟩ := iS h
  obtain ⟨b, _, _, h1, _⟩ := xb S (hL _ hm') hbk
  have h2 := List.all_eq_true.1 hbox id h
  cases hk2 : lk L' id with
  | none => rw [hk2] at h2; cases h2
  | some bb =>
    rw [f1 id (fT hk2)]
    have h4 := S1.pins (id, gG ι id) (List.mem_map.2 ⟨id, h, rfl⟩)
    have h5 : gG ι id = b := by rw [gG, h1]
    rcases h4 with h4 | h4
    ·rw [show ι1 id = .box (gG ι id) from h4, h5, h1]
    ·exfalso
     have h6 := S1.blks id
     rw [show (mk [(0, r)] L' ⟨0, 0, cK (cL L) (gG ι)⟩).h id = bb by show (lk L' id).getD .res = bb; rw [hk2]; rfl, show ι1 id = .dead from h4] at h6
     rw [hk2] at h2
     cases bb with
     | box cs2 => obtain ⟨_, _, _, h7, _⟩ := h6; cases h7
     | _ => cases h2
 have hkk : ∀ id, (cb keep ++ cL L).contains id = true → ι' id = ι id := fun id h => by
  rw [List.contains_iff_mem] at h
  rcases List.mem_append.1 h with h | h
  ·exact f2 id (by rw [List.contains_iff_mem]; exact h)
  ·exact hbx id h
 have hA : ∀ b, cx ⟨w, cx B ι, bI (fc ι L)⟩ ι1 b → cx B ι' b := fun b hb => by
  refine ⟨?_, fun id hid => ?_⟩
  ·rcases hb.1 with h | h | h
   ·exact h.1
   ·exact .inr (.inl (Nat.le_trans S.size h))
   ·obtain ⟨j, _, h2⟩ := low b h
    rcases (S.bnd j b h2).2 with h3 | h3
    ·exact .inr (.inl h3)
    ·exact .inr (.inr h3)
  ·rcases own id b hid with ⟨_, h2⟩ | ⟨h1, h2⟩
   ·exact hb.2 id h2
   ·rcases hb.1 with h | h | h
    ·exact h.2 id h2
    ·have := (S.bnd id b h2).1
     have : w.heap.size ≤ b := h
     omega
    ·exact nolow id b h1 h2 h
 have hun : ∀ b, b < w.heap.size → ¬ bI (fc ι L) b → w'.heap[b]? = w.heap[b]? := fun b h1 h2 => S1.frame b h1 h2
 have hK : ∀ b, cx B ι b → b < w.heap.size → cx B ι' b ∧ w'.heap[b]? = w.heap[b]? := fun b hb hlt => by
  have hno : ¬ bI (fc ι L) b := fun h => by obtain ⟨j, _, h2⟩ := low b h; exact hb.2 j h2
  refine ⟨⟨hb.1, fun id hid => ?_⟩, hun b hlt hno⟩
  rcases own id b hid with ⟨_, h2⟩ | ⟨_, h2⟩
  ·rcases (S1.bnd id b h2).2 with h | h
   ·have : w.heap.size ≤ b := h
    omega
   ·exact hno h
  ·exact hb.2 id h2
 refine ⟨ι', S1.os.trans S.os, S1.tape.trans S.tape, S1.output.trans S.output, Nat.le_trans S.size S1.size, fun b hb hno => ?_, fun id id' b h h' => ?_, fun id b h => ?_, fun id => ?_, fun n d hn => ?_, ?_, fun p hpp => ?_, fun d hd => ?_, S.glob⟩
 ·rw [hun b (Nat.lt_of_lt_of_le hb S.size) fun ho => ?_]
  ·exact S.frame b hb hno
  ·obtain ⟨j, _, h2⟩ := low b ho
   rcases (S.bnd j b h2).2 with h3 | h3
   ·omega
   ·exact hno h3
 ·rcases own id b h with ⟨_, h2⟩ | ⟨h1, h2⟩ <;> rcases own id' b h' with ⟨_, h4⟩ | ⟨h3, h4⟩
  ·exact S1.inj _ _ b h2 h4
  ·have h5 := (S.bnd id' b h4).1
   rcases (S1.bnd id b h2).2 with h | h
   ·have : w.heap.size ≤ b := h
    omega
   ·exact absurd h (nolow id' b h3 h4)
  ·have h5 := (S.bnd id b h2).1
   rcases (S1.bnd id' b h4).2 with h | h
   ·have : w.heap.size ≤ b := h
    omega
   ·exact absurd h (nolow id b h1 h2)
  ·exact S.inj _ _ b h2 h4
 ·rcases own id b h with ⟨_, h2⟩ | ⟨_, h2⟩
  ·refine ⟨(S1.bnd id b h2).1, ?_⟩
   rcases (S1.bnd id b h2).2 with h | h
   ·exact .inl (Nat.le_trans S.size h)
   ·obtain ⟨j, _, h4⟩ := low b h
    exact (S.bnd j b h4).2
  ·exact ⟨Nat.lt_of_lt_of_le (S.bnd id b h2).1 S1.size, (S.bnd id b h2).2⟩
 ·show BlkRel w' _ _ ((lk (L' ++ keep) id).getD .res) _
  cases hk1 : lk L' id with
  | some b =>
    rw [kI hk1, f1 id (fT hk1)]
    have h1 := S1.blks id
    rw [show (mk [(0, r)] L' ⟨0, 0, cK (cL L) (gG ι)⟩).h id = b by show (lk L' id).getD .res = b; rw [hk1]; rfl] at h1
    exact h1.keep hA f1 (List.all_eq_true.1 hrl (id, b) (eM hk1))
  | none =>
    rw [vB hk1]
    cases hk2 : lk keep id with
    | none => rw [f3 id (jY hk1) (jY hk2)]; rfl
    | some b =>
      have hin := fT hk2
      have h1 := S.blks id
      rw [hkeep (id, b) (eM hk2)] at h1
      have h2 := h1.mono (ι' := ι) hK (fun _ _ => .inl rfl) fun q hq => hun q (S.bnd id q hq).1 (nolow id q hin hq)
      rw [f2 id hin]
      exact h2.keep (fun _ h => h) hkk (List.all_eq_true.1 hcj (id, b) (eM hk2))
 ·have hn' : (bif Nat.beq n k then some r else lk tl' n) = some d := hn
  cases hb : Nat.beq n k with
  | true =>
    rw [hb] at hn'
    have := Nat.eq_of_beq_eq_true hb
    subst this
    cases hn'
    obtain ⟨u1, h1, h2⟩ := S1.tmps 0 r rfl
    have h3 : (#[u] : Array Value)[0]? = some u := rfl
    rw [h3] at h1; cases h1
    exact ⟨u, by simp [Act.put, hk], h2.keepIds hA f1 hr⟩
  | false =>
    rw [hb] at hn'
    have hmem := eM (show lk tl' n = some d from hn')
    obtain ⟨u1, h1, h2⟩ := S.tmps n d (ht (n, d) hmem)
    have hne : k ≠ n := fun e => by subst e; simp at hb
    refine ⟨u1, by simp [Act.put, Array.getElem?_setIfInBounds_ne hne, h1], ?_⟩
    exact (h2.mono (ι' := ι) hK fun _ _ => .inl rfl).keepIds (fun _ h => h) hkk (List.all_eq_true.1 hci (n, d) hmem)
 ·rw [← hm]; exact S.marks
 ·rw [hkk p.1 (List.all_eq_true.1 hp p hpp)]; exact S.pins p (by rw [hm]; exact hpp)
 ·obtain ⟨b, h1, h2, h3⟩ := S.defs d hd
  refine ⟨b, h1, h2, ?_⟩
  rw [hun b (Array.getElem?_eq_some_iff.1 h3).1 fun ho => ?_]
  ·exact h3
  ·obtain ⟨j, _, h4⟩ := low b ho
   obtain ⟨c, t, f, h5⟩ := S.own_cells h4
   rw [h3] at h5; cases h5
theorem tD (S : Sim B s ι a w) {w' : World} {L keep : List (Nat × Blk)} {tl' : List (Nat × D)} {m : MM} (hm : s.m = m)
 (h1 : w'.os = w.os) (h2 : w'.tape = w.tape) (h3 : w'.output = w.output) (h4 : w.heap.size ≤ w'.heap.size) (h5 : ∀ c, c < w.heap.size → ¬ bI (fc ι L) c → w'.heap[c]? = w.heap[c]?)
 (hnd : (keep.all fun p => !(cb L).contains p.1) = true) (hkeep : ∀ p ∈ keep, s.h p.1 = p.2) (ht : ∀ p ∈ tl', s.t p.1 = some p.2) (hci : (tl'.all fun p => p.2.inn (cb keep)) = true) (hcj : (keep.all fun p => p.2.inn (cb keep)) = true)
 (hp : (m.pins.all fun p => (cb keep).contains p.1 || (cb L).contains p.1) = true) : ∃ ι', Sim B (mk tl' (keep ++ L.map fun p => (p.1, .dead)) m) ι' a w' := by
 let ι' : Nat → Con := fun id => if (cb keep).contains id then ι id else if (cb L).contains id then .dead else .res
 have f2 : ∀ id, (cb keep).contains id = true → ι' id = ι id := fun id h => if_pos h
 have disj : ∀ id, (cb keep).contains id = true → (cb L).contains id = false := fun id h => by
  rw [List.contains_iff_mem] at h
  obtain ⟨p, hp, rfl⟩ := List.mem_map.1 h
  have := List.all_eq_true.1 hnd p hp
  simpa using this
 have own : ∀ id b, (ι' id).blk = some b → (cb keep).contains id = true ∧ (ι id).blk = some b := fun id b h => by
  cases h2 : (cb keep).contains id with
  | true => rw [f2 id h2] at h; exact ⟨rfl, h⟩
  | false =>
    have : ι' id = if (cb L).contains id then .dead else .res := by show (if _ then _ else _) = _; rw [h2, if_neg (by simp)]
    rw [this] at h
    split at h <;> cases h
 have low : ∀ b, bI (fc ι L) b → ∃ j, (cb L).contains j = true ∧ (ι j).blk = some b := fun b ⟨j, hj⟩ => ⟨j, fy hj⟩
 have nolow : ∀ id b, (cb keep).contains id = true → (ι id).blk = some b → ¬ bI (fc ι L) b := fun id b h h' ho => by
  obtain ⟨j, h1, h2⟩ := low b ho
  have := S.inj j id b h2 h'
  subst this
  rw [disj j h] at h1; cases h1
 have hK : ∀ b, cx B ι b → b < w.heap.size → cx B ι' b ∧ w'.heap[b]? = w.heap[b]? := fun b hb hlt =>
  ⟨⟨hb.1, fun id hid => hb.2 id (own id b hid).2⟩, h5 b hlt fun h => by obtain ⟨j, _, h2⟩ := low b h; exact hb.2 j h2⟩
 refine ⟨ι', h1.trans S.os, h2.trans S.tape, h3.trans S.output, Nat.le_trans S.size h4, fun b hb hno => ?_, fun id id' b h h' => S.inj _ _ b (own id b h).2 (own id' b h').2, fun id b h => ⟨Nat.lt_of_lt_of_le (S.bnd id b (own id b h).2).1 h4, (S.bnd id b (own id b h).2).2⟩, fun id => ?_, fun n d hn => ?_, ?_, fun p hpp => ?_, fun d hd => ?_, S.glob⟩
 ·rw [h5 b (Nat.lt_of_lt_of_le hb S.size) fun ho => ?_]
  ·exact S.frame b hb hno
  ·obtain ⟨j, _, h2⟩ := low b ho
   rcases (S.bnd j b h2).2 with h3 | h3
   ·omega
   ·exact hno h3
 ·show BlkRel w' _ _ ((lk (keep ++ L.map fun p => (p.1, Blk.dead)) id).getD .res) _
  cases hk1 : lk keep id with
  | some b =>
    have hin := fT hk1
    rw [kI hk1, f2 id hin]
    have q1 := S.blks id
    rw [hkeep (id, b) (eM hk1)] at q1
    exact (q1.mono (ι' := ι) hK (fun _ _ => .inl rfl) fun q hq => h5 q (S.bnd id q hq).1 (nolow id q hin hq)).keep (fun _ h => h) f2 (List.all_eq_true.1 hcj (id, b) (eM hk1))
  | none =>
    rw [vB hk1]
    have e : ι' id = if (cb L).contains id then .dead else .res := by show (if _ then _ else _) = _; rw [show (cb keep).contains id = false from jY hk1, if_neg (by simp)]
    have e2 : ∀ (L : List (Nat × Blk)), lk (L.map fun p => (p.1, Blk.dead)) id = if (cb L).contains id then some .dead else none := by
     intro L
     induction L with
     | nil => rfl
     | cons p r ih =>
       simp only [List.map_cons, lk, cb, List.contains_cons] at ih ⊢
       cases hb : Nat.beq id p.1 with
       | true => have := Nat.eq_of_beq_eq_true hb; subst this; simp
       | false =>
         have hne : (id == p.1) = false := by
          simp only [beq_eq_false_iff_ne]; intro e; subst e; simp at hb
         rw [hne, Bool.false_or, ← ih]; rfl
    rw [e2 L, e]
    split <;> rfl
 ·have hmem := eM (show lk tl' n = some d from hn)
  obtain ⟨u1, q1, q2⟩ := S.tmps n d (ht (n, d) hmem)
  exact ⟨u1, q1, (q2.mono (ι' := ι) hK fun _ _ => .inl rfl).keepIds (fun _ h => h) f2 (List.all_eq_true.1 hci (n, d) hmem)⟩
 ·rw [← hm]; exact S.marks
 ·have q1 := List.all_eq_true.1 hp p hpp
  cases q2 : (cb keep).contains p.1 with
  | true => rw [f2 _ q2]; exact S.pins p (by rw [hm]; exact hpp)
  | false =>
    rw [q2, Bool.false_or] at q1
    refine .inr ?_
    show (if _ then _ else if _ then _ else _) = _
    rw [q2, q1, if_neg (by simp), if_pos rfl]
 ·obtain ⟨b, q1, q2, q3⟩ := S.defs d hd
  refine ⟨b, q1, q2, ?_⟩
  rw [h5 b (Array.getElem?_eq_some_iff.1 q3).1 fun ho => ?_]
  ·exact q3
  ·obtain ⟨j, _, h4⟩ := low b ho
   obtain ⟨c, t, f, h5⟩ := S.own_cells h4
   rw [q3] at h5; cases h5
end
end Go.Vd
namespace Go.Vd
open Go.RowKit
section
variable {P : Program} {tab : kt} {r : Option Nat} {𝔅 : BB} {ops : List Oper} {lab : Option hY} {i : Nat} {o : Oper} {rest : List Oper} {tl : List (Nat × D)} {hl : List (Nat × Blk)} {m : MM} {K : St → Prop} {k : Nat} {Q : Exit → St → Prop}
theorem tZ {B : dt} {s : St} {ι : Nat → Con} {a : Act} {w : World} (S : Sim B s ι a w) {args : Array Operand} {E : List (Operand × D)} {ds : List D} (hE : iT s args.toList = some E) (ha : E.map (·.2) = ds) : PW (RepD w (cx B ι) ι) ds (args.map a.eval).toList := by
 obtain ⟨hE1, hE2⟩ := cM hE
 subst ha
 rw [Array.toList_map, ← hE1]
 refine ⟨by simp, fun i d u hd hu => ?_⟩
 rw [List.getElem?_map] at hd
 cases he : E[i]? with
 | none => rw [he] at hd; cases hd
 | some p =>
   rw [he] at hd; cases hd
   rw [List.getElem?_map, List.getElem?_map, he] at hu
   cases hu
   exact S.ev (hE2 p (List.mem_of_getElem? he))
theorem er {f : FuncId} {x : Operand} {args : Array Operand} {ats : Array TypeId} {E : List (Operand × D)} {ds : List D} {L L' : List (Nat × Blk)} {r' : D} (tl' : List (Nat × D)) (keep : List (Nat × Blk)) (hp : dh P f ds L (.ret r' L'))
 (ho : o.op = .call { callee := .value x, args := args, argTypes := ats }) (hx : (mk tl hl m).ev x = some (.v (.fn (.func f) [] []))) (hE : iT (mk tl hl m) args.toList = some E) (ha : E.map (·.2) = ds)
 (hL : HasH (mk tl hl m) L) (hc : (ds.all fun d => d.inn (cb L)) = true) (hcl : (L.all fun p => p.2.inn (cb L)) = true) (hbox : ((cL L).all fun i => zl (lk L' i)) = true) (hnd : (keep.all fun p => !(cb L).contains p.1 && !(cb L').contains p.1) = true)
 (hkeep : HasH (mk tl hl m) keep) (ht : HasT (mk tl hl m) tl') (hci : (tl'.all fun p => p.2.inn (cb keep ++ cL L)) = true) (hcj : (keep.all fun p => p.2.inn (cb keep ++ cL L)) = true)
 (hr : r'.inn (cb L') = true) (hrl : (L'.all fun p => p.2.inn (cb L')) = true) (hpn : (m.pins.all fun p => (cb keep ++ cL L).contains p.1) = true) (hlab : lab = none) (hd : o.dst = some k) (hg : aQ ops (mk tl hl m) o.guard = some true)
 (h : aG P r 𝔅 ops lab (i + 1) rest (mk ((k, r') :: tl') (L' ++ keep) m) K) : aG P r 𝔅 ops lab i (o :: rest) (mk tl hl m) K := by
 refine .inr ⟨fun s' => s' = mk ((k, r') :: tl') (L' ++ keep) m, ⟨hlab, hg, fun N a w n Q ⟨hN, B, ι, hB, S⟩ hd' => ?_⟩, fun s' e => e ▸ h⟩
 refine ⟨fun _ _ => trivial, ?_⟩
 rw [Oper.semAt_eq _ _ _ (by rw [ho]; simp)]
 have hargs := tZ S hE ha
 have hfn := aA (S.ev hx)
 generalize hu : a.eval x = u at hfn
 cases hfn with
 | fn _ _ _ us ws hs1 hs2 hv1 hv2 =>
   have hus : us = #[] := Array.eq_empty_of_size_eq_zero (by simpa using hs1)
   have hws : ws = #[] := Array.eq_empty_of_size_eq_zero (by simpa using hs2)
   subst hus; subst hws
   have hrun : (execOp a.eval o).run P w = .ok (.enter f (args.map a.eval)) w := by
    simp [execOp, ho, resolve, hu, Deferred.ofValue, invoke, hp.1]
   rw [hrun]
   have S0 := kD S (L := L) hargs hL.all hc hcl
   refine ⟨fun h => by simp [WF, Fence.wide] at h, CallsIn.mono (gn _ (hp.2 w _ _ _ _ S0 (by simpa using hargs.1))) ?_⟩
   rintro e w' ⟨u', ι1, rfl, S1⟩
   obtain ⟨ι', S'⟩ := zW S rfl S1 hL.all hbox hnd hkeep.all ht.all hci hcj hr hrl hpn (k := k) (by rw [hN]; exact hd' k hd)
   exact ⟨_, rfl, by rw [eh]; exact hN, B, ι', hB, by rw [hd]; exact S'⟩
def rT (P : Program) (r : Option Nat) (𝔅 : BB) (ops : List Oper) (o : Oper) (s : St) (Q : Exit → St → Prop) : Prop :=
 aQ ops s o.guard = some true ∧ ∀ (N : Nat) (a : Act) (w : World) (n : Nat) (R : Exit → Act → World → Prop) (next : Act → World → Prop), eJ 𝔅 N s a w → (∀ ch s' a' w', Q (.panic ch) s' → eJ 𝔅 N s' a' w' → R (.panic ch) a' w') → o.wpIn (WF r) n P a w next R
theorem oR {N n : Nat} {R : Exit → Act → World → Prop} {l2 : List Nat} (hd : kL N ops = true) : ∀ (l : List Nat) (s : St) (K : St → Prop) (a : Act) (w : World), eJ 𝔅 N s a w →
 (∀ s' a' w', K s' → eJ 𝔅 N s' a' w' → wpOpsIn (WF r) n P ops.toArray R l2 a' w') → mm P r 𝔅 ops lab l s K → wpOpsIn (WF r) n P ops.toArray R (l ++ l2) a w
 | [], s, K, a, w, hp, hK, h => hK s a w h hp
 | i :: rest, s, K, a, w, hp, hK, ⟨o, ho, .inr ⟨S', ⟨_, hw, hst⟩, hrest⟩⟩ => by
   rw [List.cons_append, wpOpsIn_cons]
   have ho' : ops.toArray[i]? = some o := by simpa using ho
   have hdst := iU hd (List.mem_of_getElem? ho)
   unfold wpOpIn
   simp only [ho']
   obtain ⟨hN, B, ι, hB, S⟩ := hp
   rw [eq S hw, if_pos rfl]
   exact Oper.wpIn_mono (fun a' w' ⟨s', hs', hp'⟩ => oR hd rest s' K a' w' hp' hK (hrest s' hs')) (hst N a w n R ⟨hN, B, ι, hB, S⟩ hdst)
 | i :: rest, s, K, a, w, ⟨hN, B, ι, hB, S⟩, hK, ⟨o, ho, .inl ⟨s', hst, hrest⟩⟩ => by
   rw [List.cons_append, wpOpsIn_cons]
   have ho' : ops.toArray[i]? = some o := by simpa using ho
   have go : 𝔅 s'.m.k B → ∀ a' w', qE B N s' a' w' → wpOpsIn (WF r) n P ops.toArray R (rest ++ l2) a' w' := fun hB' a' w' ⟨h1, ι', h2⟩ => oR hd rest s' K a' w' ⟨h1, B, ι', hB', h2⟩ hK hrest
   have hdst := iU hd (List.mem_of_getElem? ho)
   have hm : ∀ (s : St) (d : Option Nat) (x : D), (s.put d x).m = s.m := fun s d x => by cases d <;> rfl
   unfold wpOpIn
   simp only [ho']
   rcases hst with ⟨hw, E, F, d, e, hs, hE, hF, _, rfl⟩ | ⟨hw, rfl⟩
   ·rw [eq S hw, if_pos rfl]
    exact Oper.wpIn_mono (go (by rw [hm]; exact hB)) (hs.snd s hE hF B N ι a w n R S hN hdst)
   ·rw [eq S hw, if_neg (by simp)]
    exact ⟨fun _ _ => trivial, go (by rw [hm]; exact hB) _ _ ⟨by rw [eh]; exact hN, ι, S.putAny (by rw [hN]; exact hdst) (.v (.tup [] #[] rfl (by simp)))⟩⟩
theorem jo : ∀ (l : List Oper) (i : Nat) (s : St) (K : St → Prop), (∀ j, j < l.length → l[j]? = ops[i + j]?) → aG P r 𝔅 ops lab i l s K → mm P r 𝔅 ops lab (List.range' i l.length) s K
 | [], _, _, _, _, h => h
 | o :: l, i, s, K, hl, h => by
   have hl' : ∀ j, j < l.length → l[j]? = ops[i + 1 + j]? := fun j hj => by have := hl (j + 1) (by simp; omega); simpa [Nat.add_assoc, Nat.add_comm 1 j] using this
   refine ⟨o, by simpa using (hl 0 (by simp)).symm, ?_⟩
   rcases h with ⟨s', h1, h2⟩ | ⟨S', h1, h2⟩
   ·exact .inl ⟨s', h1, jo l (i + 1) s' K hl' h2⟩
   ·exact .inr ⟨S', h1, fun s' hs' => jo l (i + 1) s' K hl' (h2 s' hs')⟩
theorem bB {N id : Nat} {s : St} {l : List Oper} (k : Nat) (hd : kL N l = true) (hk : l[k]? = some o) (h : aG P r 𝔅 l none 0 (l.take k) s (fun s' => rT P r 𝔅 l o s' Q)) : Wp P r N 𝔅 (.region id l.toArray false) Q s := fun a w n hp =>
 wpIn_region (by
  have hlt := (List.getElem?_eq_some_iff.1 hk).1
  have h1 := jo (ops := l) (l.take k) 0 s _ (fun j hj => by
   rw [List.length_take] at hj
   rw [List.getElem?_take, if_pos (by omega), Nat.zero_add]) h
  have hsp : List.range l.toArray.size = List.range' 0 (l.take k).length ++ (k :: List.range' (k + 1) (l.length - k - 1)) := by
   rw [List.length_take, Nat.min_eq_left (Nat.le_of_lt hlt), List.range_eq_range', List.size_toArray]
   have e : l.length = k + (l.length - k - 1 + 1) := by omega
   conv => lhs; rw [e]
   rw [← List.range'_append_1, Nat.zero_add, List.range'_succ]
  rw [hsp]
  refine oR hd _ s _ a w hp (fun s' a' w' hk' hp' => ?_) h1
  rw [wpOpsIn_cons]
  have ho' : l.toArray[k]? = some o := by simpa using hk
  obtain ⟨hN, B, ι, hB, S⟩ := hp'
  unfold wpOpIn
  simp only [ho']
  rw [eq S hk'.1, if_pos rfl]
  exact hk'.2 N a' w' n _ _ ⟨hN, B, ι, hB, S⟩ fun ch s2 a2 w2 hq hp2 => ⟨s2, hq, hp2⟩)
theorem GK {w : World} {im : Nat → Prop} {T : Nat} {p e : Int} {u : Value} (h : RepV w im (.ifc T (.agg [.int .i64 p, .int .i64 e])) u) : u = wv T p e := by
 cases h with
 | ifc _ _ u h =>
   cases h with
   | agg _ us hs hv =>
     have h0 : us.size = 2 := by simpa using hs
     have q0 := (hv 0 (.int .i64 p) us[0] rfl (by simp [h0])).int_inv
     have q1 := (hv 1 (.int .i64 e) us[1] rfl (by simp [h0])).int_inv
     have : us = #[us[0], us[1]] := by
      apply Array.ext (by simp [h0])
      intro i h1 h2
      match i, h2 with
      | 0, _ => rfl
      | 1, _ => rfl
      | i + 2, h2 => simp at h2; omega
     rw [this, q0, q1]; rfl
theorem eH {T : Nat} {p e : Int} {x : Operand} (ho : o.op = .panic x) (hx : (mk tl hl m).ev x = some (.v (.ifc T (.agg [.int .i64 p, .int .i64 e])))) (hg : aQ ops (mk tl hl m) o.guard = some true)
 (h : Q (.panic [{ v := wv T p e, recovered := false }]) (mk tl hl m)) : rT P r 𝔅 ops o (mk tl hl m) Q := by
 refine ⟨hg, fun N a w n R next hp hR => ⟨fun _ _ => trivial, ?_⟩⟩
 rw [Oper.semAt_eq _ _ _ (by rw [ho]; simp)]
 have hp0 := hp
 obtain ⟨hN, B, ι, hB, S⟩ := hp
 have hu := GK (aA (S.ev hx))
 have hrun : (execOp a.eval o).run P w = .halt (.panic (wv T p e)) w := by
  simp [execOp, ho, hu, Instr.panic, wv, goPanic]
 rw [hrun]
 exact hR _ _ a w h hp0
theorem cC {f : FuncId} {x : Operand} {args : Array Operand} {ats : Array TypeId} {E : List (Operand × D)} {ds : List D} {L : List (Nat × Blk)} {T : Nat} (tl' : List (Nat × D)) (keep : List (Nat × Blk)) (hp : dh P f ds L (.pan T))
 (ho : o.op = .call { callee := .value x, args := args, argTypes := ats }) (hx : (mk tl hl m).ev x = some (.v (.fn (.func f) [] []))) (hE : iT (mk tl hl m) args.toList = some E) (ha : E.map (·.2) = ds)
 (hL : HasH (mk tl hl m) L) (hc : (ds.all fun d => d.inn (cb L)) = true) (hcl : (L.all fun p => p.2.inn (cb L)) = true) (hnd : (keep.all fun p => !(cb L).contains p.1) = true)
 (hkeep : HasH (mk tl hl m) keep) (ht : HasT (mk tl hl m) tl') (hci : (tl'.all fun p => p.2.inn (cb keep)) = true) (hcj : (keep.all fun p => p.2.inn (cb keep)) = true) (hpn : (m.pins.all fun p => (cb keep).contains p.1 || (cb L).contains p.1) = true)
 (hg : aQ ops (mk tl hl m) o.guard = some true) (h : ∀ ch, HL T ch → Q (.panic ch) (mk tl' (keep ++ L.map fun p => (p.1, .dead)) m)) : rT P r 𝔅 ops o (mk tl hl m) Q := by
 refine ⟨hg, fun N a w n R next ⟨hN, B, ι, hB, S⟩ hR => ⟨fun _ _ => trivial, ?_⟩⟩
 rw [Oper.semAt_eq _ _ _ (by rw [ho]; simp)]
 have hargs := tZ S hE ha
 have hfn := aA (S.ev hx)
 generalize hu : a.eval x = u at hfn
 cases hfn with
 | fn _ _ _ us ws hs1 hs2 hv1 hv2 =>
   have hus : us = #[] := Array.eq_empty_of_size_eq_zero (by simpa using hs1)
   have hws : ws = #[] := Array.eq_empty_of_size_eq_zero (by simpa using hs2)
   subst hus; subst hws
   have hrun : (execOp a.eval o).run P w = .ok (.enter f (args.map a.eval)) w := by
    simp [execOp, ho, resolve, hu, Deferred.ofValue, invoke, hp.1]
   rw [hrun]
   have S0 := kD S (L := L) hargs hL.all hc hcl
   refine ⟨fun h => by simp [WF, Fence.wide] at h, CallsIn.mono (gn _ (hp.2 w _ _ _ _ S0 (by simpa using hargs.1))) ?_⟩
   rintro e w' ⟨⟨ch, rfl, hch⟩, q1, q2, q3, q4, q5⟩
   obtain ⟨ι', S'⟩ := tD S rfl q1 q2 q3 q4 q5 hnd hkeep.all ht.all hci hcj hpn
   exact hR ch _ a w' (h ch hch) ⟨hN, B, ι', hB, S'⟩
theorem be {K : St → Prop} {Q : Exit → St → Prop} {s : St} {ch : List PanicEntry} (h : Q (.panic ch) s) : oA K Q (.panic ch) s := h
theorem bx {id : Nat} {K : St → Prop} {Q : Exit → St → Prop} {s : St} {ch : List PanicEntry} (h : Q (.panic ch) s) : mH id K Q (.panic ch) s := h
theorem dp {α : Type} {st : α → St} {inv : α → Prop} {μ : α → Nat} {x : α} {Q : Exit → St → Prop} {s : St} {ch : List PanicEntry} (h : Q (.panic ch) s) : tc st inv μ x Q (.panic ch) s := h
theorem gL {T : TypeId} {x : Operand} {v : V} {ti : TI} (hT : bg P tab = true) (hni : ti.kind ≠ .iface) (ho : o.op = .makeInterface T x) (hx : (mk tl hl m).ev x = some (.v v)) (hl1 : lk tab T = some ti) (hd : o.dst = some k) (hg : aQ ops (mk tl hl m) o.guard = some true)
 (h : aG P r 𝔅 ops lab (i + 1) rest (mk ((k, .v (.ifc T v)) :: tl) hl m) K) : aG P r 𝔅 ops lab i (o :: rest) (mk tl hl m) K :=
 bO (E := [(x, .v v)]) (F := []) (d := .v (.ifc T v)) (e := []) (aU (by simp [ho, Op.operands]) (by simp [ho]) fun s hE hF => bi fun B ι a w S => by
  have h1 := aA (S.ev (hE (x, .v v) (by simp)))
  have hk := dl (bT hT hl1)
  refine ⟨.iface T (a.eval x), ?_, .v (.ifc T v _ h1)⟩
  cases hkk : ti.kind <;> rw [hkk] at hk
  case struct fos => obtain ⟨fs, hk1, _⟩ := hk; simp [execOp, ho, Instr.makeInterface, run_underlying hk1]
  case other => obtain ⟨_, _, _, hk1⟩ := hk; simp [execOp, ho, Instr.makeInterface, run_underlying hk1]
  case iface => exact absurd hkk hni
  all_goals simp [execOp, ho, Instr.makeInterface, run_underlying hk]) (et hx) dz aX hd hg h
end
end Go.Vd
namespace Go.Vd
open Go.RowKit
def bs (l : List UInt8) : ByteArray := ⟨l.toArray⟩
def bV (c : UInt8) : List V := [.int .u8 (c.toNat : Int)]
abbrev cH (l : List UInt8) : V := .sl (l.map bV)
theorem cU (l : List UInt8) : (bs l).size = l.length := by simp [bs, ByteArray.size]
theorem od (l : List UInt8) : (bs l).data.toList = l := by simp [bs]
theorem zR (l : List UInt8) (n : Nat) : (bs l)[n]? = l[n]? := by
 by_cases h : n < l.length
 ·rw [getElem?_pos (bs l) n (by rw [cU]; exact h), List.getElem?_eq_getElem h]; simp [bs, ByteArray.getElem_eq_getElem_data]
 ·rw [getElem?_neg (bs l) n (by rw [cU]; exact h), List.getElem?_eq_none (by omega)]
theorem yv (l l' : List UInt8) : bs l ++ bs l' = bs (l ++ l') := by
 apply ByteArray.ext; simp [bs, ByteArray.data_append]
theorem pB (l : List UInt8) (i j : Nat) : (bs l).extract i j = bs ((l.take j).drop i) := by
 apply ByteArray.ext
 simp only [ByteArray.data_extract]
 apply Array.toList_inj.1
 simp [bs, List.drop_take]
theorem B8 (b : ByteArray) : ∀ (n i : Nat) (r : List UInt8), b.size - i = n → i ≤ b.size → ByteArray.toList.loop b i r = r.reverse ++ b.data.toList.drop i := by
 have hs : b.data.toList.length = b.size := Array.length_toList
 intro n
 induction n with
 | zero =>
   intro i r h hi
   unfold ByteArray.toList.loop
   rw [if_neg (by omega), List.drop_of_length_le (by omega), List.append_nil]
 | succ n ih =>
   intro i r h hi
   unfold ByteArray.toList.loop
   rw [if_pos (by omega), ih (i + 1) _ (by omega) (by omega)]
   have hlt : i < b.data.toList.length := by omega
   rw [List.drop_eq_getElem_cons hlt]
   simp only [List.reverse_cons, List.append_assoc, List.singleton_append]
   congr 2
   show b.data[i]! = _
   rw [getElem!_pos b.data i (by simpa using hlt)]; simp
theorem qG (l : List UInt8) : (bs l).toList = l := by
 unfold ByteArray.toList
 rw [B8 (bs l) (bs l).size 0 [] (by simp) (by simp)]
 simp [bs]
theorem jR (l : List UInt8) : ∀ el ∈ l.map bV, el.length = 1 := fun el h => by obtain ⟨c, _, rfl⟩ := List.mem_map.1 h; rfl
section
variable {P : Program} {tab : kt} {r : Option Nat} {𝔅 : BB} {ops : List Oper} {lab : Option hY} {i : Nat} {o : Oper} {rest : List Oper} {tl : List (Nat × D)} {hl : List (Nat × Blk)} {m : MM} {K : St → Prop} {k : Nat} {s : St}
theorem sR {w : World} {im : Nat → Prop} {l : List UInt8} {u : Value} (h : RepV w im (cH l) u) : ∃ a c, u = .slice a l.length c ∧ (l ≠ [] → ∃ b o, a = some ⟨b, o, none⟩ ∧ ∀ j (hj : j < l.length), w.cell? ⟨b, o + j, none⟩ = some (.int .u8 (l[j].toNat : Int))) := by
 unfold cH at h
 generalize hE : l.map bV = E at h
 have hlen : E.length = l.length := by rw [← hE]; simp
 cases h with
 | sl0 a c => exact ⟨a, c, by rw [← hlen]; rfl, fun h => absurd (List.map_eq_nil_iff.1 hE) h⟩
 | sl es b o sz c hb hl hcap hs hc hv =>
   refine ⟨some ⟨b, o, none⟩, c, by rw [hlen], fun hne => ⟨b, o, rfl, fun j hj => ?_⟩⟩
   have hsz : sz = 1 := by
    cases l with
    | nil => exact absurd rfl hne
    | cons x l => rw [← hs (bV x) (by rw [← hE]; simp)]; rfl
   subst hsz
   have h1 := hc j 0 (by omega) (by decide)
   obtain ⟨v, hv'⟩ := Option.isSome_iff_exists.1 h1
   have h2 := hv j 0 (bV l[j]) (.int .u8 (l[j].toNat : Int)) v (by rw [← hE, List.getElem?_map, List.getElem?_eq_getElem hj]; rfl) rfl hv'
   rw [h2.int_inv] at hv'
   simpa using hv'
theorem yC (hT : bg P tab = true) {src dst e : Nat} {ts td te : TI} {x : Operand} {l : List UInt8} (ho : o.op = .convert src dst x) (hs : lk tab src = some ts) (hd : lk tab dst = some td) (he : ts.sliceElem = some e) (hle : lk tab e = some te)
 (hk : te.kind = .int .u8) (hk' : td.kind = .string) (hx : s.ev x = some (.v (cH l))) : cV P o s (.v (.str (bs l))) [] :=
 bi fun B ι c w S => by
  obtain ⟨a, cp, h2, h1⟩ := sR (aA (S.ev hx))
  have h3 := ct hT hs he
  have h4 := dl (bT hT hle)
  rw [hk] at h4
  have h5 := dl (bT hT hd)
  rw [hk'] at h5
  refine ⟨.string (bs l), ?_, .v (.str _)⟩
  by_cases hne : l = []
  ·subst hne
   cases a with
   | none => simp only [execOp, ho, h2, List.length_nil, run_convert_bytes_string w src dst e none 0 cp h3 h4 h5, Sem.run_bind]; simp [Conv.bytesToString, bs, Sem.run_pure]; rfl
   | some g =>
     have := run_convert_bytes_back (P := P) w src dst e g cp [] h3 h4 h5 (fun j hj => absurd hj (Nat.not_lt_zero j))
     simp only [execOp, ho, h2, List.length_nil, Sem.run_bind] at this ⊢
     rw [this]; rfl
  ·obtain ⟨b, q, rfl, hc⟩ := h1 hne
   have := run_convert_bytes_back (P := P) w src dst e ⟨b, q, none⟩ cp l h3 h4 h5 (fun j hj => by rw [Addr.add_lit]; exact hc j hj)
   simp only [execOp, ho, h2, Sem.run_bind]
   rw [this]; rfl
theorem gV {src dst e : Nat} {ts td te : TI} {x : Operand} {l : List UInt8} (hT : bg P tab = true) (ho : o.op = .convert src dst x) (hs : lk tab src = some ts) (hd' : lk tab dst = some td) (he : ts.sliceElem = some e) (hle : lk tab e = some te)
 (hk : te.kind = .int .u8) (hk' : td.kind = .string) (hx : (mk tl hl m).ev x = some (.v (cH l))) (hd : o.dst = some k)
 (hg : aQ ops (mk tl hl m) o.guard = some true) (h : aG P r 𝔅 ops lab (i + 1) rest (mk ((k, .v (.str (bs l))) :: tl) hl m) K) : aG P r 𝔅 ops lab i (o :: rest) (mk tl hl m) K :=
 bO (E := [(x, .v (cH l))]) (F := []) (d := .v (.str (bs l))) (e := []) (aU (by simp [ho, Op.operands]) (by simp [ho]) fun s hE hF =>
  yC hT ho hs hd' he hle hk hk' (hE (x, .v (cH l)) (by simp))) (et hx) dz aX hd hg h
theorem AH (hT : bg P tab = true) {src dst e : Nat} {ts td te : TI} {x : Operand} {l : List UInt8} (ho : o.op = .convert src dst x) (hs : lk tab src = some ts) (hd : lk tab dst = some td) (he : td.sliceElem = some e) (hle : lk tab e = some te)
 (hk : te.kind = .int .u8) (hk' : ts.kind = .string) (hx : s.ev x = some (.v (.str (bs l)))) : cV P o s (.v (cH l)) [] := by
 intro B ι a w S
 have hx' : a.eval x = .string (bs l) := (aA (S.ev hx)).str_inv
 have h3 := ct hT hd he
 have h4 := dl (bT hT hle)
 rw [hk] at h4
 have h5 := dl (bT hT hs)
 rw [hk'] at h5
 have hrun := run_bytes_of_string (P := P) w src dst e (bs l) h5 h3 h4
 generalize hcap : grownCap w (bs l).size 0 e = cp at hrun
 obtain ⟨S', hk⟩ := S.grow (w' := w.drew.alloc (.cells (bytesRow (bs l) cp) e ((bytesRow (bs l) cp).size, (bytesRow (bs l) cp).size + 1))) rfl rfl rfl (by show w.heap.size ≤ (w.heap.push _).size; simp) (fun b hb => Below.heap_alloc w.drew _ b hb)
 refine ⟨.slice (some ⟨w.heap.size, 0, none⟩) (bs l).size cp, _, ι, .inl (by simp only [execOp, ho, hx', Sem.run_bind, hrun]; rfl), S', .v ?_⟩
 rw [cU]
 have him : cx B ι w.heap.size := ⟨.inr (.inl S.size), fun id h => by have := (S.bnd id _ h).1; omega⟩
 have hcp : l.length ≤ cp := by rw [← cU, ← hcap]; exact grownCap_ge ..
 have hcell : ∀ j, (w.drew.alloc (.cells (bytesRow (bs l) cp) e ((bytesRow (bs l) cp).size, (bytesRow (bs l) cp).size + 1))).cell? ⟨w.heap.size, 0 + j, none⟩ = (bytesRow (bs l) cp)[j]? := fun j => by
  rw [Nat.zero_add]; exact cell_of_row _ _ j _ e _ (heap_alloc_new w.drew _)
 have hrow : ∀ j (hj : j < l.length), (bytesRow (bs l) cp)[j]? = some (.int .u8 (l[j].toNat : Int)) := fun j hj => by
  unfold bytesRow
  rw [Array.getElem?_append_left (by simp [bs]; exact hj)]
  simp [bs, hj]
 have := RepV.sl (w := w.drew.alloc (.cells (bytesRow (bs l) cp) e ((bytesRow (bs l) cp).size, (bytesRow (bs l) cp).size + 1))) (im := cx B ι) (l.map bV) w.heap.size 0 1 cp him (by show w.heap.size < (w.heap.push _).size; simp) (by simpa using hcp) (jR l) ?_ ?_
 ·simpa using this
 ·intro i' j hi hj
  have : j = 0 := by omega
  subst this
  simp only [List.length_map] at hi
  have e1 : 0 + i' * 1 + 0 = 0 + i' := by omega
  rw [e1, hcell i', hrow i' hi]; rfl
 ·intro i' j el v u hel hv hu
  rw [List.getElem?_map] at hel
  cases hc : l[i']? with
  | none => rw [hc] at hel; cases hel
  | some c =>
    rw [hc] at hel; cases hel
    have hlt := (List.getElem?_eq_some_iff.1 hc).1
    have hj : j = 0 := by have := (List.getElem?_eq_some_iff.1 hv).1; simp [bV] at this; exact this
    subst hj
    cases hv
    have e1 : 0 + i' * 1 + 0 = 0 + i' := by omega
    rw [e1, hcell i', hrow i' hlt] at hu
    cases hu
    rw [(List.getElem?_eq_some_iff.1 hc).2]
    exact .int _ _
theorem oC {src dst e : Nat} {ts td te : TI} {x : Operand} {l : List UInt8} (hT : bg P tab = true) (ho : o.op = .convert src dst x) (hs : lk tab src = some ts) (hd' : lk tab dst = some td) (he : td.sliceElem = some e) (hle : lk tab e = some te)
 (hk : te.kind = .int .u8) (hk' : ts.kind = .string) (hx : (mk tl hl m).ev x = some (.v (.str (bs l)))) (hd : o.dst = some k)
 (hg : aQ ops (mk tl hl m) o.guard = some true) (h : aG P r 𝔅 ops lab (i + 1) rest (mk ((k, .v (cH l)) :: tl) hl m) K) : aG P r 𝔅 ops lab i (o :: rest) (mk tl hl m) K :=
 bO (E := [(x, .v (.str (bs l)))]) (F := []) (d := .v (cH l)) (e := []) (aU (by simp [ho, Op.operands]) (by simp [ho]) fun s hE hF =>
  AH hT ho hs hd' he hle hk hk' (hE (x, .v (.str (bs l))) (by simp))) (et hx) dz aX hd hg h
theorem AL {x : Operand} {T : TypeId} {kk : IntKind} {n z : Int} (ho : o.op = .unOp .neg T x) (hx : s.ev x = some (.v (.int kk n))) (hz : kk.wrap (0 - n) = z) : cV P o s (.v (.int kk z)) [] :=
 bi fun B ι a w S => ⟨.int kk z, by
  have := (aA (S.ev hx)).int_inv
  simp [execOp, ho, this, Op.unary, Op.intArith, ← hz], .v (.int _ _)⟩
theorem kA {x : Operand} {T : TypeId} {n z : Int} (ho : o.op = .unOp .neg T x) (hx : (mk tl hl m).ev x = some (.v (.int .i64 n))) (hz : 0 - n = z) (h1 : -9223372036854775808 ≤ z) (h2 : z ≤ 9223372036854775807) (hd : o.dst = some k)
 (hg : aQ ops (mk tl hl m) o.guard = some true) (h : aG P r 𝔅 ops lab (i + 1) rest (mk ((k, .v (.int .i64 z)) :: tl) hl m) K) : aG P r 𝔅 ops lab i (o :: rest) (mk tl hl m) K :=
 bO (E := [(x, .v (.int .i64 n))]) (F := []) (d := .v (.int .i64 z)) (e := []) (aU (by simp [ho, Op.operands]) (by simp [ho]) fun s hE hF =>
  AL ho (hE (x, .v (.int .i64 n)) (by simp)) (by rw [hz]; exact IntWalk.i64_in _ ⟨h1, h2⟩)) (et hx) dz aX hd hg h
theorem dc {t : Nat} {ti : TI} {x : Operand} {l : List UInt8} (hT : bg P tab = true) (ho : o.op = .call { callee := .builtin .len, args := #[x], argTypes := #[t] }) (hx0 : (mk tl hl m).ev x = some (.v (.str (bs l)))) (hlt : lk tab t = some ti) (he : ti.kind = .string) (hd : o.dst = some k) (hg : aQ ops (mk tl hl m) o.guard = some true)
 (h : aG P r 𝔅 ops lab (i + 1) rest (mk ((k, .v (.int .i64 (l.length : Nat))) :: tl) hl m) K) : aG P r 𝔅 ops lab i (o :: rest) (mk tl hl m) K :=
 we hT ho hx0 hlt he hd hg (by rw [cU]; exact h)
theorem pa {T T' : TypeId} {x y : Operand} {a b : List UInt8} {z : Bool} (ho : o.op = .binOp .eql T x y T') (hx0 : (mk tl hl m).ev x = some (.v (.str (bs a)))) (hx1 : (mk tl hl m).ev y = some (.v (.str (bs b)))) (hz : decide (a = b) = z) (hd : o.dst = some k) (hg : aQ ops (mk tl hl m) o.guard = some true)
 (h : aG P r 𝔅 ops lab (i + 1) rest (mk ((k, .v (.bool z)) :: tl) hl m) K) : aG P r 𝔅 ops lab i (o :: rest) (mk tl hl m) K :=
 Cn ho hx0 hx1 (by rw [qG, qG, ← hz]; by_cases h : a = b <;> simp [h]) hd hg h
theorem gx {T T' : TypeId} {x y : Operand} {a b : List UInt8} (ho : o.op = .binOp .add T x y T') (hx0 : (mk tl hl m).ev x = some (.v (.str (bs a)))) (hx1 : (mk tl hl m).ev y = some (.v (.str (bs b)))) (hs : a.length + b.length ≤ 9223372036854775807) (hd : o.dst = some k) (hg : aQ ops (mk tl hl m) o.guard = some true)
 (h : aG P r 𝔅 ops lab (i + 1) rest (mk ((k, .v (.str (bs (a ++ b)))) :: tl) hl m) K) : aG P r 𝔅 ops lab i (o :: rest) (mk tl hl m) K :=
 Co ho hx0 hx1 (by rw [cU, cU]; exact hs) hd hg (by rw [yv]; exact h)
theorem Fm {x y : Operand} {ats : Array TypeId} {kk : IntKind} {a b z : Int} (ho : o.op = .call { callee := .builtin .min, args := #[x, y], argTypes := ats }) (hx0 : (mk tl hl m).ev x = some (.v (.int kk a))) (hx1 : (mk tl hl m).ev y = some (.v (.int kk b))) (hz : min a b = z)
 (hd : o.dst = some k) (hg : aQ ops (mk tl hl m) o.guard = some true) (h : aG P r 𝔅 ops lab (i + 1) rest (mk ((k, .v (.int kk z)) :: tl) hl m) K) : aG P r 𝔅 ops lab i (o :: rest) (mk tl hl m) K :=
 bO (E := [(x, .v (.int kk a)), (y, .v (.int kk b))]) (F := []) (d := .v (.int kk z)) (e := []) (aU (by simp [ho, Op.operands, Call.operands]) (by simp [ho]) fun s hE hF => hz ▸ zO (t := 0) ho (hE (x, .v (.int kk a)) (by simp)) (hE (y, .v (.int kk b)) (by simp))) (eN hx0 hx1) dz aX hd hg h
theorem mE (hT : bg P tab = true) {t : Nat} {ti : TI} (hl : lk tab t = some ti) (he : ti.kind = .string) : P.underlying t = some .string := by
 have := dl (bT hT hl); rw [he] at this; exact this
theorem v8 {T : Nat} {ti : TI} {x y : Operand} {kk : IntKind} {n : Int} {l l' : List UInt8} (q : Nat) (hT : bg P tab = true) (ho : o.op = .slice T x (some y) none none) (hl1 : lk tab T = some ti) (he : ti.kind = .string)
 (hx : (mk tl hl m).ev x = some (.v (.str (bs l)))) (hy : (mk tl hl m).ev y = some (.v (.int kk n))) (hn : n = (q : Int)) (h2 : q ≤ l.length) (hes : l.drop q = l')
 (hd : o.dst = some k) (hg : aQ ops (mk tl hl m) o.guard = some true) (h : aG P r 𝔅 ops lab (i + 1) rest (mk ((k, .v (.str (bs l'))) :: tl) hl m) K) : aG P r 𝔅 ops lab i (o :: rest) (mk tl hl m) K :=
 bO (E := [(x, .v (.str (bs l))), (y, .v (.int kk n))]) (F := []) (d := .v (.str (bs l'))) (e := []) (aU (by simp [ho, Op.operands]) (by simp [ho]) fun s hE hF0 => bi fun B ι a w S => by
  have h1 := (aA (S.ev (hE (x, .v (.str (bs l))) (by simp)))).str_inv
  have h3 := (aA (S.ev (hE (y, .v (.int kk n)) (by simp)))).int_inv
  refine ⟨.string (bs l'), ?_, .v (.str _)⟩
  have := run_slice_string_l (P := P) (w := w) (t := T) (s := bs l) (mE hT hl1 he) kk n (by omega) (by rw [cU]; omega)
  rw [pB, cU, List.take_of_length_le (Nat.le_refl _), hn, Int.toNat_natCast, hes] at this
  simp [execOp, ho, h1, h3, Instr.sliceAt, run_underlying (mE hT hl1 he), hn, this]) (eN hx hy) dz aX hd hg h
theorem o6 {T : Nat} {ti : TI} {x y : Operand} {kk : IntKind} {n : Int} {l l' : List UInt8} (q : Nat) (hT : bg P tab = true) (ho : o.op = .slice T x none (some y) none) (hl1 : lk tab T = some ti) (he : ti.kind = .string)
 (hx : (mk tl hl m).ev x = some (.v (.str (bs l)))) (hy : (mk tl hl m).ev y = some (.v (.int kk n))) (hn : n = (q : Int)) (h2 : q ≤ l.length) (hes : l.take q = l')
 (hd : o.dst = some k) (hg : aQ ops (mk tl hl m) o.guard = some true) (h : aG P r 𝔅 ops lab (i + 1) rest (mk ((k, .v (.str (bs l'))) :: tl) hl m) K) : aG P r 𝔅 ops lab i (o :: rest) (mk tl hl m) K :=
 bO (E := [(x, .v (.str (bs l))), (y, .v (.int kk n))]) (F := []) (d := .v (.str (bs l'))) (e := []) (aU (by simp [ho, Op.operands]) (by simp [ho]) fun s hE hF0 => bi fun B ι a w S => by
  have h1 := (aA (S.ev (hE (x, .v (.str (bs l))) (by simp)))).str_inv
  have h3 := (aA (S.ev (hE (y, .v (.int kk n)) (by simp)))).int_inv
  refine ⟨.string (bs l'), ?_, .v (.str _)⟩
  have := run_slice_string_h (P := P) (w := w) (t := T) (s := bs l) (mE hT hl1 he) kk n (by omega) (by rw [cU]; omega)
  rw [pB, List.drop_zero, hn, Int.toNat_natCast, hes] at this
  simp [execOp, ho, h1, h3, Instr.sliceAt, run_underlying (mE hT hl1 he), hn, this]) (eN hx hy) dz aX hd hg h
theorem ot {X T : TypeId} {v : Value} {w : World} {ti : TI} (hT : bg P tab = true) (hni : ti.kind ≠ .iface) (hl1 : lk tab T = some ti) (b : Bool) : (Instr.typeAssert (.iface T v) X T b).run P w = .ok (if b then .tuple #[v, .bool true] else v) w := by
 have hk := dl (bT hT hl1)
 cases hkk : ti.kind <;> rw [hkk] at hk
 case struct fos => obtain ⟨fs, hk1, _⟩ := hk; cases b <;> simp [Instr.typeAssert, run_underlying hk1]
 case other => obtain ⟨_, _, _, hk1⟩ := hk; cases b <;> simp [Instr.typeAssert, run_underlying hk1]
 case iface => exact absurd hkk hni
 all_goals (cases b <;> simp [Instr.typeAssert, run_underlying hk])
theorem qA {x : Operand} {X T : TypeId} {v : V} {ti : TI} (hT : bg P tab = true) (hni : ti.kind ≠ .iface) (ho : o.op = .typeAssert x X T false) (hx : (mk tl hl m).ev x = some (.v (.ifc T v))) (hl1 : lk tab T = some ti) (hd : o.dst = some k) (hg : aQ ops (mk tl hl m) o.guard = some true)
 (h : aG P r 𝔅 ops lab (i + 1) rest (mk ((k, .v v) :: tl) hl m) K) : aG P r 𝔅 ops lab i (o :: rest) (mk tl hl m) K :=
 bO (E := [(x, .v (.ifc T v))]) (F := []) (d := .v v) (e := []) (aU (by simp [ho, Op.operands]) (by simp [ho]) fun s hE hF => bi fun B ι a w S => by
  have h1 := aA (S.ev (hE (x, .v (.ifc T v)) (by simp)))
  generalize hu : a.eval x = u at h1
  cases h1 with
  | ifc _ _ u h1 =>
    exact ⟨u, by simp [execOp, ho, hu, ot hT hni hl1 false], .v h1⟩) (et hx) dz aX hd hg h
theorem Br {x : Operand} {X T : TypeId} {v : V} {ti : TI} (hT : bg P tab = true) (hni : ti.kind ≠ .iface) (ho : o.op = .typeAssert x X T true) (hx : (mk tl hl m).ev x = some (.v (.ifc T v))) (hl1 : lk tab T = some ti) (hd : o.dst = some k) (hg : aQ ops (mk tl hl m) o.guard = some true)
 (h : aG P r 𝔅 ops lab (i + 1) rest (mk ((k, .v (.tup [v, .bool true])) :: tl) hl m) K) : aG P r 𝔅 ops lab i (o :: rest) (mk tl hl m) K :=
 bO (E := [(x, .v (.ifc T v))]) (F := []) (d := .v (.tup [v, .bool true])) (e := []) (aU (by simp [ho, Op.operands]) (by simp [ho]) fun s hE hF => bi fun B ι a w S => by
  have h1 := aA (S.ev (hE (x, .v (.ifc T v)) (by simp)))
  generalize hu : a.eval x = u at h1
  cases h1 with
  | ifc _ _ u h1 =>
    refine ⟨.tuple #[u, .bool true], by simp [execOp, ho, hu, ot hT hni hl1 true], .v (.tup _ _ rfl fun i v' u' hv hu' => ?_)⟩
    match i with
    | 0 => cases hv; simp at hu'; subst hu'; exact h1
    | 1 => cases hv; simp at hu'; subst hu'; exact .bool _
    | i + 2 => simp at hv) (et hx) dz aX hd hg h
end
end Go.Vd
namespace Go.Vd
open Go.RowKit
section
variable {P : Program} {tab : kt} {r : Option Nat} {𝔅 : BB} {ops : List Oper} {lab : Option hY} {i : Nat} {o : Oper} {rest : List Oper} {tl : List (Nat × D)} {hl : List (Nat × Blk)} {m : MM} {K : St → Prop} {k : Nat} {s : St}
theorem nF {B : dt} {s : St} {ι : Nat → Con} {a : Act} {w : World} (S : Sim B s ι a w) {args : Array Operand} {E : List (Operand × D)} {ds : List D} (h1 : E.map (·.1) = args.toList) (h2 : ∀ p ∈ E, s.ev p.1 = some p.2) (ha : E.map (·.2) = ds) : PW (RepD w (cx B ι) ι) ds (args.map a.eval).toList := by
 subst ha
 rw [Array.toList_map, ← h1]
 refine ⟨by simp, fun i d u hd hu => ?_⟩
 rw [List.getElem?_map] at hd
 cases he : E[i]? with
 | none => rw [he] at hd; cases hd
 | some p =>
   rw [he] at hd; cases hd
   rw [List.getElem?_map, List.getElem?_map, he] at hu
   cases hu
   exact S.ev (h2 p (List.mem_of_getElem? he))
theorem Dz {ι : Nat → Con} {b : Nat} : ¬ bI (fc ι []) b := fun ⟨id, h⟩ => by
 have := (fy h).1
 simp [cb] at this
theorem xI {f : FuncId} {x : Operand} {args : Array Operand} {ats : Array TypeId} {E : List (Operand × D)} {ds : List D} {r' : D} (hp : dh P f ds [] (.ret r' [])) (ho : o.op = .call { callee := .value x, args := args, argTypes := ats })
 (h1 : E.map (·.1) = args.toList) (ha : E.map (·.2) = ds) (hc : (ds.all fun d => d.inn []) = true) (hr : r'.inn [] = true) : sY P r o ((x, .v (.fn (.func f) [] [])) :: E) [] r' [] where
 ops p hp' := by
  rw [ho]
  simp only [Op.operands, Call.operands]
  rcases List.mem_cons.1 hp' with rfl | h
  ·simp
  ·have : p.1 ∈ args.toList := by rw [← h1]; exact List.mem_map.2 ⟨p, h, rfl⟩
   simp; exact .inr (by simpa using this)
 snd s hE hFs B N ι a w n Q S hN hd := by
  refine ⟨fun _ _ => trivial, ?_⟩
  rw [Oper.semAt_eq _ _ _ (by rw [ho]; simp)]
  have hargs := nF S h1 (fun p hp => hE p (List.mem_cons_of_mem _ hp)) ha
  have hfn := aA (S.ev (hE (x, .v (.fn (.func f) [] [])) List.mem_cons_self))
  generalize hu : a.eval x = u at hfn
  cases hfn with
  | fn _ _ _ us ws hs1 hs2 hv1 hv2 =>
    have hus : us = #[] := Array.eq_empty_of_size_eq_zero (by simpa using hs1)
    have hws : ws = #[] := Array.eq_empty_of_size_eq_zero (by simpa using hs2)
    subst hus; subst hws
    have hrun : (execOp a.eval o).run P w = .ok (.enter f (args.map a.eval)) w := by
     simp [execOp, ho, resolve, hu, Deferred.ofValue, invoke, hp.1]
    rw [hrun]
    have S0 := kD S (L := []) hargs (fun _ h => by cases h) hc rfl
    refine ⟨fun h => by simp [WF, Fence.wide] at h, CallsIn.mono (gn _ (hp.2 w _ _ _ _ S0 (by simpa using hargs.1))) ?_⟩
    rintro e w' ⟨u', ι1, rfl, S1⟩
    obtain ⟨S', hk⟩ := S.grow S1.os S1.tape S1.output S1.size (fun b hb => S1.frame b hb Dz)
    refine ⟨by rw [eh]; exact hN, ι, Sim.putAny (s := s) S' (by rw [hN]; exact hd) ?_⟩
    obtain ⟨u2, q1, q2⟩ := S1.tmps 0 r' rfl
    have : u2 = u' := by simpa using q1.symm
    subst this
    refine q2.keepIds (l := []) (fun b hb => ?_) (fun id h => by simp at h) hr
    rcases hb.1 with h | h | h
    ·exact h
    ·exact ⟨.inr (.inl (Nat.le_trans S.size h)), fun id hid => by have := (S.bnd id b hid).1; have h' : w.heap.size ≤ b := h; omega⟩
    ·exact absurd h Dz
theorem BJ {f : FuncId} {x : Operand} {args : Array Operand} {ats : Array TypeId} {E : List (Operand × D)} {ds : List D} {r' : D} (hp : dh P f ds [] (.ret r' [])) (ho : o.op = .call { callee := .value x, args := args, argTypes := ats })
 (hx : (mk tl hl m).ev x = some (.v (.fn (.func f) [] []))) (hE : iT (mk tl hl m) args.toList = some E) (ha : E.map (·.2) = ds) (hc : (ds.all fun d => d.inn []) = true) (hr : r'.inn [] = true) (hlab : cB lab i [] [] = true) (hd : o.dst = some k) (hg : aQ ops (mk tl hl m) o.guard = some true)
 (h : aG P r 𝔅 ops lab (i + 1) rest (mk ((k, r') :: tl) hl m) K) : aG P r 𝔅 ops lab i (o :: rest) (mk tl hl m) K :=
 bO (E := (x, .v (.fn (.func f) [] [])) :: E) (F := []) (d := r') (e := []) (xI hp ho (cM hE).1 ha hc hr) (fun p hp => by
  rcases List.mem_cons.1 hp with rfl | h
  ·exact hx
  ·exact (cM hE).2 p h) dz hlab hd hg h
theorem fa {ds : List D} (h : Nat.beq ds.length 1 = false) : lX ds (.tup ds) := .inr (.inl ⟨(fun e => by rw [e] at h; cases h), rfl⟩)
theorem eo {rs : List ResultVar} {π : List (Nat × Nat)} {out : sq} {r' : D} {L' : List (Nat × Blk)} {ds : List D} (hds : fM tab (mk tl hl m) rs = some ds) (hone : lX ds r') (hL : HasH (mk tl hl m) L') (hr : r'.inn (cb L') = true) (hrl : (L'.all fun p => p.2.inn (cb L')) = true)
 (hm : m = ⟨0, 0, π⟩) (hπ : (π.all fun p => (cb L').contains p.1) = true) (hout : out = .ret r' L') : mM tab rs out π .ret (mk tl hl m) := ⟨r', L', ds, hout, hds, hone, hL.all, hr, hrl, hm, hπ⟩
theorem me {rs : List ResultVar} {π : List (Nat × Nat)} {out : sq} {r' : D} {L' : List (Nat × Blk)} {ds : List D} (hds : fM tab (mk tl hl m) rs = some ds) (hone : lX ds r') (hL : HasH (mk tl hl m) L') (hr : r'.inn (cb L') = true) (hrl : (L'.all fun p => p.2.inn (cb L')) = true)
 (hm : m = ⟨0, 0, π⟩) (hπ : (π.all fun p => (cb L').contains p.1) = true) (hout : out = .ret r' L') : mM tab rs out π .normal (mk tl hl m) := ⟨r', L', ds, hout, hds, hone, hL.all, hr, hrl, hm, hπ⟩
theorem fx {rs : List ResultVar} {π : List (Nat × Nat)} {out : sq} {T : Nat} {p e : Int} (he : e ≠ 0) (hm : m.d = 0) (hout : out = .pan T) : mM tab rs out π (.panic [{ v := wv T p e, recovered := false }]) (mk tl hl m) := ⟨T, hout, ⟨p, e, he, rfl⟩, hm⟩
theorem bF {rs : List ResultVar} {π : List (Nat × Nat)} {out : sq} {T : Nat} {ch : List PanicEntry} (hch : HL T ch) (hm : m.d = 0) (hout : out = .pan T) : mM tab rs out π (.panic ch) (mk tl hl m) := ⟨T, hout, hch, hm⟩
end
end Go.Vd
namespace Go.Vd
open Go.RowKit
section
variable {B : dt} {s : St} {ι : Nat → Con} {a : Act} {w w' : World}
theorem Aq (S : Sim B s ι a w) {i : Nat} {cs cs' : List D} {ι1 : Nat → Con} {r : D} {u : Value} (hi : s.h i = .box cs) (hcl' : ly [i] cs' = true)
 (S1 : Sim ⟨w, cx B ι, bI (fc ι [(i, .box cs)])⟩ (mk [(0, r)] [(i, .box cs')] ⟨0, 0, cK (cL [(i, .box cs)]) (gG ι)⟩) ι1 ⟨#[u], []⟩ w') :
 Sim B (s.eff [(i, .box cs')]) ι a w' ∧ (∀ b, cx ⟨w, cx B ι, bI (fc ι [(i, .box cs)])⟩ ι1 b → cx B ι b) := by
 have hin : ∀ j, (cb [(i, Blk.box cs)]).contains j = true ↔ j = i := fun j => by simp [cb]
 obtain ⟨bb, arr0, ty0, hb0, hw0, _⟩ := eZ S hi
 have e1 : ι1 i = ι i := by
  have h1 := S1.pins (i, gG ι i) (show (i, gG ι i) ∈ [(i, gG ι i)] from List.mem_singleton.2 rfl)
  have h2 := S1.blks i
  have h3 : (mk [(0, r)] [(i, Blk.box cs')] ⟨0, 0, cK (cL [(i, .box cs)]) (gG ι)⟩).h i = .box cs' := by show ((lk [(i, Blk.box cs')] i).getD .res) = _; simp [lk]
  rw [h3] at h2
  obtain ⟨b2, arr, ty, h4, _⟩ := h2
  have h5 : gG ι i = bb := by unfold gG; rw [hb0]
  rcases h1 with h1 | h1
  ·rw [show ι1 i = .box (gG ι i) from h1, h5, hb0]
  ·rw [show ι1 i = .dead from h1] at h4; cases h4
 have low : ∀ b, bI (fc ι [(i, .box cs)]) b ↔ b = bb := fun b => by
  constructor
  ·rintro ⟨j, hj⟩
   obtain ⟨h1, h2⟩ := fy hj
   rw [(hin j).1 h1, hb0] at h2
   cases h2; rfl
  ·rintro rfl
   exact ⟨i, by rw [jJ ((hin i).2 rfl), hb0]; rfl⟩
 have him : ∀ b, cx ⟨w, cx B ι, bI (fc ι [(i, .box cs)])⟩ ι1 b → cx B ι b := fun b hb => by
  rcases hb.1 with h | h | h
  ·exact h
  ·exact ⟨.inr (.inl (Nat.le_trans S.size h)), fun id hid => by have := (S.bnd id b hid).1; have h' : w.heap.size ≤ b := h; omega⟩
  ·exact absurd (by rw [e1, hb0, (low b).1 h]; rfl) (hb.2 i)
 have hfr : ∀ b, b < w.heap.size → b ≠ bb → w'.heap[b]? = w.heap[b]? := fun b hb hne => S1.frame b hb fun h => hne ((low b).1 h)
 have hne : ∀ j b, j ≠ i → (ι j).blk = some b → b ≠ bb := fun j b hj h he => by
  subst he
  exact hj (S.inj j i b h (by rw [hb0]; rfl))
 have hk : ∀ b, cx B ι b → b < w.heap.size → cx B ι b ∧ w'.heap[b]? = w.heap[b]? := fun b hb hlt => ⟨hb, hfr b hlt fun he => hb.2 i (by rw [hb0, he]; rfl)⟩
 refine ⟨⟨S1.os.trans S.os, S1.tape.trans S.tape, S1.output.trans S.output, Nat.le_trans S.size S1.size, fun b hb hno => ?_, S.inj, fun id b h => ⟨Nat.lt_of_lt_of_le (S.bnd id b h).1 S1.size, (S.bnd id b h).2⟩, fun id => ?_, fun n d hn => ?_, S.marks, S.pins, fun d hd => ?_, S.glob⟩, him⟩
 ·rw [hfr b (Nat.lt_of_lt_of_le hb S.size) fun he => ?_]
  ·exact S.frame b hb hno
  ·subst he
   rcases (S.bnd i b (by rw [hb0]; rfl)).2 with h | h
   ·omega
   ·exact hno h
 ·show BlkRel w' (cx B ι) ι (d8 s.h i (.box cs') id) (ι id)
  by_cases hid : id = i
  ·subst hid
   rw [aE]
   have h2 := S1.blks id
   have h3 : (mk [(0, r)] [(id, Blk.box cs')] ⟨0, 0, cK (cL [(id, .box cs)]) (gG ι)⟩).h id = .box cs' := by show ((lk [(id, Blk.box cs')] id).getD .res) = _; simp [lk]
   rw [h3, e1] at h2
   exact h2.keep (l := [id]) him (fun j hj => by have : j = id := by simpa using hj
                                                 subst this; exact e1.symm) hcl'
  ·rw [aN _ _ hid]
   exact (S.blks id).mono hk (fun _ _ => .inl rfl) fun b hb => hfr b (S.bnd id b hb).1 (hne id b hid hb)
 ·obtain ⟨u1, h1, h2⟩ := S.tmps n d hn
  exact ⟨u1, h1, h2.mono hk fun _ _ => .inl rfl⟩
 ·obtain ⟨b, q1, q2, q3⟩ := S.defs d hd
  refine ⟨b, q1, q2, ?_⟩
  rw [hfr b (Array.getElem?_eq_some_iff.1 q3).1 fun he => ?_]
  ·exact q3
  ·subst he; rw [hw0] at q3; cases q3
end
section
variable {P : Program} {tab : kt} {r : Option Nat} {𝔅 : BB} {ops : List Oper} {lab : Option hY} {i : Nat} {o : Oper} {rest : List Oper} {tl : List (Nat × D)} {hl : List (Nat × Blk)} {m : MM} {K : St → Prop} {k : Nat} {s : St}
theorem wk {f : FuncId} {x : Operand} {args : Array Operand} {ats : Array TypeId} {E : List (Operand × D)} {ds : List D} {r' : D} {id : Nat} {cs cs' : List D} (hp : dh P f ds [(id, .box cs)] (.ret r' [(id, .box cs')])) (ho : o.op = .call { callee := .value x, args := args, argTypes := ats })
 (h1 : E.map (·.1) = args.toList) (ha : E.map (·.2) = ds) (hc : (ds.all fun d => d.inn [id]) = true) (hcl : ly [id] cs = true) (hcl' : ly [id] cs' = true) (hr : r'.inn [] = true) : sY P r o ((x, .v (.fn (.func f) [] [])) :: E) [(id, .box cs)] r' [(id, .box cs')] where
 ops p hp' := by
  rw [ho]
  simp only [Op.operands, Call.operands]
  rcases List.mem_cons.1 hp' with rfl | h
  ·simp
  ·have : p.1 ∈ args.toList := by rw [← h1]; exact List.mem_map.2 ⟨p, h, rfl⟩
   simp; exact .inr (by simpa using this)
 snd s hE hFs B N ι a w n Q S hN hd := by
  refine ⟨fun _ _ => trivial, ?_⟩
  rw [Oper.semAt_eq _ _ _ (by rw [ho]; simp)]
  have hi : s.h id = .box cs := hFs (id, .box cs) (by simp)
  have hargs := nF S h1 (fun p hp => hE p (List.mem_cons_of_mem _ hp)) ha
  have hfn := aA (S.ev (hE (x, .v (.fn (.func f) [] [])) List.mem_cons_self))
  generalize hu : a.eval x = u at hfn
  cases hfn with
  | fn _ _ _ us ws hs1 hs2 hv1 hv2 =>
    have hus : us = #[] := Array.eq_empty_of_size_eq_zero (by simpa using hs1)
    have hws : ws = #[] := Array.eq_empty_of_size_eq_zero (by simpa using hs2)
    subst hus; subst hws
    have hrun : (execOp a.eval o).run P w = .ok (.enter f (args.map a.eval)) w := by
     simp [execOp, ho, resolve, hu, Deferred.ofValue, invoke, hp.1]
    rw [hrun]
    have S0 := kD S (L := [(id, .box cs)]) hargs (fun p hp => by simp only [List.mem_singleton] at hp; subst hp; exact hi) hc (by simp only [List.all_cons, List.all_nil, Bool.and_true]; exact hcl)
    refine ⟨fun h => by simp [WF, Fence.wide] at h, CallsIn.mono (gn _ (hp.2 w _ _ _ _ S0 (by simpa using hargs.1))) ?_⟩
    rintro e w' ⟨u', ι1, rfl, S1⟩
    obtain ⟨S', him⟩ := Aq S hi hcl' S1
    refine ⟨by rw [eh]; exact hN, ι, Sim.putAny (s := s.eff _) S' (by rw [hN]; exact hd) ?_⟩
    obtain ⟨u2, q1, q2⟩ := S1.tmps 0 r' rfl
    have : u2 = u' := by simpa using q1.symm
    subst this
    exact q2.keepIds (l := []) him (fun id h => by simp at h) hr
theorem bn {f : FuncId} {x : Operand} {args : Array Operand} {ats : Array TypeId} {E : List (Operand × D)} {ds : List D} {r' : D} {id : Nat} {cs cs' : List D} (hp : dh P f ds [(id, .box cs)] (.ret r' [(id, .box cs')])) (ho : o.op = .call { callee := .value x, args := args, argTypes := ats })
 (hx : (mk tl hl m).ev x = some (.v (.fn (.func f) [] []))) (hE : iT (mk tl hl m) args.toList = some E) (ha : E.map (·.2) = ds) (hF : (mk tl hl m).h id = .box cs) (hc : (ds.all fun d => d.inn [id]) = true) (hcl : ly [id] cs = true) (hcl' : ly [id] cs' = true) (hr : r'.inn [] = true)
 (hlab : cB lab i [(id, .box cs)] [(id, .box cs')] = true) (hd : o.dst = some k) (hg : aQ ops (mk tl hl m) o.guard = some true)
 (h : aG P r 𝔅 ops lab (i + 1) rest (mk ((k, r') :: tl) ((id, .box cs') :: hl) m) K) : aG P r 𝔅 ops lab i (o :: rest) (mk tl hl m) K :=
 bO (E := (x, .v (.fn (.func f) [] [])) :: E) (F := [(id, .box cs)]) (d := r') (e := [(id, .box cs')]) (wk hp ho (cM hE).1 ha hc hcl hcl' hr) (fun p hp => by
  rcases List.mem_cons.1 hp with rfl | h
  ·exact hx
  ·exact (cM hE).2 p h) (et hF) hlab hd hg h
end
end Go.Vd
namespace Go.Vd
open Go.RowKit
def A2 (ch : List PanicEntry) : Prop := HL 147 ch
def IY (P : Program) (r : Option Nat) (o : Oper) (s : St) : Prop := ∀ (B : dt) (N : Nat) (ι : Nat → Con) (a : Act) (w : World) (n : Nat) (R : Exit → Act → World → Prop) (next : Act → World → Prop), a.tmps.size = N → Sim B s ι a w →
 (∀ ch a' w', A2 ch → qE B N (mk [] [] ⟨s.m.d, s.m.k, []⟩) a' w' → R (.panic ch) a' w') → o.wpIn (WF r) n P a w next R
structure zH (P : Program) (r : Option Nat) (o : Oper) (E : List (Operand × D)) (F : List (Nat × Blk)) (d : D) (e : List (Nat × Blk)) : Prop where
 ops : ∀ p ∈ E, p.1 ∈ o.op.operands
 snd : ∀ s : St, (∀ p ∈ E, s.ev p.1 = some p.2) → (∀ p ∈ F, s.h p.1 = p.2) → Is P r o s ((s.eff e).put o.dst d) ∨ IY P r o s
def jV (P : Program) (r : Option Nat) (ops : List Oper) (lab : Option hY) (i : Nat) (o : Oper) (s s' : St) : Prop :=
 (aQ ops s o.guard = some true ∧ ∃ E F d e, zH P r o E F d e ∧ (∀ p ∈ E, s.ev p.1 = some p.2) ∧ (∀ p ∈ F, s.h p.1 = p.2) ∧ cB lab i F e = true ∧ s' = (s.eff e).put o.dst d) ∨
 (aQ ops s o.guard = some false ∧ s' = s.put o.dst ik)
def ql (P : Program) (r : Option Nat) (ops : List Oper) (lab : Option hY) : List Nat → St → (St → Prop) → Prop
 | [], s, K => K s
 | i :: rest, s, K => ∃ o, ops[i]? = some o ∧ ∃ s', jV P r ops lab i o s s' ∧ ql P r ops lab rest s' K
def qx (P : Program) (r : Option Nat) (ops : List Oper) (lab : Option hY) : Nat → List Oper → St → (St → Prop) → Prop
 | _, [], s, K => K s
 | i, o :: rest, s, K => ∃ s', jV P r ops lab i o s s' ∧ qx P r ops lab (i + 1) rest s' K
section
variable {P : Program} {r : Option Nat} {𝔅 : BB} {ops : List Oper} {lab : Option hY}
theorem AStep.toX {i : Nat} {o : Oper} {s s' : St} (h : AStep P r ops lab i o s s') : jV P r ops lab i o s s' := by
 rcases h with ⟨h1, E, F, d, e, hs, h2⟩ | h
 ·exact .inl ⟨h1, E, F, d, e, ⟨hs.ops, fun s hE hF => .inl (hs.snd s hE hF)⟩, h2⟩
 ·exact .inr h
theorem pC {L : hY} : ∀ (l : List Oper) (i : Nat) (s : St) (rest : List Oper) (K : St → Prop), aG P r 𝔅 ops (some L) i l s (fun s' => qx P r ops (some L) (i + l.length) rest s' K) → qx P r ops (some L) i (l ++ rest) s K
 | [], _, _, _, _, h => h
 | o :: l, i, s, rest, K, h => by
   rcases h with ⟨s', h1, h2⟩ | ⟨_, h1, _⟩
   ·refine ⟨s', h1.toX, pC l (i + 1) s' rest K ?_⟩
    rw [show i + 1 + l.length = i + (o :: l).length by simp; omega]
    exact h2
   ·cases h1.1
theorem lE {N n : Nat} {Q : Exit → Act → World → Prop} (hd : kL N ops = true) : ∀ (l : List Nat) (s : St) (K : St → Prop) (a : Act) (w : World), eJ 𝔅 N s a w →
 (∀ s' a' w', K s' → eJ 𝔅 N s' a' w' → s'.m = s.m → Q .normal a' w') → (∀ ch a' w', A2 ch → eJ 𝔅 N (mk [] [] ⟨s.m.d, s.m.k, []⟩) a' w' → Q (.panic ch) a' w') → ql P r ops lab l s K → wpOpsIn (WF r) n P ops.toArray Q l a w
 | [], s, K, a, w, hp, hK, _, h => hK s a w h hp rfl
 | i :: rest, s, K, a, w, ⟨hN, B, ι, hB, S⟩, hK, hPn, ⟨o, ho, s', hst, hrest⟩ => by
   rw [wpOpsIn_cons]
   have ho' : ops.toArray[i]? = some o := by simpa using ho
   have hm : ∀ (s : St) (d : Option Nat) (x : D), (s.put d x).m = s.m := fun s d x => by cases d <;> rfl
   have hms : s'.m = s.m := by
    rcases hst with ⟨_, E, F, d, e, _, _, _, _, rfl⟩ | ⟨_, rfl⟩
    ·rw [hm]; rfl
    ·rw [hm]
   have go : ∀ a' w', qE B N s' a' w' → wpOpsIn (WF r) n P ops.toArray Q rest a' w' := fun a' w' ⟨h1, ι', h2⟩ => lE hd rest s' K a' w' ⟨h1, B, ι', by rw [hms]; exact hB, h2⟩ (fun s2 a2 w2 h1 h2 h3 => hK s2 a2 w2 h1 h2 (h3.trans hms)) (fun ch a2 w2 h1 h2 => hPn ch a2 w2 h1 (by rw [hms] at h2; exact h2)) hrest
   have hdst := iU hd (List.mem_of_getElem? ho)
   unfold wpOpIn
   simp only [ho']
   rcases hst with ⟨hw, E, F, d, e, hs, hE, hF, _, rfl⟩ | ⟨hw, rfl⟩
   ·rw [eq S hw, if_pos rfl]
    rcases hs.snd s hE hF with h | h
    ·exact Oper.wpIn_mono go (h B N ι a w n Q S hN hdst)
    ·exact h B N ι a w n Q _ hN S fun ch a' w' h1 ⟨h2, ι', h3⟩ => hPn ch a' w' h1 ⟨h2, B, ι', hB, h3⟩
   ·rw [eq S hw, if_neg (by simp)]
    exact ⟨fun _ _ => trivial, go _ _ ⟨by rw [eh]; exact hN, ι, S.putAny (by rw [hN]; exact hdst) (.v (.tup [] #[] rfl (by simp)))⟩⟩
def ug (P : Program) (r : Option Nat) (ops : List Oper) (lab : Option hY) (K : St → Prop) : Nat → Array Bool → St → Prop
 | 0, listed, s => Region.ready .any ops.toArray listed = [] ∧ K s
 | fuel + 1, listed, s => (Region.ready .any ops.toArray listed = [] → K s) ∧
   ∀ i ∈ Region.ready .any ops.toArray listed, ∃ o s', ops[i]? = some o ∧ jV P r ops lab i o s s' ∧ ug P r ops lab K fuel (listed.setIfInBounds i true) s'
theorem uA {K : St → Prop} : ∀ (fuel t : Nat) (listed : Array Bool) (s : St), ug P r ops lab K fuel listed s → ql P r ops lab (Region.linearise.go .any ops.toArray fuel t listed []) s K := by
 intro fuel
 induction fuel with
 | zero => intro t listed s h; simpa [Region.linearise.go, ql] using h.2
 | succ fuel ih =>
   intro t listed s h
   obtain ⟨h₀, h₁⟩ := h
   simp only [Region.linearise.go]
   change ql P r ops lab (match (Region.ready .any ops.toArray listed)[t % (Region.ready .any ops.toArray listed).length]? with
    | some i => Region.linearise.go .any ops.toArray fuel (t / (Region.ready .any ops.toArray listed).length) (listed.setIfInBounds i true) [i]
    | none => [].reverse) s K
   cases hi : (Region.ready .any ops.toArray listed)[t % (Region.ready .any ops.toArray listed).length]? with
   | none =>
     have hnil : Region.ready .any ops.toArray listed = [] := by
      cases hr : Region.ready .any ops.toArray listed with
      | nil => rfl
      | cons x xs =>
        rw [hr] at hi
        have hlt : t % (x :: xs).length < (x :: xs).length := Nat.mod_lt _ (by simp)
        simp at hi
        simp at hlt
        omega
     simpa [ql] using h₀ hnil
   | some i =>
     simp only []
     rw [linearise_go_acc, List.reverse_singleton, List.singleton_append]
     obtain ⟨o, s', h1, h2, h3⟩ := h₁ i (List.mem_of_getElem? hi)
     exact ⟨o, h1, s', h2, ih _ _ s' h3⟩
theorem uK {L : hY} (hlab : lab = some L) {i j : Nat} {oi oj : Oper} {s s1 s2 : St} (hap : ja ops L i j oi oj = true) (h1 : jV P r ops lab i oi s s1) (h2 : jV P r ops lab j oj s1 s2) :
 ∃ s', jV P r ops lab j oj s s' ∧ jV P r ops lab i oi s' s2 := by
 subst hlab
 simp only [ja, Bool.and_eq_true] at hap
 obtain ⟨hap, hl⟩ := hap
 obtain ⟨a1, a2, a3⟩ := Oper.apart_spec hap
 have evj : ∀ (s : St) d e x, x ∈ oj.op.operands → ((s.eff e).put oi.dst d).ev x = s.ev x := fun s d e x hx => by
  rw [rv fun k hk hxk => a1 k hk (lp (by rw [← hxk]; exact hx)), rC]
 have evi : ∀ (s : St) d e x, x ∈ oi.op.operands → ((s.eff e).put oj.dst d).ev x = s.ev x := fun s d e x hx => by
  rw [rv fun k hk hxk => a3 k hk (lp (by rw [← hxk]; exact hx)), rC]
 have wj : ∀ (s : St) d e, aQ ops ((s.eff e).put oi.dst d) oj.guard = aQ ops s oj.guard := fun s d e => by rw [lm a1, le]
 have wi : ∀ (s : St) d e, aQ ops ((s.eff e).put oj.dst d) oi.guard = aQ ops s oi.guard := fun s d e => by rw [lm a3, le]
 have hput : ∀ (s : St) (dst : Option Nat) d, (s.put dst d) = (s.eff []).put dst d := fun s dst d => by cases dst <;> rfl
 have lab1 : ∀ {k : Nat} {F e : List (Nat × Blk)} {R W : List Nat}, L[k]? = some (R, W) → cB (some L) k F e = true → (∀ p ∈ F, p.1 ∈ R) ∧ ∀ p ∈ e, p.1 ∈ W := fun hk h => by
  simp only [cB, hk, Bool.and_eq_true, List.all_eq_true, List.contains_iff_mem] at h
  exact h
 have lab0 : ∀ {k : Nat} {F e : List (Nat × Blk)}, L[k]? = none → cB (some L) k F e = true → F = [] ∧ e = [] := fun hk h => by
  simpa [cB, hk] using h
 have dis : ∀ {Fi ei Fj ej : List (Nat × Blk)}, cB (some L) i Fi ei = true → cB (some L) j Fj ej = true →
  (∀ p ∈ ei, ∀ q ∈ Fj, p.1 ≠ q.1) ∧ (∀ p ∈ ei, ∀ q ∈ ej, p.1 ≠ q.1) ∧ (∀ p ∈ ej, ∀ q ∈ Fi, p.1 ≠ q.1) := by
  intro Fi ei Fj ej h1 h2
  cases hi : L[i]? with
  | none => obtain ⟨rfl, rfl⟩ := lab0 hi h1; simp
  | some pi =>
    obtain ⟨Ri, Wi⟩ := pi
    cases hj : L[j]? with
    | none => obtain ⟨rfl, rfl⟩ := lab0 hj h2; simp
    | some pj =>
      obtain ⟨Rj, Wj⟩ := pj
      obtain ⟨b1, b2⟩ := lab1 hi h1
      obtain ⟨b3, b4⟩ := lab1 hj h2
      rw [hi, hj] at hl
      simp only [Bool.and_eq_true, List.all_eq_true, Bool.not_eq_true'] at hl
      refine ⟨fun p hp q hq e => ?_, fun p hp q hq e => ?_, fun p hp q hq e => ?_⟩
      ·have := (hl.1 p.1 (b2 p hp)).1
       rw [e] at this
       have h3 := b3 q hq
       rw [← List.contains_iff_mem] at h3
       rw [h3] at this; cases this
      ·have := (hl.1 p.1 (b2 p hp)).2
       rw [e] at this
       have h3 := b4 q hq
       rw [← List.contains_iff_mem] at h3
       rw [h3] at this; cases this
      ·have := hl.2 p.1 (b4 p hp)
       rw [e] at this
       have h3 := b1 q hq
       rw [← List.contains_iff_mem] at h3
       rw [h3] at this; cases this
 rcases h1 with ⟨hw1, Ei, Fi, di, ei, hsi, hEi, hFi, hli, rfl⟩ | ⟨hw1, rfl⟩ <;> rcases h2 with ⟨hw2, Ej, Fj, dj, ej, hsj, hEj, hFj, hlj, rfl⟩ | ⟨hw2, rfl⟩
 ·obtain ⟨d1, d2, d3⟩ := dis hli hlj
  refine ⟨(s.eff ej).put oj.dst dj, .inl ⟨by rw [← wj s di ei]; exact hw2, Ej, Fj, dj, ej, hsj, fun p hp => ?_, fun p hp => ?_, hlj, rfl⟩, .inl ⟨by rw [wi]; exact hw1, Ei, Fi, di, ei, hsi, fun p hp => ?_, fun p hp => ?_, hli, ?_⟩⟩
  ·rw [← evj s di ei p.1 (hsj.ops p hp)]; exact hEj p hp
  ·have := hFj p hp
   have e1 : ((s.eff ei).put oi.dst di).h p.1 = s.h p.1 := by
    have : ((s.eff ei).put oi.dst di).h = jQ ei s.h := by cases oi.dst <;> rfl
    rw [this]
    exact iY ei s.h p.1 (fun q hq => d1 q hq p hp)
   rw [← e1]; exact this
  ·rw [evi _ _ _ _ (hsi.ops p hp)]; exact hEi p hp
  ·have : ((s.eff ej).put oj.dst dj).h = jQ ej s.h := by cases oj.dst <;> rfl
   rw [this, iY ej s.h p.1 (fun q hq => d3 q hq p hp)]; exact hFi p hp
  ·rw [ji, ji, jk a2]
   have : (s.eff ei).eff ej = (s.eff ej).eff ei := by
    simp only [St.eff]
    rw [nG ei ej s.h d2]
   rw [this]
 ·refine ⟨s.put oj.dst ik, .inr ⟨by rw [← wj s di ei]; exact hw2, rfl⟩, .inl ⟨by rw [hput, wi]; exact hw1, Ei, Fi, di, ei, hsi, fun p hp => ?_, fun p hp => ?_, hli, ?_⟩⟩
  ·rw [hput, evi _ _ _ _ (hsi.ops p hp)]; exact hEi p hp
  ·have : (s.put oj.dst ik).h = s.h := by cases oj.dst <;> rfl
   rw [this]; exact hFi p hp
  ·rw [ji, jk a2]
 ·refine ⟨(s.eff ej).put oj.dst dj, .inl ⟨by rw [hput, wj] at hw2; exact hw2, Ej, Fj, dj, ej, hsj, fun p hp => ?_, fun p hp => ?_, hlj, rfl⟩, .inr ⟨by rw [wi]; exact hw1, ?_⟩⟩
  ·have := hEj p hp
   rw [hput, evj _ _ _ _ (hsj.ops p hp)] at this; exact this
  ·have := hFj p hp
   have e1 : (s.put oi.dst ik).h = s.h := by cases oi.dst <;> rfl
   rw [e1] at this; exact this
  ·rw [ji, jk a2]
 ·refine ⟨s.put oj.dst ik, .inr ⟨by rw [hput, wj] at hw2; exact hw2, rfl⟩, .inr ⟨by rw [hput s, wi]; exact hw1, ?_⟩⟩
  rw [jk a2]
theorem ut {K : St → Prop} {L : hY} (hlab : lab = some L) {i : Nat} {oi : Oper} (hi : ops[i]? = some oi) (W : Nat → Prop)
 (hW : ∀ j oj, ops[j]? = some oj → W j → ∃ e ∈ oj.after, Region.binds .any e = true ∧ (e.on = i ∨ W e.on)) :
 ∀ (fuel : Nat) (listed : Array Bool) (s s1 : St), (∀ j, W j → listed.getD j true = false) →
   (∀ j oj, ops[j]? = some oj → j ≠ i → listed.getD j true = false → ¬ W j → ja ops L i j oi oj = true) →
   i ∈ Region.ready .any ops.toArray listed → jV P r ops lab i oi s s1 →
   ug P r ops lab K fuel (listed.setIfInBounds i true) s1 → ug P r ops lab K (fuel + 1) listed s := by
 intro fuel
 induction fuel with
 | zero =>
   intro listed s s1 _ _ hr hy H
   refine ⟨fun h => (by rw [h] at hr; cases hr), fun j hj => ?_⟩
   by_cases hji : j = i
   ·subst hji; exact ⟨oi, s1, hi, hy, H⟩
   ·have := ready_mono hj hji
    rw [H.1] at this
    cases this
 | succ fuel ih =>
   intro listed s s1 hWl hfree hr hy H
   refine ⟨fun h => (by rw [h] at hr; cases hr), fun j hj => ?_⟩
   by_cases hji : j = i
   ·subst hji; exact ⟨oi, s1, hi, hy, H⟩
   ·obtain ⟨oj, s2, hoj, hst, hrest⟩ := H.2 j (ready_mono hj hji)
    obtain ⟨hjun, oj', hoj', hall⟩ := mem_ready.1 hj
    have : oj' = oj := by
     have h' : ops[j]? = some oj' := by simpa using hoj'
     rw [hoj] at h'; cases h'; rfl
    subst this
    have hno : ∀ q, listed.getD q true = false → ∀ e ∈ oj'.after, Region.binds .any e = true → e.on ≠ q := fun q h0 e he hb heq => by
     have h1 := hall e he hb
     rw [heq] at h1
     rcases Nat.lt_or_ge q listed.size with h' | h'
     ·simp [h'] at h0 h1; rw [h0] at h1; cases h1
     ·simp [Array.getElem?_eq_none h'] at h1
    have hnW : ¬ W j := fun hw => by
     obtain ⟨e, he, hb, h | h⟩ := hW j oj' hoj hw
     ·exact hno i (mem_ready.1 hr).1 e he hb h
     ·exact hno e.on (hWl _ h) e he hb rfl
    obtain ⟨s', h3, h4⟩ := uK hlab (hfree j oj' hoj hji hjun hnW) hy hst
    have hfree' : ∀ k ok, ops[k]? = some ok → k ≠ i → (listed.setIfInBounds j true).getD k true = false → ¬ W k → ja ops L i k oi ok = true := fun k ok hk hki hun hno => by
     refine hfree k ok hk hki ?_ hno
     by_cases hjk : j = k
     ·subst hjk; exact hjun
     ·rw [getD_set_ne true hjk] at hun; exact hun
    have hWl' : ∀ k, W k → (listed.setIfInBounds j true).getD k true = false := fun k hk => by
     have hjk : j ≠ k := fun e => hnW (e ▸ hk)
     rw [getD_set_ne true hjk]; exact hWl k hk
    refine ⟨oj', s', hoj, h3, ih (listed.setIfInBounds j true) s' s2 hWl' hfree' (ready_mono hr (Ne.symm hji)) h4 ?_⟩
    rw [Array.setIfInBounds_comm _ _ hji]
    exact hrest
theorem qW {K : St → Prop} {L : hY} (hlab : lab = some L) : ∀ (l : List Oper) (k : Nat) (listed : Array Bool) (s : St), (∀ j, l[j]? = ops[k + j]?) →
 pV ops L l.length k listed = true → qx P r ops lab k l s K → ug P r ops lab K l.length listed s
 | [], _, _, _, _, hB, h => ⟨by simpa [pV] using hB, h⟩
 | o :: l, k, listed, s, hl, hB, ⟨s1, h1, h2⟩ => by
   have h0 : ops[k]? = some o := by simpa using (hl 0).symm
   simp only [List.length_cons, pV, Bool.and_eq_true] at hB
   obtain ⟨⟨hr, hf⟩, hB'⟩ := hB
   refine ut hlab h0 (fun j => listed.getD j true = false ∧ ∃ n, gj ops listed k n j = true) (fun j oj hj ⟨_, n, hw⟩ => iu hj hw) l.length listed s s1 (fun j hj => hj.1) (fun j oj hj hjk hun hno => ?_) (by simpa using hr) h1
    (qW hlab l (k + 1) _ s1 (fun j => by have := hl (j + 1); simpa [Nat.add_assoc, Nat.add_comm 1 j] using this) hB' h2)
   simp only [sN, h0, List.all_eq_true, List.mem_range] at hf
   have := hf j (List.getElem?_eq_some_iff.1 hj).1
   simp only [hj, Bool.or_eq_true] at this
   rcases this with (h | h) | h | h
   ·exact absurd (Nat.eq_of_beq_eq_true h) hjk
   ·rw [hun] at h; cases h
   ·exact h
   ·exact absurd ⟨hun, 4, h⟩ hno
end
end Go.Vd
namespace Go.Vd
open Go.RowKit
abbrev wS : D := .v (.mp [[]])
theorem Cj {w : World} {im : Nat → Prop} {ι : Nat → Con} {u : Value} (h : RepD w im ι wS u) : False := by
 have := aA h
 cases this with
 | mp es b clk arr hb hw hl hs hk hv => have := hs [] (by simp); simp at this
section
variable {P : Program} {tab : kt} {r : Option Nat} {𝔅 : BB} {ops : List Oper} {lab : Option hY} {i : Nat} {o : Oper} {rest : List Oper} {tl : List (Nat × D)} {hl : List (Nat × Blk)} {m : MM} {K : St → Prop} {Q : Exit → St → Prop} {s : St}
theorem xV {f : FuncId} {x : Operand} {args : Array Operand} {ats : Array TypeId} {E : List (Operand × D)} {ds : List D} {L : List (Nat × Blk)} (hp : dh P f ds L (.pan 147)) (ho : o.op = .call { callee := .value x, args := args, argTypes := ats })
 (h1 : E.map (·.1) = args.toList) (ha : E.map (·.2) = ds) (hc : (ds.all fun d => d.inn (cb L)) = true) (hcl : (L.all fun p => p.2.inn (cb L)) = true) : zH P r o ((x, .v (.fn (.func f) [] [])) :: E) L wS [] where
 ops p hp' := by
  rw [ho]
  simp only [Op.operands, Call.operands]
  rcases List.mem_cons.1 hp' with rfl | h
  ·simp
  ·have : p.1 ∈ args.toList := by rw [← h1]; exact List.mem_map.2 ⟨p, h, rfl⟩
   simp; exact .inr (by simpa using this)
 snd s hE hFs := .inr fun B N ι a w n R next hN S hR => by
  refine ⟨fun _ _ => trivial, ?_⟩
  rw [Oper.semAt_eq _ _ _ (by rw [ho]; simp)]
  have hargs := nF S h1 (fun p hp => hE p (List.mem_cons_of_mem _ hp)) ha
  have hfn := aA (S.ev (hE (x, .v (.fn (.func f) [] [])) List.mem_cons_self))
  generalize hu : a.eval x = u at hfn
  cases hfn with
  | fn _ _ _ us ws hs1 hs2 hv1 hv2 =>
    have hus : us = #[] := Array.eq_empty_of_size_eq_zero (by simpa using hs1)
    have hws : ws = #[] := Array.eq_empty_of_size_eq_zero (by simpa using hs2)
    subst hus; subst hws
    have hrun : (execOp a.eval o).run P w = .ok (.enter f (args.map a.eval)) w := by
     simp [execOp, ho, resolve, hu, Deferred.ofValue, invoke, hp.1]
    rw [hrun]
    have S0 := kD S (L := L) hargs hFs hc hcl
    refine ⟨fun h => by simp [WF, Fence.wide] at h, CallsIn.mono (gn _ (hp.2 w _ _ _ _ S0 (by simpa using hargs.1))) ?_⟩
    rintro e w' ⟨⟨ch, rfl, hch⟩, q1, q2, q3, q4, q5⟩
    have S2 : Sim B { s with m := ⟨s.m.d, s.m.k, []⟩ } ι a w := { S with pins := fun _ h => by cases h }
    obtain ⟨ι', S'⟩ := tD (keep := []) (tl' := []) S2 rfl q1 q2 q3 q4 q5 rfl (fun _ h => by cases h) (fun _ h => by cases h) rfl rfl rfl
    obtain ⟨ι2, S3⟩ := (wV (s := mk [] ([] ++ L.map fun p => (p.1, Blk.dead)) ⟨s.m.d, s.m.k, []⟩) (tl := []) (hl := []) (m := ⟨s.m.d, s.m.k, []⟩) (fun _ h => by cases h) (fun _ h => by cases h) rfl rfl rfl rfl).2 B ι' a w' S'
    exact hR ch a w' hch ⟨hN, ι2, S3⟩
theorem no {K K' : St → Prop} (hK : ∀ s, K s → K' s) : ∀ {l : List Oper} {i : Nat} {s : St}, aG P r 𝔅 ops lab i l s K → aG P r 𝔅 ops lab i l s K'
 | [], _, _, h => hK _ h
 | _ :: _, _, _, .inl ⟨s', h1, h2⟩ => .inl ⟨s', h1, no hK h2⟩
 | _ :: _, _, _, .inr ⟨S', h1, h2⟩ => .inr ⟨S', h1, fun s' hs => no hK (h2 s' hs)⟩
def Dt (P : Program) (r : Option Nat) (𝔅 : BB) (ops : List Oper) (L : hY) (k : Nat) (o : Oper) (tk : Nat) (rest : List Oper) (s' : St) : Prop :=
 aQ ops s' o.guard = some true ∧ ∃ E F, zH P r o E F wS [] ∧ (∀ p ∈ E, s'.ev p.1 = some p.2) ∧ (∀ p ∈ F, s'.h p.1 = p.2) ∧ cB (some L) k F [] = true ∧ aG P r 𝔅 ops (some L) (k + 1) rest (s'.put (some tk) wS) (fun s'' => s''.t tk = some wS)
theorem zf {N id : Nat} {l : List Oper} {L : hY} (k tk : Nat) (hd : kL N l = true) (hm : P.follows .mixedOrders = true) (hB : pV l L l.length 0 (Array.replicate l.length false) = true) (hk : l[k]? = some o) (hdst : o.dst = some tk)
 (h : aG P r 𝔅 l (some L) 0 (l.take k) s (Dt P r 𝔅 l L k o tk (l.drop (k + 1)))) (hQ : ∀ ch, A2 ch → Q (.panic ch) (mk [] [] ⟨s.m.d, s.m.k, []⟩)) : Wp P r N 𝔅 (.region id l.toArray true) Q s := fun a w n ⟨hN, B0, ι, hB0, S⟩ =>
 wpIn_region_draw fun t => by
  simp only [Region.schedule, hm, Bool.true_or, if_true]
  have hlt := (List.getElem?_eq_some_iff.1 hk).1
  have hlen : (l.take k).length = k := by rw [List.length_take]; omega
  have hsp : l = l.take k ++ (o :: l.drop (k + 1)) := by
   have h2 : l.drop k = o :: l.drop (k + 1) := by
    rw [List.drop_eq_getElem_cons hlt]
    congr 1
    exact (List.getElem?_eq_some_iff.1 hk).2
   rw [← h2, List.take_append_drop]
  have h0 : qx P r l (some L) 0 l s (fun s'' => s''.t tk = some wS) := by
   have : qx P r l (some L) 0 (l.take k ++ (o :: l.drop (k + 1))) s (fun s'' => s''.t tk = some wS) := by
    refine pC (𝔅 := 𝔅) (l.take k) 0 s _ _ (no ?_ h)
    rintro s' ⟨hw, E, F, hs, hE, hF, hl, hr⟩
    rw [Nat.zero_add, hlen]
    refine ⟨s'.put (some tk) wS, .inl ⟨hw, E, F, wS, [], hs, hE, hF, hl, by rw [hdst]; rfl⟩, ?_⟩
    have := pC (𝔅 := 𝔅) (l.drop (k + 1)) (k + 1) (s'.put (some tk) wS) [] (fun s'' => s''.t tk = some wS) hr
    rwa [List.append_nil] at this
   rwa [← hsp] at this
  have h1 := qW (K := fun s'' => s''.t tk = some wS) (L := L) rfl l 0 (Array.replicate l.length false) s (fun j => by simp) hB h0
  have h2 := uA l.length t _ s h1
  have h3 := lE (𝔅 := 𝔅) (N := N) (n := n) (Q := pz 𝔅 N Q) hd _ s _ a { w with drawn := w.drawn + 1 } ⟨hN, B0, ι, hB0, S.drew⟩ (fun s' a' w' hk' hp _ => by
   obtain ⟨_, _, ι', _, S'⟩ := hp
   obtain ⟨u, _, hu⟩ := S'.tmps tk _ hk'
   exact (Cj hu).elim) (fun ch a' w' hch hp => ⟨_, hQ ch hch, hp⟩) h2
  have e : l.length = l.toArray.size := by simp
  rw [Region.linearise]
  rw [e] at h3
  exact h3
theorem EK {f : FuncId} {x : Operand} {args : Array Operand} {ats : Array TypeId} {E : List (Operand × D)} {ds : List D} {L : List (Nat × Blk)} {LL : hY} {k tk : Nat} (hp : dh P f ds L (.pan 147)) (ho : o.op = .call { callee := .value x, args := args, argTypes := ats })
 (hx : (mk tl hl m).ev x = some (.v (.fn (.func f) [] []))) (hE : iT (mk tl hl m) args.toList = some E) (ha : E.map (·.2) = ds) (hL : HasH (mk tl hl m) L) (hc : (ds.all fun d => d.inn (cb L)) = true) (hcl : (L.all fun p => p.2.inn (cb L)) = true)
 (hg : aQ ops (mk tl hl m) o.guard = some true) (hlab : cB (some LL) k L [] = true) (h : aG P r 𝔅 ops (some LL) (k + 1) rest (mk ((tk, wS) :: tl) hl m) (fun s'' => s''.t tk = some wS)) : Dt P r 𝔅 ops LL k o tk rest (mk tl hl m) :=
 ⟨hg, (x, .v (.fn (.func f) [] [])) :: E, L, xV hp ho (cM hE).1 ha hc hcl, (fun p hp => by
  rcases List.mem_cons.1 hp with rfl | h
  ·exact hx
  ·exact (cM hE).2 p h), hL.all, hlab, by rw [vV]; exact h⟩
end
end Go.Vd
namespace Go.Vd
open Go.RowKit
section
variable {P : Program} {tab : kt} {o : Oper} {s : St}
theorem rr (hT : bg P tab = true) {T e sz : Nat} {ti te : TI} {x i : Operand} {id e' : Nat} {es : List (List V)} {k : IntKind} {n : Int} (ho : o.op = .indexAddr T x i)
 (hl : lk tab T = some ti) (he : ti.sliceElem = some e) (hle : lk tab e = some te) (hsz : te.size = sz) (hx : s.ev x = some (.own id)) (hi : s.ev i = some (.v (.int k n)))
 (hb : s.h id = .row e' sz es) (h0 : 0 ≤ n) (h1 : n < es.length) : cV P o s (.eptr id (n.toNat * sz)) [] :=
 bi fun B ι a w S => by
  have hi' : a.eval i = .int k n := (aA (S.ev hi)).int_inv
  obtain ⟨j, z, hj, hjs, _⟩ := dB (bT hT hle)
  have hb0 := S.blks id
  rw [hb] at hb0
  obtain ⟨g, cap, arr, h2, _⟩ := jx hb0 (by intro h; rw [h] at h1; simp at h1; omega)
  have hx' := (S.ev hx).own_inv
  refine ⟨_, fL ho (ct hT hl he) hj (hx'.2 _ _ _ h2) hi' h0 h1, .eptr id _ _ hx'.1 fun g' m' c' h => ?_⟩
  rw [h2] at h; cases h
  rw [hjs, hsz]; simp
theorem pO (hT : bg P tab = true) {T : Nat} {ti : TI} {x : Operand} {id n q e sz : Nat} {es : List (List V)} {y : List V} (ho : o.op = .load T x) (hl : lk tab T = some ti) (ha : ti.isAgg = true)
 (hx : s.ev x = some (.eptr id q)) (hb : s.h id = .row e sz es) (hq : q = n * sz) (hd : es[n]? = some y) (hs : ti.size = sz) (hy : y.length = sz) : cV P o s (.v (.agg y)) [] :=
 bi fun B ι a w S => by
  have h0 := S.blks id
  rw [hb] at h0
  obtain ⟨g, cap, arr, h1, h2, h3, h4, h5, h6⟩ := jx h0 (by intro h; rw [h] at hd; cases hd)
  have h7 := (S.ev hx).eptr_inv.2 g _ cap h1
  have hn : n < es.length := (List.getElem?_eq_some_iff.1 hd).1
  have hle : (n + 1) * sz ≤ cap * sz := Nat.mul_le_mul_right sz (by omega)
  rw [Nat.succ_mul] at hle
  subst hs
  have hc : ∀ j, j < ti.size → w.cell? ⟨g, q + j, none⟩ = some (arr.getD (q + j) undef) := fun j hj => by
   rw [cell_of_row w g (q + j) arr e (0, 0) h2]
   have : q + j < arr.size := by omega
   simp [this, Array.getD]
  refine ⟨_, gb ho h7 (fN hT hl ha _ hc), .v (.agg _ _ (by simp; omega) ?_)⟩
  intro i v u hv hu
  have hi : i < ti.size := by have := (List.getElem?_eq_some_iff.1 hv).1; omega
  have hlt : q + i < arr.size := by omega
  refine h6 n i y v u hd hv ?_
  simp [hi, Array.getD, hlt] at hu
  rw [← hq]
  simp [hlt, hu]
end
section
variable {P : Program} {tab : kt} {r : Option Nat} {𝔅 : BB} {ops : List Oper} {lab : Option hY} {i : Nat} {o : Oper} {rest : List Oper} {tl : List (Nat × D)} {hl : List (Nat × Blk)} {m : MM} {K : St → Prop} {k : Nat}
theorem wh {T e sz : Nat} {ti te : TI} {x y : Operand} {id e' : Nat} {es : List (List V)} {kk : IntKind} {n : Int} {q : Nat} (hT : bg P tab = true) (ho : o.op = .indexAddr T x y) (hx0 : (mk tl hl m).ev x = some (.own id)) (hx1 : (mk tl hl m).ev y = some (.v (.int kk n))) (hf0 : (mk tl hl m).h id = .row e' sz es) (hlt : lk tab T = some ti) (he : ti.sliceElem = some e) (hle : lk tab e = some te) (hsz : te.size = sz) (h0 : 0 ≤ n) (h1 : n < es.length) (hq : n.toNat * sz = q) (hlab : cB lab i [(id, .row e' sz es)] [] = true) (hd : o.dst = some k) (hg : aQ ops (mk tl hl m) o.guard = some true) (h : aG P r 𝔅 ops lab (i + 1) rest (mk ((k, .eptr id q) :: tl) hl m) K) : aG P r 𝔅 ops lab i (o :: rest) (mk tl hl m) K :=
 bO (E := [(x, .own id), (y, .v (.int kk n))]) (F := [(id, .row e' sz es)]) (d := .eptr id q) (e := []) (aU (by simp [ho, Op.operands]) (by simp [ho]) fun s hE hF => hq ▸ rr hT ho hlt he hle hsz (hE (x, .own id) (by simp)) (hE (y, .v (.int kk n)) (by simp)) (hF (id, .row e' sz es) (by simp)) h0 h1) (eN hx0 hx1) (et hf0) hlab hd hg h
theorem sZ {T : Nat} {ti : TI} {x : Operand} {id n q e sz : Nat} {es : List (List V)} {y : List V} (hT : bg P tab = true) (ho : o.op = .load T x) (hx0 : (mk tl hl m).ev x = some (.eptr id q)) (hf0 : (mk tl hl m).h id = .row e sz es) (hlt : lk tab T = some ti) (ha : ti.isAgg = true) (hq : q = n * sz) (hc : es[n]? = some y) (hs : ti.size = sz) (hy : y.length = sz) (hlab : cB lab i [(id, .row e sz es)] [] = true) (hd : o.dst = some k) (hg : aQ ops (mk tl hl m) o.guard = some true) (h : aG P r 𝔅 ops lab (i + 1) rest (mk ((k, .v (.agg y)) :: tl) hl m) K) : aG P r 𝔅 ops lab i (o :: rest) (mk tl hl m) K :=
 bO (E := [(x, .eptr id q)]) (F := [(id, .row e sz es)]) (d := .v (.agg y)) (e := []) (aU (by simp [ho, Op.operands]) (by simp [ho]) fun s hE hF => pO hT ho hlt ha (hE (x, .eptr id q) (by simp)) (hF (id, .row e sz es) (by simp)) hq hc hs hy) (et hx0) (et hf0) hlab hd hg h
end
end Go.Vd
namespace Go.Vd
open Go.RowKit
def lf (k : Nat) (w w' : World) : Prop :=
 w'.os = w.os ∧ w'.tape = w.tape ∧ w'.output = w.output ∧ w.heap.size ≤ w'.heap.size ∧ ∀ c, c < w.heap.size → c ≠ k → w'.heap[c]? = w.heap[c]?
theorem wF {w : World} {im : Nat → Prop} {k : Nat} {cs : List V} {arr : Array Value} {ty : TypeId} {vs : List V} {us : List Value} (hG : Glob w) (h9 : 9 ≤ k) (hk : w.heap[k]? = some (.cells arr ty (0, 0))) (him : ∀ b, im b → b ≠ k)
 (ha : arr.size = cs.length) (hc : ∀ (i : Nat) v u, cs[i]? = some v → arr[i]? = some u → RepV w im v u) (hv : PW (RepV w im) vs us) (β : Nat → Nat) (hβ : β 900 = k) :
 Sim ⟨w, im, bI fun id => if id = 900 then .box k else .res⟩ (mk (kB 0 (.ptr 900 0 :: vs.map .v)) [(900, .box (cs.map .v))] ⟨0, 0, cK (cL [(900, .box (cs.map .v))]) β⟩) (fun id => if id = 900 then .box k else .res)
  ⟨(.pointer (some ⟨k, 0, none⟩) :: us).toArray, []⟩ w := by
 have hklt : k < w.heap.size := (Array.getElem?_eq_some_iff.1 hk).1
 have hblk : ∀ id b, ((fun id => if id = 900 then Con.box k else .res) id).blk = some b → id = 900 ∧ b = k := by
  intro id b h
  by_cases h9 : id = 900
  ·subst h9; simp [Con.blk] at h; exact ⟨rfl, h.symm⟩
  ·simp [h9, Con.blk] at h
 have hS : ∀ b, im b → b < w.heap.size → cx ⟨w, im, bI fun id => if id = 900 then Con.box k else .res⟩ (fun id => if id = 900 then Con.box k else .res) b ∧ w.heap[b]? = w.heap[b]? := fun b hb _ =>
  ⟨⟨.inl hb, fun id h => him b hb (hblk id b h).2⟩, rfl⟩
 have hrep : ∀ {v u}, RepV w im v u → RepV w (cx ⟨w, im, bI fun id => if id = 900 then Con.box k else .res⟩ (fun id => if id = 900 then Con.box k else .res)) v u := fun h => h.mono hS
 refine ⟨rfl, rfl, rfl, Nat.le_refl _, fun _ _ _ => rfl, ?_, ?_, ?_, ?_, rfl, ?_, ?_, ?_⟩
 ·intro id id' b h h'
  rw [(hblk id b h).1, (hblk id' b h').1]
 ·intro id b h
  obtain ⟨h1, h2⟩ := hblk id b h
  subst h2
  exact ⟨hklt, .inr ⟨id, h⟩⟩
 ·intro id
  by_cases h9 : id = 900
  ·subst h9
   refine ⟨k, arr, ty, rfl, hk, by simpa using ha, fun i d u hd hu => ?_⟩
   rw [List.getElem?_map] at hd
   cases hci : cs[i]? with
   | none => rw [hci] at hd; cases hd
   | some v => rw [hci] at hd; cases hd; exact .v (hrep (hc i v u hci hu))
  ·have e1 : (mk (kB 0 (.ptr 900 0 :: vs.map .v)) [(900, .box (cs.map .v))] ⟨0, 0, cK (cL [(900, .box (cs.map .v))]) β⟩).h id = .res := by
    have hb : Nat.beq id 900 = false := by
     cases hbb : Nat.beq id 900 with
     | false => rfl
     | true => exact absurd (Nat.eq_of_beq_eq_true hbb) h9
    simp [mk, lk, hb]
   rw [e1, if_neg h9]
   rfl
 ·intro n d hn
  have hz : ∀ (l : List V) (ul : List Value) (i : Nat), PW (RepV w im) l ul → ∀ n d, lk (kB i (l.map .v)) n = some d → i ≤ n ∧ ∃ u, ul[n - i]? = some u ∧ RepD w (cx ⟨w, im, bI fun id => if id = 900 then Con.box k else .res⟩ (fun id => if id = 900 then Con.box k else .res)) (fun id => if id = 900 then Con.box k else .res) d u := by
   intro l
   induction l with
   | nil => intro ul i _ n d h; simp [kB, lk] at h
   | cons x l ih =>
     intro ul i hp n d h
     match ul, hp with
     | [], hp => have := hp.1; simp at this
     | u :: ul, hp =>
     simp only [List.map_cons, kB, lk] at h
     cases hb : Nat.beq n i with
     | true =>
       have := Nat.eq_of_beq_eq_true hb
       subst this
       simp at h
       subst h
       exact ⟨Nat.le_refl _, u, by simp, .v (hrep (hp.2 0 x u rfl rfl))⟩
     | false =>
       rw [hb] at h
       obtain ⟨h1, u', h2, h3⟩ := ih ul (i + 1) ⟨by simpa using hp.1, fun j v u a b => hp.2 (j + 1) v u (by simpa using a) (by simpa using b)⟩ n d h
       refine ⟨by omega, u', ?_, h3⟩
       rw [show n - i = (n - (i + 1)) + 1 by omega]
       simpa using h2
  have hn' : lk (kB 0 (.ptr 900 0 :: vs.map .v)) n = some d := hn
  simp only [kB, lk] at hn'
  cases hb : Nat.beq n 0 with
  | true =>
    have := Nat.eq_of_beq_eq_true hb
    subst this
    simp at hn'
    subst hn'
    refine ⟨.pointer (some ⟨k, 0, none⟩), by simp, .ptr 900 0 _ (by simp) fun b h => ?_⟩
    simp at h; subst h; rfl
  | false =>
    rw [hb] at hn'
    obtain ⟨h1, u, h2, h3⟩ := hz vs us 1 hv n d hn'
    refine ⟨u, ?_, h3⟩
    show (Value.pointer (some ⟨k, 0, none⟩) :: us).toArray[n]? = some u
    rw [List.getElem?_toArray, show n = (n - 1) + 1 by omega]
    simpa using h2
 ·intro p hp
  simp only [cL, cK, List.map_cons, List.map_nil, mk, List.mem_singleton] at hp
  subst hp
  left; simp [hβ]
 ·intro d hd; cases hd
 ·exact ⟨hG, fun b ⟨id, h⟩ => by rw [(hblk id b h).2]; exact h9⟩
theorem tG {P : Program} {f : FuncId} {cs cs' vs : List V} {x : V} {w : World} {im : Nat → Prop} {k : Nat} {arr : Array Value} {ty : TypeId} {us : List Value}
 (hp : dh P f (.ptr 900 0 :: vs.map .v) [(900, .box (cs.map .v))] (.ret (.v x) [(900, .box (cs'.map .v))])) (hG : Glob w) (h9 : 9 ≤ k) (hk : w.heap[k]? = some (.cells arr ty (0, 0))) (him : ∀ b, im b → b ≠ k)
 (ha : arr.size = cs.length) (hc : ∀ (i : Nat) v u, cs[i]? = some v → arr[i]? = some u → RepV w im v u) (hv : PW (RepV w im) vs us) :
 Calls P f (.pointer (some ⟨k, 0, none⟩) :: us).toArray w fun e w' => ∃ u arr' ty', e = .returned u ∧ lf k w w' ∧ RepV w' (fun b => (im b ∨ w.heap.size ≤ b) ∧ b ≠ k) x u ∧
  w'.heap[k]? = some (.cells arr' ty' (0, 0)) ∧ arr'.size = cs'.length ∧ ∀ (i : Nat) v u, cs'[i]? = some v → arr'[i]? = some u → RepV w' (fun b => (im b ∨ w.heap.size ≤ b) ∧ b ≠ k) v u := by
 have S := wF hG h9 hk him ha hc hv (fun _ => k) rfl
 refine Calls.mono (hp.2 w im _ (fun _ => k) _ S (by simp [hv.1])) ?_
 rintro e w' ⟨u, ι', rfl, S'⟩
 have hown : ∀ b, bI (fun id => if id = 900 then Con.box k else .res) b → b = k := by
  rintro b ⟨id, h⟩
  by_cases h9 : id = 900
  ·subst h9; simp [Con.blk] at h; exact h.symm
  ·simp [h9, Con.blk] at h
 have hb := S'.blks 900
 obtain ⟨b, arr', ty', hι, hh, hsz, hcell⟩ : ∃ b arr ty, ι' 900 = .box b ∧ w'.heap[b]? = some (.cells arr ty (0, 0)) ∧ arr.size = (cs'.map D.v).length ∧ ∀ (i : Nat) d u, (cs'.map D.v)[i]? = some d → arr[i]? = some u → RepD w' (cx ⟨w, im, bI fun id => if id = 900 then Con.box k else .res⟩ ι') ι' d u := hb
 have hpin := S'.pins (900, k) (by simp [cL, cK, mk])
 have hbk : b = k := by
  rcases hpin with h | h
  ·simp only at h; rw [hι] at h; cases h; rfl
  ·simp only at h; rw [hι] at h; cases h
 subst hbk
 have hmono : ∀ c, cx ⟨w, im, bI fun id => if id = 900 then Con.box b else .res⟩ ι' c → c < w'.heap.size → ((im c ∨ w.heap.size ≤ c) ∧ c ≠ b) ∧ w'.heap[c]? = w'.heap[c]? := by
  rintro c ⟨h1, h2⟩ _
  have hne : c ≠ b := fun h => h2 900 (by rw [hι, h]; rfl)
  refine ⟨⟨?_, hne⟩, rfl⟩
  rcases h1 with h | h | h
  ·exact .inl h
  ·exact .inr h
  ·exact absurd (hown c h) hne
 refine ⟨u, arr', ty', rfl, ⟨S'.os, S'.tape, S'.output, S'.size, fun c hc hck => S'.frame c hc fun ho => hck (hown c ho)⟩, ?_, hh, by simpa using hsz, fun i v u' hi hu => ?_⟩
 ·obtain ⟨u', h1, h2⟩ := S'.tmps 0 (.v x) (by simp [mk, lk])
  have h1' : u' = u := by simpa using h1.symm
  subst h1'
  exact (aA h2).mono hmono
 ·exact (aA (hcell i (.v v) u' (by simp [hi]) hu)).mono hmono
theorem my {P : Program} {f : FuncId} {cs vs : List V} {T : Nat} {w : World} {im : Nat → Prop} {k : Nat} {arr : Array Value} {ty : TypeId} {us : List Value}
 (hp : dh P f (.ptr 900 0 :: vs.map .v) [(900, .box (cs.map .v))] (.pan T)) (hG : Glob w) (h9 : 9 ≤ k) (hk : w.heap[k]? = some (.cells arr ty (0, 0))) (him : ∀ b, im b → b ≠ k)
 (ha : arr.size = cs.length) (hc : ∀ (i : Nat) v u, cs[i]? = some v → arr[i]? = some u → RepV w im v u) (hv : PW (RepV w im) vs us) :
 Calls P f (.pointer (some ⟨k, 0, none⟩) :: us).toArray w fun e w' => (∃ p q, q ≠ 0 ∧ e = .panicked [{ v := wv T p q, recovered := false }]) ∧ lf k w w' := by
 have S := wF hG h9 hk him ha hc hv (fun _ => k) rfl
 refine Calls.mono (hp.2 w im _ (fun _ => k) _ S (by simp [hv.1])) ?_
 rintro e w' ⟨⟨ch, rfl, p, q, hq, rfl⟩, h1, h2, h3, h4, h5⟩
 refine ⟨⟨p, q, hq, rfl⟩, h1, h2, h3, h4, fun c hc hck => h5 c hc ?_⟩
 rintro ⟨id, h⟩
 by_cases h9 : id = 900
 ·subst h9; simp [Con.blk] at h; exact hck h.symm
 ·simp [h9, Con.blk] at h
end Go.Vd
namespace Go.Vd
open Go.RowKit
def gK (b : Nat) : Nat → List Value → World → World
 | _, [], w => w
 | i, v :: vs, w => gK b (i + 1) vs (w.setCell ⟨b, i, none⟩ v)
theorem iM (b : Nat) : ∀ (vs : List Value) (i : Nat) (w : World), (∀ c, c ≠ b → (gK b i vs w).heap[c]? = w.heap[c]?) ∧ (gK b i vs w).heap.size = w.heap.size ∧ (gK b i vs w).os = w.os ∧ (gK b i vs w).tape = w.tape ∧ (gK b i vs w).output = w.output
 | [], _, _ => ⟨fun _ _ => rfl, rfl, rfl, rfl, rfl⟩
 | v :: vs, i, w => by
   obtain ⟨h1, h2, h3, h4, h5⟩ := iM b vs (i + 1) (w.setCell ⟨b, i, none⟩ v)
   refine ⟨fun c hc => (h1 c hc).trans (heap_setCell_other _ _ _ _ hc), h2.trans (by simp), h3.trans rfl, h4.trans rfl, h5.trans rfl⟩
theorem uw (b : Nat) : ∀ (vs : List Value) (i : Nat) (w : World) (arr : Array Value) (ty : TypeId), w.heap[b]? = some (.cells arr ty (0, 0)) → i + vs.length = arr.size →
 (gK b i vs w).heap[b]? = some (.cells (arr.toList.take i ++ vs).toArray ty (0, 0))
 | [], i, w, arr, ty, h, hs => by
   have : arr.toList.take i = arr.toList := List.take_of_length_le (by simp at hs ⊢; omega)
   simp only [gK, List.append_nil, this]
   exact h
 | v :: vs, i, w, arr, ty, h, hs => by
   have h1 := heap_setCell_same w b i arr ty v h
   simp only [List.length_cons] at hs
   have h2 := uw b vs (i + 1) (w.setCell ⟨b, i, none⟩ v) _ ty h1 (by simp; omega)
   show (gK b (i + 1) vs (w.setCell ⟨b, i, none⟩ v)).heap[b]? = _
   rw [h2]
   congr 3
   simp only [Array.toList_setIfInBounds]
   have e : (arr.toList.set i v).take (i + 1) = arr.toList.take i ++ [v] := by
    have hi : i < arr.toList.length := by simp; omega
    rw [List.take_succ_eq_append_getElem (by simpa using hi), List.getElem_set_self, List.take_set_of_le (Nat.le_refl i)]
   rw [e, List.append_assoc]; rfl
theorem kV {b : Nat} {vs : List Value} {w : World} {arr : Array Value} {ty : TypeId} (h : w.heap[b]? = some (.cells arr ty (0, 0))) (hs : vs.length = arr.size) : (gK b 0 vs w).heap[b]? = some (.cells vs.toArray ty (0, 0)) := by
 have := uw b vs 0 w arr ty h (by omega)
 simpa using this
theorem C5 (b : Nat) (a0 a1 a2 a3 a4 a5 a6 : Value) (w : World) : (((((((w.setCell ⟨b, 0, none⟩ a0).setCell ⟨b, 1, none⟩ a1).setCell ⟨b, 2, none⟩ a2).setCell ⟨b, 3, none⟩ a3).setCell ⟨b, 4, none⟩ a4).setCell ⟨b, 5, none⟩ a5).setCell ⟨b, 6, none⟩ a6) = gK b 0 [a0, a1, a2, a3, a4, a5, a6] w := rfl
theorem zV (b : Nat) (a0 a1 a2 a3 a4 : Value) (w : World) : (((((w.setCell ⟨b, 0, none⟩ a0).setCell ⟨b, 1, none⟩ a1).setCell ⟨b, 2, none⟩ a2).setCell ⟨b, 3, none⟩ a3).setCell ⟨b, 4, none⟩ a4) = gK b 0 [a0, a1, a2, a3, a4] w := rfl
theorem oS {w : World} {im : Nat → Prop} {cs : List V} {u : Value} (h : RepV w im (.agg cs) u) : ∃ us : List Value, u = .agg us.toArray ∧ us.length = cs.length ∧ ∀ (i : Nat) v x, cs[i]? = some v → us[i]? = some x → RepV w im v x := by
 cases h with
 | agg _ us hs hv => exact ⟨us.toList, rfl, by simpa using hs, fun i v x a b => hv i v x a (by simpa using b)⟩
theorem aY {w : World} {b i : Nat} {arr : Array Value} {ty : TypeId} {v : Value} (h : w.heap[b]? = some (.cells arr ty (0, 0))) (hv : arr[i]? = some v) : w.cell? ⟨b, i, none⟩ = some v := by
 rw [cell_of_row w b i arr ty (0, 0) h]; exact hv
theorem bQ {w : World} {b i : Nat} {arr : Array Value} {ty : TypeId} (h : w.heap[b]? = some (.cells arr ty (0, 0))) : w.frozen? ⟨b, i, none⟩ = false := by simp [World.frozen?, h]
end Go.Vd
namespace Go.Vd
open Go.RowKit
def RowsOf (S : Nat → Prop) (R : Int → Prop) (w : World) : Prop := ∀ b, S b → b < w.heap.size ∧ ∃ arr, w.heap[b]? = some (.cells arr 3 (0, 0)) ∧ ∀ (i : Nat) u, arr[i]? = some u → ∃ z, u = .int .i64 z ∧ R z
def SlIn (S : Nat → Prop) (w : World) (u : Value) (k : Nat) : Prop := (u = .slice none 0 0 ∧ k = 0) ∨ ∃ b o c arr, u = .slice (some ⟨b, o, none⟩) k c ∧ k ≤ c ∧ S b ∧ w.heap[b]? = some (.cells arr 3 (0, 0)) ∧ o + c ≤ arr.size
structure Bf (S S' : Nat → Prop) (w w' : World) : Prop where
 os : w'.os = w.os
 tape : w'.tape = w.tape
 output : w'.output = w.output
 size : w.heap.size ≤ w'.heap.size
 frame : ∀ b, b < w.heap.size → ¬ S b → w'.heap[b]? = w.heap[b]?
 sub : ∀ b, S b → S' b
 new : ∀ b, S' b → S b ∨ w.heap.size ≤ b
 keep : ∀ b arr, S b → w.heap[b]? = some (.cells arr 3 (0, 0)) → ∃ arr', w'.heap[b]? = some (.cells arr' 3 (0, 0)) ∧ arr'.size = arr.size
theorem SlIn.grew {S S' : Nat → Prop} {w w' : World} {u : Value} {k : Nat} (h : SlIn S w u k) (g : Bf S S' w w') : SlIn S' w' u k := by
 rcases h with h | ⟨b, o, c, arr, rfl, h1, h2, h3, h4⟩
 ·exact .inl h
 ·obtain ⟨arr', h5, h6⟩ := g.keep b arr h2 h3
  exact .inr ⟨b, o, c, arr', rfl, h1, g.sub b h2, h5, by omega⟩
theorem SlIn.frame {S : Nat → Prop} {w w' : World} {u : Value} {k : Nat} (h : SlIn S w u k) (g : ∀ b, S b → w'.heap[b]? = w.heap[b]?) : SlIn S w' u k := by
 rcases h with h | ⟨b, o, c, arr, rfl, h1, h2, h3, h4⟩
 ·exact .inl h
 ·exact .inr ⟨b, o, c, arr, rfl, h1, h2, (g b h2).trans h3, h4⟩
theorem RowsOf.frame {S : Nat → Prop} {R : Int → Prop} {w w' : World} (h : RowsOf S R w) (hs : w.heap.size ≤ w'.heap.size) (g : ∀ b, S b → w'.heap[b]? = w.heap[b]?) : RowsOf S R w' := fun b hb => by
 obtain ⟨h1, arr, h2, h3⟩ := h b hb
 exact ⟨Nat.lt_of_lt_of_le h1 hs, arr, (g b hb).trans h2, h3⟩
theorem SlIn.val {S : Nat → Prop} {w : World} {u : Value} {k : Nat} (h : SlIn S w u k) : ∃ ad c, u = .slice ad k c := by
 rcases h with ⟨rfl, rfl⟩ | ⟨b, o, c, arr, rfl, _⟩
 ·exact ⟨none, 0, rfl⟩
 ·exact ⟨_, c, rfl⟩
theorem SlIn.get {S : Nat → Prop} {R : Int → Prop} {w : World} {u : Value} {k : Nat} (h : SlIn S w u k) (hR : RowsOf S R w) {i : Nat} (hi : i < k) : ∃ b o c z, u = .slice (some ⟨b, o, none⟩) k c ∧ k ≤ c ∧ w.cell? ⟨b, o + i, none⟩ = some (.int .i64 z) ∧ R z := by
 rcases h with h | ⟨b, o, c, arr, rfl, h1, h2, h3, h4⟩
 ·omega
 ·obtain ⟨_, uM, h5, h6⟩ := hR b h2
  rw [h3] at h5; cases h5
  have hlt : o + i < arr.size := by omega
  obtain ⟨z, hz, hRz⟩ := h6 (o + i) arr[o + i] (by simp [hlt])
  exact ⟨b, o, c, z, rfl, h1, by rw [cell_of_row w b (o + i) arr 3 (0, 0) h3, Array.getElem?_eq_getElem hlt, hz], hRz⟩
section
variable {P : Program} {t : TypeId} {i : TypeInfo} {ty : TypeId}
theorem pZ {w : World} (ht : P.underlying t = some (.slice 3)) (hi : P.info? 3 = some i) (his : i.size = 1) (g o k c : Nat) (cur : Array Value) (hg : w.heap[g]? = some (.cells cur 3 (0, 0))) (hc : k + 1 ≤ c) (hfit : o + c ≤ cur.size)
 (tb : Nat) (x : Int) (hx : w.heap[tb]? = some (.cells #[.int .i64 x] 3 (0, 0))) :
 (Builtin.append_ #[t, t] ty #[.slice (some ⟨g, o, none⟩) k c, .slice (some ⟨tb, 0, none⟩) 1 1]).run P w = .ok (.slice (some ⟨g, o, none⟩) (k + 1) c) (w.setRow g (cur.toList.take (o + k) ++ [Value.int .i64 x] ++ cur.toList.drop (o + k + 1)).toArray) := by
 have hf := run_firstCells_some (P := P) w i.size 1 ⟨tb, 0, none⟩ 1 1 [.int .i64 x] (by simp [his]) (fun j v hj => by
  match j, hj with
  | 0, rfl => exact aY hx rfl)
 have hst := run_storeCells_at P g (o + k) 3 [.int .i64 x] 0 cur w hg (by simp; omega) (fun v hv => by rw [List.mem_singleton] at hv; subst hv; rfl)
 simp only [Nat.add_zero, List.length_singleton] at hst
 simp [Builtin.append_, run_underlying ht, sizeOf, typeInfo, hi, his, Builtin.lenOf, hc, Addr.add_lit]
 rw [his] at hf
 simp [hf, hst]
theorem FP {S : Nat → Prop} {R : Int → Prop} {w : World} {q : Value} {k : Nat} {x : Int} {tb : Nat} (ht : P.underlying t = some (.slice 3)) (hi : P.info? 3 = some i) (hz : i.zero = some (.int .i64 0)) (his : i.size = 1) (hib : i.bytes = 8)
 (hq : SlIn S w q k) (hR : RowsOf S R w) (hx : R x) (h0 : R 0) (hk : k + 1 ≤ 1000000000000) (htm : w.heap[tb]? = some (.cells #[.int .i64 x] 3 (0, 0))) :
 ∃ q' w' S', (Builtin.append_ #[t, t] ty #[q, .slice (some ⟨tb, 0, none⟩) 1 1]).run P w = .ok q' w' ∧ SlIn S' w' q' (k + 1) ∧ RowsOf S' R w' ∧ Bf S S' w w' := by
 have hnew : ∀ (vs : List Value) (n : Nat), (∀ v ∈ vs, ∃ z, v = .int .i64 z ∧ R z) → vs.length = k + 1 → ∀ cap, k + 1 ≤ cap → ∃ S', SlIn S' (w.drew.alloc (.cells (vs.toArray ++ Builtin.zeroCells #[.int .i64 0] (cap - (k + 1))) 3)) (.slice (some ⟨w.heap.size, 0, none⟩) (k + 1) cap) (k + 1) ∧ RowsOf S' R (w.drew.alloc (.cells (vs.toArray ++ Builtin.zeroCells #[.int .i64 0] (cap - (k + 1))) 3)) ∧ Bf S S' w (w.drew.alloc (.cells (vs.toArray ++ Builtin.zeroCells #[.int .i64 0] (cap - (k + 1))) 3)) := by
  intro vs n hvs hl cap hcap
  have hh : ∀ b, b < w.heap.size → (w.drew.alloc (.cells (vs.toArray ++ Builtin.zeroCells #[.int .i64 0] (cap - (k + 1))) 3)).heap[b]? = w.heap[b]? := fun b hb => Below.heap_alloc w.drew _ b hb
  have hn := heap_alloc_new w.drew (.cells (vs.toArray ++ Builtin.zeroCells #[.int .i64 0] (cap - (k + 1))) 3)
  refine ⟨fun b => S b ∨ b = w.heap.size, .inr ⟨w.heap.size, 0, cap, _, rfl, hcap, .inr rfl, hn, by simp [Builtin.zeroCells, hl]; omega⟩, fun b hb => ?_, ⟨rfl, rfl, rfl, by simp, fun b hb _ => hh b hb, fun b hb => .inl hb, fun b hb => hb.elim .inl (fun e => .inr (by omega)), fun b arr hb ha => ⟨arr, by rw [hh b (hR b hb).1]; exact ha, rfl⟩⟩⟩
  rcases hb with hb | rfl
  ·obtain ⟨h1, arr, h2, h3⟩ := hR b hb
   exact ⟨by simp; omega, arr, by rw [hh b h1]; exact h2, h3⟩
  ·refine ⟨by simp, _, hn, fun j u hu => ?_⟩
   rw [Array.getElem?_append] at hu
   split at hu
   ·exact hvs u (List.mem_of_getElem? (by simpa using hu))
   ·have hm := Array.mem_of_getElem? hu
    refine ⟨0, ?_, h0⟩
    simp [Builtin.zeroCells] at hm
    obtain ⟨a, _, hm⟩ := hm
    rw [show a % 1 = 0 from Nat.mod_one a] at hm
    exact hm.symm
 rcases hq with ⟨rfl, rfl⟩ | ⟨b, o, c, arr, rfl, hkc, hb, ha, hoc⟩
 ·have hrun := jj (ty := ty) (w := w) ht ht hi hz ⟨tb, 0, none⟩ 1 1 [.int .i64 x] (by simp [his]) (fun j v hj => by
   match j, hj with
   | 0, rfl => exact aY htm rfl) (by omega) (by omega) (by rw [hib]; omega)
  obtain ⟨S', h1, h2, h3⟩ := hnew [.int .i64 x] 0 (fun v hv => by rw [List.mem_singleton] at hv; exact ⟨x, hv, hx⟩) rfl (grownCap w 1 0 3) (grownCap_ge w 1 0 3)
  exact ⟨_, _, S', hrun, h1, h2, h3⟩
 ·obtain ⟨hbl, uM, ha2, hall⟩ := hR b hb
  rw [ha] at ha2; cases ha2
  by_cases hroom : k + 1 ≤ c
  ·have hrun := pZ (P := P) (t := t) (ty := ty) ht hi his b o k c arr ha hroom hoc tb x htm
   have hsz : ((arr.toList.take (o + k) ++ [Value.int .i64 x] ++ arr.toList.drop (o + k + 1)).toArray).size = arr.size := by simp; omega
   have hset := setRow_heap w b arr (arr.toList.take (o + k) ++ [Value.int .i64 x] ++ arr.toList.drop (o + k + 1)).toArray 3 (0, 0) ha
   have hoth : ∀ d, d ≠ b → (w.setRow b (arr.toList.take (o + k) ++ [Value.int .i64 x] ++ arr.toList.drop (o + k + 1)).toArray).heap[d]? = w.heap[d]? := fun d hd => setRow_other w b d _ hd
   refine ⟨_, _, S, hrun, .inr ⟨b, o, c, _, rfl, hroom, hb, hset, by omega⟩, fun d hd => ?_, ⟨rfl, rfl, rfl, by simp, fun d _ hn => hoth d (fun e => hn (e ▸ hb)), fun _ h => h, fun _ h => .inl h, fun d arr' hd hd2 => ?_⟩⟩
   ·by_cases hdb : d = b
    ·subst hdb
     refine ⟨by simp; exact hbl, _, hset, fun j u hu => ?_⟩
     have hu' : (arr.toList.take (o + k) ++ [Value.int .i64 x] ++ arr.toList.drop (o + k + 1))[j]? = some u := by simpa using hu
     have hm := List.mem_of_getElem? hu'
     rcases List.mem_append.1 hm with hm | hm
     ·rcases List.mem_append.1 hm with hm | hm
      ·obtain ⟨j2, hj2⟩ := List.getElem?_of_mem (List.mem_of_mem_take hm)
       exact hall j2 u (by simpa using hj2)
      ·rw [List.mem_singleton] at hm; exact ⟨x, hm, hx⟩
     ·obtain ⟨j2, hj2⟩ := List.getElem?_of_mem (List.mem_of_mem_drop hm)
      exact hall j2 u (by simpa using hj2)
    ·obtain ⟨h1, arr3, h2, h3⟩ := hR d hd
     exact ⟨by simp; exact h1, arr3, by rw [hoth d hdb]; exact h2, h3⟩
   ·by_cases hdb : d = b
    ·subst hdb
     rw [ha] at hd2; cases hd2
     exact ⟨_, hset, hsz⟩
    ·exact ⟨arr', by rw [hoth d hdb]; exact hd2, rfl⟩
  ·have hlen : k ≤ arr.size := by omega
   have hold : ((arr.toList.drop o).take k).length = k := by simp; omega
   have hrun := iw (P := P) (ty := ty) (w := w) ht ht hi hz ⟨b, o, none⟩ k c ((arr.toList.drop o).take k) (by rw [hold, his, Nat.mul_one]) (fun j v hj => by
    rw [List.getElem?_take] at hj
    split at hj
    ·rw [List.getElem?_drop] at hj
     rw [Addr.add_lit, cell_of_row w b (o + j) arr 3 (0, 0) ha]; simpa using hj
    ·cases hj) ⟨tb, 0, none⟩ 1 1 [.int .i64 x] (by simp [his]) (fun j v hj => by
    match j, hj with
    | 0, rfl => exact aY htm rfl) (by omega) (by omega) (by rw [hib]; exact growslice_fits (by omega) (by omega))
   obtain ⟨S', h1, h2, h3⟩ := hnew ((arr.toList.drop o).take k ++ [.int .i64 x]) 0 (fun v hv => by
    rcases List.mem_append.1 hv with hv | hv
    ·obtain ⟨j2, hj2⟩ := List.getElem?_of_mem (List.mem_of_mem_drop (List.mem_of_mem_take hv))
     exact hall j2 v (by simpa using hj2)
    ·rw [List.mem_singleton] at hv; exact ⟨x, hv, hx⟩) (by rw [List.length_append, hold]; rfl) (grownCap w (k + 1) c 3) (grownCap_ge w (k + 1) c 3)
   exact ⟨_, _, S', hrun, h1, h2, h3⟩
end
end Go.Vd
