/- One rule for each kind of operation, over states that are written out as lists. -/
import Derived.Test.YtjbfplfopagpjaaA11
import Derived.IntWalk
namespace Go.Vd
open Go.RowKit

theorem mk_put {tl : List (Nat × D)} {hl : List (Nat × Blk)} {m : MM} {k : Nat} {d : D} : (mk tl hl m).put (some k) d = mk ((k, d) :: tl) hl m := rfl

theorem mk_eff : ∀ (e : List (Nat × Blk)) {tl : List (Nat × D)} {hl : List (Nat × Blk)} {m : MM}, (mk tl hl m).eff e = mk tl (e.reverse ++ hl) m
  | [], _, _, _ => rfl
  | (i, b) :: r, tl, hl, m => by
    have h := mk_eff r (tl := tl) (hl := (i, b) :: hl) (m := m)
    have e1 : (mk tl hl m).eff ((i, b) :: r) = (mk tl ((i, b) :: hl) m).eff r := by
      simp only [St.eff, effs, mk]
      congr 2
      funext k
      simp only [upd, lk]
      cases Nat.beq k i <;> rfl
    rw [e1, h]
    simp

section
variable {P : Program} {tab : Tab} {r : Option Nat} {𝔅 : BB} {ops : List Oper} {lab : Option Lab} {i : Nat} {o : Oper} {rest : List Oper} {tl : List (Nat × D)} {hl : List (Nat × Blk)} {m : MM} {K : St → Prop} {k : Nat}

theorem labOk_nil : labOk lab i [] [] = true := by
  cases lab with
  | none => rfl
  | some L =>
    simp only [labOk]
    cases L[i]? <;> rfl

theorem ar_of {E : List (Operand × D)} {F e : List (Nat × Blk)} {d : D} (hs : Step P r o E F d e) (hE : ∀ p ∈ E, (mk tl hl m).ev p.1 = some p.2) (hF : ∀ p ∈ F, (mk tl hl m).h p.1 = p.2) (hlab : labOk lab i F e = true)
    (hd : o.dst = some k) (hg : wantA ops (mk tl hl m) o.guard = some true) (h : ARun P r 𝔅 ops lab (i + 1) rest (mk ((k, d) :: tl) (e.reverse ++ hl) m) K) : ARun P r 𝔅 ops lab i (o :: rest) (mk tl hl m) K :=
  (.inl ⟨_, .inl ⟨hg, E, F, d, e, hs, hE, hF, hlab, rfl⟩, by rw [hd, mk_eff, mk_put]; exact h⟩)

theorem ar_of0 {E : List (Operand × D)} {F e : List (Nat × Blk)} {d : D} (hs : Step P r o E F d e) (hE : ∀ p ∈ E, (mk tl hl m).ev p.1 = some p.2) (hF : ∀ p ∈ F, (mk tl hl m).h p.1 = p.2) (hlab : labOk lab i F e = true)
    (hd : o.dst = none) (hg : wantA ops (mk tl hl m) o.guard = some true) (h : ARun P r 𝔅 ops lab (i + 1) rest (mk tl (e.reverse ++ hl) m) K) : ARun P r 𝔅 ops lab i (o :: rest) (mk tl hl m) K :=
  (.inl ⟨_, .inl ⟨hg, E, F, d, e, hs, hE, hF, hlab, rfl⟩, by rw [hd, mk_eff]; exact h⟩)

theorem ar_skip (hg : wantA ops (mk tl hl m) o.guard = some false) (hd : o.dst = some k) (h : ARun P r 𝔅 ops lab (i + 1) rest (mk ((k, undefD) :: tl) hl m) K) : ARun P r 𝔅 ops lab i (o :: rest) (mk tl hl m) K :=
  (.inl ⟨_, .inr ⟨hg, rfl⟩, by rw [hd, mk_put]; exact h⟩)
theorem ar_skip0 (hg : wantA ops (mk tl hl m) o.guard = some false) (hd : o.dst = none) (h : ARun P r 𝔅 ops lab (i + 1) rest (mk tl hl m) K) : ARun P r 𝔅 ops lab i (o :: rest) (mk tl hl m) K :=
  (.inl ⟨_, .inr ⟨hg, rfl⟩, by rw [hd]; exact h⟩)

theorem ar_nil {s : St} (h : K s) : ARun P r 𝔅 ops lab i [] s K := h
/-- A truth is one of two. -/
theorem ar_split {b : Bool} (ht : b = true → ARun P r 𝔅 ops lab i rest (mk ((k, .v (.bool true)) :: tl) hl m) K) (hf : b = false → ARun P r 𝔅 ops lab i rest (mk ((k, .v (.bool false)) :: tl) hl m) K) :
    ARun P r 𝔅 ops lab i rest (mk ((k, .v (.bool b)) :: tl) hl m) K := by cases b; exact hf rfl; exact ht rfl
/-- The last value, in other words. -/
theorem ar_to {d d' : D} (he : d = d') (h : ARun P r 𝔅 ops lab i rest (mk ((k, d') :: tl) hl m) K) : ARun P r 𝔅 ops lab i rest (mk ((k, d) :: tl) hl m) K := he ▸ h
theorem ar_toh {id : Nat} {b b' : Blk} (he : b = b') (h : ARun P r 𝔅 ops lab i rest (mk tl ((id, b') :: hl) m) K) : ARun P r 𝔅 ops lab i rest (mk tl ((id, b) :: hl) m) K := he ▸ h

theorem step_of {E : List (Operand × D)} {F e : List (Nat × Blk)} {d : D} (hops : ∀ p ∈ E, p.1 ∈ o.op.operands) (hnd : ∀ c, o.op ≠ .defer c)
    (h : ∀ s : St, (∀ p ∈ E, s.ev p.1 = some p.2) → (∀ p ∈ F, s.h p.1 = p.2) → Runs P o s d e) : Step P r o E F d e := ⟨hops, fun s hE hF => snd_of_runs hnd (h s hE hF)⟩

theorem all1 {α : Type} {p : α → Prop} {a : α} (h : p a) : ∀ x ∈ [a], p x := by simpa using h
theorem all2 {α : Type} {p : α → Prop} {a b : α} (h : p a) (h' : p b) : ∀ x ∈ [a, b], p x := by simpa using ⟨h, h'⟩
theorem all0 {α : Type} {p : α → Prop} : ∀ x ∈ ([] : List α), p x := by simp

theorem ar_move {x : Operand} {d : D} (ho : o.op = .move x) (hx0 : (mk tl hl m).ev x = some (d)) (hd : o.dst = some k) (hg : wantA ops (mk tl hl m) o.guard = some true) (h : ARun P r 𝔅 ops lab (i + 1) rest (mk ((k, d) :: tl) hl m) K) : ARun P r 𝔅 ops lab i (o :: rest) (mk tl hl m) K :=
  ar_of (E := [(x, d)]) (F := []) (d := d) (e := []) (step_of (by simp [ho, Op.operands]) (by simp [ho]) fun s hE hF => runs_move (.inl ho) (hE (x, d) (by simp))) (all1 hx0) all0 labOk_nil hd hg h

theorem ar_assign {x : Operand} {d : D} (ho : o.op = .assign x) (hx0 : (mk tl hl m).ev x = some (d)) (hd : o.dst = some k) (hg : wantA ops (mk tl hl m) o.guard = some true) (h : ARun P r 𝔅 ops lab (i + 1) rest (mk ((k, d) :: tl) hl m) K) : ARun P r 𝔅 ops lab i (o :: rest) (mk tl hl m) K :=
  ar_of (E := [(x, d)]) (F := []) (d := d) (e := []) (step_of (by simp [ho, Op.operands]) (by simp [ho]) fun s hE hF => runs_move (.inr ho) (hE (x, d) (by simp))) (all1 hx0) all0 labOk_nil hd hg h

theorem ar_pickT {c x y : Operand} {d : D} (ho : o.op = .pick c x y) (hx0 : (mk tl hl m).ev c = some (.v (.bool true))) (hx1 : (mk tl hl m).ev x = some (d)) (hd : o.dst = some k) (hg : wantA ops (mk tl hl m) o.guard = some true) (h : ARun P r 𝔅 ops lab (i + 1) rest (mk ((k, d) :: tl) hl m) K) : ARun P r 𝔅 ops lab i (o :: rest) (mk tl hl m) K :=
  ar_of (E := [(c, .v (.bool true)), (x, d)]) (F := []) (d := d) (e := []) (step_of (by simp [ho, Op.operands]) (by simp [ho]) fun s hE hF => runs_pick ho (hE (c, .v (.bool true)) (by simp)) (hE (x, d) (by simp))) (all2 hx0 hx1) all0 labOk_nil hd hg h

theorem ar_pickF {c x y : Operand} {d : D} (ho : o.op = .pick c x y) (hx0 : (mk tl hl m).ev c = some (.v (.bool false))) (hx1 : (mk tl hl m).ev y = some (d)) (hd : o.dst = some k) (hg : wantA ops (mk tl hl m) o.guard = some true) (h : ARun P r 𝔅 ops lab (i + 1) rest (mk ((k, d) :: tl) hl m) K) : ARun P r 𝔅 ops lab i (o :: rest) (mk tl hl m) K :=
  ar_of (E := [(c, .v (.bool false)), (y, d)]) (F := []) (d := d) (e := []) (step_of (by simp [ho, Op.operands]) (by simp [ho]) fun s hE hF => runs_pick ho (hE (c, .v (.bool false)) (by simp)) (hE (y, d) (by simp))) (all2 hx0 hx1) all0 labOk_nil hd hg h

theorem ar_not {x : Operand} {T : TypeId} {b b' : Bool} (ho : o.op = .unOp .not T x) (hx0 : (mk tl hl m).ev x = some (.v (.bool b))) (hb : (!b) = b') (hd : o.dst = some k) (hg : wantA ops (mk tl hl m) o.guard = some true) (h : ARun P r 𝔅 ops lab (i + 1) rest (mk ((k, .v (.bool b')) :: tl) hl m) K) : ARun P r 𝔅 ops lab i (o :: rest) (mk tl hl m) K :=
  ar_of (E := [(x, .v (.bool b))]) (F := []) (d := .v (.bool b')) (e := []) (step_of (by simp [ho, Op.operands]) (by simp [ho]) fun s hE hF => hb ▸ runs_not ho (hE (x, .v (.bool b)) (by simp))) (all1 hx0) all0 labOk_nil hd hg h

theorem ar_len {t e : Nat} {ti : TI} {x : Operand} {es : List (List V)} {n : Int} (hT : tabOk P tab = true) (ho : o.op = .call { callee := .builtin .len, args := #[x], argTypes := #[t] }) (hx0 : (mk tl hl m).ev x = some (.v (.sl es))) (hlt : lk tab t = some ti) (he : ti.sliceElem = some e) (hn : (es.length : Int) = n) (hd : o.dst = some k) (hg : wantA ops (mk tl hl m) o.guard = some true) (h : ARun P r 𝔅 ops lab (i + 1) rest (mk ((k, .v (.int .i64 n)) :: tl) hl m) K) : ARun P r 𝔅 ops lab i (o :: rest) (mk tl hl m) K :=
  ar_of (E := [(x, .v (.sl es))]) (F := []) (d := .v (.int .i64 n)) (e := []) (step_of (by simp [ho, Op.operands, Call.operands]) (by simp [ho]) fun s hE hF => hn ▸ runs_len_sl hT ho hlt he (hE (x, .v (.sl es)) (by simp))) (all1 hx0) all0 labOk_nil hd hg h

theorem ar_len0 {t e : Nat} {ti : TI} {x : Operand} (hT : tabOk P tab = true) (ho : o.op = .call { callee := .builtin .len, args := #[x], argTypes := #[t] }) (hx0 : (mk tl hl m).ev x = some (.nils)) (hlt : lk tab t = some ti) (he : ti.sliceElem = some e) (hd : o.dst = some k) (hg : wantA ops (mk tl hl m) o.guard = some true) (h : ARun P r 𝔅 ops lab (i + 1) rest (mk ((k, .v (.int .i64 0)) :: tl) hl m) K) : ARun P r 𝔅 ops lab i (o :: rest) (mk tl hl m) K :=
  ar_of (E := [(x, .nils)]) (F := []) (d := .v (.int .i64 0)) (e := []) (step_of (by simp [ho, Op.operands, Call.operands]) (by simp [ho]) fun s hE hF => runs_len_nils hT ho hlt he (hE (x, .nils) (by simp))) (all1 hx0) all0 labOk_nil hd hg h

theorem ar_len_own {t e : Nat} {ti : TI} {x : Operand} {id e' sz : Nat} {es : List (List V)} {n : Int} (hT : tabOk P tab = true) (ho : o.op = .call { callee := .builtin .len, args := #[x], argTypes := #[t] }) (hx0 : (mk tl hl m).ev x = some (.own id)) (hf0 : (mk tl hl m).h id = .row e' sz es) (hlt : lk tab t = some ti) (he : ti.sliceElem = some e) (hn : (es.length : Int) = n) (hlab : labOk lab i [(id, .row e' sz es)] [] = true) (hd : o.dst = some k) (hg : wantA ops (mk tl hl m) o.guard = some true) (h : ARun P r 𝔅 ops lab (i + 1) rest (mk ((k, .v (.int .i64 n)) :: tl) hl m) K) : ARun P r 𝔅 ops lab i (o :: rest) (mk tl hl m) K :=
  ar_of (E := [(x, .own id)]) (F := [(id, .row e' sz es)]) (d := .v (.int .i64 n)) (e := []) (step_of (by simp [ho, Op.operands, Call.operands]) (by simp [ho]) fun s hE hF => hn ▸ runs_len_own hT ho hlt he (hE (x, .own id) (by simp)) (hF (id, .row e' sz es) (by simp))) (all1 hx0) (all1 hf0) hlab hd hg h

theorem ar_len_str {t : Nat} {ti : TI} {x : Operand} {b : ByteArray} (hT : tabOk P tab = true) (ho : o.op = .call { callee := .builtin .len, args := #[x], argTypes := #[t] }) (hx0 : (mk tl hl m).ev x = some (.v (.str b))) (hlt : lk tab t = some ti) (he : ti.kind = .string) (hd : o.dst = some k) (hg : wantA ops (mk tl hl m) o.guard = some true) (h : ARun P r 𝔅 ops lab (i + 1) rest (mk ((k, .v (.int .i64 b.size)) :: tl) hl m) K) : ARun P r 𝔅 ops lab i (o :: rest) (mk tl hl m) K :=
  ar_of (E := [(x, .v (.str b))]) (F := []) (d := .v (.int .i64 b.size)) (e := []) (step_of (by simp [ho, Op.operands, Call.operands]) (by simp [ho]) fun s hE hF => runs_len_str hT ho hlt he (hE (x, .v (.str b)) (by simp))) (all1 hx0) all0 labOk_nil hd hg h

theorem ar_fa {T f n : Nat} {ti : TI} {x : Operand} {id q j : Nat} {cs : List D} (hT : tabOk P tab = true) (ho : o.op = .fieldAddr T x f) (hx0 : (mk tl hl m).ev x = some (.ptr id q)) (hf0 : (mk tl hl m).h id = .box cs) (hlt : lk tab T = some ti) (he : ti.field f = some n) (hj : q + n = j) (hlab : labOk lab i [(id, .box cs)] [] = true) (hd : o.dst = some k) (hg : wantA ops (mk tl hl m) o.guard = some true) (h : ARun P r 𝔅 ops lab (i + 1) rest (mk ((k, .ptr id j) :: tl) hl m) K) : ARun P r 𝔅 ops lab i (o :: rest) (mk tl hl m) K :=
  ar_of (E := [(x, .ptr id q)]) (F := [(id, .box cs)]) (d := .ptr id j) (e := []) (step_of (by simp [ho, Op.operands]) (by simp [ho]) fun s hE hF => hj ▸ runs_fa_ptr hT ho hlt he (hE (x, .ptr id q) (by simp)) (hF (id, .box cs) (by simp))) (all1 hx0) (all1 hf0) hlab hd hg h

theorem ar_fa_ref {T f n : Nat} {ti : TI} {x : Operand} {cs cs' : List V} (hT : tabOk P tab = true) (ho : o.op = .fieldAddr T x f) (hx0 : (mk tl hl m).ev x = some (.v (.ref cs))) (hlt : lk tab T = some ti) (he : ti.field f = some n) (hj : cs.drop n = cs') (hd : o.dst = some k) (hg : wantA ops (mk tl hl m) o.guard = some true) (h : ARun P r 𝔅 ops lab (i + 1) rest (mk ((k, .v (.ref cs')) :: tl) hl m) K) : ARun P r 𝔅 ops lab i (o :: rest) (mk tl hl m) K :=
  ar_of (E := [(x, .v (.ref cs))]) (F := []) (d := .v (.ref cs')) (e := []) (step_of (by simp [ho, Op.operands]) (by simp [ho]) fun s hE hF => hj ▸ runs_fa_ref hT ho hlt he (hE (x, .v (.ref cs)) (by simp))) (all1 hx0) all0 labOk_nil hd hg h

theorem ar_ld {T : Nat} {ti : TI} {x : Operand} {id n : Nat} {cs : List D} {d : D} (hT : tabOk P tab = true) (ho : o.op = .load T x) (hx0 : (mk tl hl m).ev x = some (.ptr id n)) (hf0 : (mk tl hl m).h id = .box cs) (hlt : lk tab T = some ti) (ha : ti.isAgg = false) (hc : cs[n]? = some d) (hlab : labOk lab i [(id, .box cs)] [] = true) (hd : o.dst = some k) (hg : wantA ops (mk tl hl m) o.guard = some true) (h : ARun P r 𝔅 ops lab (i + 1) rest (mk ((k, d) :: tl) hl m) K) : ARun P r 𝔅 ops lab i (o :: rest) (mk tl hl m) K :=
  ar_of (E := [(x, .ptr id n)]) (F := [(id, .box cs)]) (d := d) (e := []) (step_of (by simp [ho, Op.operands]) (by simp [ho]) fun s hE hF => runs_ld_ptr hT ho hlt ha (hE (x, .ptr id n) (by simp)) (hF (id, .box cs) (by simp)) hc) (all1 hx0) (all1 hf0) hlab hd hg h

theorem ar_lda {T : Nat} {ti : TI} {x : Operand} {id n : Nat} {cs : List D} {d : D} (hT : tabOk P tab = true) (ho : o.op = .load T x) (hx0 : (mk tl hl m).ev x = some (.ptr id n)) (hf0 : (mk tl hl m).h id = .box cs) (hlt : lk tab T = some ti) (ha : ti.isAgg = true) (hle : Nat.ble (n + ti.size) cs.length = true) (hc : mkAgg ((cs.drop n).take ti.size) = d) (hlab : labOk lab i [(id, .box cs)] [] = true) (hd : o.dst = some k) (hg : wantA ops (mk tl hl m) o.guard = some true) (h : ARun P r 𝔅 ops lab (i + 1) rest (mk ((k, d) :: tl) hl m) K) : ARun P r 𝔅 ops lab i (o :: rest) (mk tl hl m) K :=
  ar_of (E := [(x, .ptr id n)]) (F := [(id, .box cs)]) (d := d) (e := []) (step_of (by simp [ho, Op.operands]) (by simp [ho]) fun s hE hF => hc ▸ runs_ld_ptra hT ho hlt ha (hE (x, .ptr id n) (by simp)) (hF (id, .box cs) (by simp)) (Nat.le_of_ble_eq_true hle)) (all1 hx0) (all1 hf0) hlab hd hg h

theorem ar_ld_ref {T : Nat} {ti : TI} {x : Operand} {cs : List V} {y : V} (hT : tabOk P tab = true) (ho : o.op = .load T x) (hx0 : (mk tl hl m).ev x = some (.v (.ref cs))) (hlt : lk tab T = some ti) (ha : ti.isAgg = false) (hc : cs[0]? = some y) (hd : o.dst = some k) (hg : wantA ops (mk tl hl m) o.guard = some true) (h : ARun P r 𝔅 ops lab (i + 1) rest (mk ((k, .v y) :: tl) hl m) K) : ARun P r 𝔅 ops lab i (o :: rest) (mk tl hl m) K :=
  ar_of (E := [(x, .v (.ref cs))]) (F := []) (d := .v y) (e := []) (step_of (by simp [ho, Op.operands]) (by simp [ho]) fun s hE hF => runs_ld_ref hT ho hlt ha (hE (x, .v (.ref cs)) (by simp)) hc) (all1 hx0) all0 labOk_nil hd hg h

theorem ar_ld_refa {T : Nat} {ti : TI} {x : Operand} {cs cs' : List V} (hT : tabOk P tab = true) (ho : o.op = .load T x) (hx0 : (mk tl hl m).ev x = some (.v (.ref cs))) (hlt : lk tab T = some ti) (ha : ti.isAgg = true) (hle : Nat.ble ti.size cs.length = true) (hc : cs.take ti.size = cs') (hd : o.dst = some k) (hg : wantA ops (mk tl hl m) o.guard = some true) (h : ARun P r 𝔅 ops lab (i + 1) rest (mk ((k, .v (.agg cs')) :: tl) hl m) K) : ARun P r 𝔅 ops lab i (o :: rest) (mk tl hl m) K :=
  ar_of (E := [(x, .v (.ref cs))]) (F := []) (d := .v (.agg cs')) (e := []) (step_of (by simp [ho, Op.operands]) (by simp [ho]) fun s hE hF => hc ▸ runs_ld_refa hT ho hlt ha (hE (x, .v (.ref cs)) (by simp)) (Nat.le_of_ble_eq_true hle)) (all1 hx0) all0 labOk_nil hd hg h

theorem ar_ld_eptr {T : Nat} {ti : TI} {x : Operand} {id n e : Nat} {es : List (List V)} {y : V} (hT : tabOk P tab = true) (ho : o.op = .load T x) (hx0 : (mk tl hl m).ev x = some (.eptr id n)) (hf0 : (mk tl hl m).h id = .row e 1 es) (hlt : lk tab T = some ti) (ha : ti.isAgg = false) (hc : es[n]? = some [y]) (hlab : labOk lab i [(id, .row e 1 es)] [] = true) (hd : o.dst = some k) (hg : wantA ops (mk tl hl m) o.guard = some true) (h : ARun P r 𝔅 ops lab (i + 1) rest (mk ((k, .v y) :: tl) hl m) K) : ARun P r 𝔅 ops lab i (o :: rest) (mk tl hl m) K :=
  ar_of (E := [(x, .eptr id n)]) (F := [(id, .row e 1 es)]) (d := .v y) (e := []) (step_of (by simp [ho, Op.operands]) (by simp [ho]) fun s hE hF => runs_ld_eptr hT ho hlt ha (hE (x, .eptr id n) (by simp)) (hF (id, .row e 1 es) (by simp)) hc) (all1 hx0) (all1 hf0) hlab hd hg h

theorem ar_ia {T e : Nat} {ti te : TI} {x y : Operand} {es : List (List V)} {el : List V} {kk : IntKind} {n : Int} (hT : tabOk P tab = true) (ho : o.op = .indexAddr T x y) (hx0 : (mk tl hl m).ev x = some (.v (.sl es))) (hx1 : (mk tl hl m).ev y = some (.v (.int kk n))) (hlt : lk tab T = some ti) (he : ti.sliceElem = some e) (hle : lk tab e = some te) (h0 : 0 ≤ n) (hel : es[n.toNat]? = some el) (hsz : te.size = el.length) (hd : o.dst = some k) (hg : wantA ops (mk tl hl m) o.guard = some true) (h : ARun P r 𝔅 ops lab (i + 1) rest (mk ((k, .v (.ref el)) :: tl) hl m) K) : ARun P r 𝔅 ops lab i (o :: rest) (mk tl hl m) K :=
  ar_of (E := [(x, .v (.sl es)), (y, .v (.int kk n))]) (F := []) (d := .v (.ref el)) (e := []) (step_of (by simp [ho, Op.operands]) (by simp [ho]) fun s hE hF => runs_ia_sl hT ho hlt he hle (hE (x, .v (.sl es)) (by simp)) (hE (y, .v (.int kk n)) (by simp)) h0 hel hsz) (all2 hx0 hx1) all0 labOk_nil hd hg h

theorem ar_ia_own {T e : Nat} {ti te : TI} {x y : Operand} {id e' : Nat} {es : List (List V)} {kk : IntKind} {n : Int} {q : Nat} (hT : tabOk P tab = true) (ho : o.op = .indexAddr T x y) (hx0 : (mk tl hl m).ev x = some (.own id)) (hx1 : (mk tl hl m).ev y = some (.v (.int kk n))) (hf0 : (mk tl hl m).h id = .row e' 1 es) (hlt : lk tab T = some ti) (he : ti.sliceElem = some e) (hle : lk tab e = some te) (hsz : te.size = 1) (h0 : 0 ≤ n) (h1 : n < es.length) (hq : n.toNat = q) (hlab : labOk lab i [(id, .row e' 1 es)] [] = true) (hd : o.dst = some k) (hg : wantA ops (mk tl hl m) o.guard = some true) (h : ARun P r 𝔅 ops lab (i + 1) rest (mk ((k, .eptr id q) :: tl) hl m) K) : ARun P r 𝔅 ops lab i (o :: rest) (mk tl hl m) K :=
  ar_of (E := [(x, .own id), (y, .v (.int kk n))]) (F := [(id, .row e' 1 es)]) (d := .eptr id q) (e := []) (step_of (by simp [ho, Op.operands]) (by simp [ho]) fun s hE hF => hq ▸ runs_ia_own hT ho hlt he hle hsz (hE (x, .own id) (by simp)) (hE (y, .v (.int kk n)) (by simp)) (hF (id, .row e' 1 es) (by simp)) h0 h1) (all2 hx0 hx1) (all1 hf0) hlab hd hg h

theorem ar_ia_arr {T l e : Nat} {ti te : TI} {x y : Operand} {id q j : Nat} {cs : List D} {kk : IntKind} {n : Int} (hT : tabOk P tab = true) (ho : o.op = .indexAddr T x y) (hx0 : (mk tl hl m).ev x = some (.ptr id q)) (hx1 : (mk tl hl m).ev y = some (.v (.int kk n))) (hf0 : (mk tl hl m).h id = .box cs) (hlt : lk tab T = some ti) (he : ti.arr = some (l, e)) (hle : lk tab e = some te) (h0 : 0 ≤ n) (h1 : n < l) (hj : q + n.toNat * te.size = j) (hlab : labOk lab i [(id, .box cs)] [] = true) (hd : o.dst = some k) (hg : wantA ops (mk tl hl m) o.guard = some true) (h : ARun P r 𝔅 ops lab (i + 1) rest (mk ((k, .ptr id j) :: tl) hl m) K) : ARun P r 𝔅 ops lab i (o :: rest) (mk tl hl m) K :=
  ar_of (E := [(x, .ptr id q), (y, .v (.int kk n))]) (F := [(id, .box cs)]) (d := .ptr id j) (e := []) (step_of (by simp [ho, Op.operands]) (by simp [ho]) fun s hE hF => hj ▸ runs_ia_arr hT ho hlt he hle (hE (x, .ptr id q) (by simp)) (hE (y, .v (.int kk n)) (by simp)) (hF (id, .box cs) (by simp)) h0 h1) (all2 hx0 hx1) (all1 hf0) hlab hd hg h

theorem ar_ia_arrR {T l e : Nat} {ti te : TI} {x y : Operand} {cs cs' : List V} {kk : IntKind} {n : Int} (hT : tabOk P tab = true) (ho : o.op = .indexAddr T x y) (hx0 : (mk tl hl m).ev x = some (.v (.ref cs))) (hx1 : (mk tl hl m).ev y = some (.v (.int kk n))) (hlt : lk tab T = some ti) (he : ti.arr = some (l, e)) (hle : lk tab e = some te) (h0 : 0 ≤ n) (h1 : n < l) (hj : cs.drop (n.toNat * te.size) = cs') (hd : o.dst = some k) (hg : wantA ops (mk tl hl m) o.guard = some true) (h : ARun P r 𝔅 ops lab (i + 1) rest (mk ((k, .v (.ref cs')) :: tl) hl m) K) : ARun P r 𝔅 ops lab i (o :: rest) (mk tl hl m) K :=
  ar_of (E := [(x, .v (.ref cs)), (y, .v (.int kk n))]) (F := []) (d := .v (.ref cs')) (e := []) (step_of (by simp [ho, Op.operands]) (by simp [ho]) fun s hE hF => hj ▸ runs_ia_arrR hT ho hlt he hle (hE (x, .v (.ref cs)) (by simp)) (hE (y, .v (.int kk n)) (by simp)) h0 h1) (all2 hx0 hx1) all0 labOk_nil hd hg h

theorem ar_ix_arr {T l e : Nat} {ti te : TI} {x y : Operand} {cs : List V} {z : V} {kk : IntKind} {n : Int} (hT : tabOk P tab = true) (ho : o.op = .index T x y) (hx0 : (mk tl hl m).ev x = some (.v (.agg cs))) (hx1 : (mk tl hl m).ev y = some (.v (.int kk n))) (hlt : lk tab T = some ti) (he : ti.arr = some (l, e)) (hle : lk tab e = some te) (ha : te.isAgg = false) (hsz : te.size = 1) (h0 : 0 ≤ n) (h1 : n < l) (hz : cs[n.toNat]? = some z) (hd : o.dst = some k) (hg : wantA ops (mk tl hl m) o.guard = some true) (h : ARun P r 𝔅 ops lab (i + 1) rest (mk ((k, .v z) :: tl) hl m) K) : ARun P r 𝔅 ops lab i (o :: rest) (mk tl hl m) K :=
  ar_of (E := [(x, .v (.agg cs)), (y, .v (.int kk n))]) (F := []) (d := .v z) (e := []) (step_of (by simp [ho, Op.operands]) (by simp [ho]) fun s hE hF => runs_ix_arr hT ho hlt he hle ha hsz (hE (x, .v (.agg cs)) (by simp)) (hE (y, .v (.int kk n)) (by simp)) h0 h1 hz) (all2 hx0 hx1) all0 labOk_nil hd hg h

theorem ar_ix_str {T : Nat} {ti : TI} {x y : Operand} {b : ByteArray} {kk : IntKind} {n : Int} {c : UInt8} (hT : tabOk P tab = true) (ho : o.op = .index T x y) (hx0 : (mk tl hl m).ev x = some (.v (.str b))) (hx1 : (mk tl hl m).ev y = some (.v (.int kk n))) (hlt : lk tab T = some ti) (he : ti.kind = .string) (h0 : 0 ≤ n) (hc : b[n.toNat]? = some c) (hd : o.dst = some k) (hg : wantA ops (mk tl hl m) o.guard = some true) (h : ARun P r 𝔅 ops lab (i + 1) rest (mk ((k, .v (.int .u8 c.toNat)) :: tl) hl m) K) : ARun P r 𝔅 ops lab i (o :: rest) (mk tl hl m) K :=
  ar_of (E := [(x, .v (.str b)), (y, .v (.int kk n))]) (F := []) (d := .v (.int .u8 c.toNat)) (e := []) (step_of (by simp [ho, Op.operands]) (by simp [ho]) fun s hE hF => runs_ix_str hT ho hlt he (hE (x, .v (.str b)) (by simp)) (hE (y, .v (.int kk n)) (by simp)) h0 hc) (all2 hx0 hx1) all0 labOk_nil hd hg h

theorem ar_add {T T' : TypeId} {x y : Operand} {kk : IntKind} {a b z : Int} (ho : o.op = .binOp .add T x y T') (hx0 : (mk tl hl m).ev x = some (.v (.int kk a))) (hx1 : (mk tl hl m).ev y = some (.v (.int kk b))) (hr : kk.wrap (a + b) = z) (hd : o.dst = some k) (hg : wantA ops (mk tl hl m) o.guard = some true) (h : ARun P r 𝔅 ops lab (i + 1) rest (mk ((k, .v (.int kk z)) :: tl) hl m) K) : ARun P r 𝔅 ops lab i (o :: rest) (mk tl hl m) K :=
  ar_of (E := [(x, .v (.int kk a)), (y, .v (.int kk b))]) (F := []) (d := .v (.int kk z)) (e := []) (step_of (by simp [ho, Op.operands]) (by simp [ho]) fun s hE hF => runs_add ho (hE (x, .v (.int kk a)) (by simp)) (hE (y, .v (.int kk b)) (by simp)) hr) (all2 hx0 hx1) all0 labOk_nil hd hg h

theorem ar_addi {T T' : TypeId} {x y : Operand} {a b z : Int} (ho : o.op = .binOp .add T x y T') (hx0 : (mk tl hl m).ev x = some (.v (.int .i64 a))) (hx1 : (mk tl hl m).ev y = some (.v (.int .i64 b))) (hr : a + b = z) (hr1 : -9223372036854775808 ≤ z) (hr2 : z ≤ 9223372036854775807) (hd : o.dst = some k) (hg : wantA ops (mk tl hl m) o.guard = some true) (h : ARun P r 𝔅 ops lab (i + 1) rest (mk ((k, .v (.int .i64 z)) :: tl) hl m) K) : ARun P r 𝔅 ops lab i (o :: rest) (mk tl hl m) K :=
  ar_of (E := [(x, .v (.int .i64 a)), (y, .v (.int .i64 b))]) (F := []) (d := .v (.int .i64 z)) (e := []) (step_of (by simp [ho, Op.operands]) (by simp [ho]) fun s hE hF => runs_add ho (hE (x, .v (.int .i64 a)) (by simp)) (hE (y, .v (.int .i64 b)) (by simp)) (by rw [hr]; exact IntWalk.i64_in _ ⟨hr1, hr2⟩)) (all2 hx0 hx1) all0 labOk_nil hd hg h

theorem ar_sub {T T' : TypeId} {x y : Operand} {kk : IntKind} {a b z : Int} (ho : o.op = .binOp .sub T x y T') (hx0 : (mk tl hl m).ev x = some (.v (.int kk a))) (hx1 : (mk tl hl m).ev y = some (.v (.int kk b))) (hr : kk.wrap (a - b) = z) (hd : o.dst = some k) (hg : wantA ops (mk tl hl m) o.guard = some true) (h : ARun P r 𝔅 ops lab (i + 1) rest (mk ((k, .v (.int kk z)) :: tl) hl m) K) : ARun P r 𝔅 ops lab i (o :: rest) (mk tl hl m) K :=
  ar_of (E := [(x, .v (.int kk a)), (y, .v (.int kk b))]) (F := []) (d := .v (.int kk z)) (e := []) (step_of (by simp [ho, Op.operands]) (by simp [ho]) fun s hE hF => runs_sub ho (hE (x, .v (.int kk a)) (by simp)) (hE (y, .v (.int kk b)) (by simp)) hr) (all2 hx0 hx1) all0 labOk_nil hd hg h

theorem ar_subi {T T' : TypeId} {x y : Operand} {a b z : Int} (ho : o.op = .binOp .sub T x y T') (hx0 : (mk tl hl m).ev x = some (.v (.int .i64 a))) (hx1 : (mk tl hl m).ev y = some (.v (.int .i64 b))) (hr : a - b = z) (hr1 : -9223372036854775808 ≤ z) (hr2 : z ≤ 9223372036854775807) (hd : o.dst = some k) (hg : wantA ops (mk tl hl m) o.guard = some true) (h : ARun P r 𝔅 ops lab (i + 1) rest (mk ((k, .v (.int .i64 z)) :: tl) hl m) K) : ARun P r 𝔅 ops lab i (o :: rest) (mk tl hl m) K :=
  ar_of (E := [(x, .v (.int .i64 a)), (y, .v (.int .i64 b))]) (F := []) (d := .v (.int .i64 z)) (e := []) (step_of (by simp [ho, Op.operands]) (by simp [ho]) fun s hE hF => runs_sub ho (hE (x, .v (.int .i64 a)) (by simp)) (hE (y, .v (.int .i64 b)) (by simp)) (by rw [hr]; exact IntWalk.i64_in _ ⟨hr1, hr2⟩)) (all2 hx0 hx1) all0 labOk_nil hd hg h

theorem ar_mul {T T' : TypeId} {x y : Operand} {kk : IntKind} {a b z : Int} (ho : o.op = .binOp .mul T x y T') (hx0 : (mk tl hl m).ev x = some (.v (.int kk a))) (hx1 : (mk tl hl m).ev y = some (.v (.int kk b))) (hr : kk.wrap (a * b) = z) (hd : o.dst = some k) (hg : wantA ops (mk tl hl m) o.guard = some true) (h : ARun P r 𝔅 ops lab (i + 1) rest (mk ((k, .v (.int kk z)) :: tl) hl m) K) : ARun P r 𝔅 ops lab i (o :: rest) (mk tl hl m) K :=
  ar_of (E := [(x, .v (.int kk a)), (y, .v (.int kk b))]) (F := []) (d := .v (.int kk z)) (e := []) (step_of (by simp [ho, Op.operands]) (by simp [ho]) fun s hE hF => runs_mul ho (hE (x, .v (.int kk a)) (by simp)) (hE (y, .v (.int kk b)) (by simp)) hr) (all2 hx0 hx1) all0 labOk_nil hd hg h

theorem ar_muli {T T' : TypeId} {x y : Operand} {a b z : Int} (ho : o.op = .binOp .mul T x y T') (hx0 : (mk tl hl m).ev x = some (.v (.int .i64 a))) (hx1 : (mk tl hl m).ev y = some (.v (.int .i64 b))) (hr : a * b = z) (hr1 : -9223372036854775808 ≤ z) (hr2 : z ≤ 9223372036854775807) (hd : o.dst = some k) (hg : wantA ops (mk tl hl m) o.guard = some true) (h : ARun P r 𝔅 ops lab (i + 1) rest (mk ((k, .v (.int .i64 z)) :: tl) hl m) K) : ARun P r 𝔅 ops lab i (o :: rest) (mk tl hl m) K :=
  ar_of (E := [(x, .v (.int .i64 a)), (y, .v (.int .i64 b))]) (F := []) (d := .v (.int .i64 z)) (e := []) (step_of (by simp [ho, Op.operands]) (by simp [ho]) fun s hE hF => runs_mul ho (hE (x, .v (.int .i64 a)) (by simp)) (hE (y, .v (.int .i64 b)) (by simp)) (by rw [hr]; exact IntWalk.i64_in _ ⟨hr1, hr2⟩)) (all2 hx0 hx1) all0 labOk_nil hd hg h

theorem ar_quo {T T' : TypeId} {x y : Operand} {kk : IntKind} {a b z : Int} (ho : o.op = .binOp .quo T x y T') (hx0 : (mk tl hl m).ev x = some (.v (.int kk a))) (hx1 : (mk tl hl m).ev y = some (.v (.int kk b))) (h0 : b ≠ 0) (hr : kk.wrap (a.tdiv b) = z) (hd : o.dst = some k) (hg : wantA ops (mk tl hl m) o.guard = some true) (h : ARun P r 𝔅 ops lab (i + 1) rest (mk ((k, .v (.int kk z)) :: tl) hl m) K) : ARun P r 𝔅 ops lab i (o :: rest) (mk tl hl m) K :=
  ar_of (E := [(x, .v (.int kk a)), (y, .v (.int kk b))]) (F := []) (d := .v (.int kk z)) (e := []) (step_of (by simp [ho, Op.operands]) (by simp [ho]) fun s hE hF => runs_quo ho (hE (x, .v (.int kk a)) (by simp)) (hE (y, .v (.int kk b)) (by simp)) h0 hr) (all2 hx0 hx1) all0 labOk_nil hd hg h

theorem ar_rem {T T' : TypeId} {x y : Operand} {kk : IntKind} {a b z : Int} (ho : o.op = .binOp .rem T x y T') (hx0 : (mk tl hl m).ev x = some (.v (.int kk a))) (hx1 : (mk tl hl m).ev y = some (.v (.int kk b))) (h0 : b ≠ 0) (hr : a.tmod b = z) (hd : o.dst = some k) (hg : wantA ops (mk tl hl m) o.guard = some true) (h : ARun P r 𝔅 ops lab (i + 1) rest (mk ((k, .v (.int kk z)) :: tl) hl m) K) : ARun P r 𝔅 ops lab i (o :: rest) (mk tl hl m) K :=
  ar_of (E := [(x, .v (.int kk a)), (y, .v (.int kk b))]) (F := []) (d := .v (.int kk z)) (e := []) (step_of (by simp [ho, Op.operands]) (by simp [ho]) fun s hE hF => runs_rem ho (hE (x, .v (.int kk a)) (by simp)) (hE (y, .v (.int kk b)) (by simp)) h0 hr) (all2 hx0 hx1) all0 labOk_nil hd hg h

theorem ar_eql {T T' : TypeId} {x y : Operand} {kk : IntKind} {a b : Int} {z : Bool} (ho : o.op = .binOp .eql T x y T') (hx0 : (mk tl hl m).ev x = some (.v (.int kk a))) (hx1 : (mk tl hl m).ev y = some (.v (.int kk b))) (hz : decide (a = b) = z) (hd : o.dst = some k) (hg : wantA ops (mk tl hl m) o.guard = some true) (h : ARun P r 𝔅 ops lab (i + 1) rest (mk ((k, .v (.bool z)) :: tl) hl m) K) : ARun P r 𝔅 ops lab i (o :: rest) (mk tl hl m) K :=
  ar_of (E := [(x, .v (.int kk a)), (y, .v (.int kk b))]) (F := []) (d := .v (.bool z)) (e := []) (step_of (by simp [ho, Op.operands]) (by simp [ho]) fun s hE hF => hz ▸ runs_eql ho (hE (x, .v (.int kk a)) (by simp)) (hE (y, .v (.int kk b)) (by simp))) (all2 hx0 hx1) all0 labOk_nil hd hg h

theorem ar_eql_s {T T' : TypeId} {x y : Operand} {kk : IntKind} {a b : Int} (ho : o.op = .binOp .eql T x y T') (hx0 : (mk tl hl m).ev x = some (.v (.int kk a))) (hx1 : (mk tl hl m).ev y = some (.v (.int kk b))) (hd : o.dst = some k) (hg : wantA ops (mk tl hl m) o.guard = some true)
    (ht : a = b → ARun P r 𝔅 ops lab (i + 1) rest (mk ((k, .v (.bool true)) :: tl) hl m) K) (hf : ¬ (a = b) → ARun P r 𝔅 ops lab (i + 1) rest (mk ((k, .v (.bool false)) :: tl) hl m) K) : ARun P r 𝔅 ops lab i (o :: rest) (mk tl hl m) K := by
  by_cases h : a = b
  · exact ar_eql ho hx0 hx1 (decide_eq_true h) hd hg (ht h)
  · exact ar_eql ho hx0 hx1 (decide_eq_false h) hd hg (hf h)

theorem ar_neq {T T' : TypeId} {x y : Operand} {kk : IntKind} {a b : Int} {z : Bool} (ho : o.op = .binOp .neq T x y T') (hx0 : (mk tl hl m).ev x = some (.v (.int kk a))) (hx1 : (mk tl hl m).ev y = some (.v (.int kk b))) (hz : decide (a ≠ b) = z) (hd : o.dst = some k) (hg : wantA ops (mk tl hl m) o.guard = some true) (h : ARun P r 𝔅 ops lab (i + 1) rest (mk ((k, .v (.bool z)) :: tl) hl m) K) : ARun P r 𝔅 ops lab i (o :: rest) (mk tl hl m) K :=
  ar_of (E := [(x, .v (.int kk a)), (y, .v (.int kk b))]) (F := []) (d := .v (.bool z)) (e := []) (step_of (by simp [ho, Op.operands]) (by simp [ho]) fun s hE hF => hz ▸ runs_neq ho (hE (x, .v (.int kk a)) (by simp)) (hE (y, .v (.int kk b)) (by simp))) (all2 hx0 hx1) all0 labOk_nil hd hg h

theorem ar_neq_s {T T' : TypeId} {x y : Operand} {kk : IntKind} {a b : Int} (ho : o.op = .binOp .neq T x y T') (hx0 : (mk tl hl m).ev x = some (.v (.int kk a))) (hx1 : (mk tl hl m).ev y = some (.v (.int kk b))) (hd : o.dst = some k) (hg : wantA ops (mk tl hl m) o.guard = some true)
    (ht : a ≠ b → ARun P r 𝔅 ops lab (i + 1) rest (mk ((k, .v (.bool true)) :: tl) hl m) K) (hf : ¬ (a ≠ b) → ARun P r 𝔅 ops lab (i + 1) rest (mk ((k, .v (.bool false)) :: tl) hl m) K) : ARun P r 𝔅 ops lab i (o :: rest) (mk tl hl m) K := by
  by_cases h : a ≠ b
  · exact ar_neq ho hx0 hx1 (decide_eq_true h) hd hg (ht h)
  · exact ar_neq ho hx0 hx1 (decide_eq_false h) hd hg (hf h)

theorem ar_lss {T T' : TypeId} {x y : Operand} {kk : IntKind} {a b : Int} {z : Bool} (ho : o.op = .binOp .lss T x y T') (hx0 : (mk tl hl m).ev x = some (.v (.int kk a))) (hx1 : (mk tl hl m).ev y = some (.v (.int kk b))) (hz : decide (a < b) = z) (hd : o.dst = some k) (hg : wantA ops (mk tl hl m) o.guard = some true) (h : ARun P r 𝔅 ops lab (i + 1) rest (mk ((k, .v (.bool z)) :: tl) hl m) K) : ARun P r 𝔅 ops lab i (o :: rest) (mk tl hl m) K :=
  ar_of (E := [(x, .v (.int kk a)), (y, .v (.int kk b))]) (F := []) (d := .v (.bool z)) (e := []) (step_of (by simp [ho, Op.operands]) (by simp [ho]) fun s hE hF => hz ▸ runs_lss ho (hE (x, .v (.int kk a)) (by simp)) (hE (y, .v (.int kk b)) (by simp))) (all2 hx0 hx1) all0 labOk_nil hd hg h

theorem ar_lss_s {T T' : TypeId} {x y : Operand} {kk : IntKind} {a b : Int} (ho : o.op = .binOp .lss T x y T') (hx0 : (mk tl hl m).ev x = some (.v (.int kk a))) (hx1 : (mk tl hl m).ev y = some (.v (.int kk b))) (hd : o.dst = some k) (hg : wantA ops (mk tl hl m) o.guard = some true)
    (ht : a < b → ARun P r 𝔅 ops lab (i + 1) rest (mk ((k, .v (.bool true)) :: tl) hl m) K) (hf : ¬ (a < b) → ARun P r 𝔅 ops lab (i + 1) rest (mk ((k, .v (.bool false)) :: tl) hl m) K) : ARun P r 𝔅 ops lab i (o :: rest) (mk tl hl m) K := by
  by_cases h : a < b
  · exact ar_lss ho hx0 hx1 (decide_eq_true h) hd hg (ht h)
  · exact ar_lss ho hx0 hx1 (decide_eq_false h) hd hg (hf h)

theorem ar_leq {T T' : TypeId} {x y : Operand} {kk : IntKind} {a b : Int} {z : Bool} (ho : o.op = .binOp .leq T x y T') (hx0 : (mk tl hl m).ev x = some (.v (.int kk a))) (hx1 : (mk tl hl m).ev y = some (.v (.int kk b))) (hz : decide (a ≤ b) = z) (hd : o.dst = some k) (hg : wantA ops (mk tl hl m) o.guard = some true) (h : ARun P r 𝔅 ops lab (i + 1) rest (mk ((k, .v (.bool z)) :: tl) hl m) K) : ARun P r 𝔅 ops lab i (o :: rest) (mk tl hl m) K :=
  ar_of (E := [(x, .v (.int kk a)), (y, .v (.int kk b))]) (F := []) (d := .v (.bool z)) (e := []) (step_of (by simp [ho, Op.operands]) (by simp [ho]) fun s hE hF => hz ▸ runs_leq ho (hE (x, .v (.int kk a)) (by simp)) (hE (y, .v (.int kk b)) (by simp))) (all2 hx0 hx1) all0 labOk_nil hd hg h

theorem ar_leq_s {T T' : TypeId} {x y : Operand} {kk : IntKind} {a b : Int} (ho : o.op = .binOp .leq T x y T') (hx0 : (mk tl hl m).ev x = some (.v (.int kk a))) (hx1 : (mk tl hl m).ev y = some (.v (.int kk b))) (hd : o.dst = some k) (hg : wantA ops (mk tl hl m) o.guard = some true)
    (ht : a ≤ b → ARun P r 𝔅 ops lab (i + 1) rest (mk ((k, .v (.bool true)) :: tl) hl m) K) (hf : ¬ (a ≤ b) → ARun P r 𝔅 ops lab (i + 1) rest (mk ((k, .v (.bool false)) :: tl) hl m) K) : ARun P r 𝔅 ops lab i (o :: rest) (mk tl hl m) K := by
  by_cases h : a ≤ b
  · exact ar_leq ho hx0 hx1 (decide_eq_true h) hd hg (ht h)
  · exact ar_leq ho hx0 hx1 (decide_eq_false h) hd hg (hf h)

theorem ar_gtr {T T' : TypeId} {x y : Operand} {kk : IntKind} {a b : Int} {z : Bool} (ho : o.op = .binOp .gtr T x y T') (hx0 : (mk tl hl m).ev x = some (.v (.int kk a))) (hx1 : (mk tl hl m).ev y = some (.v (.int kk b))) (hz : decide (a > b) = z) (hd : o.dst = some k) (hg : wantA ops (mk tl hl m) o.guard = some true) (h : ARun P r 𝔅 ops lab (i + 1) rest (mk ((k, .v (.bool z)) :: tl) hl m) K) : ARun P r 𝔅 ops lab i (o :: rest) (mk tl hl m) K :=
  ar_of (E := [(x, .v (.int kk a)), (y, .v (.int kk b))]) (F := []) (d := .v (.bool z)) (e := []) (step_of (by simp [ho, Op.operands]) (by simp [ho]) fun s hE hF => hz ▸ runs_gtr ho (hE (x, .v (.int kk a)) (by simp)) (hE (y, .v (.int kk b)) (by simp))) (all2 hx0 hx1) all0 labOk_nil hd hg h

theorem ar_gtr_s {T T' : TypeId} {x y : Operand} {kk : IntKind} {a b : Int} (ho : o.op = .binOp .gtr T x y T') (hx0 : (mk tl hl m).ev x = some (.v (.int kk a))) (hx1 : (mk tl hl m).ev y = some (.v (.int kk b))) (hd : o.dst = some k) (hg : wantA ops (mk tl hl m) o.guard = some true)
    (ht : a > b → ARun P r 𝔅 ops lab (i + 1) rest (mk ((k, .v (.bool true)) :: tl) hl m) K) (hf : ¬ (a > b) → ARun P r 𝔅 ops lab (i + 1) rest (mk ((k, .v (.bool false)) :: tl) hl m) K) : ARun P r 𝔅 ops lab i (o :: rest) (mk tl hl m) K := by
  by_cases h : a > b
  · exact ar_gtr ho hx0 hx1 (decide_eq_true h) hd hg (ht h)
  · exact ar_gtr ho hx0 hx1 (decide_eq_false h) hd hg (hf h)

theorem ar_geq {T T' : TypeId} {x y : Operand} {kk : IntKind} {a b : Int} {z : Bool} (ho : o.op = .binOp .geq T x y T') (hx0 : (mk tl hl m).ev x = some (.v (.int kk a))) (hx1 : (mk tl hl m).ev y = some (.v (.int kk b))) (hz : decide (a ≥ b) = z) (hd : o.dst = some k) (hg : wantA ops (mk tl hl m) o.guard = some true) (h : ARun P r 𝔅 ops lab (i + 1) rest (mk ((k, .v (.bool z)) :: tl) hl m) K) : ARun P r 𝔅 ops lab i (o :: rest) (mk tl hl m) K :=
  ar_of (E := [(x, .v (.int kk a)), (y, .v (.int kk b))]) (F := []) (d := .v (.bool z)) (e := []) (step_of (by simp [ho, Op.operands]) (by simp [ho]) fun s hE hF => hz ▸ runs_geq ho (hE (x, .v (.int kk a)) (by simp)) (hE (y, .v (.int kk b)) (by simp))) (all2 hx0 hx1) all0 labOk_nil hd hg h

theorem ar_geq_s {T T' : TypeId} {x y : Operand} {kk : IntKind} {a b : Int} (ho : o.op = .binOp .geq T x y T') (hx0 : (mk tl hl m).ev x = some (.v (.int kk a))) (hx1 : (mk tl hl m).ev y = some (.v (.int kk b))) (hd : o.dst = some k) (hg : wantA ops (mk tl hl m) o.guard = some true)
    (ht : a ≥ b → ARun P r 𝔅 ops lab (i + 1) rest (mk ((k, .v (.bool true)) :: tl) hl m) K) (hf : ¬ (a ≥ b) → ARun P r 𝔅 ops lab (i + 1) rest (mk ((k, .v (.bool false)) :: tl) hl m) K) : ARun P r 𝔅 ops lab i (o :: rest) (mk tl hl m) K := by
  by_cases h : a ≥ b
  · exact ar_geq ho hx0 hx1 (decide_eq_true h) hd hg (ht h)
  · exact ar_geq ho hx0 hx1 (decide_eq_false h) hd hg (hf h)

theorem ar_and {T T' : TypeId} {x y : Operand} {kk : IntKind} {a b z : Int} (ho : o.op = .binOp .and T x y T') (hx0 : (mk tl hl m).ev x = some (.v (.int kk a))) (hx1 : (mk tl hl m).ev y = some (.v (.int kk b))) (hr : bits .and kk a b = z) (hd : o.dst = some k) (hg : wantA ops (mk tl hl m) o.guard = some true) (h : ARun P r 𝔅 ops lab (i + 1) rest (mk ((k, .v (.int kk z)) :: tl) hl m) K) : ARun P r 𝔅 ops lab i (o :: rest) (mk tl hl m) K :=
  ar_of (E := [(x, .v (.int kk a)), (y, .v (.int kk b))]) (F := []) (d := .v (.int kk z)) (e := []) (step_of (by simp [ho, Op.operands]) (by simp [ho]) fun s hE hF => runs_bits ho (by simp) (hE (x, .v (.int kk a)) (by simp)) (hE (y, .v (.int kk b)) (by simp)) hr) (all2 hx0 hx1) all0 labOk_nil hd hg h

theorem ar_or {T T' : TypeId} {x y : Operand} {kk : IntKind} {a b z : Int} (ho : o.op = .binOp .or T x y T') (hx0 : (mk tl hl m).ev x = some (.v (.int kk a))) (hx1 : (mk tl hl m).ev y = some (.v (.int kk b))) (hr : bits .or kk a b = z) (hd : o.dst = some k) (hg : wantA ops (mk tl hl m) o.guard = some true) (h : ARun P r 𝔅 ops lab (i + 1) rest (mk ((k, .v (.int kk z)) :: tl) hl m) K) : ARun P r 𝔅 ops lab i (o :: rest) (mk tl hl m) K :=
  ar_of (E := [(x, .v (.int kk a)), (y, .v (.int kk b))]) (F := []) (d := .v (.int kk z)) (e := []) (step_of (by simp [ho, Op.operands]) (by simp [ho]) fun s hE hF => runs_bits ho (by simp) (hE (x, .v (.int kk a)) (by simp)) (hE (y, .v (.int kk b)) (by simp)) hr) (all2 hx0 hx1) all0 labOk_nil hd hg h

theorem ar_xor {T T' : TypeId} {x y : Operand} {kk : IntKind} {a b z : Int} (ho : o.op = .binOp .xor T x y T') (hx0 : (mk tl hl m).ev x = some (.v (.int kk a))) (hx1 : (mk tl hl m).ev y = some (.v (.int kk b))) (hr : bits .xor kk a b = z) (hd : o.dst = some k) (hg : wantA ops (mk tl hl m) o.guard = some true) (h : ARun P r 𝔅 ops lab (i + 1) rest (mk ((k, .v (.int kk z)) :: tl) hl m) K) : ARun P r 𝔅 ops lab i (o :: rest) (mk tl hl m) K :=
  ar_of (E := [(x, .v (.int kk a)), (y, .v (.int kk b))]) (F := []) (d := .v (.int kk z)) (e := []) (step_of (by simp [ho, Op.operands]) (by simp [ho]) fun s hE hF => runs_bits ho (by simp) (hE (x, .v (.int kk a)) (by simp)) (hE (y, .v (.int kk b)) (by simp)) hr) (all2 hx0 hx1) all0 labOk_nil hd hg h

theorem ar_shr {T T' : TypeId} {x y : Operand} {kk kj : IntKind} {a b z : Int} (ho : o.op = .binOp .shr T x y T') (hx0 : (mk tl hl m).ev x = some (.v (.int kk a))) (hx1 : (mk tl hl m).ev y = some (.v (.int kj b))) (h0 : 0 ≤ b) (h1 : b ≤ kk.bits) (hr : a / 2 ^ b.toNat = z) (hd : o.dst = some k) (hg : wantA ops (mk tl hl m) o.guard = some true) (h : ARun P r 𝔅 ops lab (i + 1) rest (mk ((k, .v (.int kk z)) :: tl) hl m) K) : ARun P r 𝔅 ops lab i (o :: rest) (mk tl hl m) K :=
  ar_of (E := [(x, .v (.int kk a)), (y, .v (.int kj b))]) (F := []) (d := .v (.int kk z)) (e := []) (step_of (by simp [ho, Op.operands]) (by simp [ho]) fun s hE hF => runs_shr ho (hE (x, .v (.int kk a)) (by simp)) (hE (y, .v (.int kj b)) (by simp)) h0 h1 hr) (all2 hx0 hx1) all0 labOk_nil hd hg h

theorem ar_shl {T T' : TypeId} {x y : Operand} {kk kj : IntKind} {a b z : Int} (ho : o.op = .binOp .shl T x y T') (hx0 : (mk tl hl m).ev x = some (.v (.int kk a))) (hx1 : (mk tl hl m).ev y = some (.v (.int kj b))) (h0 : 0 ≤ b) (h1 : b ≤ kk.bits) (hr : kk.wrap (a * 2 ^ b.toNat) = z) (hd : o.dst = some k) (hg : wantA ops (mk tl hl m) o.guard = some true) (h : ARun P r 𝔅 ops lab (i + 1) rest (mk ((k, .v (.int kk z)) :: tl) hl m) K) : ARun P r 𝔅 ops lab i (o :: rest) (mk tl hl m) K :=
  ar_of (E := [(x, .v (.int kk a)), (y, .v (.int kj b))]) (F := []) (d := .v (.int kk z)) (e := []) (step_of (by simp [ho, Op.operands]) (by simp [ho]) fun s hE hF => runs_shl ho (hE (x, .v (.int kk a)) (by simp)) (hE (y, .v (.int kj b)) (by simp)) h0 h1 hr) (all2 hx0 hx1) all0 labOk_nil hd hg h

theorem ar_beql {T T' : TypeId} {ti : TI} {x y : Operand} {a b z : Bool} (hT : tabOk P tab = true) (ho : o.op = .binOp .eql T x y T') (hx0 : (mk tl hl m).ev x = some (.v (.bool a))) (hx1 : (mk tl hl m).ev y = some (.v (.bool b))) (hlt : lk tab T = some ti) (he : ti.kind = .bool) (hz : (a == b) = z) (hd : o.dst = some k) (hg : wantA ops (mk tl hl m) o.guard = some true) (h : ARun P r 𝔅 ops lab (i + 1) rest (mk ((k, .v (.bool z)) :: tl) hl m) K) : ARun P r 𝔅 ops lab i (o :: rest) (mk tl hl m) K :=
  ar_of (E := [(x, .v (.bool a)), (y, .v (.bool b))]) (F := []) (d := .v (.bool z)) (e := []) (step_of (by simp [ho, Op.operands]) (by simp [ho]) fun s hE hF => hz ▸ runs_beql hT ho hlt he (hE (x, .v (.bool a)) (by simp)) (hE (y, .v (.bool b)) (by simp))) (all2 hx0 hx1) all0 labOk_nil hd hg h

theorem ar_bneq {T T' : TypeId} {ti : TI} {x y : Operand} {a b z : Bool} (hT : tabOk P tab = true) (ho : o.op = .binOp .neq T x y T') (hx0 : (mk tl hl m).ev x = some (.v (.bool a))) (hx1 : (mk tl hl m).ev y = some (.v (.bool b))) (hlt : lk tab T = some ti) (he : ti.kind = .bool) (hz : (a != b) = z) (hd : o.dst = some k) (hg : wantA ops (mk tl hl m) o.guard = some true) (h : ARun P r 𝔅 ops lab (i + 1) rest (mk ((k, .v (.bool z)) :: tl) hl m) K) : ARun P r 𝔅 ops lab i (o :: rest) (mk tl hl m) K :=
  ar_of (E := [(x, .v (.bool a)), (y, .v (.bool b))]) (F := []) (d := .v (.bool z)) (e := []) (step_of (by simp [ho, Op.operands]) (by simp [ho]) fun s hE hF => hz ▸ runs_bneq hT ho hlt he (hE (x, .v (.bool a)) (by simp)) (hE (y, .v (.bool b)) (by simp))) (all2 hx0 hx1) all0 labOk_nil hd hg h

theorem ar_seql {T T' : TypeId} {x y : Operand} {a b : ByteArray} {z : Bool} (ho : o.op = .binOp .eql T x y T') (hx0 : (mk tl hl m).ev x = some (.v (.str a))) (hx1 : (mk tl hl m).ev y = some (.v (.str b))) (hz : (a.toList == b.toList) = z) (hd : o.dst = some k) (hg : wantA ops (mk tl hl m) o.guard = some true) (h : ARun P r 𝔅 ops lab (i + 1) rest (mk ((k, .v (.bool z)) :: tl) hl m) K) : ARun P r 𝔅 ops lab i (o :: rest) (mk tl hl m) K :=
  ar_of (E := [(x, .v (.str a)), (y, .v (.str b))]) (F := []) (d := .v (.bool z)) (e := []) (step_of (by simp [ho, Op.operands]) (by simp [ho]) fun s hE hF => hz ▸ runs_seql ho (hE (x, .v (.str a)) (by simp)) (hE (y, .v (.str b)) (by simp))) (all2 hx0 hx1) all0 labOk_nil hd hg h

theorem ar_sadd {T T' : TypeId} {x y : Operand} {a b : ByteArray} (ho : o.op = .binOp .add T x y T') (hx0 : (mk tl hl m).ev x = some (.v (.str a))) (hx1 : (mk tl hl m).ev y = some (.v (.str b))) (hs : a.size + b.size ≤ 9223372036854775807) (hd : o.dst = some k) (hg : wantA ops (mk tl hl m) o.guard = some true) (h : ARun P r 𝔅 ops lab (i + 1) rest (mk ((k, .v (.str (a ++ b))) :: tl) hl m) K) : ARun P r 𝔅 ops lab i (o :: rest) (mk tl hl m) K :=
  ar_of (E := [(x, .v (.str a)), (y, .v (.str b))]) (F := []) (d := .v (.str (a ++ b))) (e := []) (step_of (by simp [ho, Op.operands]) (by simp [ho]) fun s hE hF => runs_sadd ho (hE (x, .v (.str a)) (by simp)) (hE (y, .v (.str b)) (by simp)) hs) (all2 hx0 hx1) all0 labOk_nil hd hg h

theorem ar_conv {src dst : TypeId} {ts td : TI} {x : Operand} {kk kj : IntKind} {n z : Int} (hT : tabOk P tab = true) (ho : o.op = .convert src dst x) (hx0 : (mk tl hl m).ev x = some (.v (.int kk n))) (hs : lk tab src = some ts) (hdd : lk tab dst = some td) (hk : ts.kind = .int kk) (hk' : td.kind = .int kj) (hr : kj.wrap n = z) (hd : o.dst = some k) (hg : wantA ops (mk tl hl m) o.guard = some true) (h : ARun P r 𝔅 ops lab (i + 1) rest (mk ((k, .v (.int kj z)) :: tl) hl m) K) : ARun P r 𝔅 ops lab i (o :: rest) (mk tl hl m) K :=
  ar_of (E := [(x, .v (.int kk n))]) (F := []) (d := .v (.int kj z)) (e := []) (step_of (by simp [ho, Op.operands]) (by simp [ho]) fun s hE hF => runs_conv_int hT ho hs hdd hk hk' (hE (x, .v (.int kk n)) (by simp)) hr) (all1 hx0) all0 labOk_nil hd hg h

theorem ar_nilck {x : Operand} {id n : Nat} {cs : List D} (ho : o.op = .nilCheck x) (hx0 : (mk tl hl m).ev x = some (.ptr id n)) (hf0 : (mk tl hl m).h id = .box cs) (hlab : labOk lab i [(id, .box cs)] [] = true) (hd : o.dst = some k) (hg : wantA ops (mk tl hl m) o.guard = some true) (h : ARun P r 𝔅 ops lab (i + 1) rest (mk ((k, .ptr id n) :: tl) hl m) K) : ARun P r 𝔅 ops lab i (o :: rest) (mk tl hl m) K :=
  ar_of (E := [(x, .ptr id n)]) (F := [(id, .box cs)]) (d := .ptr id n) (e := []) (step_of (by simp [ho, Op.operands]) (by simp [ho]) fun s hE hF => runs_nilCheck_ptr ho (hE (x, .ptr id n) (by simp)) (hF (id, .box cs) (by simp))) (all1 hx0) (all1 hf0) hlab hd hg h

theorem ar_nilck_e {x : Operand} {id n e sz : Nat} {es : List (List V)} (ho : o.op = .nilCheck x) (hx0 : (mk tl hl m).ev x = some (.eptr id n)) (hf0 : (mk tl hl m).h id = .row e sz es) (hne : es ≠ []) (hlab : labOk lab i [(id, .row e sz es)] [] = true) (hd : o.dst = some k) (hg : wantA ops (mk tl hl m) o.guard = some true) (h : ARun P r 𝔅 ops lab (i + 1) rest (mk ((k, .eptr id n) :: tl) hl m) K) : ARun P r 𝔅 ops lab i (o :: rest) (mk tl hl m) K :=
  ar_of (E := [(x, .eptr id n)]) (F := [(id, .row e sz es)]) (d := .eptr id n) (e := []) (step_of (by simp [ho, Op.operands]) (by simp [ho]) fun s hE hF => runs_nilCheck_eptr ho (hE (x, .eptr id n) (by simp)) (hF (id, .row e sz es) (by simp)) hne) (all1 hx0) (all1 hf0) hlab hd hg h

theorem ar_nilck_fn {x : Operand} {f : FuncId} {as bs : List D} (ho : o.op = .nilCheck x) (hx0 : (mk tl hl m).ev x = some (.fn (.func f) as bs)) (hd : o.dst = some k) (hg : wantA ops (mk tl hl m) o.guard = some true) (h : ARun P r 𝔅 ops lab (i + 1) rest (mk ((k, .fn (.func f) as bs) :: tl) hl m) K) : ARun P r 𝔅 ops lab i (o :: rest) (mk tl hl m) K :=
  ar_of (E := [(x, .fn (.func f) as bs)]) (F := []) (d := .fn (.func f) as bs) (e := []) (step_of (by simp [ho, Op.operands]) (by simp [ho]) fun s hE hF => runs_nilCheck_fn ho (hE (x, .fn (.func f) as bs) (by simp))) (all1 hx0) all0 labOk_nil hd hg h

theorem ar_nilck_v {x : Operand} {f : FuncId} {as bs : List V} (ho : o.op = .nilCheck x) (hx0 : (mk tl hl m).ev x = some (.v (.fn (.func f) as bs))) (hd : o.dst = some k) (hg : wantA ops (mk tl hl m) o.guard = some true) (h : ARun P r 𝔅 ops lab (i + 1) rest (mk ((k, .v (.fn (.func f) as bs)) :: tl) hl m) K) : ARun P r 𝔅 ops lab i (o :: rest) (mk tl hl m) K :=
  ar_of (E := [(x, .v (.fn (.func f) as bs))]) (F := []) (d := .v (.fn (.func f) as bs)) (e := []) (step_of (by simp [ho, Op.operands]) (by simp [ho]) fun s hE hF => runs_nilCheck_v ho (hE (x, .v (.fn (.func f) as bs)) (by simp))) (all1 hx0) all0 labOk_nil hd hg h

theorem ar_ext {x : Operand} {j : Nat} {vs : List V} {v : V} (ho : o.op = .extract x j) (hx0 : (mk tl hl m).ev x = some (.v (.tup vs))) (hv : vs[j]? = some v) (hd : o.dst = some k) (hg : wantA ops (mk tl hl m) o.guard = some true) (h : ARun P r 𝔅 ops lab (i + 1) rest (mk ((k, .v v) :: tl) hl m) K) : ARun P r 𝔅 ops lab i (o :: rest) (mk tl hl m) K :=
  ar_of (E := [(x, .v (.tup vs))]) (F := []) (d := .v v) (e := []) (step_of (by simp [ho, Op.operands]) (by simp [ho]) fun s hE hF => runs_extract ho (hE (x, .v (.tup vs)) (by simp)) hv) (all1 hx0) all0 labOk_nil hd hg h

theorem ar_extD {x : Operand} {j : Nat} {vs : List D} {v : D} (ho : o.op = .extract x j) (hx0 : (mk tl hl m).ev x = some (.tup vs)) (hv : vs[j]? = some v) (hd : o.dst = some k) (hg : wantA ops (mk tl hl m) o.guard = some true) (h : ARun P r 𝔅 ops lab (i + 1) rest (mk ((k, v) :: tl) hl m) K) : ARun P r 𝔅 ops lab i (o :: rest) (mk tl hl m) K :=
  ar_of (E := [(x, .tup vs)]) (F := []) (d := v) (e := []) (step_of (by simp [ho, Op.operands]) (by simp [ho]) fun s hE hF => runs_extractD ho (hE (x, .tup vs) (by simp)) hv) (all1 hx0) all0 labOk_nil hd hg h

theorem ar_alloc {T : Nat} {ti : TI} {id : Nat} {cs : List D} (hT : tabOk P tab = true) (ho : o.op = .alloc T) (hf0 : (mk tl hl m).h id = .res) (hlt : lk tab T = some ti) (hc : ti.zero.map Z.toD = cs) (hlab : labOk lab i [(id, .res)] [(id, .box cs)] = true) (hd : o.dst = some k) (hg : wantA ops (mk tl hl m) o.guard = some true) (h : ARun P r 𝔅 ops lab (i + 1) rest (mk ((k, .ptr id 0) :: tl) ((id, .box cs) :: hl) m) K) : ARun P r 𝔅 ops lab i (o :: rest) (mk tl hl m) K :=
  ar_of (E := []) (F := [(id, .res)]) (d := .ptr id 0) (e := [(id, .box cs)]) (step_of (by simp [ho, Op.operands]) (by simp [ho]) fun s hE hF => hc ▸ runs_alloc hT ho hlt (hF (id, .res) (by simp))) all0 (all1 hf0) hlab hd hg h


theorem hF_flat {F : List (Nat × Blk)} {s : St} (hf : ∀ p ∈ F, s.h p.1 = p.2) {d : D} {ds : List D} (h : d.flat (hF F) = some ds) : d.flat s.h = some ds := by
  have key := hF_some hf
  cases d with
  | own id =>
    simp only [D.flat] at h ⊢
    rcases key id with h1 | h1
    · rw [h1] at h; cases h
    · rw [← h1]; exact h
  | ptr id n =>
    simp only [D.flat] at h ⊢
    rcases key id with h1 | h1
    · rw [h1] at h; cases h
    · rw [← h1]; exact h
  | v x => cases x <;> exact h
  | _ => exact h

theorem hF_one {F : List (Nat × Blk)} {s : St} (hf : ∀ p ∈ F, s.h p.1 = p.2) {d : D} (h : d.one (hF F) = true) : d.one s.h = true := by
  have key := hF_some hf
  cases d with
  | own id =>
    simp only [D.one] at h ⊢
    rcases key id with h1 | h1
    · rw [h1] at h; cases h
    · rw [← h1]; exact h
  | ptr id n =>
    simp only [D.one] at h ⊢
    rcases key id with h1 | h1
    · rw [h1] at h; cases h
    · rw [← h1]; exact h
  | _ => exact h

/-- The facts in a list hold in a written state: to be shown by 'rfl', one by one. -/
def HasH (s : St) : List (Nat × Blk) → Prop
  | [] => True
  | p :: r => s.h p.1 = p.2 ∧ HasH s r
theorem HasH.all {s : St} : ∀ {l : List (Nat × Blk)}, HasH s l → ∀ p ∈ l, s.h p.1 = p.2
  | [], _ => by simp
  | q :: r, h => by
    intro p hp
    rcases List.mem_cons.1 hp with rfl | hp
    · exact h.1
    · exact HasH.all h.2 p hp
def HasT (s : St) : List (Nat × D) → Prop
  | [] => True
  | p :: r => s.t p.1 = some p.2 ∧ HasT s r
theorem HasT.all {s : St} : ∀ {l : List (Nat × D)}, HasT s l → ∀ p ∈ l, s.t p.1 = some p.2
  | [], _ => by simp
  | q :: r, h => by
    intro p hp
    rcases List.mem_cons.1 hp with rfl | hp
    · exact h.1
    · exact HasT.all h.2 p hp

/-- Forgetting, for written states. -/
theorem wp_to {N : Nat} {B : BB} {c : Code} {Q : Exit → St → Prop} {s : St} (tl : List (Nat × D)) (hl : List (Nat × Blk)) {m : MM} (ht : HasT s tl) (hh : HasH s hl) (hm : s.m = m) (hi : (tl.all fun p => p.2.inn (hl.map (·.1))) = true) (hj : (hl.all fun p => p.2.inn (hl.map (·.1))) = true) (hp : (m.pins.all fun p => (hl.map (·.1)).contains p.1) = true)
    (h : Wp P r N B c Q (mk tl hl m)) : Wp P r N B c Q s := wp_le (le_mk ht.all hh.all hm hi hj hp) h

theorem le_to {s : St} {tl : List (Nat × D)} {hl : List (Nat × Blk)} {m : MM} (ht : HasT s tl) (hh : HasH s hl) (hm : s.m = m) (hi : (tl.all fun p => p.2.inn (hl.map (·.1))) = true) (hj : (hl.all fun p => p.2.inn (hl.map (·.1))) = true) (hp : (m.pins.all fun p => (hl.map (·.1)).contains p.1) = true) :
    Le s (mk tl hl m) := le_mk ht.all hh.all hm hi hj hp

theorem ar_box {T : Nat} {x : Operand} {d : D} (id : Nat) (F : List (Nat × Blk)) {ds : List D} (ho : o.op = .box T x) (hx : (mk tl hl m).ev x = some d) (hds : d.flat (hF F) = some ds) (hF' : HasH (mk tl hl m) ((id, .res) :: F)) (hlab : labOk lab i ((id, .res) :: F) [(id, .box ds)] = true)
    (hd : o.dst = some k) (hg : wantA ops (mk tl hl m) o.guard = some true) (h : ARun P r 𝔅 ops lab (i + 1) rest (mk ((k, .ptr id 0) :: tl) ((id, .box ds) :: hl) m) K) : ARun P r 𝔅 ops lab i (o :: rest) (mk tl hl m) K :=
  ar_of (E := [(x, d)]) (F := (id, .res) :: F) (d := .ptr id 0) (e := [(id, .box ds)]) (step_of (by simp [ho, Op.operands]) (by simp [ho]) fun s hE hFs => runs_box ho (hE (x, d) (by simp)) (hF_flat (fun p hp => hFs p (List.mem_cons_of_mem _ hp)) hds) (hFs (id, .res) (by simp))) (all1 hx) hF'.all hlab hd hg h

theorem ar_st {T : Nat} {ti : TI} {x y : Operand} {id n : Nat} {cs ds cs' : List D} {d : D} (F : List (Nat × Blk)) (hT : tabOk P tab = true) (ho : o.op = .store T x y) (hl' : lk tab T = some ti) (hx : (mk tl hl m).ev x = some (.ptr id n)) (hy : (mk tl hl m).ev y = some d)
    (hb : (mk tl hl m).h id = .box cs) (hFs : HasH (mk tl hl m) F) (hds : d.flat (hF F) = some ds) (h1 : ds.all (·.one (hF F)) = true) (hs : ti.size = ds.length) (hfit : Nat.ble (n + ds.length) cs.length = true) (hcs : cs.take n ++ ds ++ cs.drop (n + ds.length) = cs')
    (hlab : labOk lab i ((id, .box cs) :: F) [(id, .box cs')] = true) (hd : o.dst = none) (hg : wantA ops (mk tl hl m) o.guard = some true) (h : ARun P r 𝔅 ops lab (i + 1) rest (mk tl ((id, .box cs') :: hl) m) K) : ARun P r 𝔅 ops lab i (o :: rest) (mk tl hl m) K :=
  ar_of0 (E := [(x, .ptr id n), (y, d)]) (F := (id, .box cs) :: F) (d := .v (.tup [])) (e := [(id, .box cs')]) (step_of (by simp [ho, Op.operands]) (by simp [ho]) fun s hE hF0 => by
    have hF1 : ∀ p ∈ F, s.h p.1 = p.2 := fun p hp => hF0 p (List.mem_cons_of_mem _ hp)
    subst hcs
    refine runs_st_ptr hT ho hl' (hE (x, .ptr id n) (by simp)) (hE (y, d) (by simp)) (hF0 (id, .box cs) (by simp)) (hF_flat hF1 hds) ?_ hs (Nat.le_of_ble_eq_true hfit)
    rw [List.all_eq_true] at h1 ⊢
    exact fun z hz => hF_one hF1 (h1 z hz)) (all2 hx hy) (fun p hp => by
      rcases List.mem_cons.1 hp with rfl | hp
      · exact hb
      · exact hFs.all p hp) hlab hd hg h

theorem ar_st_e {T : Nat} {ti : TI} {x y : Operand} {id n e : Nat} {es es' : List (List V)} {v : V} (hT : tabOk P tab = true) (ho : o.op = .store T x y) (hl' : lk tab T = some ti)
    (hx : (mk tl hl m).ev x = some (.eptr id n)) (hy : (mk tl hl m).ev y = some (.v v)) (hb : (mk tl hl m).h id = .row e 1 es) (h1 : v.one = true) (hs : ti.size = 1) (hn : n < es.length) (hes : es.set n [v] = es')
    (hlab : labOk lab i [(id, .row e 1 es)] [(id, .row e 1 es')] = true) (hd : o.dst = none) (hg : wantA ops (mk tl hl m) o.guard = some true) (h : ARun P r 𝔅 ops lab (i + 1) rest (mk tl ((id, .row e 1 es') :: hl) m) K) : ARun P r 𝔅 ops lab i (o :: rest) (mk tl hl m) K :=
  ar_of0 (E := [(x, .eptr id n), (y, .v v)]) (F := [(id, .row e 1 es)]) (d := .v (.tup [])) (e := [(id, .row e 1 es')]) (step_of (by simp [ho, Op.operands]) (by simp [ho]) fun s hE hF0 =>
    hes ▸ runs_st_eptr hT ho hl' (hE (x, .eptr id n) (by simp)) (hE (y, .v v) (by simp)) (hF0 (id, .row e 1 es) (by simp)) h1 hs hn) (all2 hx hy) (all1 hb) hlab hd hg h

/-- What 'append' adds: data, nothing, or the call's own row. -/
def srcD (F : List (Nat × Blk)) : D → Option (List (List V))
  | .v (.sl es) => some es
  | .nils => some []
  | .own id => match hF F id with | .row _ _ es => some es | _ => none
  | _ => none

def elOk (sz : Nat) (es : List (List V)) : Prop := ∀ el ∈ es, el.length = sz ∧ ∀ v ∈ el, v.one = true
theorem elOk.nil {sz : Nat} : elOk sz [] := by simp [elOk]
theorem elOk.cons {sz : Nat} {el : List V} {es : List (List V)} (h : el.length = sz) (h' : el.all V.one = true) (hr : elOk sz es) : elOk sz (el :: es) := by
  intro x hx
  rcases List.mem_cons.1 hx with rfl | hx
  · exact ⟨h, List.all_eq_true.1 h'⟩
  · exact hr x hx
theorem elOk.append {sz : Nat} {es es' : List (List V)} (h : elOk sz es) (h' : elOk sz es') : elOk sz (es ++ es') := by
  intro x hx
  rcases List.mem_append.1 hx with hx | hx
  · exact h x hx
  · exact h' x hx
theorem elOk.map {α : Type} {sz : Nat} {enc : α → List V} (h : ∀ a, (enc a).length = sz ∧ (enc a).all V.one = true) (xs : List α) : elOk sz (xs.map enc) := by
  intro x hx
  obtain ⟨a, _, rfl⟩ := List.mem_map.1 hx
  exact ⟨(h a).1, List.all_eq_true.1 (h a).2⟩

/-- What 'append' adds is what it reads as. -/
theorem src_of {s : St} {F : List (Nat × Blk)} {y : Operand} {dy : D} {sz : Nat} {es2 : List (List V)} (hFf : ∀ p ∈ F, s.h p.1 = p.2) (hy : s.ev y = some dy) (hsrc : srcD F dy = some es2) (hel : elOk sz es2) : Src s y es2 sz := by
  have hF1 := hF_some hFf
  cases dy with
  | nils => cases hsrc; exact src_nils hy
  | v x =>
    cases x with
    | sl es => cases hsrc; exact src_v hy fun el hel' => (hel el hel').1
    | _ => cases hsrc
  | own id =>
    simp only [srcD] at hsrc
    have h1 := hF1 id
    cases hh : hF F id with
    | row e0 sz0 es =>
      rw [hh] at hsrc h1
      cases hsrc
      have h1 : s.h id = .row e0 sz0 es2 := by
        rcases h1 with h1 | h1
        · cases h1
        · exact h1.symm
      intro B ι a w S
      have h2 := S.blks id
      rw [h1] at h2
      cases es2 with
      | nil => exact ⟨(src_own hy h1 B ι a w S).1, fun h => absurd rfl h⟩
      | cons el es =>
        have h3 := h2.2.1 el List.mem_cons_self
        have h4 := (hel el List.mem_cons_self).1
        have : sz0 = sz := by omega
        subst this
        exact src_own hy h1 B ι a w S
    | _ => rw [hh] at hsrc; cases hsrc
  | _ => cases hsrc

theorem ar_app0 {t e t' e' : Nat} {ti ti' te : TI} {x y : Operand} {dy : D} (nid : Nat) (F : List (Nat × Blk)) {sz : Nat} {es2 es : List (List V)} (hT : tabOk P tab = true) (ho : o.op = .call { callee := .builtin .append, args := #[x, y], argTypes := #[t, t'] })
    (hl1 : lk tab t = some ti) (he : ti.sliceElem = some e) (hl2 : lk tab t' = some ti') (he' : ti'.sliceElem = some e') (hle : lk tab e = some te) (hte : te.size = sz) (hsz : Nat.blt 0 sz = true)
    (hx : (mk tl hl m).ev x = some .nils) (hy : (mk tl hl m).ev y = some dy) (hFs : HasH (mk tl hl m) ((nid, .res) :: F)) (hsrc : srcD F dy = some es2) (hes : es2 = es) (hel : elOk sz es)
    (hb : es.length * te.bytes ≤ 140737488355328 ∧ es.length ≤ 140737488355328)
    (hlab : labOk lab i ((nid, .res) :: F) [(nid, .row e sz es)] = true)
    (hd : o.dst = some k) (hg : wantA ops (mk tl hl m) o.guard = some true) (h : ARun P r 𝔅 ops lab (i + 1) rest (mk ((k, .own nid) :: tl) ((nid, .row e sz es) :: hl) m) K) : ARun P r 𝔅 ops lab i (o :: rest) (mk tl hl m) K :=
  ar_of (E := [(x, .nils), (y, dy)]) (F := (nid, .res) :: F) (d := .own nid) (e := [(nid, .row e sz es)]) (step_of (by simp [ho, Op.operands, Call.operands]) (by simp [ho]) fun s hE hF0 => by
    subst hes
    have := runs_append (es1 := []) (kills := []) hT ho hl1 he hl2 he' hle hte (Nat.le_of_ble_eq_true hsz) (.inl ⟨hE (x, .nils) (by simp), rfl, rfl⟩) (src_of (fun p hp => hF0 p (List.mem_cons_of_mem _ hp)) (hE (y, dy) (List.mem_cons_of_mem _ List.mem_cons_self)) hsrc hel) (fun el h => (hel el h).1) (fun el h => (hel el h).2) (hF0 (nid, .res) List.mem_cons_self)
      (by simpa [maxLen] using Nat.le_trans hb.2 (by decide)) (by simpa using hb.1)
    simpa using this) (all2 hx hy) hFs.all hlab hd hg h

theorem ar_app {t e t' e' : Nat} {ti ti' te : TI} {x y : Operand} {dy : D} (nid : Nat) (F : List (Nat × Blk)) {id sz : Nat} {es1 es2 es : List (List V)} (hT : tabOk P tab = true) (ho : o.op = .call { callee := .builtin .append, args := #[x, y], argTypes := #[t, t'] })
    (hl1 : lk tab t = some ti) (he : ti.sliceElem = some e) (hl2 : lk tab t' = some ti') (he' : ti'.sliceElem = some e') (hle : lk tab e = some te) (hte : te.size = sz) (hsz : Nat.blt 0 sz = true)
    (hx : (mk tl hl m).ev x = some (.own id)) (hy : (mk tl hl m).ev y = some dy) (hFs : HasH (mk tl hl m) ((nid, .res) :: (id, .row e sz es1) :: F)) (hsrc : srcD F dy = some es2) (hel : elOk sz es2) (hes : es1 ++ es2 = es)
    (hb : es.length * te.bytes ≤ 140737488355328 ∧ es.length ≤ 140737488355328)
    (hlab : labOk lab i ((nid, .res) :: (id, .row e sz es1) :: F) [(id, .dead), (nid, .row e sz es)] = true)
    (hd : o.dst = some k) (hg : wantA ops (mk tl hl m) o.guard = some true) (h : ARun P r 𝔅 ops lab (i + 1) rest (mk ((k, .own nid) :: tl) ((nid, .row e sz es) :: (id, .dead) :: hl) m) K) : ARun P r 𝔅 ops lab i (o :: rest) (mk tl hl m) K :=
  ar_of (E := [(x, .own id), (y, dy)]) (F := (nid, .res) :: (id, .row e sz es1) :: F) (d := .own nid) (e := [(id, .dead), (nid, .row e sz es)]) (step_of (by simp [ho, Op.operands, Call.operands]) (by simp [ho]) fun s hE hF0 => by
    subst hes
    have := runs_append (es1 := es1) (kills := [(id, .dead)]) hT ho hl1 he hl2 he' hle hte (Nat.le_of_ble_eq_true hsz) (.inr ⟨id, hE (x, .own id) List.mem_cons_self, hF0 (id, .row e sz es1) (List.mem_cons_of_mem _ List.mem_cons_self), rfl⟩) (src_of (fun p hp => hF0 p (List.mem_cons_of_mem _ (List.mem_cons_of_mem _ hp))) (hE (y, dy) (List.mem_cons_of_mem _ List.mem_cons_self)) hsrc hel) (fun el h => (hel el h).1) (fun el h => (hel el h).2) (hF0 (nid, .res) List.mem_cons_self)
      (by simpa [maxLen] using Nat.le_trans hb.2 (by decide)) (by simpa using hb.1)
    simpa using this) (all2 hx hy) hFs.all hlab hd hg h

theorem ar_make {t e : Nat} {ti te : TI} {x y : Operand} {kl kc : IntKind} {l c : Int} (nid : Nat) {sz : Nat} {el0 : List V} {es : List (List V)} (hT : tabOk P tab = true) (ho : o.op = .makeSlice t x y) (hl1 : lk tab t = some ti) (he : ti.sliceElem = some e) (hle : lk tab e = some te) (hte : te.size = sz)
    (hx : (mk tl hl m).ev x = some (.v (.int kl l))) (hy : (mk tl hl m).ev y = some (.v (.int kc c))) (hz : te.zero.map Z.toD = el0.map .v) (hsz : Nat.blt 0 sz = true) (h0 : 0 ≤ l ∧ l ≤ c ∧ c ≤ 140737488355328 ∧ (te.bytes : Int) * c ≤ 281474976710656) (hes : List.replicate l.toNat el0 = es)
    (hr : (mk tl hl m).h nid = .res) (hlab : labOk lab i [(nid, .res)] [(nid, .row e sz es)] = true)
    (hd : o.dst = some k) (hg : wantA ops (mk tl hl m) o.guard = some true) (h : ARun P r 𝔅 ops lab (i + 1) rest (mk ((k, .own nid) :: tl) ((nid, .row e sz es) :: hl) m) K) : ARun P r 𝔅 ops lab i (o :: rest) (mk tl hl m) K :=
  ar_of (E := [(x, .v (.int kl l)), (y, .v (.int kc c))]) (F := [(nid, .res)]) (d := .own nid) (e := [(nid, .row e sz es)]) (step_of (by simp [ho, Op.operands]) (by simp [ho]) fun s hE hF0 => by
    subst hes; subst hte
    exact runs_make hT ho hl1 he hle (hE (x, .v (.int kl l)) (by simp)) (hE (y, .v (.int kc c)) (by simp)) h0.1 h0.2.1 (by simp only [maxLen]; omega) h0.2.2.2 hz (Nat.le_of_ble_eq_true hsz) (hF0 (nid, .res) (by simp))) (all2 hx hy) (all1 hr) hlab hd hg h

def evsE (s : St) : List Operand → Option (List (Operand × D))
  | [] => some []
  | x :: r => match s.ev x, evsE s r with | some d, some E => some ((x, d) :: E) | _, _ => none

theorem evsE_spec {s : St} : ∀ {xs : List Operand} {E : List (Operand × D)}, evsE s xs = some E → E.map (·.1) = xs ∧ ∀ p ∈ E, s.ev p.1 = some p.2
  | [], E, h => by simp [evsE] at h; subst h; simp
  | x :: r, E, h => by
    simp only [evsE] at h
    split at h
    · rename_i d E' h1 h2
      cases h
      obtain ⟨h3, h4⟩ := evsE_spec h2
      refine ⟨by simp [h3], fun p hp => ?_⟩
      rcases List.mem_cons.1 hp with rfl | hp
      · exact h1
      · exact h4 p hp
    · cases h

theorem evs_of {s : St} : ∀ {E : List (Operand × D)}, (∀ p ∈ E, s.ev p.1 = some p.2) → s.evs (E.map (·.1)) = some (E.map (·.2))
  | [], _ => rfl
  | p :: E, h => by
    have h1 := h p List.mem_cons_self
    have h2 := evs_of fun q hq => h q (List.mem_cons_of_mem _ hq)
    simp [St.evs, h1, h2]

/-- The parts of a thing built, each read as its cells. -/
def partsF (F : List (Nat × Blk)) : List Nat → List D → Option (List (Nat × List D))
  | [], [] => some []
  | n :: ns, d :: ds => match d.flat (hF F), partsF F ns ds with | some c, some cs => some ((n, c) :: cs) | _, _ => none
  | _, _ => none

theorem parts_of {s : St} {F : List (Nat × Blk)} (hFf : ∀ p ∈ F, s.h p.1 = p.2) : ∀ {ps : List (Nat × Operand)} {E : List (Operand × D)} {pd : List (Nat × List D)}, E.map (·.1) = ps.map (·.2) → (∀ p ∈ E, s.ev p.1 = some p.2) → partsF F (ps.map (·.1)) (E.map (·.2)) = some pd → s.parts ps = some pd
  | [], [], pd, _, _, h => by simpa [partsF, St.parts] using h
  | [], _ :: _, _, h, _, _ => by simp at h
  | _ :: _, [], _, h, _, _ => by simp at h
  | (n, x) :: ps, (y, d) :: E, pd, h, hE, hp => by
    simp only [List.map_cons, List.cons.injEq] at h
    obtain ⟨rfl, h⟩ := h
    simp only [List.map_cons, partsF] at hp
    split at hp
    · rename_i c cs h1 h2
      cases hp
      have h3 := parts_of hFf h (fun p hp => hE p (List.mem_cons_of_mem _ hp)) h2
      have h4 := hE (y, d) List.mem_cons_self
      simp only at h4
      simp [St.parts, h3, h4, hF_flat hFf h1]
    · cases hp

theorem ar_build {t : Nat} {ti : TI} {fos : List (Nat × Nat)} {parts : Array (Nat × Operand)} {E : List (Operand × D)} {pd : List (Nat × List D)} {res : List D} {d : D} (F : List (Nat × Blk)) (hT : tabOk P tab = true) (ho : o.op = .build t parts)
    (hl1 : lk tab t = some ti) (hk : ti.kind = .struct fos) (hE : evsE (mk tl hl m) (parts.toList.map (·.2)) = some E) (hFs : HasH (mk tl hl m) F) (hp : partsF F (parts.toList.map (·.1)) (E.map (·.2)) = some pd)
    (hf : fillD (fos[·]?) (ti.zero.map Z.toD) pd = some res) (hres : mkAgg res = d) (hlab : labOk lab i F [] = true)
    (hd : o.dst = some k) (hg : wantA ops (mk tl hl m) o.guard = some true) (h : ARun P r 𝔅 ops lab (i + 1) rest (mk ((k, d) :: tl) hl m) K) : ARun P r 𝔅 ops lab i (o :: rest) (mk tl hl m) K := by
  obtain ⟨h1, h2⟩ := evsE_spec hE
  refine ar_of (E := E) (F := F) (d := d) (e := []) (step_of (fun p hp => ?_) (by simp [ho]) fun s hE' hF0 => ?_) h2 hFs.all hlab hd hg h
  · rw [ho]
    have : p.1 ∈ E.map (·.1) := List.mem_map_of_mem hp
    rw [h1] at this
    simp only [Op.operands]
    simpa using this
  · subst hres
    exact runs_build_struct hT ho hl1 hk (parts_of hF0 h1 hE' hp) hf

theorem ar_builda {t l e : Nat} {ti te : TI} {parts : Array (Nat × Operand)} {E : List (Operand × D)} {pd : List (Nat × List D)} {res : List D} {d : D} (F : List (Nat × Blk)) (hT : tabOk P tab = true) (ho : o.op = .build t parts)
    (hl1 : lk tab t = some ti) (hk : ti.arr = some (l, e)) (hle : lk tab e = some te) (hE : evsE (mk tl hl m) (parts.toList.map (·.2)) = some E) (hFs : HasH (mk tl hl m) F) (hp : partsF F (parts.toList.map (·.1)) (E.map (·.2)) = some pd)
    (hf : fillD (fun i => some (i * te.size, te.size)) (ti.zero.map Z.toD) pd = some res) (hres : mkAgg res = d) (hlab : labOk lab i F [] = true)
    (hd : o.dst = some k) (hg : wantA ops (mk tl hl m) o.guard = some true) (h : ARun P r 𝔅 ops lab (i + 1) rest (mk ((k, d) :: tl) hl m) K) : ARun P r 𝔅 ops lab i (o :: rest) (mk tl hl m) K := by
  obtain ⟨h1, h2⟩ := evsE_spec hE
  refine ar_of (E := E) (F := F) (d := d) (e := []) (step_of (fun p hp => ?_) (by simp [ho]) fun s hE' hF0 => ?_) h2 hFs.all hlab hd hg h
  · rw [ho]
    have : p.1 ∈ E.map (·.1) := List.mem_map_of_mem hp
    rw [h1] at this
    simp only [Op.operands]
    simpa using this
  · subst hres
    exact runs_build_array hT ho hl1 hk hle (parts_of hF0 h1 hE' hp) hf

theorem ar_bs {t e n : Nat} {ti te : TI} {parts : Array (Nat × Operand)} {E : List (Operand × D)} {pd : List (Nat × List D)} {res : List D} {vs : List V} {es : List (List V)} (F : List (Nat × Blk)) (hT : tabOk P tab = true) (ho : o.op = .buildSlice t n parts)
    (hl1 : lk tab t = some ti) (he : ti.sliceElem = some e) (hle : lk tab e = some te) (hE : evsE (mk tl hl m) (parts.toList.map (·.2)) = some E) (hFs : HasH (mk tl hl m) F) (hp : partsF F (parts.toList.map (·.1)) (E.map (·.2)) = some pd)
    (hf : fillD (fun i => some (i * te.size, te.size)) (repl (te.zero.map Z.toD) n) pd = some res) (hv : allV res = some vs) (hlt : Nat.ble (n * te.size) 16777216 = true) (hes : chop te.size n vs = es) (hlab : labOk lab i F [] = true)
    (hd : o.dst = some k) (hg : wantA ops (mk tl hl m) o.guard = some true) (h : ARun P r 𝔅 ops lab (i + 1) rest (mk ((k, .v (.sl es)) :: tl) hl m) K) : ARun P r 𝔅 ops lab i (o :: rest) (mk tl hl m) K := by
  obtain ⟨h1, h2⟩ := evsE_spec hE
  refine ar_of (E := E) (F := F) (d := .v (.sl es)) (e := []) (step_of (fun p hp => ?_) (by simp [ho]) fun s hE' hF0 => ?_) h2 hFs.all hlab hd hg h
  · rw [ho]
    have : p.1 ∈ E.map (·.1) := List.mem_map_of_mem hp
    rw [h1] at this
    simp only [Op.operands]
    simpa using this
  · subst hes
    exact runs_bs_v hT ho hl1 he hle (parts_of hF0 h1 hE' hp) hf hv (Nat.le_of_ble_eq_true hlt)

theorem ar_bs_own {t e n : Nat} {ti te : TI} {parts : Array (Nat × Operand)} {E : List (Operand × D)} {pd : List (Nat × List D)} {res : List D} {vs : List V} {es : List (List V)} {sz : Nat} (nid : Nat) (F : List (Nat × Blk)) (hT : tabOk P tab = true) (ho : o.op = .buildSlice t n parts)
    (hl1 : lk tab t = some ti) (he : ti.sliceElem = some e) (hle : lk tab e = some te) (hte : te.size = sz) (hE : evsE (mk tl hl m) (parts.toList.map (·.2)) = some E) (hFs : HasH (mk tl hl m) ((nid, .res) :: F)) (hp : partsF F (parts.toList.map (·.1)) (E.map (·.2)) = some pd)
    (hf : fillD (fun i => some (i * te.size, te.size)) (repl (te.zero.map Z.toD) n) pd = some res) (hv : allV res = some vs) (hlt : Nat.ble (n * te.size) 16777216 = true) (hsz : Nat.blt 0 sz = true) (hes : chop te.size n vs = es) (hlab : labOk lab i ((nid, .res) :: F) [(nid, .row e sz es)] = true)
    (hd : o.dst = some k) (hg : wantA ops (mk tl hl m) o.guard = some true) (h : ARun P r 𝔅 ops lab (i + 1) rest (mk ((k, .own nid) :: tl) ((nid, .row e sz es) :: hl) m) K) : ARun P r 𝔅 ops lab i (o :: rest) (mk tl hl m) K := by
  obtain ⟨h1, h2⟩ := evsE_spec hE
  refine ar_of (E := E) (F := (nid, .res) :: F) (d := .own nid) (e := [(nid, .row e sz es)]) (step_of (fun p hp => ?_) (by simp [ho]) fun s hE' hF0 => ?_) h2 hFs.all hlab hd hg h
  · rw [ho]
    have : p.1 ∈ E.map (·.1) := List.mem_map_of_mem hp
    rw [h1] at this
    simp only [Op.operands]
    simpa using this
  · subst hes; subst hte
    exact runs_bs_own hT ho hl1 he hle (parts_of (fun p hp => hF0 p (List.mem_cons_of_mem _ hp)) h1 hE' hp) hf hv (Nat.le_of_ble_eq_true hlt) (Nat.le_of_ble_eq_true hsz) (hF0 (nid, .res) List.mem_cons_self)

theorem ar_mkf {f : Fn} {first cap : Array Operand} {E1 E2 : List (Operand × D)} {d : D} (ho : o.op = .makeFunc f first cap) (hE1 : evsE (mk tl hl m) first.toList = some E1) (hE2 : evsE (mk tl hl m) cap.toList = some E2) (hres : mkFn f (E1.map (·.2)) (E2.map (·.2)) = d)
    (hd : o.dst = some k) (hg : wantA ops (mk tl hl m) o.guard = some true) (h : ARun P r 𝔅 ops lab (i + 1) rest (mk ((k, d) :: tl) hl m) K) : ARun P r 𝔅 ops lab i (o :: rest) (mk tl hl m) K := by
  obtain ⟨h1, h2⟩ := evsE_spec hE1
  obtain ⟨h3, h4⟩ := evsE_spec hE2
  refine ar_of (E := E1 ++ E2) (F := []) (d := d) (e := []) (step_of (fun p hp => ?_) (by simp [ho]) fun s hE' hF0 => ?_) (fun p hp => by
    rcases List.mem_append.1 hp with h | h
    · exact h2 p h
    · exact h4 p h) all0 labOk_nil hd hg h
  · rw [ho]
    have : p.1 ∈ E1.map (·.1) ++ E2.map (·.1) := by rw [← List.map_append]; exact List.mem_map_of_mem hp
    rw [h1, h3] at this
    simp only [Op.operands]
    simpa using this
  · subst hres
    exact runs_makeFunc ho (by rw [← h1]; exact evs_of fun p hp => hE' p (List.mem_append_left _ hp)) (by rw [← h3]; exact evs_of fun p hp => hE' p (List.mem_append_right _ hp))

theorem ar_slice_hi {T e : Nat} {ti te : TI} {x y : Operand} {kk : IntKind} {n : Int} {es es' : List (List V)} (q : Nat) (hT : tabOk P tab = true) (ho : o.op = .slice T x none (some y) none) (hl1 : lk tab T = some ti) (he : ti.sliceElem = some e) (hle : lk tab e = some te)
    (hx : (mk tl hl m).ev x = some (.v (.sl es))) (hy : (mk tl hl m).ev y = some (.v (.int kk n))) (hn : n = (q : Int)) (h2 : q ≤ es.length) (hsz : ∀ el ∈ es, el.length = te.size) (hes : es.take q = es')
    (hd : o.dst = some k) (hg : wantA ops (mk tl hl m) o.guard = some true) (h : ARun P r 𝔅 ops lab (i + 1) rest (mk ((k, .v (.sl es')) :: tl) hl m) K) : ARun P r 𝔅 ops lab i (o :: rest) (mk tl hl m) K :=
  ar_of (E := [(x, .v (.sl es)), (y, .v (.int kk n))]) (F := []) (d := .v (.sl es')) (e := []) (step_of (by simp [ho, Op.operands]) (by simp [ho]) fun s hE hF0 => by
    subst hes
    have := runs_slice hT ho hl1 he hle (hE (x, .v (.sl es)) (by simp)) (l := 0) (h := q) (.inl ⟨rfl, rfl⟩) (.inr ⟨y, kk, n, rfl, hE (y, .v (.int kk n)) (by simp), hn⟩) (Nat.zero_le _) h2 hsz
    simpa using this) (all2 hx hy) all0 labOk_nil hd hg h

theorem ar_slice_lo {T e : Nat} {ti te : TI} {x y : Operand} {kk : IntKind} {n : Int} {es es' : List (List V)} (q : Nat) (hT : tabOk P tab = true) (ho : o.op = .slice T x (some y) none none) (hl1 : lk tab T = some ti) (he : ti.sliceElem = some e) (hle : lk tab e = some te)
    (hx : (mk tl hl m).ev x = some (.v (.sl es))) (hy : (mk tl hl m).ev y = some (.v (.int kk n))) (hn : n = (q : Int)) (h2 : q ≤ es.length) (hsz : ∀ el ∈ es, el.length = te.size) (hes : es.drop q = es')
    (hd : o.dst = some k) (hg : wantA ops (mk tl hl m) o.guard = some true) (h : ARun P r 𝔅 ops lab (i + 1) rest (mk ((k, .v (.sl es')) :: tl) hl m) K) : ARun P r 𝔅 ops lab i (o :: rest) (mk tl hl m) K :=
  ar_of (E := [(x, .v (.sl es)), (y, .v (.int kk n))]) (F := []) (d := .v (.sl es')) (e := []) (step_of (by simp [ho, Op.operands]) (by simp [ho]) fun s hE hF0 => by
    subst hes
    have := runs_slice hT ho hl1 he hle (hE (x, .v (.sl es)) (by simp)) (l := q) (h := es.length) (.inr ⟨y, kk, n, rfl, hE (y, .v (.int kk n)) (by simp), hn⟩) (.inl ⟨rfl, rfl⟩) h2 (Nat.le_refl _) hsz
    simpa using this) (all2 hx hy) all0 labOk_nil hd hg h

theorem ar_slice_lh {T e : Nat} {ti te : TI} {x y z : Operand} {kk kj : IntKind} {n n' : Int} {es es' : List (List V)} (q q' : Nat) (hT : tabOk P tab = true) (ho : o.op = .slice T x (some y) (some z) none) (hl1 : lk tab T = some ti) (he : ti.sliceElem = some e) (hle : lk tab e = some te)
    (hx : (mk tl hl m).ev x = some (.v (.sl es))) (hy : (mk tl hl m).ev y = some (.v (.int kk n))) (hz : (mk tl hl m).ev z = some (.v (.int kj n'))) (hn : n = (q : Int)) (hn' : n' = (q' : Int)) (h1 : q ≤ q') (h2 : q' ≤ es.length) (hsz : ∀ el ∈ es, el.length = te.size) (hes : (es.take q').drop q = es')
    (hd : o.dst = some k) (hg : wantA ops (mk tl hl m) o.guard = some true) (h : ARun P r 𝔅 ops lab (i + 1) rest (mk ((k, .v (.sl es')) :: tl) hl m) K) : ARun P r 𝔅 ops lab i (o :: rest) (mk tl hl m) K :=
  ar_of (E := [(x, .v (.sl es)), (y, .v (.int kk n)), (z, .v (.int kj n'))]) (F := []) (d := .v (.sl es')) (e := []) (step_of (by simp [ho, Op.operands]) (by simp [ho]) fun s hE hF0 => by
    subst hes
    exact runs_slice hT ho hl1 he hle (hE (x, .v (.sl es)) (by simp)) (l := q) (h := q') (.inr ⟨y, kk, n, rfl, hE (y, .v (.int kk n)) (by simp), hn⟩) (.inr ⟨z, kj, n', rfl, hE (z, .v (.int kj n')) (by simp), hn'⟩) h1 h2 hsz) (by simp [hx, hy, hz]) all0 labOk_nil hd hg h

/-- A call whose answer is known. -/
theorem ar_call {f : FuncId} {x : Operand} {args : Array Operand} {ats : Array TypeId} {dx : D} {E : List (Operand × D)} {first vs cap ds : List V} {res : V} (F : List (Nat × Blk)) (hp : PCall P f ds res)
    (ho : o.op = .call { callee := .value x, args := args, argTypes := ats }) (hx : (mk tl hl m).ev x = some dx) (hvx : vw (hF F) dx = some (.fn (.func f) first cap)) (hE : evsE (mk tl hl m) args.toList = some E) (ha : vwL (hF F) (E.map (·.2)) = some vs) (hds : first ++ vs ++ cap = ds)
    (hFs : HasH (mk tl hl m) F) (hs : F = [] ∨ res.sc = true) (hlab : labOk lab i F [] = true) (hd : o.dst = some k) (hg : wantA ops (mk tl hl m) o.guard = some true) (h : ARun P r 𝔅 ops lab (i + 1) rest (mk ((k, .v res) :: tl) hl m) K) : ARun P r 𝔅 ops lab i (o :: rest) (mk tl hl m) K := by
  obtain ⟨h1, h2⟩ := evsE_spec hE
  subst hds
  have hz : args.toList.zip (E.map (·.2)) = E := by rw [← h1]; exact (List.zip_of_prod rfl rfl).symm
  have hstep := step_call (r := r) ho hvx ha (by rw [← h1]; simp) hp hs
  rw [hz] at hstep
  exact ar_of hstep (fun p hp => by
    rcases List.mem_cons.1 hp with rfl | hp
    · exact hx
    · exact h2 p hp) hFs.all hlab hd hg h

end
end Go.Vd
