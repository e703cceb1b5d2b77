/- Labelled text without jumps; bytes read as a text. -/
import Derived.Test.YtjbfplfopagpjaaA18
import Derived.Laws.BytesString
namespace Go.Vd
open Go.RowKit

section
variable {F : Fence} {n : Nat} {P : Program} {Q : Exit → Act → World → Prop} {a : Act} {w : World}

def noGoto (Q : Exit → Act → World → Prop) : Exit → Act → World → Prop
  | .goto _, _, _ => False
  | e, a, w => Q e a w

theorem stepR_scope {b : Frame} {k : List Item} {cs : List Frame} {c : Code} : step P (lone (b.atR a (.code (.scope c) :: k)) cs w) = .next (lone (b.atR a (.code c :: .inScope c :: k)) cs w) :=
  step_lone_go (by simp [stepG, stepG.exec, Frame.atR])
theorem stepR_inScope {b : Frame} {k : List Item} {cs : List Frame} {c : Code} : step P (lone (b.atR a (.inScope c :: k)) cs w) = .next (lone (b.atR a k) cs w) :=
  step_lone_go (by simp [stepG, stepG.exec, Frame.atR])

theorem wpIn_scope {c : Code} (h : c.wpIn F n P (noGoto Q) a w) : (Code.scope c).wpIn F n P Q a w := by
  intro b k cs hro hb hr
  have h0 : (lone (b.atR a (.code (.scope c) :: k)) cs w).fenced P F := fenced_calm hb hr rfl
  obtain ⟨e, a₁, w₁, hq, harr⟩ := h b (.inScope c :: k) cs hro hb hr
  cases e with
  | normal => exact ⟨.normal, a₁, w₁, hq, .head h0 stepR_scope (StepsIn.trans harr (.one (fenced_calm hb hr rfl) stepR_inScope))⟩
  | exit id =>
    have hx : exitTo id (.inScope c :: k) = exitTo id k := by simp [exitTo]
    exact ⟨.exit id, a₁, w₁, hq, fun k' hk => .head h0 stepR_scope (harr.1 k' (by rw [hx]; exact hk)),
      fun hr' hk => let ⟨k₁, h1, h2⟩ := harr.2 hr' (by rw [hx]; exact hk); ⟨k₁, h1, .head h0 stepR_scope h2⟩⟩
  | goto l => exact hq.elim
  | ret => exact ⟨_, a₁, w₁, hq, .of_steps (.one h0 stepR_scope) harr⟩
  | panic ch => exact ⟨_, a₁, w₁, hq, .of_steps (.one h0 stepR_scope) harr⟩
  | outgrown => exact ⟨_, a₁, w₁, hq, .of_steps (.one h0 stepR_scope) harr⟩
end

def NoGo (Q : Exit → St → Prop) : Exit → St → Prop
  | .goto _, _ => False
  | e, s => Q e s

section
variable {P : Program} {tab : Tab} {r : Option Nat} {N : Nat} {B : BB} {Q : Exit → St → Prop} {s : St}

theorem wp_scope {c : Code} (h : Wp P r N B c (NoGo Q) s) : Wp P r N B (.scope c) Q s := fun a w n hp =>
  wpIn_scope (wpIn_mono (h a w n hp) fun e a' w' ⟨s', h1, h2⟩ => by
    cases e with
    | goto l => exact h1.elim
    | _ => exact ⟨s', h1, h2⟩)
theorem nogo_r (h : Q .ret s) : NoGo Q .ret s := h
theorem nogo_n (h : Q .normal s) : NoGo Q .normal s := h
theorem nogo_x {j : Nat} (h : Q (.exit j) s) : NoGo Q (.exit j) s := h
end

/-- A fresh row, told as data. -/
theorem PRow.toCall {P : Program} {f : FuncId} {ds : List V} {e sz : Nat} {es : List (List V)} (h : PRow P f ds e sz es) : PCall P f ds (.sl es) :=
  ⟨h.1, fun w im us hp => Calls.mono (h.2 w im us hp) fun _ _ ⟨g, cap, h1, h2, h3, h4⟩ => ⟨_, h1, h2, h4.row_repV (fun b hb => .inr (h3 b (by simpa [Con.blk] using hb))) (fun b hb => hb.1) _ (fun g' n c hc => by cases hc; rfl)⟩⟩

/-! ### Bytes as text -/

def bytesOf (xs : List Int) : ByteArray := xs.foldl (fun r n => r.push (UInt8.ofNat n.toNat)) ByteArray.empty
theorem bytesOf_snoc (xs : List Int) (x : Int) : bytesOf (xs ++ [x]) = (bytesOf xs).push (UInt8.ofNat x.toNat) := by simp [bytesOf]
theorem bytesOf_size : ∀ (xs : List Int), (bytesOf xs).size = xs.length := by
  have h : ∀ (xs : List Int) (r : ByteArray), (xs.foldl (fun r n => r.push (UInt8.ofNat n.toNat)) r).size = r.size + xs.length := by
    intro xs
    induction xs with
    | nil => intro r; simp
    | cons x xs ih => intro r; simp only [List.foldl_cons, ih, ByteArray.size_push, List.length_cons]; omega
  intro xs
  have := h xs ByteArray.empty
  simpa [bytesOf] using this

section
variable {P : Program} {tab : Tab} {r : Option Nat} {𝔅 : BB} {ops : List Oper} {lab : Option Lab} {i : Nat} {o : Oper} {rest : List Oper} {tl : List (Nat × D)} {hl : List (Nat × Blk)} {m : MM} {K : St → Prop} {k : Nat} {s : St}

theorem runs_b2s (hT : tabOk P tab = true) {src dst e id : Nat} {ts td te : TI} {x : Operand} {xs : List Int} (ho : o.op = .convert src dst x) (hs : lk tab src = some ts) (hd : lk tab dst = some td) (he : ts.sliceElem = some e) (hle : lk tab e = some te)
    (hk : te.kind = .int .u8) (hk' : td.kind = .string) (hx : s.ev x = some (.own id)) (hb : s.h id = .row e 1 (xs.map fun n => [V.int .u8 n])) : Runs P o s (.v (.str (bytesOf xs))) [] :=
  runs_pure fun B ι c w S => by
    obtain ⟨g, cp, h1, h2⟩ := own_val S hb (S.ev hx)
    have h3 := slice_kind hT hs he
    have h4 := ti_kind (tab_get hT hle)
    rw [hk] at h4
    have h5 := ti_kind (tab_get hT hd)
    rw [hk'] at h5
    have h0 := S.blks id
    rw [hb] at h0
    refine ⟨.string (bytesOf xs), ?_, .v (.str _)⟩
    by_cases hne : xs = []
    · subst hne
      cases g with
      | none => simp only [execOp, ho, h2, rowVal, run_convert_bytes_string w src dst e none 0 0 h3 h4 h5, Sem.run_bind]; simp [Conv.bytesToString, bytesOf, Sem.run_pure]
      | some g =>
        have hl : (loadCells ⟨g, 0, none⟩ 0).run P w = .ok (([] : List Int).map (Value.int .u8)).toArray w := by
          have := run_loadCells (P := P) w ⟨g, 0, none⟩ 0 (fun _ => undef) (fun j hj => absurd hj (Nat.not_lt_zero j))
          simpa using this
        simp only [execOp, ho, h2, rowVal, List.map_nil, List.length_nil, run_convert_bytes_string w src dst e _ _ _ h3 h4 h5, Sem.run_bind, run_bytesToString w _ 0 cp [] hl, Result.andThen_ok, Sem.run_pure]
        rfl
    · obtain ⟨g', cap, arr, q1, q2, q3, q4, q5, q6⟩ := row_some h0 (by simpa using hne)
      rw [h1] at q1
      cases q1
      have hl : (loadCells ⟨g', 0, none⟩ xs.length).run P w = .ok (xs.map (Value.int .u8)).toArray w := by
        have := run_loadCells (P := P) w ⟨g', 0, none⟩ xs.length (fun j => .int .u8 (xs.getD j 0)) (fun j hj => by
          rw [Addr.add_lit, Nat.zero_add, cell_of_row w g' j arr e (0, 0) q2]
          have hlt : j < arr.size := by simp at q3; omega
          have := q6 j 0 [V.int .u8 (xs.getD j 0)] (.int .u8 (xs.getD j 0)) arr[j] (by simp [hj]) rfl (by simp [hlt])
          simp only [Array.getElem?_eq_getElem hlt, this.int_inv])
        rw [this]
        congr 2
        refine List.ext_getElem (by simp) fun j h1 h2 => ?_
        simp at h2
        simp [h2]
      simp only [execOp, ho, h2, rowVal, List.length_map, run_convert_bytes_string w src dst e _ _ _ h3 h4 h5, Sem.run_bind, run_bytesToString w _ _ _ xs hl, Result.andThen_ok, Sem.run_pure]
      rfl

theorem ar_b2s {src dst e id : Nat} {ts td te : TI} {x : Operand} {es : List (List V)} (xs : List Int) (hT : tabOk P tab = true) (ho : o.op = .convert src dst x) (hs : lk tab src = some ts) (hd' : lk tab dst = some td) (he : ts.sliceElem = some e) (hle : lk tab e = some te)
    (hk : te.kind = .int .u8) (hk' : td.kind = .string) (hx : (mk tl hl m).ev x = some (.own id)) (hb : (mk tl hl m).h id = .row e 1 es) (hes : es = xs.map fun n => [V.int .u8 n]) (hlab : labOk lab i [(id, .row e 1 es)] [] = true) (hd : o.dst = some k)
    (hg : wantA ops (mk tl hl m) o.guard = some true) (h : ARun P r 𝔅 ops lab (i + 1) rest (mk ((k, .v (.str (bytesOf xs))) :: tl) hl m) K) : ARun P r 𝔅 ops lab i (o :: rest) (mk tl hl m) K :=
  ar_of (E := [(x, .own id)]) (F := [(id, .row e 1 es)]) (d := .v (.str (bytesOf xs))) (e := []) (step_of (by simp [ho, Op.operands]) (by simp [ho]) fun s hE hF => by
    subst hes
    exact runs_b2s hT ho hs hd' he hle hk hk' (hE (x, .own id) (by simp)) (hF (id, .row e 1 (xs.map fun n => [V.int .u8 n])) (by simp))) (all1 hx) (all1 hb) hlab hd hg h
end
end Go.Vd
