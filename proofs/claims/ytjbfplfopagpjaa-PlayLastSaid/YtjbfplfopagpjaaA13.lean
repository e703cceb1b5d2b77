/- More rules over written states: ways in and out of a function, renaming, cuts, what data does not tell, calls that tell a row of their own. -/
import Derived.Test.YtjbfplfopagpjaaA12
import Derived.Lib.SliceRun
namespace Go.Vd
open Go.RowKit

section
variable {P : Program} {tab : Tab} {r : Option Nat} {𝔅 : BB} {ops : List Oper} {lab : Option Lab} {i : Nat} {o : Oper} {rest : List Oper} {tl : List (Nat × D)} {hl : List (Nat × Blk)} {m : MM} {K : St → Prop} {k : Nat}

/-- A function with a body is entered. -/
theorem enter_of {f : FuncId} {fn : Func} {c : Code} (hf : P.funcs[f]? = some fn) (hb : fn.body = some c) (hn : (fn.name == "runtime.NumGoroutine") = false) :
    ∀ args w, (callFunc f args).run P w = .ok (.enter f args) w := fun args w => by
  have h1 : fn.name ≠ "runtime.NumGoroutine" := by simpa using hn
  simp [callFunc, hf, h1, hb]

theorem wp_start {N : Nat} {B : BB} {c : Code} {Q : Exit → St → Prop} {ds : List V} (tl : List (Nat × D)) (ht : HasT (start ds) tl) (hi : (tl.all fun p => p.2.inn []) = true) (h : Wp P r N B c Q (mk tl [] 0)) : Wp P r N B c Q (start ds) :=
  wp_to tl [] ht trivial rfl hi rfl rfl h

/-- A function's contract, from its body's walk. -/
theorem pc_of (hT : tabOk P tab = true) {f : FuncId} {fn : Func} {c : Code} {ds : List V} {res : V} {N : Nat} {rs : List ResultVar} (hf : P.funcs[f]? = some fn) (hb : fn.body = some c) (hn : (fn.name == "runtime.NumGoroutine") = false)
    (hN : fn.ntmps = N) (hrs : fn.results = rs.toArray) (tl : List (Nat × D)) (ht : HasT (start ds) tl) (hlen : Nat.ble ds.length N = true) (hi : (tl.all fun p => p.2.inn []) = true)
    (h : ∀ B, Wp P none N B c (FnPost tab rs res) (mk tl [] 0)) : PCall P f ds res :=
  pcall_of_wp hT hf hb (enter_of hf hb hn) hN hlen hrs fun _ _ => wp_start tl ht hi (h _)

theorem pr_of (hT : tabOk P tab = true) {f : FuncId} {fn : Func} {c : Code} {ds : List V} {N t e sz : Nat} {es : List (List V)} (hf : P.funcs[f]? = some fn) (hb : fn.body = some c) (hn : (fn.name == "runtime.NumGoroutine") = false)
    (hN : fn.ntmps = N) (hrs : fn.results = [ResultVar.tmp t].toArray) (tl : List (Nat × D)) (ht : HasT (start ds) tl) (hlen : Nat.ble ds.length N = true) (hi : (tl.all fun p => p.2.inn []) = true)
    (h : ∀ B, Wp P none N B c (fun ex s => RowPost t e sz es ex s ∧ Nat.ble s.m.d 1 = true) (mk tl [] 0)) : PRow P f ds e sz es :=
  prow_of_wp hT hf hb (enter_of hf hb hn) hN hlen hrs fun _ _ => wp_start tl ht hi (h _)

theorem ret_post {rs : List ResultVar} {s : St} {v v' : V} (h : retV tab s rs = some v') (hm : Nat.ble s.m.d 1 = true) (he : v' = v) : FnPost tab rs v .ret s := ⟨he ▸ h, hm⟩
theorem end_post {rs : List ResultVar} {s : St} {v v' : V} (h : retV tab s rs = some v') (hm : Nat.ble s.m.d 1 = true) (he : v' = v) : FnPost tab rs v .normal s := ⟨he ▸ h, hm⟩

theorem then_n {N : Nat} {B : BB} {c : Code} {Q : Exit → St → Prop} {s : St} (h : Wp P r N B c Q s) : Then (Wp P r N B c Q) Q .normal s := h
theorem then_r {K : St → Prop} {Q : Exit → St → Prop} {s : St} (h : Q .ret s) : Then K Q .ret s := h
theorem then_x {K : St → Prop} {Q : Exit → St → Prop} {s : St} {j : Nat} (h : Q (.exit j) s) : Then K Q (.exit j) s := h
theorem inblk_r {id : Nat} {K : St → Prop} {Q : Exit → St → Prop} {s : St} (h : Q .ret s) : InBlk id K Q .ret s := h
theorem inblk_e {id : Nat} {K : St → Prop} {Q : Exit → St → Prop} {s : St} (h : K s) : InBlk id K Q (.exit id) s := by simp [InBlk, h]
theorem inblk_x {id j : Nat} {K : St → Prop} {Q : Exit → St → Prop} {s : St} (hj : Nat.beq j id = false) (h : Q (.exit j) s) : InBlk id K Q (.exit j) s := by simp only [InBlk, hj, cond_false]; exact h
theorem loop_r {α : Type} {st : α → St} {inv : α → Prop} {μ : α → Nat} {x : α} {Q : Exit → St → Prop} {s : St} (h : Q .ret s) : LoopQ st inv μ x Q .ret s := h
theorem loop_x {α : Type} {st : α → St} {inv : α → Prop} {μ : α → Nat} {x : α} {Q : Exit → St → Prop} {s : St} {j : Nat} (h : Q (.exit j) s) : LoopQ st inv μ x Q (.exit j) s := h
theorem loop_n {α : Type} {st : α → St} {inv : α → Prop} {μ : α → Nat} {x : α} {Q : Exit → St → Prop} {s : St} (y : α) (h : inv y) (hm : μ y < μ x) (hle : Le s (st y)) : LoopQ st inv μ x Q .normal s := ⟨y, h, hm, hle⟩
theorem cut_n {α : Type} {st : α → St} {inv : α → Prop} {s : St} (y : α) (h : inv y) (hle : Le s (st y)) : (fun s' => ∃ a, inv a ∧ Le s' (st a)) s := ⟨y, h, hle⟩
theorem inblk_n {id : Nat} {K : St → Prop} {Q : Exit → St → Prop} {s : St} (h : K s) : InBlk id K Q .normal s := h

/-- A statement in two: what comes behind the first part is walked once. -/
theorem wp_cut {N : Nat} {B : BB} {x y : Code} {Q : Exit → St → Prop} {s : St} {α : Type} (st : α → St) (inv : α → Prop) (hx : Wp P r N B x (Then (fun s' => ∃ a, inv a ∧ Le s' (st a)) Q) s) (hy : ∀ a, inv a → Wp P r N B y Q (st a)) :
    Wp P r N B (.seq x y) Q s :=
  wp_seq (wp_mono hx fun e s' h => by
    cases e with
    | normal => obtain ⟨a, h1, h2⟩ := h; exact wp_le h2 (hy a h1)
    | _ => exact h)

/-! ### Renaming -/

def ren (ρ : List (Nat × Nat)) (id : Nat) : Nat := (lk ρ id).getD id

mutual
def D.ren (ρ : List (Nat × Nat)) : D → D
  | .own id => .own (Vd.ren ρ id)
  | .ptr id n => .ptr (Vd.ren ρ id) n
  | .eptr id n => .eptr (Vd.ren ρ id) n
  | .agg cs => .agg (renL ρ cs)
  | .fn f a b => .fn f (renL ρ a) (renL ρ b)
  | .tup ds => .tup (renL ρ ds)
  | .v x => .v x
  | .nils => .nils
  | .any => .any
def renL (ρ : List (Nat × Nat)) : List D → List D
  | [] => []
  | d :: r => d.ren ρ :: renL ρ r
end

theorem renL_get {ρ : List (Nat × Nat)} : ∀ {ds : List D} {i : Nat}, (renL ρ ds)[i]? = (ds[i]?).map (D.ren ρ)
  | [], _ => by simp [renL]
  | d :: r, i => by
    cases i with
    | zero => simp [renL]
    | succ i => simpa [renL] using renL_get (ds := r) (i := i)
theorem renL_len {ρ : List (Nat × Nat)} : ∀ {ds : List D}, (renL ρ ds).length = ds.length
  | [] => rfl
  | d :: r => by simp [renL, renL_len (ds := r)]

def Blk.ren (ρ : List (Nat × Nat)) : Blk → Blk
  | .box cs => .box (renL ρ cs)
  | b => b

theorem RepD.renIds {w : World} {im im' : Nat → Prop} {ι ι' : Nat → Con} {l : List Nat} {ρ : List (Nat × Nat)} (him : ∀ b, im b → im' b) (hι : ∀ id, l.contains id = true → ι' id = ι (ren ρ id)) {d' : D} {u : Value}
    (h : RepD w im ι d' u) : ∀ d : D, d.ren ρ = d' → d.inn l = true → RepD w im' ι' d u := by
  have lists : ∀ {cs ds : List D} {us : Array Value}, renL ρ ds = cs → us.size = cs.length → innL l ds = true →
      (∀ (i : Nat) v u, cs[i]? = some v → us[i]? = some u → ∀ d : D, d.ren ρ = v → d.inn l = true → RepD w im' ι' d u) →
      us.size = ds.length ∧ ∀ (i : Nat) v u, ds[i]? = some v → us[i]? = some u → RepD w im' ι' v u := by
    intro cs ds us he hs hin ih
    subst he
    rw [renL_len] at hs
    refine ⟨hs, fun i v u hv hu => ih i (v.ren ρ) u (by rw [renL_get, hv]; rfl) hu v rfl (innL_get hin hv)⟩
  induction h with
  | v hv =>
    intro d he _
    cases d with
    | v y => simp only [D.ren] at he; cases he; exact .v (hv.mono fun b hb _ => ⟨him b hb, rfl⟩)
    | _ => simp [D.ren] at he
  | nils =>
    intro d he _
    cases d with
    | nils => exact .nils
    | _ => simp [D.ren] at he
  | own id u h0 h1 =>
    intro d he hi
    cases d with
    | own id' =>
      simp only [D.ren] at he; cases he
      have := hι id' hi
      exact .own id' u (by rw [this]; exact h0) (fun g n c h => h1 g n c (by rw [← this]; exact h))
    | _ => simp [D.ren] at he
  | ptr id n u h0 h1 =>
    intro d he hi
    cases d with
    | ptr id' n' =>
      simp only [D.ren] at he; cases he
      have := hι id' hi
      exact .ptr id' n u (by rw [this]; exact h0) (fun b h => h1 b (by rw [← this]; exact h))
    | _ => simp [D.ren] at he
  | eptr id n u h0 h1 =>
    intro d he hi
    cases d with
    | eptr id' n' =>
      simp only [D.ren] at he; cases he
      have := hι id' hi
      exact .eptr id' n u (by rw [this]; exact h0) (fun g n c h => h1 g n c (by rw [← this]; exact h))
    | _ => simp [D.ren] at he
  | agg cs us hs hv ih =>
    intro d he hi
    cases d with
    | agg ds =>
      simp only [D.ren, D.agg.injEq] at he
      obtain ⟨h1, h2⟩ := lists he hs hi ih
      exact .agg _ _ h1 h2
    | _ => simp [D.ren] at he
  | fn f a b us ws hs hs' hv hv' ih ih' =>
    intro d he hi
    cases d with
    | fn f' a' b' =>
      simp only [D.ren, D.fn.injEq] at he
      obtain ⟨rfl, he1, he2⟩ := he
      simp only [D.inn, Bool.and_eq_true] at hi
      obtain ⟨h1, h2⟩ := lists he1 hs hi.1 ih
      obtain ⟨h3, h4⟩ := lists he2 hs' hi.2 ih'
      exact .fn _ _ _ _ _ h1 h3 h2 h4
    | _ => simp [D.ren] at he
  | tup cs us hs hv ih =>
    intro d he hi
    cases d with
    | tup ds =>
      simp only [D.ren, D.tup.injEq] at he
      obtain ⟨h1, h2⟩ := lists he hs hi ih
      exact .tup _ _ h1 h2
    | _ => simp [D.ren] at he
  | any u => 
    intro d he _
    cases d with
    | any => exact .any u
    | _ => simp [D.ren] at he

def HasTr (ρ : List (Nat × Nat)) (s : St) : List (Nat × D) → Prop
  | [] => True
  | p :: r => s.t p.1 = some (p.2.ren ρ) ∧ HasTr ρ s r
theorem HasTr.all {ρ : List (Nat × Nat)} {s : St} : ∀ {l : List (Nat × D)}, HasTr ρ s l → ∀ p ∈ l, s.t p.1 = some (p.2.ren ρ)
  | [], _ => by simp
  | q :: r, h => by
    intro p hp
    rcases List.mem_cons.1 hp with rfl | hp
    · exact h.1
    · exact HasTr.all h.2 p hp
def HasHr (ρ : List (Nat × Nat)) (s : St) : List (Nat × Blk) → Prop
  | [] => True
  | p :: r => s.h (ren ρ p.1) = p.2.ren ρ ∧ HasHr ρ s r
theorem HasHr.all {ρ : List (Nat × Nat)} {s : St} : ∀ {l : List (Nat × Blk)}, HasHr ρ s l → ∀ p ∈ l, s.h (ren ρ p.1) = p.2.ren ρ
  | [], _ => by simp
  | q :: r, h => by
    intro p hp
    rcases List.mem_cons.1 hp with rfl | hp
    · exact h.1
    · exact HasHr.all h.2 p hp

def injOn (ρ : List (Nat × Nat)) (l : List Nat) : Bool := l.all fun a => l.all fun b => Nat.beq a b || !Nat.beq (ren ρ a) (ren ρ b)

/-- Forgetting, and giving numbers anew. -/
theorem le_ren (ρ : List (Nat × Nat)) {s : St} {tl : List (Nat × D)} {hl : List (Nat × Blk)} {m : MM} (ht : HasTr ρ s tl) (hh : HasHr ρ s hl) (hm : s.m = m) (hj0 : injOn ρ (hl.map (·.1)) = true)
    (hi : (tl.all fun p => p.2.inn (hl.map (·.1))) = true) (hj : (hl.all fun p => p.2.inn (hl.map (·.1))) = true) (hp : (m.pins.all fun p => (hl.map (·.1)).contains p.1 && Nat.beq (ren ρ p.1) p.1) = true) : Le s (mk tl hl m) := by
  refine ⟨hm.symm, ?_⟩
  intro B ι a w S
  let ι' : Nat → Con := fun id => if (hl.map (·.1)).contains id then ι (ren ρ id) else .res
  have hι : ∀ id, (hl.map (·.1)).contains id = true → ι' id = ι (ren ρ id) := fun id h => if_pos h
  have hι0 : ∀ id, (hl.map (·.1)).contains id = false → ι' id = .res := fun id h => if_neg (by rw [h]; simp)
  have hblk : ∀ id b, (ι' id).blk = some b → (hl.map (·.1)).contains id = true ∧ (ι (ren ρ id)).blk = some b := by
    intro id b h
    cases hc : (hl.map (·.1)).contains id with
    | true => rw [hι id hc] at h; exact ⟨rfl, h⟩
    | false => rw [hι0 id hc] at h; cases h
  have him : ∀ b, imS B ι b → imS B ι' b := fun b hb => ⟨hb.1, fun id h => hb.2 _ (hblk id b h).2⟩
  have hinj : ∀ a b, (hl.map (·.1)).contains a = true → (hl.map (·.1)).contains b = true → ren ρ a = ren ρ b → a = b := by
    intro a b ha hb he
    have h1 := List.all_eq_true.1 hj0 a (by simpa using ha)
    have h2 := List.all_eq_true.1 h1 b (by simpa using hb)
    simp only [Bool.or_eq_true, Bool.not_eq_true'] at h2
    rcases h2 with h2 | h2
    · exact Nat.eq_of_beq_eq_true h2
    · rw [he] at h2; simp at h2
  refine ⟨ι', S.os, S.tape, S.output, S.size, S.frame, fun id id' b h h' => hinj _ _ (hblk id b h).1 (hblk id' b h').1 (S.inj _ _ b (hblk id b h).2 (hblk id' b h').2), fun id b h => S.bnd _ b (hblk id b h).2, ?_, ?_, by rw [← hm] at *; exact S.marks, fun p hp' => by
    have h1 := List.all_eq_true.1 hp p hp'
    simp only [Bool.and_eq_true] at h1
    rw [hι _ h1.1, Nat.eq_of_beq_eq_true h1.2]; exact S.pins p (by rw [hm]; exact hp'), S.defs⟩
  · intro id
    show BlkRel w (imS B ι') ι' ((lk hl id).getD .res) (ι' id)
    cases hk : lk hl id with
    | none => rw [hι0 id (lk_none hk)]; rfl
    | some b =>
      have hin := lk_some_in hk
      have hmem := lk_mem hk
      have hb : s.h (ren ρ id) = b.ren ρ := hh.all (id, b) hmem
      have hbi : b.inn (hl.map (·.1)) = true := List.all_eq_true.1 hj (id, b) hmem
      have h1 := S.blks (ren ρ id)
      rw [hb] at h1
      simp only [Option.getD_some, hι id hin]
      cases b with
      | res => exact h1
      | dead => exact h1
      | box cs =>
        obtain ⟨bb, arr, ty, h2, h3, h4, h5⟩ := h1
        rw [renL_len] at h4
        exact ⟨bb, arr, ty, h2, h3, h4, fun i d u hd hu => (h5 i (d.ren ρ) u (by rw [renL_get, hd]; rfl) hu).renIds him hι d rfl (innL_get hbi hd)⟩
      | row e sz es =>
        obtain ⟨h2, h3, h4⟩ := h1
        refine ⟨h2, h3, ?_⟩
        rcases h4 with h4 | ⟨g, cap, arr, h4, h5, h6, h7, h8, h9⟩
        · exact .inl h4
        · exact .inr ⟨g, cap, arr, h4, h5, h6, h7, h8, fun i j el v u a1 a2 a3 => (h9 i j el v u a1 a2 a3).mono fun b hb _ => ⟨him b hb, rfl⟩⟩
  · intro n d hn
    have hmem := lk_mem hn
    obtain ⟨u, h1, h2⟩ := S.tmps n _ (ht.all (n, d) hmem)
    exact ⟨u, h1, h2.renIds him hι d rfl (List.all_eq_true.1 hi (n, d) hmem)⟩

/-! ### Inside a region of one order -/

theorem ar_le {s' : St} {s : St} (hl : lab = none) (hle : Le s s') (hg : wantA ops s o.guard = some true) (hg' : wantA ops s' o.guard = some true) (h : ARun P r 𝔅 ops lab i (o :: rest) s' K) : ARun P r 𝔅 ops lab i (o :: rest) s K := by
  rcases h with ⟨s1, h1, h2⟩ | ⟨S', ⟨h0, h1, h2⟩, h3⟩
  · rcases h1 with ⟨_, E, F, d, e, hs, hE, hF, _, rfl⟩ | ⟨hw, _⟩
    · refine .inr ⟨fun x => x = (s'.eff e).put o.dst d, ⟨hl, hg, fun N a w n Q hp hd => ?_⟩, fun x hx => hx ▸ h2⟩
      obtain ⟨hN, B, ι, hB, S1⟩ := hle.post hp
      have hm : ∀ (s : St) (d : Option Nat) (x : D), (s.put d x).m = s.m := fun s d x => by cases d <;> rfl
      exact Oper.wpIn_mono (fun a w ⟨h1, ι', h2⟩ => ⟨_, rfl, h1, B, ι', by rw [hm]; exact hB, h2⟩) (hs.snd s' hE hF B N ι a w n Q S1 hN hd)
    · rw [hg'] at hw; cases hw
  · exact .inr ⟨S', ⟨hl, hg, fun N a w n Q hp hd => h2 N a w n Q (hle.post hp) hd⟩, h3⟩

/-- Is a slice nil? Data does not tell, where it is empty. -/
theorem ar_nileq {T e : Nat} {T' : TypeId} {ti : TI} {x : Operand} {es : List (List V)} (hT : tabOk P tab = true) (ho : o.op = .binOp .eql T x (.const (.slice none 0 0)) T') (hlt : lk tab T = some ti) (he : ti.sliceElem = some e)
    (hx : (mk tl hl m).ev x = some (.v (.sl es))) (hlab : lab = none) (hd : o.dst = some k) (hg : wantA ops (mk tl hl m) o.guard = some true)
    (ht : es = [] → ARun P r 𝔅 ops lab (i + 1) rest (mk ((k, .v (.bool true)) :: tl) hl m) K) (hf : ARun P r 𝔅 ops lab (i + 1) rest (mk ((k, .v (.bool false)) :: tl) hl m) K) : ARun P r 𝔅 ops lab i (o :: rest) (mk tl hl m) K := by
  refine .inr ⟨fun s' => ∃ b : Bool, (b = true → es = []) ∧ s' = mk ((k, .v (.bool b)) :: tl) hl m, ⟨hlab, hg, fun N a w n Q ⟨hN, B, ι, hB, S⟩ hd' => ?_⟩, ?_⟩
  · refine ⟨fun _ _ => trivial, ?_⟩
    rw [Oper.semAt_eq _ _ _ (by rw [ho]; simp)]
    have h1 := repD_v_inv (S.ev hx)
    obtain ⟨ad, c, hu⟩ := repV_sl_inv h1
    have hrun : (execOp a.eval o).run P w = .ok (.value (.bool ad.isNone)) w := by
      have hc : a.eval (.const (.slice none 0 0)) = .slice none 0 0 := rfl
      simp [execOp, ho, hu, hc, eqGuard_at_slice, Lib.run_eql_slice_nil w T e ad es.length c 0 0 (slice_kind hT hlt he)]
    rw [hrun]
    refine ⟨mk ((k, .v (.bool ad.isNone)) :: tl) hl m, ⟨ad.isNone, fun hn => ?_, rfl⟩, by rw [put_size]; exact hN, B, ι, hB, ?_⟩
    · rw [hu] at h1
      cases h1 with
      | sl0 => rfl
      | sl es b o sz c hb hl hcap hs hc hv => simp at hn
    · have := S.putAny (dst := some k) (by rw [hN]; exact fun j hj => hd' j (by rw [hd]; exact hj)) (d := .v (.bool ad.isNone)) (u := .bool ad.isNone) (.v (.bool _))
      rw [hd]
      exact this
  · rintro s' ⟨b, hb, rfl⟩
    cases b with
    | true => exact ht (hb rfl)
    | false => exact hf

/-- A constant that no data stands for. -/
theorem ar_any {x : Value} (ho : o.op = .assign (.const x)) (hd : o.dst = some k) (hg : wantA ops (mk tl hl m) o.guard = some true) (h : ARun P r 𝔅 ops lab (i + 1) rest (mk ((k, .any) :: tl) hl m) K) : ARun P r 𝔅 ops lab i (o :: rest) (mk tl hl m) K :=
  ar_of (E := []) (F := []) (d := .any) (e := []) (step_of (by simp) (by simp [ho]) fun s _ _ => runs_pure fun B ι a w S => ⟨x, by simp [execOp, ho, Act.eval], .any _⟩) all0 all0 labOk_nil hd hg h

/-- A call that tells a row of its own. -/
theorem ar_callrow {f : FuncId} {x : Operand} {args : Array Operand} {ats : Array TypeId} {dx : D} {E : List (Operand × D)} {first vs cap ds : List V} {e sz : Nat} {es : List (List V)} (nid : Nat) (hp : PRow P f ds e sz es)
    (ho : o.op = .call { callee := .value x, args := args, argTypes := ats }) (hx : (mk tl hl m).ev x = some dx) (hvx : vw (hF []) dx = some (.fn (.func f) first cap)) (hE : evsE (mk tl hl m) args.toList = some E) (ha : vwL (hF []) (E.map (·.2)) = some vs) (hds : first ++ vs ++ cap = ds)
    (hr : (mk tl hl m).h nid = .res) (hlab : labOk lab i [(nid, .res)] [(nid, .row e sz es)] = true) (hd : o.dst = some k) (hg : wantA ops (mk tl hl m) o.guard = some true)
    (h : ARun P r 𝔅 ops lab (i + 1) rest (mk ((k, .own nid) :: tl) ((nid, .row e sz es) :: hl) m) K) : ARun P r 𝔅 ops lab i (o :: rest) (mk tl hl m) K := by
  obtain ⟨h1, h2⟩ := evsE_spec hE
  subst hds
  have hz : args.toList.zip (E.map (·.2)) = E := by rw [← h1]; exact (List.zip_of_prod rfl rfl).symm
  have hstep := step_callrow (r := r) (nid := nid) ho hvx ha (by rw [← h1]; simp) hp
  rw [hz] at hstep
  exact ar_of hstep (fun p hp => by
    rcases List.mem_cons.1 hp with rfl | hp
    · exact hx
    · exact h2 p hp) (all1 hr) hlab hd hg h

theorem row_eq {s : St} {id e sz : Nat} {es es' : List (List V)} (h : s.h id = .row e sz es) (he : es = es') : s.h id = .row e sz es' := he ▸ h
theorem t_eq {s : St} {n : Nat} {d d' : D} (h : s.t n = some d) (he : d = d') : s.t n = some d' := he ▸ h
theorem int_eq {s : St} {n : Nat} {kk : IntKind} {x y : Int} (h : s.t n = some (.v (.int kk x))) (he : x = y) : s.t n = some (.v (.int kk y)) := he ▸ h
theorem bool_eq {s : St} {n : Nat} {x y : Bool} (h : s.t n = some (.v (.bool x))) (he : x = y) : s.t n = some (.v (.bool y)) := he ▸ h
theorem sl_eq {s : St} {n : Nat} {x y : List (List V)} (h : s.t n = some (.v (.sl x))) (he : x = y) : s.t n = some (.v (.sl y)) := he ▸ h

/-- Elements of a row that is made of data, one by one. -/
theorem map_get {α β : Type} [Inhabited α] {enc : α → β} {xs : List α} {n : Nat} (h : n < xs.length) : (xs.map enc)[n]? = some (enc (xs.getD n default)) := by
  simp [List.getD_eq_getElem?_getD, h]

end
end Go.Vd
