/- Walks over data, merged (part 3): what the laws of this claim use. -/
import Derived.Lib.UnsafeStr
import Derived.MapKept
import Derived.Test.YtgnbphnbdaphpaaGreatDoorMb
set_option linter.unusedSimpArgs false
set_option linter.unusedVariables false
namespace Go.Vd
open Go.RowKit Go.MapKept
def MapI (S : Nat → Prop) (w : World) (mb K : Nat) : Prop := ∃ arr clk, w.heap[mb]? = some (.map arr clk) ∧ ∀ e ∈ arr.toList, IsKey (.int .i64) e.key ∧ ∃ k, k ≤ K ∧ SlIn S w e.val k
theorem MapI.mono {S : Nat → Prop} {w : World} {mb K K' : Nat} (h : MapI S w mb K) (hk : K ≤ K') : MapI S w mb K' := by
 obtain ⟨arr, clk, h1, h2⟩ := h
 exact ⟨arr, clk, h1, fun e he => ⟨(h2 e he).1, (h2 e he).2.imp fun k hk' => ⟨Nat.le_trans hk'.1 hk, hk'.2⟩⟩⟩
theorem MapI.grew {S S' : Nat → Prop} {w w' : World} {mb K : Nat} (h : MapI S w mb K) (g : Bf S S' w w') (hm : ¬ S mb) (hl : mb < w.heap.size) : MapI S' w' mb K := by
 obtain ⟨arr, clk, h1, h2⟩ := h
 exact ⟨arr, clk, (g.frame mb hl hm).trans h1, fun e he => ⟨(h2 e he).1, (h2 e he).2.imp fun k hk' => ⟨hk'.1, hk'.2.grew g⟩⟩⟩
theorem MapI.frame {S : Nat → Prop} {w w' : World} {mb K : Nat} (h : MapI S w mb K) (g : ∀ b, (b = mb ∨ S b) → w'.heap[b]? = w.heap[b]?) : MapI S w' mb K := by
 obtain ⟨arr, clk, h1, h2⟩ := h
 exact ⟨arr, clk, (g mb (.inl rfl)).trans h1, fun e he => ⟨(h2 e he).1, (h2 e he).2.imp fun k hk' => ⟨hk'.1, hk'.2.frame fun b hb => g b (.inr hb)⟩⟩⟩
section
variable {P : Program} {T : TypeId}
theorem tJ {S : Nat → Prop} {w : World} {mb K : Nat} (hu : P.underlying T = some (.map 3 30)) (h3 : P.underlying 3 = some (.int .i64)) (hz : (zeroValue 30).run P w = .ok (.slice none 0 0) w) (h : MapI S w mb K) (x : Int) :
 ∃ u k, (Instr.lookup T (.map (some mb)) (.int .i64 x) false).run P w = .ok u w ∧ k ≤ K ∧ SlIn S w u k := by
 obtain ⟨arr, clk, h1, h2⟩ := h
 have hk : IsKey (.int .i64) (.int .i64 x) := by simp [IsKey]
 rcases findNow_spec hk arr.toList 0 (fun e he => (h2 e he).1) with ⟨hf, _⟩ | ⟨j, e, hf, he, _⟩
 ·refine ⟨.slice none 0 0, 0, ?_, Nat.zero_le _, .inl ⟨rfl, rfl⟩⟩
  have hr := run_findKey (P := P) (w := w) h3 hf
  simp [Instr.lookup, run_underlying hu, Go.MapKept.run_getObj_map h1, run_checkKey h3 hk, hr, Result.andThen, hz]
 ·obtain ⟨_, k, hkK, hs⟩ := h2 e (List.mem_of_getElem? he)
  refine ⟨e.val, k, ?_, hkK, hs⟩
  have hr := run_findKey (P := P) (w := w) h3 hf
  simp [Instr.lookup, run_underlying hu, Go.MapKept.run_getObj_map h1, run_checkKey h3 hk, hr, Result.andThen]
theorem BL {S : Nat → Prop} {R : Int → Prop} {w : World} {mb K k : Nat} {u : Value} (hu : P.underlying T = some (.map 3 30)) (h3 : P.underlying 3 = some (.int .i64)) (h : MapI S w mb K) (hR : RowsOf S R w) (x : Int) (hv : SlIn S w u k) (hk : k ≤ K) :
 ∃ w', (Instr.mapUpdate T (.map (some mb)) (.int .i64 x) u).run P w = .ok () w' ∧ MapI S w' mb K ∧ (∀ r, r ≠ mb → w'.heap[r]? = w.heap[r]?) ∧ w'.heap.size = w.heap.size ∧ w'.os = w.os ∧ w'.tape = w.tape ∧ w'.output = w.output := by
 obtain ⟨arr, clk, h1, h2⟩ := h
 have hkey : IsKey (.int .i64) (.int .i64 x) := by simp [IsKey]
 have hSm : ¬ S mb := fun hs => by
  obtain ⟨_, uM, h3, _⟩ := hR mb hs
  rw [h1] at h3; cases h3
 have hfin : ∀ o : Obj, (∀ r, r ≠ mb → (w.heap.setIfInBounds mb o)[r]? = w.heap[r]?) ∧ (w.heap.setIfInBounds mb o)[mb]? = some o ∧ (w.heap.setIfInBounds mb o).size = w.heap.size := fun o => ⟨fun r hr => (heap_set h1).2 r hr, (heap_set h1).1, by simp⟩
 have hmk : ∀ (arr' : Array MapEntry) (clk' : Nat), (∀ e ∈ arr'.toList, IsKey (.int .i64) e.key ∧ (e.val = u ∨ ∃ e', e' ∈ arr.toList ∧ e.val = e'.val)) → MapI S { w with heap := w.heap.setIfInBounds mb (.map arr' clk') } mb K := fun arr' clk' hall => by
  obtain ⟨g1, g2, g3⟩ := hfin (.map arr' clk')
  refine ⟨arr', clk', g2, fun e he => ⟨(hall e he).1, ?_⟩⟩
  have fr : ∀ {v : Value} {k : Nat}, SlIn S w v k → SlIn S { w with heap := w.heap.setIfInBounds mb (.map arr' clk') } v k := fun hs => hs.frame fun b hb => g1 b fun e => hSm (e ▸ hb)
  rcases (hall e he).2 with h5 | ⟨e', h5, h6⟩
  ·rw [h5]; exact ⟨k, hk, fr hv⟩
  ·obtain ⟨_, k', h7, h8⟩ := h2 e' h5
   rw [h6]; exact ⟨k', h7, fr h8⟩
 rcases findNow_spec hkey arr.toList 0 (fun e he => (h2 e he).1) with ⟨hf, _⟩ | ⟨j, e, hf, he, hek⟩
 ·have hr := run_findKey (P := P) (w := w) h3 hf
  refine ⟨{ w with heap := w.heap.setIfInBounds mb (.map (arr.push { key := .int .i64 x, val := u, born := clk }) (clk + 1)) }, ?_, hmk _ _ fun e he => ?_, (hfin _).1, (hfin _).2.2, rfl, rfl, rfl⟩
  ·simp [Instr.mapUpdate, run_underlying hu, Go.MapKept.run_getObj_map h1, run_checkKey h3 hkey, hr, Result.andThen, Go.MapKept.run_setObj_map _ h1]
  ·simp only [Array.toList_push, List.mem_append, List.mem_singleton] at he
   rcases he with he | rfl
   ·exact ⟨(h2 e he).1, .inr ⟨e, he, rfl⟩⟩
   ·exact ⟨hkey, .inl rfl⟩
 ·have hr := run_findKey (P := P) (w := w) h3 hf
  have hget : arr[j]? = some e := by simpa using he
  have hks : (Instr.keyThatStays e.key (.int .i64 x)).run P w = .ok (.int .i64 x) w := by rw [hek]; simp [Instr.keyThatStays, Instr.sameBits]
  refine ⟨{ w with heap := w.heap.setIfInBounds mb (.map (arr.modify j fun e => { e with key := .int .i64 x, val := u }) clk) }, ?_, hmk _ _ fun e2 he2 => ?_, (hfin _).1, (hfin _).2.2, rfl, rfl, rfl⟩
  ·simp [Instr.mapUpdate, run_underlying hu, Go.MapKept.run_getObj_map h1, run_checkKey h3 hkey, hr, Result.andThen, Go.MapKept.run_setObj_map _ h1, hget, hks]
  ·obtain ⟨j2, hj2⟩ := List.getElem?_of_mem he2
   have hj3 : (arr.modify j fun e => { e with key := .int .i64 x, val := u })[j2]? = some e2 := by rw [← Array.getElem?_toList]; exact hj2
   rw [Array.getElem?_modify] at hj3
   split at hj3
   ·obtain ⟨e3, he3, rfl⟩ := Option.map_eq_some_iff.1 hj3
    exact ⟨hkey, .inl rfl⟩
   ·have he4 : e2 ∈ arr.toList := List.mem_of_getElem? (by simpa using hj3)
    exact ⟨(h2 e2 he4).1, .inr ⟨e2, he4, rfl⟩⟩
end
end Go.Vd
namespace Go.Vd
open Go.RowKit
theorem sj {P : Program} {f : FuncId} {ds : List D} {e sz : Nat} (h0 : 0 < sz) (hen : ∀ args w, (callFunc f args).run P w = .ok (.enter f args) w)
 (h : ∀ (w : World) (im : Nat → Prop) (ι : Nat → Con) (us : Array Value), PW (RepD w im ι) ds us.toList → us.size = ds.length → Calls P f us w fun en w' => (en = .returned (.slice none 0 0) ∧ w' = w) ∨ ∃ cap arr, en = .returned (.slice (some ⟨w.heap.size, 0, none⟩) 0 cap) ∧ w' = w.drew.alloc (.cells arr e) ∧ cap ≤ maxLen ∧ arr.size = cap * sz) :
 dh P f ds [] (.ret (.own 900) [(900, .row e sz [])]) := by
 refine ⟨hen, fun w im ι β us S hsz => ?_⟩
 have hpw : PW (RepD w (cx ⟨w, im, bI ι⟩ ι) ι) ds us.toList := by
  have hz : ∀ (l : List D) (i n : Nat) (d : D), l[n]? = some d → lk (kB i l) (i + n) = some d := by
   intro l
   induction l with
   | nil => intro i n d h; simp at h
   | cons x l ih =>
     intro i n d h
     simp only [kB, lk]
     cases n with
     | zero => simp at h; simp [h]
     | succ n =>
       have hb : Nat.beq (i + (n + 1)) i = false := by
        cases hbb : Nat.beq (i + (n + 1)) i with
        | false => rfl
        | true => have := Nat.eq_of_beq_eq_true hbb; omega
       rw [hb]
       have := ih (i + 1) n d (by simpa using h)
       rw [show i + (n + 1) = i + 1 + n by omega]; exact this
  refine ⟨by simpa using hsz, fun i d u hd hu => ?_⟩
  have := hz ds 0 i d hd
  obtain ⟨u', h1, h2⟩ := S.tmps i d (by rw [Nat.zero_add] at this; exact this)
  have : us[i]? = some u' := h1
  rw [Array.getElem?_toList] at hu
  rw [this] at hu; cases hu
  exact h2
 have hres : ∀ id, ι id = .res := fun id => S.blks id
 refine Calls.mono (h w _ ι us hpw hsz) ?_
 rintro en w' (⟨rfl, rfl⟩ | ⟨cap, arr, rfl, rfl, hcap, harr⟩)
 ·have S' := (S.fresh (w' := w') (id := 900) rfl (.row none 0 0) (.row e sz []) (fun b hb => by cases hb) rfl rfl rfl (Nat.le_refl _) (fun _ _ => rfl) (fun _ => ⟨h0, by simp, .inl ⟨rfl, rfl⟩⟩)).1
  refine ⟨.slice none 0 0, _, rfl, { S' with tmps := fun n d hn => ?t, blks := fun id => ?b }⟩
  case t =>
   have hn' : (bif Nat.beq n 0 then some (D.own 900) else none) = some d := hn
   cases hb : Nat.beq n 0 with
   | false => rw [hb] at hn'; cases hn'
   | true =>
     rw [hb] at hn'; cases hn'
     have := Nat.eq_of_beq_eq_true hb; subst this
     refine ⟨_, rfl, .own 900 _ (by rw [aE]; simp) fun g m c hh => ?_⟩
     rw [aE] at hh; cases hh; rfl
  case b =>
   have := S'.blks id
   by_cases h9 : id = 900
   ·subst h9; exact this
   ·have e1 : (mk [(0, D.own 900)] [(900, Blk.row e sz [])] ⟨0, 0, []⟩).h id = .res := by
     have hb : Nat.beq id 900 = false := by
      cases hbb : Nat.beq id 900 with
      | false => rfl
      | true => exact absurd (Nat.eq_of_beq_eq_true hbb) h9
     simp [mk, lk, hb]
    rw [show (mk [(0, D.own 900)] [(900, Blk.row e sz [])] ⟨0, 0, cK (cL []) β⟩).h id = .res from e1]
    rw [aN _ _ h9]; exact hres id
 ·have S' := (S.fresh (w' := w.drew.alloc (.cells arr e)) (id := 900) rfl (.row (some w.heap.size) 0 cap) (.row e sz []) (fun b hb => by cases hb; simp) rfl rfl rfl (by simp) (fun b hb => Below.heap_alloc w.drew _ b hb)
   (fun hk => ⟨h0, by simp, .inr ⟨w.heap.size, cap, arr, rfl, heap_alloc_new w.drew _, Nat.zero_le _, hcap, harr, fun i' j el v u he hv hu => by simp at he⟩⟩)).1
  refine ⟨_, _, rfl, { S' with tmps := fun n d hn => ?t, blks := fun id => ?b }⟩
  case t =>
   have hn' : (bif Nat.beq n 0 then some (D.own 900) else none) = some d := hn
   cases hb : Nat.beq n 0 with
   | false => rw [hb] at hn'; cases hn'
   | true =>
     rw [hb] at hn'; cases hn'
     have := Nat.eq_of_beq_eq_true hb; subst this
     refine ⟨_, rfl, .own 900 _ (by rw [aE]; simp) fun g m c hh => ?_⟩
     rw [aE] at hh; cases hh; rfl
  case b =>
   have := S'.blks id
   by_cases h9 : id = 900
   ·subst h9; exact this
   ·have e1 : (mk [(0, D.own 900)] [(900, Blk.row e sz [])] ⟨0, 0, []⟩).h id = .res := by
     have hb : Nat.beq id 900 = false := by
      cases hbb : Nat.beq id 900 with
      | false => rfl
      | true => exact absurd (Nat.eq_of_beq_eq_true hbb) h9
     simp [mk, lk, hb]
    rw [show (mk [(0, D.own 900)] [(900, Blk.row e sz [])] ⟨0, 0, cK (cL []) β⟩).h id = .res from e1]
    rw [aN _ _ h9]; exact hres id
end Go.Vd
namespace Go.Vd
open Go.RowKit
def pE (P : Program) (r : Option Nat) (𝔅 : BB) (ops : List Oper) (L : hY) (c : Nat) (K : St → Prop) : Nat → Array Bool → St → Prop
 | 0, listed, s => Region.ready .any ops.toArray listed = [] ∧ K s
 | fuel + 1, listed, s => (Region.ready .any ops.toArray listed = [] → K s) ∧
   ∀ i ∈ Region.ready .any ops.toArray listed, ∃ o, ops[i]? = some o ∧ ((∃ s', AStep P r ops (some L) i o s s' ∧ pE P r 𝔅 ops L c K fuel (listed.setIfInBounds i true) s') ∨ (i = c ∧ ∃ S', qq P r 𝔅 ops none o s S' ∧ ∀ s', S' s' → pE P r 𝔅 ops L c K fuel (listed.setIfInBounds i true) s'))
section
variable {P : Program} {r : Option Nat} {𝔅 : BB} {ops : List Oper}
theorem AStep.toNone {L : hY} {i : Nat} {o : Oper} {s s' : St} (h : AStep P r ops (some L) i o s s') : AStep P r ops none i o s s' := by
 rcases h with ⟨h1, E, F, d, e, h2, h3, h4, _, h5⟩ | h
 ·exact .inl ⟨h1, E, F, d, e, h2, h3, h4, rfl, h5⟩
 ·exact .inr h
theorem AAny.toE {L : hY} {c : Nat} {K : St → Prop} : ∀ (fuel : Nat) (listed : Array Bool) (s : St), AAny P r ops (some L) K fuel listed s → pE P r 𝔅 ops L c K fuel listed s
 | 0, _, _, h => h
 | fuel + 1, listed, s, h => ⟨h.1, fun i hi => by
   obtain ⟨o, s', h1, h2, h3⟩ := h.2 i hi
   exact ⟨o, h1, .inl ⟨s', h2, AAny.toE fuel _ _ h3⟩⟩⟩
theorem tT {L : hY} {c : Nat} {K : St → Prop} : ∀ (fuel t : Nat) (listed : Array Bool) (s : St), pE P r 𝔅 ops L c K fuel listed s → mm P r 𝔅 ops none (Region.linearise.go .any ops.toArray fuel t listed []) s K := by
 intro fuel
 induction fuel with
 | zero => intro t listed s h; simpa [Region.linearise.go, mm] using h.2
 | succ fuel ih =>
   intro t listed s h
   obtain ⟨h₀, h₁⟩ := h
   simp only [Region.linearise.go]
   change mm P r 𝔅 ops none (match (Region.ready .any ops.toArray listed)[t % (Region.ready .any ops.toArray listed).length]? with
    | some i => Region.linearise.go .any ops.toArray fuel (t / (Region.ready .any ops.toArray listed).length) (listed.setIfInBounds i true) [i]
    | none => [].reverse) s K
   cases hi : (Region.ready .any ops.toArray listed)[t % (Region.ready .any ops.toArray listed).length]? with
   | none =>
     have hnil : Region.ready .any ops.toArray listed = [] := by
      cases hr : Region.ready .any ops.toArray listed with
      | nil => rfl
      | cons x xs =>
        rw [hr] at hi
        have hlt : t % (x :: xs).length < (x :: xs).length := Nat.mod_lt _ (by simp)
        simp at hi
        simp at hlt
        omega
     simpa [mm] using h₀ hnil
   | some i =>
     simp only []
     rw [linearise_go_acc, List.reverse_singleton, List.singleton_append]
     obtain ⟨o, h1, ⟨s', h2, h3⟩ | ⟨_, S', h2, h3⟩⟩ := h₁ i (List.mem_of_getElem? hi)
     ·exact ⟨o, h1, .inl ⟨s', h2.toNone, ih _ _ s' h3⟩⟩
     ·exact ⟨o, h1, .inr ⟨S', h2, fun s' hs => ih _ _ s' (h3 s' hs)⟩⟩
theorem ki {listed : Array Bool} {i j : Nat} {oj : Oper} {W : Nat → Prop} (hW : ∀ j oj, ops[j]? = some oj → W j → ∃ e ∈ oj.after, Region.binds .any e = true ∧ (e.on = i ∨ W e.on)) (hWl : ∀ j, W j → listed.getD j true = false)
 (hi : listed.getD i true = false) (hoj : ops[j]? = some oj) (hw : W j) (hj : j ∈ Region.ready .any ops.toArray listed) : False := by
 obtain ⟨hjun, oj', hoj', hall⟩ := mem_ready.1 hj
 have : oj' = oj := by
  have h' : ops[j]? = some oj' := by simpa using hoj'
  rw [hoj] at h'; cases h'; rfl
 subst this
 have hno : ∀ q, listed.getD q true = false → ∀ e ∈ oj'.after, Region.binds .any e = true → e.on ≠ q := fun q h0 e he hb heq => by
  have h1 := hall e he hb
  rw [heq] at h1
  rcases Nat.lt_or_ge q listed.size with h' | h'
  ·simp [h'] at h0 h1; rw [h0] at h1; cases h1
  ·simp [Array.getElem?_eq_none h'] at h1
 obtain ⟨e, he, hb, h | h⟩ := hW j oj' hoj hw
 ·exact hno i hi e he hb h
 ·exact hno e.on (hWl _ h) e he hb rfl
theorem uq {K : St → Prop} {L : hY} {c i : Nat} {oi oc : Oper} (hi : ops[i]? = some oi) (hoc : ops[c]? = some oc) (W : Nat → Prop) (hWc : W c)
 (hW : ∀ j oj, ops[j]? = some oj → W j → ∃ e ∈ oj.after, Region.binds .any e = true ∧ (e.on = i ∨ W e.on)) :
 ∀ (fuel : Nat) (listed : Array Bool) (s s1 : St), (∀ j, W j → listed.getD j true = false) →
   (∀ j oj, ops[j]? = some oj → j ≠ i → listed.getD j true = false → ¬ W j → ja ops L i j oi oj = true) →
   i ∈ Region.ready .any ops.toArray listed → AStep P r ops (some L) i oi s s1 →
   pE P r 𝔅 ops L c K fuel (listed.setIfInBounds i true) s1 → pE P r 𝔅 ops L c K (fuel + 1) listed s := by
 intro fuel
 induction fuel with
 | zero =>
   intro listed s s1 _ _ hr hy H
   refine ⟨fun h => (by rw [h] at hr; cases hr), fun j hj => ?_⟩
   by_cases hji : j = i
   ·subst hji; exact ⟨oi, hi, .inl ⟨s1, hy, H⟩⟩
   ·have := ready_mono hj hji
    rw [H.1] at this
    cases this
 | succ fuel ih =>
   intro listed s s1 hWl hfree hr hy H
   refine ⟨fun h => (by rw [h] at hr; cases hr), fun j hj => ?_⟩
   by_cases hji : j = i
   ·subst hji; exact ⟨oi, hi, .inl ⟨s1, hy, H⟩⟩
   ·obtain ⟨oj, hoj, hstep⟩ := H.2 j (ready_mono hj hji)
    have hnW : ¬ W j := fun hw => ki hW hWl (mem_ready.1 hr).1 hoj hw hj
    rcases hstep with ⟨s2, hst, hrest⟩ | ⟨rfl, _⟩
    ·obtain ⟨hjun, _⟩ := mem_ready.1 hj
     obtain ⟨s', h3, h4⟩ := pA rfl (hfree j oj hoj hji hjun hnW) hy hst
     have hfree' : ∀ k ok, ops[k]? = some ok → k ≠ i → (listed.setIfInBounds j true).getD k true = false → ¬ W k → ja ops L i k oi ok = true := fun k ok hk hki hun hno => by
      refine hfree k ok hk hki ?_ hno
      by_cases hjk : j = k
      ·subst hjk; exact hjun
      ·rw [getD_set_ne true hjk] at hun; exact hun
     have hWl' : ∀ k, W k → (listed.setIfInBounds j true).getD k true = false := fun k hk => by
      have hjk : j ≠ k := fun e => hnW (e ▸ hk)
      rw [getD_set_ne true hjk]; exact hWl k hk
     refine ⟨oj, hoj, .inl ⟨s', h3, ih (listed.setIfInBounds j true) s' s2 hWl' hfree' (ready_mono hr (Ne.symm hji)) h4 ?_⟩⟩
     rw [Array.setIfInBounds_comm _ _ hji]
     exact hrest
    ·exact absurd hWc hnW
def AF (ops : List Oper) (L : hY) (c : Nat) : Nat → Nat → Array Bool → Bool
 | 0, _, _ => false
 | n + 1, k, listed => (Region.ready .any ops.toArray listed).contains k && (bif Nat.beq k c then ((List.range ops.length).all fun j => Nat.beq j c || listed.getD j true || gj ops listed c 6 j) && pV ops L n (k + 1) (listed.setIfInBounds k true) else sN ops L k listed && (!listed.getD c true && gj ops listed k 6 c) && AF ops L c n (k + 1) (listed.setIfInBounds k true))
theorem qt {K : St → Prop} {L : hY} {c : Nat} {oc : Oper} {l2 : List Oper} (hoc : ops[c]? = some oc) : ∀ (l1 : List Oper) (k : Nat) (listed : Array Bool) (s : St), (∀ j, (l1 ++ oc :: l2)[j]? = ops[k + j]?) → k + l1.length = c →
 AF ops L c (l1.length + 1 + l2.length) k listed = true → aG P r 𝔅 ops (some L) k l1 s (fun s1 => ∃ S', qq P r 𝔅 ops none oc s1 S' ∧ ∀ s2, S' s2 → aG P r 𝔅 ops (some L) (c + 1) l2 s2 K) → pE P r 𝔅 ops L c K (l1.length + 1 + l2.length) listed s
 | [], k, listed, s, hl, hk, hB, ⟨S', hN, hr2⟩ => by
   have hkc : k = c := by simpa using hk
   subst hkc
   have e1 : ([] : List Oper).length + 1 + l2.length = l2.length + 1 := by simp; omega
   rw [e1] at hB ⊢
   have hbb : Nat.beq k k = true := by simp
   simp only [AF, Bool.and_eq_true, hbb, cond_true] at hB
   obtain ⟨hr, hf, hB'⟩ := hB
   have hr : k ∈ Region.ready .any ops.toArray listed := by simpa using hr
   refine ⟨fun h => (by rw [h] at hr; cases hr), fun i hi => ?_⟩
   by_cases hik : i = k
   ·subst hik
    exact ⟨oc, hoc, .inr ⟨rfl, S', hN, fun s' hs => AAny.toE _ _ _ (o7 rfl l2 (i + 1) _ s' (fun j => by have := hl (j + 1); simpa [Nat.add_assoc, Nat.add_comm 1 j] using this) hB' (hr2 s' hs))⟩⟩
   ·exfalso
    obtain ⟨hun, oi, hoi, _⟩ := mem_ready.1 hi
    have hoi' : ops[i]? = some oi := by simpa using hoi
    simp only [List.all_eq_true, List.mem_range, Bool.or_eq_true] at hf
    rcases hf i (List.getElem?_eq_some_iff.1 hoi').1 with (h | h) | h
    ·exact hik (Nat.eq_of_beq_eq_true h)
    ·rw [hun] at h; cases h
    ·exact ki (i := k) (W := fun j => listed.getD j true = false ∧ ∃ n, gj ops listed k n j = true) (fun j oj hj ⟨_, n, hw⟩ => iu hj hw) (fun j hj => hj.1) (mem_ready.1 hr).1 hoi' ⟨hun, 6, h⟩ hi
 | o :: l1, k, listed, s, hl, hk, hB, .inr ⟨_, h1, _⟩ => by cases h1.1
 | o :: l1, k, listed, s, hl, hk, hB, .inl ⟨s1, h1, h2⟩ => by
   have h0 : ops[k]? = some o := by simpa using (hl 0).symm
   have hkc : Nat.beq k c = false := by
    cases hb : Nat.beq k c with
    | false => rfl
    | true => have := Nat.eq_of_beq_eq_true hb; simp at hk; omega
   have e1 : (o :: l1).length + 1 + l2.length = (l1.length + 1 + l2.length) + 1 := by simp; omega
   rw [e1] at hB ⊢
   simp only [AF, Bool.and_eq_true, hkc, cond_false, Bool.not_eq_true'] at hB
   obtain ⟨hr, ⟨hf, hcu, hcw⟩, hB'⟩ := hB
   refine uq h0 hoc (fun j => listed.getD j true = false ∧ ∃ n, gj ops listed k n j = true) ⟨hcu, 6, hcw⟩ (fun j oj hj ⟨_, n, hw⟩ => iu hj hw) _ listed s s1 (fun j hj => hj.1) (fun j oj hj hjk hun hno => ?_) (by simpa using hr) h1
    (qt hoc l1 (k + 1) _ s1 (fun j => by have := hl (j + 1); simpa [Nat.add_assoc, Nat.add_comm 1 j] using this) (by simp at hk; omega) hB' h2)
   simp only [sN, h0, List.all_eq_true, List.mem_range] at hf
   have := hf j (List.getElem?_eq_some_iff.1 hj).1
   simp only [hj, Bool.or_eq_true] at this
   rcases this with (h | h) | h | h
   ·exact absurd (Nat.eq_of_beq_eq_true h) hjk
   ·rw [hun] at h; cases h
   ·exact h
   ·exact absurd ⟨hun, 4, h⟩ hno
theorem mt {N id : Nat} {B : BB} {l : List Oper} {L : hY} {Q : Exit → St → Prop} {s : St} {oc : Oper} (c : Nat) (hd : kL N l = true) (hm : P.follows .mixedOrders = true) (hoc : l[c]? = some oc) (hB : AF l L c l.length 0 (Array.replicate l.length false) = true)
 (h : aG P r B l (some L) 0 (l.take c) s (fun s1 => ∃ S', qq P r B l none oc s1 S' ∧ ∀ s2, S' s2 → aG P r B l (some L) (c + 1) (l.drop (c + 1)) s2 (Q .normal))) : Wp P r N B (.region id l.toArray true) Q s := fun a w n ⟨hN, B0, ι, hB0, S⟩ =>
 wpIn_region_draw fun t => by
  simp only [Region.schedule, hm, Bool.true_or, if_true]
  have hlt := (List.getElem?_eq_some_iff.1 hoc).1
  have hlen : (l.take c).length = c := by rw [List.length_take]; omega
  have hsp : l.take c ++ (oc :: l.drop (c + 1)) = l := by
   have h2 : l.drop c = oc :: l.drop (c + 1) := by
    rw [List.drop_eq_getElem_cons hlt]
    congr 1
    exact (List.getElem?_eq_some_iff.1 hoc).2
   rw [← h2, List.take_append_drop]
  have hll : (l.take c).length + 1 + (l.drop (c + 1)).length = l.length := by rw [hlen, List.length_drop]; omega
  have h1 := qt (P := P) (r := r) (𝔅 := B) (K := Q .normal) (L := L) hoc (l.take c) 0 (Array.replicate l.length false) s (fun j => by rw [hsp]; simp) (by rw [hlen]; omega) (by rw [hll]; exact hB) h
  rw [hll] at h1
  have h2 := tT l.length t _ s h1
  have h3 := gp (N := N) (n := n) (Q := pz B N Q) hd _ s _ a { w with drawn := w.drawn + 1 } ⟨hN, B0, ι, hB0, S.drew⟩ (fun s' a' w' hk hp => ⟨s', hk, hp⟩) h2
  have e : l.length = l.toArray.size := by simp
  rw [Region.linearise]
  rw [e] at h3
  exact h3
end
section
variable {P : Program} {tab : kt} {r : Option Nat} {𝔅 : BB} {ops : List Oper} {lab : Option hY} {i : Nat} {o : Oper} {rest : List Oper} {tl : List (Nat × D)} {hl : List (Nat × Blk)} {m : MM} {K : St → Prop} {k : Nat}
variable {LL : hY} {c : Nat}
theorem mh {f : FuncId} {x : Operand} {args : Array Operand} {ats : Array TypeId} {dx : D} {E : List (Operand × D)} {first vs cap ds : List V} {R : V → Prop} (F : List (Nat × Blk)) (hp : PCallE P f ds R)
 (ho : o.op = .call { callee := .value x, args := args, argTypes := ats }) (hx : (mk tl hl m).ev x = some dx) (hvx : vw (hF F) dx = some (.fn (.func f) first cap)) (hE : iT (mk tl hl m) args.toList = some E) (ha : nW (hF F) (E.map (·.2)) = some vs) (hds : first ++ vs ++ cap = ds)
 (hFs : HasH (mk tl hl m) F) (hs : F = [] ∨ ∀ v, R v → v.sc = true) (hd : o.dst = some k) (hg : aQ ops (mk tl hl m) o.guard = some true) (h : ∀ v, R v → aG P r 𝔅 ops (some LL) c rest (mk ((k, .v v) :: tl) hl m) K) : ∃ S', qq P r 𝔅 ops none o (mk tl hl m) S' ∧ ∀ s2, S' s2 → aG P r 𝔅 ops (some LL) c rest s2 K := by
 refine ⟨fun s' => ∃ v, R v ∧ s' = mk ((k, .v v) :: tl) hl m, ⟨rfl, hg, fun N a w n Q ⟨hN, B, ι, hB, S⟩ hd' => ?_⟩, ?_⟩
 ·refine ⟨fun _ _ => trivial, ?_⟩
  rw [Oper.semAt_eq _ _ _ (by rw [ho]; simp)]
  obtain ⟨hE1, hE2⟩ := cM hE
  have hh := xh (s := mk tl hl m) (F := F) hFs.all
  have key : ∃ im' : Nat → Prop, (∀ b, cx B ι b → im' b) ∧ (∀ id b, hF F id ≠ .dead → (ι id).blk = some b → im' b) ∧ (F = [] → ∀ b, im' b → cx B ι b) := by
   by_cases hFn : F = []
   ·exact ⟨cx B ι, fun _ h => h, fun id b h => by rw [hFn] at h; exact absurd rfl h, fun _ _ h => h⟩
   ·exact ⟨fun _ => True, fun _ _ => trivial, fun _ _ _ _ => trivial, fun h => absurd h hFn⟩
  obtain ⟨im', hi, hown, him⟩ := key
  have hfn := ft S hh hi hown (S.ev hx) _ hvx
  generalize hu : a.eval x = u at hfn
  obtain ⟨h1, h2⟩ := iA ha
  have hargs : PW (RepV w im') vs (args.toList.map a.eval) := by
   rw [← hE1]
   refine ⟨by simp only [List.length_map] at h1 ⊢; omega, fun i v u' hv hu' => ?_⟩
   have hlt : i < E.length := by have := (List.getElem?_eq_some_iff.1 hv).1; simp only [List.length_map] at h1; omega
   obtain ⟨v', h3, h4⟩ := h2 i E[i].2 (by simp [hlt])
   rw [h3] at hv; cases hv
   simp only [List.getElem?_map, List.getElem?_eq_getElem hlt, Option.map_some, Option.some.injEq] at hu'
   subst hu'
   exact ft S hh hi hown (S.ev (hE2 E[i] (List.getElem_mem hlt))) v h4
  subst hds
  cases hfn with
  | fn _ _ _ us ws hs1 hs2 hv1 hv2 =>
    have hrun : (execOp a.eval o).run P w = .ok (.enter f (us ++ args.map a.eval ++ ws)) w := by
     simp [execOp, ho, resolve, hu, Deferred.ofValue, invoke, hp.1]
    rw [hrun]
    refine ⟨fun h => by simp [WF, Fence.wide] at h, CallsIn.mono (gn _ (hp.2 w im' _ S.globW ?_)) ?_⟩
    ·have p1 : PW (RepV w im') first us.toList := gh hs1 hv1
     have p2 : PW (RepV w im') cap ws.toList := gh hs2 hv2
     have p := (p1.append hargs).append p2
     simpa using p
    ·rintro e w' ⟨v, u', hR, rfl, hb, hr⟩
     obtain ⟨S', hk⟩ := S.grow hb.os hb.tape hb.output hb.size hb.block
     refine ⟨_, ⟨v, hR, rfl⟩, by rw [eh]; exact hN, B, ι, hB, ?_⟩
     have := Sim.putAny (s := mk tl hl m) S' (dst := o.dst) (by rw [hN]; exact hd') (d := .v v) (u := u') (.v ?_)
     ·rw [hd] at this ⊢; exact this
     rcases hs with hF0 | hsc
     ·refine hr.mono fun b hbb _ => ⟨?_, rfl⟩
      rcases hbb with h3 | h3
      ·exact him hF0 b h3
      ·exact ⟨.inr (.inl (Nat.le_trans S.size h3)), fun id hid => by have := (S.bnd id b hid).1; omega⟩
     ·exact hr.scal (hsc v hR)
 ·rintro s' ⟨v, hv, rfl⟩
  exact h v hv
end
end Go.Vd
namespace Go.Vd
open Go.RowKit
section
variable {P : Program} {tab : kt} {r : Option Nat} {𝔅 : BB} {ops : List Oper} {lab : Option hY} {i : Nat} {o : Oper} {rest : List Oper} {tl : List (Nat × D)} {hl : List (Nat × Blk)} {m : MM} {K : St → Prop} {k : Nat} {s : St}
theorem qX (hT : bg P tab = true) {T l e : Nat} {ti te : TI} {x i : Operand} {cs ds : List V} {k : IntKind} {n : Int} (ho : o.op = .index T x i)
 (hl : lk tab T = some ti) (he : ti.arr = some (l, e)) (hle : lk tab e = some te) (ha : te.isAgg = true) (hx : s.ev x = some (.v (.agg cs))) (hi : s.ev i = some (.v (.int k n)))
 (h0 : 0 ≤ n) (h1 : n < l) (hb : n.toNat * te.size + te.size ≤ cs.length) (hy : (cs.drop (n.toNat * te.size)).take te.size = ds) : cV P o s (.v (.agg ds)) [] :=
 bi fun B ι a w S => by
  have hi' : a.eval i = .int k n := (aA (S.ev hi)).int_inv
  obtain ⟨j, z, hj, hjs, _⟩ := dB (bT hT hle)
  have hx' := aA (S.ev hx)
  generalize hu : a.eval x = u at hx'
  cases hx' with
  | agg _ us hs hv =>
    refine ⟨.agg (us.extract (n.toNat * te.size) (n.toNat * te.size + te.size)), ?_, .v (.agg _ _ ?_ fun q v u hq hu => ?_)⟩
    ·simp [execOp, ho, Instr.index, run_underlying (mg hT hl he), hu, hi', asIntOf, h0, h1, part, la hT hle, ha, sizeOf, typeInfo, hj, hjs]
    ·subst hy
     simp [hs]; omega
    ·subst hy
     rw [List.getElem?_take] at hq
     split at hq
     ·rw [List.getElem?_drop] at hq
      refine hv _ _ _ hq ?_
      rw [Array.getElem?_extract] at hu
      split at hu
      ·exact hu
      ·cases hu
     ·cases hq
theorem gU {T l e : Nat} {ti te : TI} {x y : Operand} {cs ds : List V} {kk : IntKind} {n : Int} (hT : bg P tab = true) (ho : o.op = .index T x y) (hx0 : (mk tl hl m).ev x = some (.v (.agg cs))) (hx1 : (mk tl hl m).ev y = some (.v (.int kk n))) (hlt : lk tab T = some ti) (he : ti.arr = some (l, e)) (hle : lk tab e = some te) (ha : te.isAgg = true) (h0 : 0 ≤ n) (h1 : n < l) (hb : n.toNat * te.size + te.size ≤ cs.length) (hz : (cs.drop (n.toNat * te.size)).take te.size = ds) (hd : o.dst = some k) (hg : aQ ops (mk tl hl m) o.guard = some true) (h : aG P r 𝔅 ops lab (i + 1) rest (mk ((k, .v (.agg ds)) :: tl) hl m) K) : aG P r 𝔅 ops lab i (o :: rest) (mk tl hl m) K :=
 bO (E := [(x, .v (.agg cs)), (y, .v (.int kk n))]) (F := []) (d := .v (.agg ds)) (e := []) (aU (by simp [ho, Op.operands]) (by simp [ho]) fun s hE hF => qX hT ho hlt he hle ha (hE (x, .v (.agg cs)) (by simp)) (hE (y, .v (.int kk n)) (by simp)) h0 h1 hb hz) (eN hx0 hx1) dz aX hd hg h
end
end Go.Vd
namespace Go.Vd
open Go.RowKit
theorem rn {s : St} {t : Nat} (ht : s.t t = some .nils) : Le s { s with t := d8 s.t t (some (.v (.sl []))) } := by
 refine ⟨rfl, ?_⟩
 intro B ι a w S
 refine ⟨ι, { S with tmps := fun n d hn => ?_ }⟩
 by_cases hnt : n = t
 ·subst hnt
  simp only [aE] at hn
  cases hn
  obtain ⟨u, h1, h2⟩ := S.tmps n _ ht
  cases h2.nils_inv
  exact ⟨_, h1, .v (.sl0 _ _)⟩
 ·simp only [aN _ _ hnt] at hn
  exact S.tmps n d hn
end Go.Vd
namespace Go.Vd
open Go.RowKit Go.MapKept
section
variable {P : Program} {tab : kt} {r : Option Nat} {𝔅 : BB} {ops : List Oper} {lab : Option hY} {i : Nat} {o : Oper} {rest : List Oper} {tl : List (Nat × D)} {hl : List (Nat × Blk)} {m : MM} {K : St → Prop} {k : Nat} {s : St}
theorem yq (hT : bg P tab = true) {T e : Nat} {K' : Nat} {ti tk : TI} {x y : Operand} {es : List (List V)} {key : ByteArray} {v : V} {n : Nat} (ho : o.op = .lookup T x y true) (hl : lk tab T = some ti) (hti : ti.kind = .map K' e) (hlk : lk tab K' = some tk) (htk : tk.kind = .string)
 (hx : s.ev x = some (.v (.mp es))) (hy : s.ev y = some (.v (.str key))) (hall : ∀ el, el ∈ es → ∃ s, el[0]? = some (.str s)) (hn : es[n]? = some [.str key, v]) (hb : ∀ q el, es[q]? = some el → el[0]? = some (.str key) → q = n) : cV P o s (.v (.tup [v, .bool true])) [] :=
 bi fun B ι a w S => by
  have hy' : a.eval y = .string key := (aA (S.ev hy)).str_inv
  have hx' := aA (S.ev hx)
  generalize hu : a.eval x = u at hx'
  have hk1 := dl (bT hT hl)
  rw [hti] at hk1
  have hk2 := dl (bT hT hlk)
  rw [htk] at hk2
  cases hx' with
  | mp _ b clk arr hbi hw hsz h2 hk hv =>
    have hlt : n < arr.size := by rw [hsz]; exact (List.getElem?_eq_some_iff.1 hn).1
    have hkeys : ∀ e ∈ arr.toList, IsKey .string e.key := fun e he => by
     obtain ⟨q, hq, rfl⟩ := List.getElem_of_mem he
     have hqs : q < es.length := by rw [← hsz]; simpa using hq
     obtain ⟨s', hs'⟩ := hall es[q] (List.getElem_mem hqs)
     have := (hk q es[q] _ arr[q] (by simp [hqs]) hs' (by simp at hq; simp [hq])).str_inv
     simp only [Array.getElem_toList]
     rw [this]; trivial
    have hkey : IsKey .string (.string key) := trivial
    rcases findNow_spec hkey arr.toList 0 hkeys with ⟨_, hno⟩ | ⟨j, e', hf, he, hek⟩
    ·exfalso
     have h3 := (hk n _ _ arr[n] hn rfl (by simp [hlt])).str_inv
     exact hno arr[n] (by simp) h3
    ·have hjl : j < arr.size := by have := (List.getElem?_eq_some_iff.1 he).1; simpa using this
     have he' : arr[j]? = some e' := by simpa using he
     have hjs : j < es.length := by rw [← hsz]; exact hjl
     obtain ⟨s', hs'⟩ := hall es[j] (List.getElem_mem hjs)
     have h3 := (hk j es[j] _ e' (by simp [hjs]) hs' he').str_inv
     have hkk : s' = key := by rw [hek] at h3; cases h3; rfl
     subst hkk
     have hjn : j = n := hb j es[j] (by simp [hjs]) hs'
     subst hjn
     have hr := run_findKey (P := P) (w := w) hk2 hf
     refine ⟨.tuple #[e'.val, .bool true], ?_, .v (.tup _ _ rfl fun q v' u' hv' hu' => ?_)⟩
     ·simp [execOp, ho, hu, hy', Instr.lookup, run_underlying hk1, Go.MapKept.run_getObj_map hw, run_checkKey hk2 hkey, hr, Result.andThen]
     ·match q, hv', hu' with
      | 0, rfl, rfl =>
        exact hv j _ _ e' hn rfl he'
      | 1, rfl, rfl => exact .bool _
theorem so {T e : Nat} {K' : Nat} {ti tk : TI} {x y : Operand} {es : List (List V)} {key : ByteArray} {v : V} {n : Nat} (hT : bg P tab = true) (ho : o.op = .lookup T x y true) (hx : (mk tl hl m).ev x = some (.v (.mp es))) (hy : (mk tl hl m).ev y = some (.v (.str key))) (hl1 : lk tab T = some ti) (hti : ti.kind = .map K' e) (hlk : lk tab K' = some tk) (htk : tk.kind = .string)
 (hall : ∀ el, el ∈ es → ∃ s, el[0]? = some (.str s)) (hn : es[n]? = some [.str key, v]) (hb : ∀ q el, es[q]? = some el → el[0]? = some (.str key) → q = n) (hd : o.dst = some k) (hg : aQ ops (mk tl hl m) o.guard = some true)
 (h : aG P r 𝔅 ops lab (i + 1) rest (mk ((k, .v (.tup [v, .bool true])) :: tl) hl m) K) : aG P r 𝔅 ops lab i (o :: rest) (mk tl hl m) K :=
 bO (E := [(x, .v (.mp es)), (y, .v (.str key))]) (F := []) (d := .v (.tup [v, .bool true])) (e := []) (aU (by simp [ho, Op.operands]) (by simp [ho]) fun s hE hF => yq hT ho hl1 hti hlk htk (hE (x, .v (.mp es)) (by simp)) (hE (y, .v (.str key)) (by simp)) hall hn hb) (eN hx hy) dz aX hd hg h
end
end Go.Vd
namespace Go.Vd
open Go.RowKit
def uL (P : Program) (f : FuncId) (ds : List V) (e sz : Nat) (es : List (List V)) (R : V → Prop) : Prop :=
 (∀ args w, (callFunc f args).run P w = .ok (.enter f args) w) ∧
 ∀ (w : World) (im : Nat → Prop) (us : Array Value) (g : Option Nat) (cap : Nat), Glob w → PW (RepV w im) ds us.toList → RowRel w im e sz es (.row g es.length cap) →
   Calls P f (us.push (lP g es.length cap)) w fun en w' => ∃ v u, R v ∧ en = .returned u ∧ Below w.heap.size w w' ∧ RepV w' (fun b => im b ∨ w.heap.size ≤ b) v u
section
variable {P : Program} {tab : kt} {r : Option Nat} {𝔅 : BB} {ops : List Oper} {lab : Option hY} {i : Nat} {o : Oper} {rest : List Oper} {tl : List (Nat × D)} {hl : List (Nat × Blk)} {m : MM} {K : St → Prop} {k : Nat}
theorem iI {f : FuncId} {args : Array Operand} {ats : Array TypeId} {as' : List Operand} {z : Operand} {E : List (Operand × D)} {vs : List V} {e sz id : Nat} {es : List (List V)} {R : V → Prop} (hp : uL P f vs e sz es R)
 (ho : o.op = .call { callee := .value (.func f), args := args, argTypes := ats }) (hargs : args.toList = as' ++ [z]) (hE : iT (mk tl hl m) as' = some E) (ha : nW (hF []) (E.map (·.2)) = some vs) (hz : (mk tl hl m).ev z = some (.own id)) (hrow : (mk tl hl m).h id = .row e sz es)
 (hlab : lab = none) (hd : o.dst = some k) (hg : aQ ops (mk tl hl m) o.guard = some true) (h : ∀ v, R v → aG P r 𝔅 ops lab (i + 1) rest (mk ((k, .v v) :: tl) hl m) K) : aG P r 𝔅 ops lab i (o :: rest) (mk tl hl m) K := by
 refine .inr ⟨fun s' => ∃ v, R v ∧ s' = mk ((k, .v v) :: tl) hl m, ⟨hlab, hg, fun N a w n Q ⟨hN, B, ι, hB, S⟩ hd' => ?_⟩, ?_⟩
 ·refine ⟨fun _ _ => trivial, ?_⟩
  rw [Oper.semAt_eq _ _ _ (by rw [ho]; simp)]
  obtain ⟨hE1, hE2⟩ := cM hE
  have hh := xh (s := mk tl hl m) (F := []) (fun p hp => by cases hp)
  have hi : ∀ b, cx B ι b → cx B ι b := fun _ h => h
  have hown : ∀ id b, hF [] id ≠ .dead → (ι id).blk = some b → cx B ι b := fun id b h => absurd rfl h
  obtain ⟨h1, h2⟩ := iA ha
  have hpw : PW (RepV w (cx B ι)) vs (as'.map a.eval) := by
   rw [← hE1]
   refine ⟨by simp only [List.length_map] at h1 ⊢; omega, fun i v u' hv hu' => ?_⟩
   have hlt : i < E.length := by have := (List.getElem?_eq_some_iff.1 hv).1; simp only [List.length_map] at h1; omega
   obtain ⟨v', h3, h4⟩ := h2 i E[i].2 (by simp [hlt])
   rw [h3] at hv; cases hv
   simp only [List.getElem?_map, List.getElem?_eq_getElem hlt, Option.map_some, Option.some.injEq] at hu'
   subst hu'
   exact ft S hh hi hown (S.ev (hE2 E[i] (List.getElem_mem hlt))) v h4
  obtain ⟨g, cap, h5, h6⟩ := sa S hrow (S.ev hz)
  have hbr := S.blks id
  rw [hrow] at hbr
  have hrr : RowRel w (cx B ι) e sz es (.row g es.length cap) := by rw [← h5]; exact hbr
  have hargs2 : args.map a.eval = (as'.map a.eval).toArray.push (lP g es.length cap) := by
   apply Array.ext'
   simp only [Array.toList_map, hargs, List.map_append, List.map_cons, List.map_nil, h6, Array.toList_push]
  have hrun : (execOp a.eval o).run P w = .ok (.enter f (args.map a.eval)) w := by
   simp [execOp, ho, resolve, Act.eval, Deferred.ofValue, invoke, hp.1]
  rw [hrun, hargs2]
  refine ⟨fun h => by simp [WF, Fence.wide] at h, CallsIn.mono (gn _ (hp.2 w (cx B ι) _ g cap S.globW (by simpa using hpw) hrr)) ?_⟩
  rintro e w' ⟨v, u', hR, rfl, hb, hr⟩
  obtain ⟨S', hk⟩ := S.grow hb.os hb.tape hb.output hb.size hb.block
  refine ⟨_, ⟨v, hR, rfl⟩, by rw [eh]; exact hN, B, ι, hB, ?_⟩
  have := Sim.putAny (s := mk tl hl m) S' (dst := o.dst) (by rw [hN]; exact hd') (d := .v v) (u := u') (.v ?_)
  ·rw [hd] at this ⊢; exact this
  refine hr.mono fun b hbb _ => ⟨?_, rfl⟩
  rcases hbb with h3 | h3
  ·exact h3
  ·exact ⟨.inr (.inl (Nat.le_trans S.size h3)), fun id hid => by have := (S.bnd id b hid).1; omega⟩
 ·rintro s' ⟨v, hv, rfl⟩
  exact h v hv
end
end Go.Vd
namespace Go.Vd
open Go.RowKit
section
variable {P : Program} {tab : kt} {o : Oper} {s : St} {t t' e : Nat} {i : TypeInfo} {z : Value}
def lV (l : List UInt8) : List Value := l.map fun c => .int .u8 (c.toNat : Int)
theorem tS (l : List UInt8) : (lV l).length = l.length := by simp [lV]
theorem BO {w : World} {im : Nat → Prop} (l : List UInt8) : PW (RepV w im) (l.map bV).flatten (lV l) := by
 have h : (l.map bV).flatten = l.map fun c => V.int .u8 (c.toNat : Int) := by
  induction l with
  | nil => rfl
  | cons x r ih => simp [bV, ih]
 rw [h]
 refine ⟨by simp [lV], fun i v u hv hu => ?_⟩
 unfold lV at hu
 rw [List.getElem?_map] at hv hu
 obtain ⟨c, hc, rfl⟩ := Option.map_eq_some_iff.1 hv
 rw [hc] at hu
 cases hu
 exact .int _ _
theorem lj {size n : Nat} {l : List UInt8} (hn : n = l.length) : Builtin.firstCells size n (.string (bs l)) = pure (lV l).toArray := by
 subst hn
 simp only [Builtin.firstCells]
 congr 1
 apply Array.ext'
 simp [bs, lV, ByteArray.extract, ByteArray.copySlice, ByteArray.size]
theorem gW {w : World} {ty : TypeId} {ad : Option Addr} {n cap : Nat} (ht : P.underlying t = some (.slice e)) (ht' : P.underlying t' = some .string) (hi : P.info? e = some i)
 (hn : n ≤ cap) : (Builtin.append_ #[t, t'] ty #[.slice ad n cap, .string (bs [])]).run P w = .ok (.slice ad n cap) w := by
 have hf := lj (size := i.size) (n := 0) (l := []) rfl
 cases ad <;> simp [Builtin.append_, run_underlying ht, run_underlying ht', sizeOf, typeInfo, hi, Builtin.lenOf, cU, hf, storeCells, hn, lV]
theorem mX {w : World} {ty : TypeId} (ht : P.underlying t = some (.slice e)) (ht' : P.underlying t' = some .string) (hi : P.info? e = some i) (hz : i.zero = some z)
 (l : List UInt8) (n : Nat) (news : List Value) (hnw : news = lV l) (hl : n = l.length) (h1 : i.size = 1)
 (h0 : 0 < n) (h63 : (n : Int) ≤ 9223372036854775807) (h48 : n * i.bytes ≤ 281474976710656) :
 (Builtin.append_ #[t, t'] ty #[.slice none 0 0, .string (bs l)]).run P w =
  .ok (.slice (some ⟨w.heap.size, 0, none⟩) n (grownCap w n 0 e)) (w.drew.alloc (.cells (news.toArray ++ Builtin.zeroCells z.cells (grownCap w n 0 e - n)) e)) := by
 subst hnw
 have hn : n ≠ 0 := by omega
 have h63' : ¬ (9223372036854775807 < (n : Int)) := by omega
 have h48' : ¬ (281474976710656 < Builtin.nextslicecap n 0 * i.bytes) := by rw [nextslicecap_zero h0]; omega
 have hf := lj (size := i.size) (n := n) (l := l) hl
 simp [Builtin.append_, run_underlying ht, run_underlying ht', sizeOf, typeInfo, zeroValue, hi, hz, Builtin.lenOf, cU, ← hl, hn, h63', h48', Question.forced, run_firstCells_none, hf, newRow, grownCap]
theorem pR {w : World} {ty : TypeId} (ht : P.underlying t = some (.slice e)) (ht' : P.underlying t' = some .string) (hi : P.info? e = some i) (hz : i.zero = some z)
 (b : Addr) (sLen sCap : Nat) (olds : List Value) (hlo : olds.length = sLen * i.size) (holds : ∀ j v, olds[j]? = some v → w.cell? (b.add j) = some v)
 (l : List UInt8) (n : Nat) (news : List Value) (hnw : news = lV l) (hl : n = l.length) (h1 : i.size = 1)
 (hg : sCap < sLen + n) (h63 : ((sLen + n : Nat) : Int) ≤ 9223372036854775807) (hfit : Builtin.nextslicecap (sLen + n) sCap * i.bytes ≤ 281474976710656) :
 (Builtin.append_ #[t, t'] ty #[.slice (some b) sLen sCap, .string (bs l)]).run P w =
  .ok (.slice (some ⟨w.heap.size, 0, none⟩) (sLen + n) (grownCap w (sLen + n) sCap e))
   (w.drew.alloc (.cells ((olds ++ news).toArray ++ Builtin.zeroCells z.cells (grownCap w (sLen + n) sCap e - (sLen + n))) e)) := by
 subst hnw
 have hn : ¬ (sLen + n ≤ sCap) := by omega
 have h63' : ¬ (9223372036854775807 < ((sLen : Int) + (n : Int))) := by omega
 have h48' : ¬ (281474976710656 < Builtin.nextslicecap (sLen + n) sCap * i.bytes) := by omega
 have hf := lj (size := i.size) (n := n) (l := l) hl
 have hfo := run_firstCells_some (P := P) w.drew i.size sLen b sLen sCap olds hlo (by simpa using holds)
 simp [Builtin.append_, run_underlying ht, run_underlying ht', sizeOf, typeInfo, zeroValue, hi, hz, Builtin.lenOf, cU, ← hl, hn, h63', h48', Question.forced, hf, hfo, newRow, grownCap]
 congr 2
 apply Array.ext'
 simp [List.append_assoc]
theorem qg {w : World} {ty : TypeId} (ht : P.underlying t = some (.slice e)) (ht' : P.underlying t' = some .string) (hi : P.info? e = some i)
 (g sLen sCap : Nat) (cur : Array Value) (hg : w.heap[g]? = some (.cells cur e (0, 0)))
 (l : List UInt8) (m : Nat) (news : List Value) (hnw : news = lV l) (hl : m = l.length) (_ : i.size = 1) (h1 : ∀ u ∈ news, u.oneCell' = true)
 (hroom : sLen + m ≤ sCap) (hfit : sLen * i.size + news.length ≤ cur.size) :
 (Builtin.append_ #[t, t'] ty #[.slice (some ⟨g, 0, none⟩) sLen sCap, .string (bs l)]).run P w =
  .ok (.slice (some ⟨g, 0, none⟩) (sLen + m) sCap) (w.setRow g (cur.toList.take (sLen * i.size) ++ news ++ cur.toList.drop (sLen * i.size + news.length)).toArray) := by
 subst hnw
 have hf := lj (size := i.size) (n := m) (l := l) hl
 have hst := run_storeCells_at P g (sLen * i.size) e (lV l) 0 cur w hg (by simpa using hfit) h1
 simp only [Nat.add_zero] at hst
 simp [Builtin.append_, run_underlying ht, run_underlying ht', sizeOf, typeInfo, hi, Builtin.lenOf, cU, ← hl, hroom, hf, Addr.add_lit, hst]
theorem ma (hT : bg P tab = true) {ti ti' te : TI} {x y : Operand} {nid : Nat} {es1 : List (List V)} {l : List UInt8} {kills : List (Nat × Blk)} (ho : o.op = .call { callee := .builtin .append, args := #[x, y], argTypes := #[t, t'] })
 (hl : lk tab t = some ti) (he : ti.sliceElem = some e) (hl' : lk tab t' = some ti') (he' : ti'.kind = .string) (hle : lk tab e = some te) (hte : te.size = 1)
 (hx : (s.ev x = some .nils ∧ es1 = [] ∧ kills = []) ∨ ∃ id, s.ev x = some (.own id) ∧ s.h id = .row e 1 es1 ∧ kills = [(id, .dead)])
 {B : dt} {ι : Nat → Con} {a : Act} {w : World} (S : Sim B s ι a w) (hy : s.ev y = some (.v (.str (bs l)))) (hr : s.h nid = .res)
 (hb1 : es1.length + l.length ≤ maxLen) (hb2 : (es1.length + l.length) * te.bytes ≤ 140737488355328) :
 ∃ u w' ι', ((execOp a.eval o).run P w = .ok (.value u) w' ∨ ((execOp a.eval o).run P w = .ok .skip w' ∧ u = undef)) ∧ Sim B (s.eff (kills ++ [(nid, .row e 1 (es1 ++ l.map bV))])) ι' a w' ∧ RepD w' (cx B ι') ι' (.own nid) u ∧ ∀ k, k ≠ nid → (∀ p ∈ kills, p.1 ≠ k) → ι' k = ι k := by
 have hyv : a.eval y = .string (bs l) := (aA (S.ev hy)).str_inv
 generalize hes2 : l.map bV = es2
 have hl2 : es2.length = l.length := by rw [← hes2]; simp
 rw [← hl2] at hb1 hb2
 have hs2 : ∀ el ∈ es2, el.length = 1 := fun el h => by rw [← hes2] at h; exact jR l el h
 have hone : ∀ el ∈ es2, ∀ v ∈ el, v.one = true := fun el h v hv => by
  rw [← hes2] at h
  obtain ⟨c, _, rfl⟩ := List.mem_map.1 h
  have : v = .int .u8 (c.toNat : Int) := by simpa [bV] using hv
  subst this; rfl
 have hpwn : PW (RepV w (cx B ι)) es2.flatten (lV l) := by rw [← hes2]; exact BO l
 have h0l : es2 = [] → l = [] := fun h => by rw [← hes2] at h; exact List.map_eq_nil_iff.1 h
 have hsz : 0 < 1 := by decide
 obtain ⟨i, z, hi, his, hib, hz, hz1, hz2⟩ := dB (bT hT hle)
 have ht := ct hT hl he
 have ht' : P.underlying t' = some .string := by have h := dl (bT hT hl'); rw [he'] at h; exact h
 have hb1' : ((es1.length + es2.length : Nat) : Int) ≤ 9223372036854775807 := by simp only [maxLen] at hb1; omega
 have hres : ι nid = .res := by have := S.blks nid; rw [hr] at this; exact this
 have hres' : ∀ id', ι id' ≠ .res → ∀ c, d8 ι nid c id' = ι id' := fun id' h' c => by
  by_cases h : id' = nid
  ·subst h; exact absurd hres h'
  ·exact aN _ _ h
 have hzs : z.cells.size = 1 := by rw [hz2, hte]
 have hfone : ∀ v ∈ es2.flatten, v.one = true := fun v hv => by
  obtain ⟨el, h1, h2⟩ := List.mem_flatten.1 hv
  exact hone el h1 v h2
 rcases hx with ⟨hx, rfl, rfl⟩ | ⟨id, hx, hb, rfl⟩
 ·have hxv := (S.ev hx).nils_inv
  by_cases h0 : es2 = []
  ·subst h0
   have h1 : a.eval y = .string (bs []) := by rw [hyv, h0l rfl]
   have hrun := ce (P := P) (a := a) (w := w) (w' := w) (u := .slice none 0 0) ho (by rw [hxv, h1]; exact gW ht ht' hi (Nat.le_refl _))
   have S' := S.fresh (w' := w) hr (.row none 0 0) (.row e 1 []) (fun b hb => by cases hb) rfl rfl rfl (Nat.le_refl _) (fun _ _ => rfl) (fun _ => ⟨hsz, by simp, .inl ⟨rfl, rfl⟩⟩)
   refine ⟨_, _, _, .inl hrun, S'.1, .own nid _ (by rw [aE]; simp) (fun g m c h => ?_), fun k hk1 hk2 => ?_⟩
   ·rw [aE] at h; cases h; rfl
   ·first | exact aN _ _ hk1 | exact (aN _ _ hk1).trans (aN _ _ (Ne.symm (hk2 _ List.mem_cons_self)))
  ·obtain ⟨news, hnw, h1, h2, h4⟩ : ∃ news, news = lV l ∧ a.eval y = .string (bs l) ∧ news.length = es2.length * 1 ∧ PW (RepV w (cx B ι)) es2.flatten news := ⟨_, rfl, hyv, by rw [tS, hl2, Nat.mul_one], hpwn⟩
   have hpos : 0 < es2.length := List.length_pos_iff.2 h0
   simp only [List.length_nil, Nat.zero_add, List.nil_append] at *
   have hrun := ce (P := P) (a := a) (w := w) ho (by rw [hxv, h1]; exact mX ht ht' hi hz l es2.length news hnw hl2 (by rw [his, hte]) hpos (by omega) (by rw [hib]; omega))
   obtain ⟨k1, k2, k3, k4⟩ := fA (w := w) (e := e) (need := es2.length) (old := 0) (sz := 1) (z := z) (vs := news) (m0 := 0) h2 hzs hb1
   have S' := S.fresh (w' := w.drew.alloc (.cells (news.toArray ++ Builtin.zeroCells z.cells (grownCap w es2.length 0 e - es2.length)) e)) hr (.row (some w.heap.size) es2.length (grownCap w es2.length 0 e)) (.row e 1 es2)
    (fun b hb => by cases hb; simp) rfl rfl rfl (by simp) (fun b hb => Below.heap_alloc w.drew _ b hb)
    (fun hk => ⟨hsz, hs2, .inr ⟨w.heap.size, _, _, rfl, heap_alloc_new w.drew _, k1, k2, k3, fun i' j el v u he hv hu => ?_⟩⟩)
   ·refine ⟨_, _, _, .inl hrun, S'.1, .own nid _ (by rw [aE]; simp) (fun g m c h => ?_), fun k hk1 hk2 => ?_⟩
    ·rw [aE] at h; cases h; rfl
    ·first | exact aN _ _ hk1 | exact (aN _ _ hk1).trans (aN _ _ (Ne.symm (hk2 _ List.mem_cons_self)))
   ·have hlt : i' * 1 + j < es2.length * 1 := by
     have a1 := (List.getElem?_eq_some_iff.1 he).1
     have a2 := (List.getElem?_eq_some_iff.1 hv).1
     rw [hs2 el (List.mem_of_getElem? he)] at a2
     calc i' * 1 + j < i' * 1 + 1 := by omega
      _ = (i' + 1) * 1 := by rw [Nat.add_mul, Nat.one_mul]
      _ ≤ es2.length * 1 := Nat.mul_le_mul_right _ (by omega)
    exact ((dI hs2 h2).1 h4 i' j el v u he hv (k4 _ u hlt hu)).mono hk
 ·have h0 := S.blks id
  rw [hb] at h0
  have hs1 := h0.2.1
  have hxv := (S.ev hx).own_inv
  have hne : nid ≠ id := by intro e; subst e; rw [hb] at hr; cases hr
  have hs12 : ∀ el ∈ es1 ++ es2, el.length = 1 := fun el h => by
   rcases List.mem_append.1 h with h | h
   ·exact hs1 el h
   ·exact hs2 el h
  have hins : ∀ i' j (el : List V) v, (es1 ++ es2)[i']? = some el → el[j]? = some v → i' * 1 + j < (es1.length + es2.length) * 1 := fun i' j el v he hv => by
   have a1 := (List.getElem?_eq_some_iff.1 he).1
   have a2 := (List.getElem?_eq_some_iff.1 hv).1
   rw [hs12 el (List.mem_of_getElem? he)] at a2
   rw [List.length_append] at a1
   calc i' * 1 + j < i' * 1 + 1 := by omega
    _ = (i' + 1) * 1 := by rw [Nat.add_mul, Nat.one_mul]
    _ ≤ (es1.length + es2.length) * 1 := Nat.mul_le_mul_right _ (by omega)
  by_cases h20 : es2 = []
  ·subst h20
   have h1 : a.eval y = .string (bs []) := by rw [hyv, h0l rfl]
   obtain ⟨g, cap, hιg⟩ := jd S hb
   have hxe := hxv.2 g _ cap hιg
   have hrun := ce (P := P) (a := a) (w := w) (w' := w) (u := a.eval x) ho (by
    rw [h1, hxe]
    rcases h0.2.2 with ⟨q1, q2⟩ | ⟨g', cap', arr, q1, _, q3, _⟩
    ·subst q2
     rw [hιg] at q1; cases q1
     exact gW ht ht' hi (Nat.le_refl _)
    ·rw [hιg] at q1; cases q1
     exact gW ht ht' hi q3)
   have S' := S.moveRow (w' := w) hb hr (ι id) rfl (.row e 1 (es1 ++ [])) rfl rfl rfl rfl (fun _ _ _ => rfl) (fun hk => by
    have := h0.mono (w' := w) (im' := cx B (d8 (d8 ι id .dead) nid (ι id))) (ι' := d8 (d8 ι id .dead) nid (ι id)) hk (fun id' h' => by
     by_cases h : id' = nid
     ·subst h; exact absurd hres h'
     ·rw [aN _ _ h]
      by_cases h'' : id' = id
      ·subst h''; exact .inr (aE _ _ _)
      ·exact .inl (aN _ _ h'')) (fun _ _ => rfl)
    simpa using this)
   refine ⟨_, _, _, .inl hrun, S', .own nid _ (by rw [aE, hιg]; simp) (fun g' m' c' h => ?_), fun k hk1 hk2 => ?_⟩
   ·rw [aE] at h
    simpa using hxv.2 g' m' c' h
   ·first | exact aN _ _ hk1 | exact (aN _ _ hk1).trans (aN _ _ (Ne.symm (hk2 _ List.mem_cons_self)))
  ·obtain ⟨news, hnw, h1, h2, h4⟩ : ∃ news, news = lV l ∧ a.eval y = .string (bs l) ∧ news.length = es2.length * 1 ∧ PW (RepV w (cx B ι)) es2.flatten news := ⟨_, rfl, hyv, by rw [tS, hl2, Nat.mul_one], hpwn⟩
   have hpos : 0 < es2.length := List.length_pos_iff.2 h20
   have hnone := qQ h4 hfone
   rcases h0.2.2 with ⟨q1, q2⟩ | ⟨g, cap, arr, q1, q2, q3, q4, q5, q6⟩
   ·subst q2
    have hxe := hxv.2 none 0 0 q1
    simp only [List.length_nil, Nat.zero_add, List.nil_append] at *
    have hrun := ce (P := P) (a := a) (w := w) ho (by rw [hxe, h1]; exact mX ht ht' hi hz l es2.length news hnw hl2 (by rw [his, hte]) hpos (by omega) (by rw [hib]; omega))
    obtain ⟨k1, k2, k3, k4⟩ := fA (w := w) (e := e) (need := es2.length) (old := 0) (sz := 1) (z := z) (vs := news) (m0 := 0) h2 hzs hb1
    obtain ⟨S1, hk1⟩ := S.kill (id := id) (by rw [q1]; simp)
    have hr1 : ({ s with h := d8 s.h id .dead } : St).h nid = .res := by rw [← hr]; exact aN _ _ hne
    have S' := S1.fresh (w' := w.drew.alloc (.cells (news.toArray ++ Builtin.zeroCells z.cells (grownCap w es2.length 0 e - es2.length)) e)) hr1 (.row (some w.heap.size) es2.length (grownCap w es2.length 0 e)) (.row e 1 es2)
     (fun b hb => by cases hb; simp) rfl rfl rfl (by simp) (fun b hb => Below.heap_alloc w.drew _ b hb)
     (fun hk => ⟨hsz, hs2, .inr ⟨w.heap.size, _, _, rfl, heap_alloc_new w.drew _, k1, k2, k3, fun i' j el v u he hv hu => ?_⟩⟩)
    ·refine ⟨_, _, _, .inl hrun, S'.1, .own nid _ (by rw [aE]; simp) (fun g m c h => ?_), fun k hk1 hk2 => ?_⟩
     ·rw [aE] at h; cases h; rfl
     ·first | exact aN _ _ hk1 | exact (aN _ _ hk1).trans (aN _ _ (Ne.symm (hk2 _ List.mem_cons_self)))
    ·exact (((dI hs2 h2).1 h4 i' j el v u he hv (k4 _ u (hins i' j el v he hv) hu)).mono hk1).mono hk
   ·have hxe := hxv.2 _ _ _ q1
    have hle : es1.length * 1 ≤ arr.size := by rw [q5]; exact Nat.mul_le_mul_right _ q3
    by_cases hroom : es1.length + es2.length ≤ cap
    ·have hfit : es1.length * i.size + news.length ≤ arr.size := by
      rw [h2, his, hte, q5, ← Nat.add_mul]; exact Nat.mul_le_mul_right _ hroom
     have hrun := ce (P := P) (a := a) (w := w) ho (by
      rw [hxe, h1]; exact qg ht ht' hi g es1.length cap arr q2 l es2.length news hnw hl2 (by rw [his, hte]) hnone hroom hfit)
     rw [his, hte] at hrun hfit
     have S' := S.moveRow (w' := w.setRow g (arr.toList.take (es1.length * 1) ++ news ++ arr.toList.drop (es1.length * 1 + news.length)).toArray) hb hr (.row (some g) (es1.length + es2.length) cap) (by rw [q1]; rfl) (.row e 1 (es1 ++ es2)) rfl rfl rfl (by simp)
      (fun b _ hbne => setRow_other w g b _ (by intro e; subst e; exact hbne (by rw [q1]; rfl))) (fun hk => by
       refine ⟨hsz, hs12, .inr ⟨g, cap, _, by simp, setRow_heap w g arr _ e _ q2, by simpa using hroom, q4, ?_, ?_⟩⟩
       ·simp only [List.size_toArray, List.length_append, List.length_take, List.length_drop, Array.length_toList]; omega
       ·intro i' j el v u he hv hu
        have p1 : PW (RepV w (cx B ι)) es1.flatten (arr.toList.take (es1.length * 1)) := (dI hs1 (by simp; omega)).2 (fun i j el v u he hv hu => by
         rw [List.getElem?_take] at hu
         split at hu
         ·exact q6 i j el v u he hv (by simpa using hu)
         ·cases hu)
        have p := p1.append h4
        rw [← List.flatten_append] at p
        have hlen : (arr.toList.take (es1.length * 1) ++ news).length = (es1 ++ es2).length * 1 := by
         simp only [List.length_append, List.length_take, Array.length_toList, h2, Nat.add_mul]; omega
        refine ((dI hs12 hlen).1 p i' j el v u he hv ?_).mono hk
        have hlt := hins i' j el v he hv
        rw [List.getElem?_toArray, List.getElem?_append_left (by rw [hlen, List.length_append]; exact hlt)] at hu
        exact hu)
     refine ⟨_, _, _, .inl hrun, S', .own nid _ (by rw [aE]; simp) (fun g' m' c' h => ?_), fun k hk1 hk2 => ?_⟩
     ·rw [aE] at h; cases h; rfl
     ·first | exact aN _ _ hk1 | exact (aN _ _ hk1).trans (aN _ _ (Ne.symm (hk2 _ List.mem_cons_self)))
    ·have holds : ∀ j v, (arr.toList.take (es1.length * 1))[j]? = some v → w.cell? ((⟨g, 0, none⟩ : Addr).add j) = some v := fun j v hj => by
      rw [List.getElem?_take] at hj
      split at hj
      ·rw [Addr.add_lit, Nat.zero_add, cell_of_row w g j arr e (0, 0) q2]; simpa using hj
      ·cases hj
     have hrun := ce (P := P) (a := a) (w := w) ho (by
      rw [hxe, h1]; exact pR ht ht' hi hz ⟨g, 0, none⟩ es1.length cap (arr.toList.take (es1.length * 1)) (by rw [his, hte]; simp; omega) holds l es2.length news hnw hl2 (by rw [his, hte]) (by omega) hb1'
       (growslice_fits (by omega) (by rw [hib]; exact hb2)))
     have hlen : (arr.toList.take (es1.length * 1) ++ news).length = (es1.length + es2.length) * 1 := by
      simp only [List.length_append, List.length_take, Array.length_toList, h2, Nat.add_mul]; omega
     obtain ⟨k1, k2, k3, k4⟩ := fA (w := w) (e := e) (need := es1.length + es2.length) (old := cap) (sz := 1) (z := z) (vs := arr.toList.take (es1.length * 1) ++ news) (m0 := 0) hlen hzs hb1
     obtain ⟨S1, hk1⟩ := S.kill (id := id) (by rw [q1]; simp)
     have hr1 : ({ s with h := d8 s.h id .dead } : St).h nid = .res := by rw [← hr]; exact aN _ _ hne
     have S' := S1.fresh (w' := w.drew.alloc (.cells ((arr.toList.take (es1.length * 1) ++ news).toArray ++ Builtin.zeroCells z.cells (grownCap w (es1.length + es2.length) cap e - (es1.length + es2.length))) e)) hr1
      (.row (some w.heap.size) (es1.length + es2.length) (grownCap w (es1.length + es2.length) cap e)) (.row e 1 (es1 ++ es2))
      (fun b hb => by cases hb; simp) rfl rfl rfl (by simp) (fun b hb => Below.heap_alloc w.drew _ b hb)
      (fun hk => ⟨hsz, hs12, .inr ⟨w.heap.size, _, _, by simp, heap_alloc_new w.drew _, by simpa using k1, k2, k3, fun i' j el v u he hv hu => ?_⟩⟩)
     ·refine ⟨_, _, _, .inl hrun, S'.1, .own nid _ (by rw [aE]; simp) (fun g m c h => ?_), fun k hk1 hk2 => ?_⟩
      ·rw [aE] at h; cases h; rfl
      ·first | exact aN _ _ hk1 | exact (aN _ _ hk1).trans (aN _ _ (Ne.symm (hk2 _ List.mem_cons_self)))
     ·have p1 : PW (RepV w (cx B ι)) es1.flatten (arr.toList.take (es1.length * 1)) := (dI hs1 (by simp; omega)).2 (fun i j el v u he hv hu => by
       rw [List.getElem?_take] at hu
       split at hu
       ·exact q6 i j el v u he hv (by simpa using hu)
       ·cases hu)
      have p := p1.append h4
      rw [← List.flatten_append] at p
      exact (((dI hs12 (by rw [hlen, List.length_append])).1 p i' j el v u he hv (k4 _ u (hins i' j el v he hv) hu)).mono hk1).mono hk
end
end Go.Vd
namespace Go.Vd
open Go.RowKit
section
variable {P : Program} {tab : kt} {r : Option Nat} {𝔅 : BB} {ops : List Oper} {lab : Option hY} {i : Nat} {o : Oper} {rest : List Oper} {tl : List (Nat × D)} {hl : List (Nat × Blk)} {m : MM} {K : St → Prop} {k : Nat}
theorem AX {t e t' : Nat} {ti ti' te : TI} {x y : Operand} (nid : Nat) {l : List UInt8} (hT : bg P tab = true) (ho : o.op = .call { callee := .builtin .append, args := #[x, y], argTypes := #[t, t'] })
 (hl1 : lk tab t = some ti) (he : ti.sliceElem = some e) (hl2 : lk tab t' = some ti') (he' : ti'.kind = .string) (hle : lk tab e = some te) (hte : te.size = 1) (hbt : te.bytes = 1)
 (hx : (mk tl hl m).ev x = some .nils) (hy : (mk tl hl m).ev y = some (.v (.str (bs l)))) (hFs : HasH (mk tl hl m) [(nid, .res)]) (hb : l.length ≤ 140737488355328)
 (hlab : cB lab i [(nid, .res)] [(nid, .row e 1 (l.map bV))] = true)
 (hd : o.dst = some k) (hg : aQ ops (mk tl hl m) o.guard = some true) (h : aG P r 𝔅 ops lab (i + 1) rest (mk ((k, .own nid) :: tl) ((nid, .row e 1 (l.map bV)) :: hl) m) K) : aG P r 𝔅 ops lab i (o :: rest) (mk tl hl m) K :=
 bO (E := [(x, .nils), (y, .v (.str (bs l)))]) (F := [(nid, .res)]) (d := .own nid) (e := [(nid, .row e 1 (l.map bV))]) (aU (by simp [ho, Op.operands, Call.operands]) (by simp [ho]) fun s hE hF0 => fun B ι a w S => by
  obtain ⟨u, w', ι', h1, h2, h3, _⟩ := ma (es1 := []) (kills := []) hT ho hl1 he hl2 he' hle hte (.inl ⟨hE (x, .nils) (by simp), rfl, rfl⟩) S (hE (y, .v (.str (bs l))) (List.mem_cons_of_mem _ List.mem_cons_self)) (hF0 (nid, .res) List.mem_cons_self)
   (by simpa [maxLen] using Nat.le_trans hb (by decide)) (by rw [hbt]; simpa using hb)
  exact ⟨u, w', ι', h1, h2, h3⟩) (eN hx hy) hFs.all hlab hd hg h
theorem B6 {t e t' : Nat} {ti ti' te : TI} {x y : Operand} (nid : Nat) {id : Nat} {es1 es : List (List V)} {l : List UInt8} (hT : bg P tab = true) (ho : o.op = .call { callee := .builtin .append, args := #[x, y], argTypes := #[t, t'] })
 (hl1 : lk tab t = some ti) (he : ti.sliceElem = some e) (hl2 : lk tab t' = some ti') (he' : ti'.kind = .string) (hle : lk tab e = some te) (hte : te.size = 1) (hbt : te.bytes = 1)
 (hx : (mk tl hl m).ev x = some (.own id)) (hy : (mk tl hl m).ev y = some (.v (.str (bs l)))) (hFs : HasH (mk tl hl m) [(nid, .res), (id, .row e 1 es1)]) (hes : es1 ++ l.map bV = es) (hb : es1.length + l.length ≤ 140737488355328)
 (hlab : cB lab i [(nid, .res), (id, .row e 1 es1)] [(id, .dead), (nid, .row e 1 es)] = true)
 (hd : o.dst = some k) (hg : aQ ops (mk tl hl m) o.guard = some true) (h : aG P r 𝔅 ops lab (i + 1) rest (mk ((k, .own nid) :: tl) ((nid, .row e 1 es) :: (id, .dead) :: hl) m) K) : aG P r 𝔅 ops lab i (o :: rest) (mk tl hl m) K :=
 bO (E := [(x, .own id), (y, .v (.str (bs l)))]) (F := [(nid, .res), (id, .row e 1 es1)]) (d := .own nid) (e := [(id, .dead), (nid, .row e 1 es)]) (aU (by simp [ho, Op.operands, Call.operands]) (by simp [ho]) fun s hE hF0 => fun B ι a w S => by
  subst hes
  obtain ⟨u, w', ι', h1, h2, h3, _⟩ := ma (es1 := es1) (kills := [(id, .dead)]) hT ho hl1 he hl2 he' hle hte (.inr ⟨id, hE (x, .own id) List.mem_cons_self, hF0 (id, .row e 1 es1) (List.mem_cons_of_mem _ List.mem_cons_self), rfl⟩) S (hE (y, .v (.str (bs l))) (List.mem_cons_of_mem _ List.mem_cons_self)) (hF0 (nid, .res) List.mem_cons_self)
   (Nat.le_trans hb (by unfold maxLen; decide)) (by rw [hbt]; simpa using hb)
  exact ⟨u, w', ι', h1, h2, h3⟩) (eN hx hy) hFs.all hlab hd hg h
theorem nH {t e t' e' : Nat} {ti ti' te : TI} {x y : Operand} {es : List (List V)} {dy : D} (hT : bg P tab = true) (ho : o.op = .call { callee := .builtin .append, args := #[x, y], argTypes := #[t, t'] })
 (hl1 : lk tab t = some ti) (he : ti.sliceElem = some e) (hl2 : lk tab t' = some ti') (hle : lk tab e = some te)
 (hx : (mk tl hl m).ev x = some (.v (.sl es))) (hy : (mk tl hl m).ev y = some dy) (hdy : (ti'.sliceElem = some e' ∧ (dy = .nils ∨ dy = .v (.sl []))) ∨ (ti'.kind = .string ∧ dy = .v (.str (bs []))))
 (hd : o.dst = some k) (hg : aQ ops (mk tl hl m) o.guard = some true) (h : aG P r 𝔅 ops lab (i + 1) rest (mk ((k, .v (.sl es)) :: tl) hl m) K) : aG P r 𝔅 ops lab i (o :: rest) (mk tl hl m) K :=
 bO (E := [(x, .v (.sl es)), (y, dy)]) (F := []) (d := .v (.sl es)) (e := []) (aU (by simp [ho, Op.operands, Call.operands]) (by simp [ho]) fun s hE hF0 => bi fun B ι a w S => by
  obtain ⟨i0, z, hi, _⟩ := dB (bT hT hle)
  have ht := ct hT hl1 he
  have hxr := aA (S.ev (hE (x, .v (.sl es)) (by simp)))
  have hyr := S.ev (hE (y, dy) (by simp))
  obtain ⟨ad, c, hxe, hc⟩ : ∃ ad c, a.eval x = .slice ad es.length c ∧ es.length ≤ c := by
   generalize hu : a.eval x = u at hxr
   cases hxr with
   | sl0 ad c => exact ⟨ad, c, rfl, Nat.zero_le _⟩
   | sl _ b o sz c hb hl hcap => exact ⟨_, c, rfl, hcap⟩
  refine ⟨a.eval x, ce ho ?_, .v hxr⟩
  rw [hxe]
  rcases hdy with ⟨h1, h2 | h2⟩ | ⟨h1, h2⟩
  ·subst h2
   rw [hyr.nils_inv]
   exact fu ht (ct hT hl2 h1) hi hc
  ·subst h2
   obtain ⟨ad', c', h3⟩ := je (aA hyr)
   rw [h3]
   exact fu ht (ct hT hl2 h1) hi hc
  ·subst h2
   rw [(aA hyr).str_inv]
   have h4 := dl (bT hT hl2)
   rw [h1] at h4
   exact gW ht h4 hi hc) (eN hx hy) dz aX hd hg h
theorem rV {s : St} (hT : bg P tab = true) {T : Nat} {ti : TI} {id : Nat} (ho : o.op = .alloc T) (hl : lk tab T = some ti) (hr : s.h id = .res) :
 cV P o s (.ptr id 0) [(id, .tbox T (ti.zero.map Z.toD))] := by
 intro B ι a w S
 obtain ⟨i, z, hi, his, _, hz, hz1, hz2⟩ := dB (bT hT hl)
 have hrun : (execOp a.eval o).run P w = .ok (.value (.pointer (some ⟨w.heap.size, 0, none⟩))) (w.alloc (.cells z.cells T)) := by
  simp [execOp, ho, Instr.alloc, zeroValue, typeInfo, hi, hz, newVar, newRow]
 have S' := S.fresh (w' := w.alloc (.cells z.cells T)) hr (.box w.heap.size) (.tbox T (ti.zero.map Z.toD)) (fun b hb => by cases hb; simp) rfl rfl rfl (by simp) (fun b hb => Below.heap_alloc w _ b hb)
  (fun hk => ⟨w.heap.size, z.cells, rfl, heap_alloc_new w _, by rw [← hz1]; simp, fun k d u hd hu => ?_⟩)
 ·refine ⟨_, _, _, .inl hrun, S'.1, .ptr id 0 _ (by rw [aE]; simp) fun b hb => ?_⟩
  rw [aE] at hb; cases hb; rfl
 ·rw [← hz1, List.map_map, List.getElem?_map] at hd
  rw [← Array.getElem?_toList] at hu
  rw [hu] at hd
  simp only [Option.map_some, Option.some.injEq, Function.comp] at hd
  subst hd
  exact jM u
theorem oE {T : Nat} {ti : TI} {id : Nat} {cs : List D} (hT : bg P tab = true) (ho : o.op = .alloc T) (hf0 : (mk tl hl m).h id = .res) (hlt : lk tab T = some ti) (hc : ti.zero.map Z.toD = cs) (hlab : cB lab i [(id, .res)] [(id, .tbox T cs)] = true) (hd : o.dst = some k) (hg : aQ ops (mk tl hl m) o.guard = some true) (h : aG P r 𝔅 ops lab (i + 1) rest (mk ((k, .ptr id 0) :: tl) ((id, .tbox T cs) :: hl) m) K) : aG P r 𝔅 ops lab i (o :: rest) (mk tl hl m) K :=
 bO (E := []) (F := [(id, .res)]) (d := .ptr id 0) (e := [(id, .tbox T cs)]) (aU (by simp [ho, Op.operands]) (by simp [ho]) fun s hE hF => hc ▸ rV hT ho hlt (hF (id, .res) (by simp))) dz (et hf0) hlab hd hg h
end
theorem rA {B : dt} {s : St} {ι : Nat → Con} {us : Array Value} {w : World} (S : Sim B s ι ⟨us, []⟩ w) {r : D} {u : Value} {L : List (Nat × Blk)} {m : MM} (hm : s.m = m) (hh : ∀ id, s.h id = (lk L id).getD .res) (hr : RepD w (cx B ι) ι r u) :
 Sim B (mk [(0, r)] L m) ι ⟨#[u], []⟩ w := by
 refine ⟨S.os, S.tape, S.output, S.size, S.frame, S.inj, S.bnd, fun id => ?_, fun n d hn => ?_, by rw [← show s.m = m from hm]; exact S.marks, by rw [← show s.m = m from hm]; exact S.pins, (fun d hd => by cases hd), S.glob⟩
 ·have := S.blks id
  rw [hh id] at this; exact this
 ·have hn' : (bif Nat.beq n 0 then some r else none) = some d := hn
  cases hb : Nat.beq n 0 with
  | false => rw [hb] at hn'; cases hn'
  | true =>
    rw [hb] at hn'
    have := Nat.eq_of_beq_eq_true hb
    subst this
    cases hn'
    exact ⟨u, rfl, hr⟩
end Go.Vd
namespace Go.Vd
open Go.RowKit
theorem yu {w : World} {g k : Nat} {cur : Array Value} {ty : TypeId} {fr : Nat × Nat} (h : w.heap[g]? = some (.cells cur ty fr)) : ∃ fr', (w.freeze ⟨g, k, none⟩ 1).heap[g]? = some (.cells cur ty fr') := by
 unfold World.freeze
 rw [if_neg (by decide)]
 simp only [Array.getElem?_modify, h, if_pos, Option.map_some]
 simp only [Option.some.injEq]
 split
 ·exact ⟨_, rfl⟩
 ·exact ⟨_, rfl⟩
theorem sA {w : World} {g k n : Nat} {b : Nat} (h : b ≠ g) : (w.freeze ⟨g, k, none⟩ n).heap[b]? = w.heap[b]? := by
 unfold World.freeze
 split
 ·rfl
 ·simp only [Array.getElem?_modify]
  rw [if_neg (fun e => h e.symm)]
theorem xU {w : World} {a : Addr} {n : Nat} : (w.freeze a n).os = w.os ∧ (w.freeze a n).tape = w.tape ∧ (w.freeze a n).output = w.output ∧ (w.freeze a n).heap.size = w.heap.size := by
 unfold World.freeze
 split
 ·exact ⟨rfl, rfl, rfl, rfl⟩
 ·exact ⟨rfl, rfl, rfl, by simp⟩
theorem nq {P : Program} (w : World) (t e ty : TypeId) (g n c : Nat) (cur : Array Value) (fr : Nat × Nat) (ht : P.underlying t = some (.slice e)) (he : P.underlying e = some (.int .u8)) (hg : w.heap[g]? = some (.cells cur ty fr)) :
 (convert t t (.slice (some ⟨g, 0, none⟩) n c)).run P w = .ok (.slice (some ⟨g, 0, none⟩) n c) (w.freeze ⟨g, cur.size, none⟩ 1) := by
 have hsh : w.shape? g = some (ty, cur.size) := by simp [World.shape?, hg]
 simp [convert, run_underlying ht, run_underlying he, markStringish, hsh]
section
variable {P : Program} {tab : kt} {r : Option Nat} {𝔅 : BB} {ops : List Oper} {lab : Option hY} {i : Nat} {o : Oper} {rest : List Oper} {tl : List (Nat × D)} {hl : List (Nat × Blk)} {m : MM} {K : St → Prop} {k : Nat}
theorem qc {s : St} (hT : bg P tab = true) {t e e' : Nat} {ti te : TI} {x : Operand} {id : Nat} {es : List (List V)} (ho : o.op = .convert t t x) (hl : lk tab t = some ti) (he : ti.sliceElem = some e) (hle : lk tab e = some te) (hk : te.kind = .int .u8)
 (hx : s.ev x = some (.own id)) (hb : s.h id = .row e' 1 es) (hne : es ≠ []) : cV P o s (.v (.sl es)) [(id, .dead)] := by
 intro B ι a w S
 have h0 := S.blks id
 rw [hb] at h0
 obtain ⟨h1, h2, ⟨h3, h4⟩ | ⟨g, cap, arr, hι, hg, h5, h6, h7, h8⟩⟩ := h0
 ·exact absurd h4 hne
 ·have hxv : a.eval x = .slice (some ⟨g, 0, none⟩) es.length cap := (S.ev hx).own_inv.2 _ _ _ hι
  have h9 := dl (bT hT hle)
  rw [hk] at h9
  have hrun := nq (P := P) w t e e' g es.length cap arr (0, 0) (ct hT hl he) h9 hg
  have hbk : (ι id).blk = some g := by rw [hι]; rfl
  obtain ⟨fr', hg'⟩ := yu (k := arr.size) hg
  obtain ⟨f1, f2, f3, f4⟩ := xU (w := w) (a := ⟨g, arr.size, none⟩) (n := 1)
  have hcase : ∀ k b, (d8 ι id .dead k).blk = some b → k ≠ id ∧ (ι k).blk = some b := by
   intro k b h
   by_cases hk : k = id
   ·subst hk; rw [aE] at h; cases h
   ·rw [aN _ _ hk] at h; exact ⟨hk, h⟩
  obtain ⟨S', hkk⟩ := S.evolve (w.freeze ⟨g, arr.size, none⟩ 1) (d8 ι id .dead) (d8 s.h id .dead) (fun b => b = g) f1 f2 f3 (by omega) (fun b h => ⟨id, by rw [h]; exact hbk⟩) (fun b _ h => sA h)
   (fun k hk => by
    by_cases h : k = id
    ·subst h; exact .inr (aE _ _ _)
    ·exact .inl (aN _ _ h))
   (fun k b h _ => ⟨k, (hcase k b h).2⟩) (fun k k' b h h' => S.inj k k' b (hcase k b h).2 (hcase k' b h').2) (fun k b h => by rw [f4]; exact (S.bnd k b (hcase k b h).2).1)
   (fun k => by
    by_cases h : k = id
    ·subst h; exact .inr fun _ => by rw [aE, aE]; rfl
    ·exact .inl ⟨aN _ _ h, aN _ _ h, fun b hb hx => h (S.inj k id b hb (by rw [hx]; exact hbk))⟩)
  have him : cx B (d8 ι id .dead) g := ⟨by
   rcases (S.bnd id g hbk).2 with h | h
   ·exact .inr (.inl h)
   ·exact .inr (.inr h), fun k hk => (hcase k g hk).1 (S.inj k id g (hcase k g hk).2 hbk)⟩
  have hcell : ∀ j, (w.freeze ⟨g, arr.size, none⟩ 1).cell? ⟨g, j, none⟩ = arr[j]? := fun j => by simp [World.cell?, hg']
  refine ⟨.slice (some ⟨g, 0, none⟩) es.length cap, _, _, .inl ?_, S', .v (.sl es g 0 1 cap him (by rw [f4]; exact (S.bnd id g hbk).1) h5 h2 (fun i j hi hj => ?_) fun i j el v u he hv hu => ?_)⟩
  ·simp only [execOp, ho, hxv, Sem.run_bind, hrun]; rfl
  ·rw [hcell]
   have : j = 0 := by omega
   subst this
   have : 0 + i * 1 + 0 < arr.size := by rw [h7]; omega
   rw [Array.getElem?_eq_getElem this]; rfl
  ·rw [hcell] at hu
   exact (h8 i j el v u he hv (by rw [show i * 1 + j = 0 + i * 1 + j by omega]; exact hu)).mono hkk
theorem jm {t e e' : Nat} {ti te : TI} {x : Operand} {id : Nat} {es : List (List V)} {hl' : List (Nat × Blk)} (hT : bg P tab = true) (ho : o.op = .convert t t x) (hl : lk tab t = some ti) (he : ti.sliceElem = some e) (hle : lk tab e = some te) (hk : te.kind = .int .u8)
 (hx : (mk tl hl' m).ev x = some (.own id)) (hb : (mk tl hl' m).h id = .row e' 1 es) (hne : es ≠ []) (hlab : cB lab i [(id, .row e' 1 es)] [(id, .dead)] = true) (hd : o.dst = some k)
 (hg : aQ ops (mk tl hl' m) o.guard = some true) (h : aG P r 𝔅 ops lab (i + 1) rest (mk ((k, .v (.sl es)) :: tl) ((id, .dead) :: hl') m) K) : aG P r 𝔅 ops lab i (o :: rest) (mk tl hl' m) K :=
 bO (E := [(x, .own id)]) (F := [(id, .row e' 1 es)]) (d := .v (.sl es)) (e := [(id, .dead)]) (aU (by simp [ho, Op.operands]) (by simp [ho]) fun s hE hF =>
  qc hT ho hl he hle hk (hE (x, .own id) (by simp)) (hF (id, .row e' 1 es) (by simp)) hne) (et hx) (et hb) hlab hd hg h
end
end Go.Vd
