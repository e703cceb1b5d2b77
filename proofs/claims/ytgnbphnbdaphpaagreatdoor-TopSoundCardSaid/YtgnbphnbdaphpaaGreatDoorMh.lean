/- Walks over data, merged (part 8): what the laws of this claim use. -/
import Derived.Test.YtgnbphnbdaphpaaGreatDoorMg
set_option linter.unusedSimpArgs false
set_option linter.unusedVariables false
namespace Go.Vd
open Go.Proofs Go.RowKit
structure uP (c : gO) : Prop where
 g : c.g.length ≤ 1000000
 p0 : c.p0.length ≤ 1000000000000
 p1 : c.p1.length ≤ 1000000000000
 p2 : c.p2.length ≤ 1000000000000
 s0 : ∀ s, s ∈ c.p0 → s.c.length ≤ 9223372036854775807
 s1 : ∀ s, s ∈ c.p1 → s.c.length ≤ 9223372036854775807
 s2 : ∀ s, s ∈ c.p2 → s.c.length ≤ 9223372036854775807
def tU (V : Int) (c : gO) : Nat → Bool
 | 0 => i7 (1 * (V + 1)) c.p0
 | 1 => i7 (2 * (V + 1)) c.p1
 | _ => i7 (1 * (V + 1)) c.p2
structure pf (a : Aig) (c : gO) : Prop where
 gl : (c.g.length : Int) ≤ 20000
 r : da (gro a c.g)
 i0 : 0 ≤ c.inv
 i1 : c.inv ≤ 2 * ay (gro a c.g) + 1
 h : py (gro a c.g) c.inv = false
 p : ∀ j, j < 3 → tU (ay (gro a c.g)) c j = true
open Classical in
theorem Bj (a : Aig) (c : gO) (hz : uP c) (hag : a.g.length ≤ 1000000) (hs : ∀ x, x ∈ a.names → x.s.length ≤ 1000000000000) (hnl : a.names.length ≤ 1000000000000) : kw 129 [bq a, dU c] (fun v => ∃ t : Bool, v = .bool t ∧ (t = true ↔ pf a c)) := by
 refine dJ ac (f := 129) (fn := Tryz.f129) (N := 54) (rs := [.tmp 4]) (by kernel_rfl) rfl (by kernel_rfl) rfl rfl [(0, .v (bq a)), (1, .v (dU c))] ⟨rfl, rfl, aj⟩ rfl rfl ?_
 intro B
 refine ag<|bE 2 [] J J J ⟨J, aj⟩ J J J<|bE 3 [] J J J ⟨J, aj⟩ J J J<|af J<|ab<|ag<|a7 aK J<|a7 ea J ?_
 refine ap [] (vj a c (by have := hz.g; omega)) J J J J J J aj (.inl rfl) J J J ?_
 refine bl (id := 5) aK J<|aR aK [] J aj J<|ab<|ae<|ae<|aS (L := [([3], []), ([3], []), ([], []), ([], []), ([], []), ([5], []), ([], []), ([], []), ([], []), ([], []), ([3], []), ([3], []), ([], []), ([], []), ([], []), ([3], []), ([3], []), ([5], []), ([], []), ([], []), ([], []), ([], []), ([], []), ([], []), ([5], []), ([3], []), ([3], []), ([], []), ([], [])]) (by kernel_rfl) mixed (by kernel_rfl)<|ax ea J<|aC dg J<|aI ac J J dg J aB J J<|bW J J J J J (fun h14 => ?_) (fun h14 => ?_)
 ·refine aa J<|al J<|al J<|al J<|aV J<|aa J<|al J<|al J<|al J<|aV J<|aa J<|al J<|al J<|al J<|al J<|al J ?_
  refine al J<|al J<|aV J<|aa J<|al J<|al J<|al J<|al J<|aV J<|ab<|ai J<|ag<|af J<|ar ?_
  refine ak<|am<|au (aD J J ?_)
  refine ⟨_, rfl, ⟨fun h => (by cases h), fun hR => ?_⟩⟩; exfalso; have z1 := hR.gl; have z2 := hR.i0; have z3 := hR.i1; omega
 ·refine aa J<|a7 aK J<|ap [] (De (gro a c.g) hs hnl) J J J J J J aj (.inl J) J J J<|bf (fun h17 => ?_) (fun h17 => ?_)
  ·refine bL J<|aJ J<|aa J<|ax ea J<|aC bm J<|bj J (fun h23 => ?_) (fun h23 => ?_)
   ·refine aJ J<|aa J<|al J<|al J<|al J<|al J<|al J<|al J<|al J<|aV J<|aa J<|al J<|al J<|al J<|al J<|aV J ?_
    refine ab<|ai J<|ag<|af J<|ab<|am<|au (aD J J ?_)
    refine ⟨_, rfl, ⟨fun h => (by cases h), fun hR => ?_⟩⟩; exfalso; have z1 := hR.gl; have z2 := hR.i0; have z3 := hR.i1; omega
   ·refine aJ J<|aa J<|ax ea J<|aC bm J<|a7 aK J<|ap [] (kn (gro a c.g) (fj (of_decide_eq_true h17)).z) J J J J J J aj (.inl J) J J J ?_
    refine dA J J J J (by have e1 := (of_decide_eq_true h17).v; have e2 := (of_decide_eq_true h17).i0; have e3 : (ay (gro a c.g)) = a.i + (a.l.length : Nat) + ((a.g ++ c.g).length : Nat) := rfl; have e4 : 0 ≤ a.i := e2; omega) (by have e1 := (of_decide_eq_true h17).v; omega) J J ?_
    refine mA J J J J (by have e1 := (of_decide_eq_true h17).v; have e2 := (of_decide_eq_true h17).i0; have e3 : (ay (gro a c.g)) = a.i + (a.l.length : Nat) + ((a.g ++ c.g).length : Nat) := rfl; have e4 : 0 ≤ a.i := e2; omega) (by have e1 := (of_decide_eq_true h17).v; omega) J J ?_
    refine bW J J J J J (fun h32 => ?_) (fun h32 => ?_)
    ·refine aJ J<|aa J<|al J<|al J<|al J<|al J<|aV J<|ab<|ai J<|ag<|af J<|ab<|am ?_
     refine au (aD J J ?_)
     refine ⟨_, rfl, ⟨fun h => (by cases h), fun hR => ?_⟩⟩; exfalso; have z1 := hR.gl; have z2 := hR.i0; have z3 := hR.i1; omega
    ·refine aJ J<|aa J<|a7 aK J<|ax ea J<|aC bm J<|ap [] (AA (gro a c.g) (fj (of_decide_eq_true h17)) c.inv (by omega) (by omega)) J J J J J J aj (.inl J) J J J ?_
     refine bf (fun h38 => ?_) (fun h38 => ?_)
     ·refine aJ J<|ab<|ai J<|ag<|af J<|ab<|am<|au (aD J J ?_)
      refine ⟨_, rfl, ⟨fun h => (by cases h), fun hR => ?_⟩⟩; exfalso; have hx := hR.h; rw [hx] at h38; cases h38
     ·refine aJ J<|ab<|ah J<|ao<|ak<|ae<|ae ?_
      have hq1 : (c.g.length : Int) ≤ 20000 := by omega
      have hq2 : da (gro a c.g) := of_decide_eq_true h17
      have hq3 : 0 ≤ c.inv := by omega
      have hq4 : c.inv ≤ 2 * (ay (gro a c.g)) + 1 := by omega
      have hq5 : py (gro a c.g) c.inv = false := h38
      have hS := fj hq2
      have hvv := hq2.v
      have hv0 : 0 ≤ (ay (gro a c.g)) := by (have e3 : (ay (gro a c.g)) = a.i + (a.l.length : Nat) + ((a.g ++ c.g).length : Nat) := rfl; have e4 : 0 ≤ a.i := hq2.i0; omega)
      refine aF<|a7 aK J<|ap [] (Ag (gro a c.g) hS.z) J J J J J J aj (.inl J) J J J<|aa J<|ab<|aw<|aZ (α := Nat) (fun j => mk [(3, .ptr 3 0), (41, .v (.agg [.int .i64 (1 * ((ay (gro a c.g)) + 1)), .int .i64 (2 * ((ay (gro a c.g)) + 1)), .int .i64 (1 * ((ay (gro a c.g)) + 1))])), (42, .v (.int .i64 j))] [(3, .box [.v (iH c.g), .v (.int .i64 c.inv), .v (lu c.p0), .v (lu c.p1), .v (lu c.p2)])] 0) (fun j => j ≤ 3 ∧ ∀ q, q < j → tU (ay (gro a c.g)) c q = true) (fun j => 3 - j) 0 ⟨Nat.zero_le _, fun q h => absurd h (Nat.not_lt_zero q)⟩ (aL ⟨J, J, J, aj⟩ ⟨J, aj⟩ J J J J) ?_
      rintro j ⟨hj1, hj2⟩
      refine ag<|bj J (fun h43 => ?_) (fun h43 => ?_)
      ·refine ab<|ae<|ai J<|ao<|ak<|ae<|aw<|ae ?_
       by_cases hc0 : ¬ j = 0
       ·by_cases hc1 : ¬ j = 1
        ·have hi2 : j = 2 := by omega
         subst hi2
         refine aF<|aa J<|gM ac J J J mj J bm J J (by decide) (by decide) J J J ?_
         refine af J<|af J<|ab<|ag<|aa J<|aa J<|ax ea J<|cI ac J J J J mF J eX (by decide) (by decide) J J J J ?_
         refine aC eX J<|ap [] (vS (1 * ((ay (gro a c.g)) + 1)) c.p2 (by omega) (by omega) hz.p2 hz.s2) J J J J J J aj (.inl J) J J J ?_
         refine bf (fun h51 => ?_) (fun h51 => ?_)
         ·refine bL J<|ab<|ah J<|ao<|aH<|ak<|aF<|bh J (by omega) (by omega) J ?_
          refine aa J<|ar ?_
          have hok := h51
          exact aT (2 + 1) ⟨by omega, fun q hq => (Nat.lt_succ_iff_lt_or_eq.1 hq).elim (hj2 q) (fun e => e ▸ hok)⟩ (by show (3 - 3 : Nat) < 3 - 2; decide) (aL ⟨J, J, J, aj⟩ ⟨J, aj⟩ J J J J)
         ·refine bL J<|ab<|ai J<|ag<|af J<|ab<|am<|az (au (bR (az (au (aD J J ?_)))))
          refine ⟨_, rfl, ⟨fun h => (by cases h), fun hR => ?_⟩⟩; exfalso; have hx := hR.p 2 (by decide); simp only [tU] at hx; rw [hx] at h51; cases h51
        ·have hi1 : j = 1 := Classical.not_not.1 hc1
         subst hi1
         refine aF<|aa J<|gM ac J J J mj J bm J J (by decide) (by decide) J J J ?_
         refine af J<|af J<|ab<|ag<|aa J<|aa J<|ax ea J<|cI ac J J J J mF J eX (by decide) (by decide) J J J J ?_
         refine aC eX J<|ap [] (vS (2 * ((ay (gro a c.g)) + 1)) c.p1 (by omega) (by omega) hz.p1 hz.s1) J J J J J J aj (.inl J) J J J ?_
         refine bf (fun h51 => ?_) (fun h51 => ?_)
         ·refine bL J<|ab<|ah J<|ao<|aH<|ak<|aF<|bh J (by omega) (by omega) J ?_
          refine aa J<|ar ?_
          have hok := h51
          exact aT (1 + 1) ⟨by omega, fun q hq => (Nat.lt_succ_iff_lt_or_eq.1 hq).elim (hj2 q) (fun e => e ▸ hok)⟩ (by show (3 - 2 : Nat) < 3 - 1; decide) (aL ⟨J, J, J, aj⟩ ⟨J, aj⟩ J J J J)
         ·refine bL J<|ab<|ai J<|ag<|af J<|ab<|am<|az (au (bR (az (au (aD J J ?_)))))
          refine ⟨_, rfl, ⟨fun h => (by cases h), fun hR => ?_⟩⟩; exfalso; have hx := hR.p 1 (by decide); simp only [tU] at hx; rw [hx] at h51; cases h51
       ·have hi0 : j = 0 := Classical.not_not.1 hc0
        subst hi0
        refine aF<|aa J<|gM ac J J J mj J bm J J (by decide) (by decide) J J J ?_
        refine af J<|af J<|ab<|ag<|aa J<|aa J<|ax ea J<|cI ac J J J J mF J eX (by decide) (by decide) J J J J ?_
        refine aC eX J<|ap [] (vS (1 * ((ay (gro a c.g)) + 1)) c.p0 (by omega) (by omega) hz.p0 hz.s0) J J J J J J aj (.inl J) J J J ?_
        refine bf (fun h51 => ?_) (fun h51 => ?_)
        ·refine bL J<|ab<|ah J<|ao<|aH<|ak<|aF<|bh J (by omega) (by omega) J ?_
         refine aa J<|ar ?_
         have hok := h51
         exact aT (0 + 1) ⟨by omega, fun q hq => (Nat.lt_succ_iff_lt_or_eq.1 hq).elim (hj2 q) (fun e => e ▸ hok)⟩ (by show (3 - 1 : Nat) < 3 - 0; decide) (aL ⟨J, J, J, aj⟩ ⟨J, aj⟩ J J J J)
        ·refine bL J<|ab<|ai J<|ag<|af J<|ab<|am<|az (au (bR (az (au (aD J J ?_)))))
         refine ⟨_, rfl, ⟨fun h => (by cases h), fun hR => ?_⟩⟩; exfalso; have hx := hR.p 0 (by decide); simp only [tU] at hx; rw [hx] at h51; cases h51
      ·refine ab<|ae<|ah J<|aO<|ba (a8 (aP ?_))
       refine ak<|ag<|af J<|ab<|am ?_
       refine aD J J ?_
       refine ⟨_, rfl, ⟨fun _ => ⟨hq1, hq2, hq3, hq4, hq5, fun q hq => hj2 q (by omega)⟩, fun _ => rfl⟩⟩; done
  ·refine bL J<|aJ J<|aa J<|al J<|al J<|al J<|aV J<|aa J<|al J<|al J<|al J<|al J<|al J<|al J<|al J<|aV J ?_
   refine aa J<|al J<|al J<|al J<|al J<|aV J<|ab<|ai J<|ag<|af J<|ab<|am<|au (aD J J ?_)
   refine ⟨_, rfl, ⟨fun h => (by cases h), fun hR => ?_⟩⟩; exfalso; exact of_decide_eq_false h17 hR.r
open Classical in
theorem EH (a : Aig) (c : gO) (hz : uP c) (hag : a.g.length ≤ 1000000) (hs : ∀ x, x ∈ a.names → x.s.length ≤ 1000000000000) (hnl : a.names.length ≤ 1000000000000) : dn 129 [bq a, dU c] (.bool (decide (pf a c))) := (Bj a c hz hag hs hnl).toCall fun _ h => sF h
def fh (b : List UInt8) : Int × Int × Int := if (bK b 0 2147483647).2.2 ≠ 0 then (0, (bK b 0 2147483647).2.1, (bK b 0 2147483647).2.2)
 else if eL b (bK b 0 2147483647).2.1 [10] = true ∧ ¬ (bK b 0 2147483647).2.1 + 1 < b.length then ((bK b 0 2147483647).1, (bK b 0 2147483647).2.1 + 1, 0) else (0, (if eL b (bK b 0 2147483647).2.1 [10] then (bK b 0 2147483647).2.1 + 1 else (bK b 0 2147483647).2.1 : Nat), 2)
theorem F3 (b : List UInt8) (hb : b.length ≤ 1000000000000) : dn 48 [cH b] (.tup [.int .i64 (fh b).1, .int .i64 (fh b).2.1, .int .i64 (fh b).2.2]) := by
 refine bC ac (f := 48) (fn := Tryz.f48) (N := 37) (rs := [.tmp 2, .tmp 3, .tmp 4]) (by kernel_rfl) rfl (by kernel_rfl) rfl rfl [(0, .v (cH b))] ⟨rfl, aj⟩ rfl rfl ?_
 intro B
 have hq := gv (b := b) (p := 0) (most := 2147483647) (Nat.zero_le _)
 refine ag<|af J<|af J<|af J<|ab<|ag<|aa J<|ap [] (mv b 0 2147483647 (Nat.zero_le _) hb (by omega) (by omega)) J J J J J J aj (.inl J) J J J ?_
 refine aa J<|aW J<|aW J<|aW J<|af J<|af J<|af J<|ab<|ae<|ag<|aa J<|bt J J J J J (fun h17 => ?_) (fun h17 => ?_)
 ·refine ab<|ai J<|ag<|aa J<|aa J<|af J<|af J<|af J<|ab<|am<|au (an J J ?_)
  unfold fh
  simp_all
  try (first | omega | (rw [if_neg (by omega)]; exact ⟨rfl, rfl, rfl⟩) | (rw [if_pos (by omega)]; exact ⟨rfl, rfl, rfl⟩))
 ·refine ab<|ah J<|ao<|ak<|ag<|aa J<|aa J<|ap [] (o5 b [10] (bK b 0 2147483647).2.1 hq.2 hb (by decide)) J J J J J J aj (.inl J) J J J ?_
  refine aa J<|aW J<|aW J<|bf (fun h25 => ?_) (fun h25 => ?_)
  ·refine af J<|af J<|ab<|ae<|ag<|aa J<|bL J<|aa J<|aa J<|aa J<|aI ac J J bG J aB J J<|bj J (fun h32 => ?_) (fun h32 => ?_)
   ·refine aJ J<|ab<|ai J<|ag<|aa J<|af J<|af J<|af J<|ab<|am<|au (an J J ?_)
    unfold fh
    simp_all
    try (first | omega | (rw [if_neg (by omega)]; exact ⟨rfl, rfl, rfl⟩) | (rw [if_pos (by omega)]; exact ⟨rfl, rfl, rfl⟩))
   ·refine aJ J<|ab<|ah J<|ao<|ak<|ag<|aa J<|aa J<|af J<|af J<|af J<|ab<|am ?_
    refine an J J ?_
    unfold fh
    simp_all
    try (first | omega | (rw [if_neg (by omega)]; exact ⟨rfl, rfl, rfl⟩) | (rw [if_pos (by omega)]; exact ⟨rfl, rfl, rfl⟩))
  ·refine af J<|af J<|ab<|ae<|ag<|aa J<|bL J<|aa J<|al J<|al J<|al J<|al J<|aV J<|ar ?_
   refine ak<|ai J<|ag<|aa J<|af J<|af J<|af J<|ab<|am<|au (an J J ?_)
   unfold fh
   simp_all
   try (first | omega | (rw [if_neg (by omega)]; exact ⟨rfl, rfl, rfl⟩) | (rw [if_pos (by omega)]; exact ⟨rfl, rfl, rfl⟩))
end Go.Vd
namespace Go.Vd
open Go.Proofs Go.RowKit
def eA (g : Aig) (inv b : Int) : Nat → xy
 | 0 => oe g inv
 | 1 => ra g inv
 | _ => xj g inv b
def G7 (c : gO) : Nat → List ii
 | 0 => c.p0
 | 1 => c.p1
 | _ => c.p2
def FE (f : xy) : Prop := ∀ m, ¬ kC f.c [] m
def Ao (f : xy) : Prop := ∃ y, y ≠ 0 ∧ [y] ∈ f.c ∧ [-y] ∈ f.c
structure tE (a : Aig) (bad : Nat) (c : gO) (z : Int) : Prop where
 ok : z = 0 → pf a c ∧ bad < a.bad.length ∧ ∀ j, j < 3 → FE (eA (gro a c.g) c.inv (a.bad.getD bad default) j)
 sh : pf a c → bad < a.bad.length → (∀ j, j < 3 → iW (eA (gro a c.g) c.inv (a.bad.getD bad default) j).n (eA (gro a c.g) c.inv (a.bad.getD bad default) j).c = true) → (∀ j, j < 3 → G7 c j = [⟨false, []⟩] ∧ Ao (eA (gro a c.g) c.inv (a.bad.getD bad default) j)) → z = 0
theorem tB {f : xy} (h : iW f.n f.c = true) : 0 ≤ f.n ∧ f.n ≤ 100000 ∧ uf f.n.toNat f.c ∧ f.c.length ≤ 20000 := by
 unfold iW at h
 simp only [Bool.and_eq_true, decide_eq_true_eq, Bool.not_eq_true', List.any_eq_false] at h
 obtain ⟨⟨h1, h2, h3⟩, h4⟩ := h
 refine ⟨h1, h2, ⟨by omega, by omega, fun c hc => ?_⟩, h3⟩
 have h5 := h4 c hc
 unfold yj at h5
 simp only [Bool.or_eq_true, decide_eq_true_eq, List.any_eq_true, not_or, not_exists] at h5
 refine ⟨by omega, fun x hx => ?_⟩
 have h6 := h5.2 x
 unfold ph at h6
 simp only [not_and, Bool.or_eq_true, decide_eq_true_eq, not_or] at h6
 have := h6 hx
 omega
theorem xH {n : Int} {p : List ii} (h : i7 n p = true) : p.length ≤ 20000 ∧ ∀ s, s ∈ p → yP n.toNat s := by
 unfold i7 at h
 simp only [Bool.and_eq_true, decide_eq_true_eq, Bool.not_eq_true', List.any_eq_false] at h
 obtain ⟨⟨h1, h2, h3⟩, h4⟩ := h
 refine ⟨h3, fun s hs => ?_⟩
 have h5 := h4 s hs
 have h6 : iW n [s.c] = true := by simpa using h5
 have h7 := (tB (f := ⟨n, [s.c]⟩) h6).2.2.1.hc s.c (by simp)
 exact ⟨h7.1, h7.2⟩
theorem rk (f : xy) (p : List ii) (h : iW f.n f.c = true) (hp : i7 f.n p = true) : kw 55 [vC f, lu p] (fun v => ∃ k z : Int, v = .tup [.int .i64 k, .int .i64 z] ∧ yS f.c p z) := by
 obtain ⟨h1, h2, h3, h4⟩ := tB h
 obtain ⟨h5, h6⟩ := xH hp
 have := Fe f.n.toNat f.c p h3 (by omega) (by omega) h6
 rw [show ((f.n.toNat : Nat) : Int) = f.n by omega] at this
 exact this
theorem DN {g : Aig} (h : da g) {k : Nat} (hk : k < g.bad.length) : 0 ≤ g.bad.getD k default ∧ g.bad.getD k default ≤ 1000000 := by
 have h1 := (h.r 1 (by decide)).2
 simp only [List.getD_cons_succ, List.getD_cons_zero, List.any_eq_false] at h1
 have h2 := h1 (g.bad.getD k default) (cP hk)
 have h3 := h.v
 unfold lx at h2
 generalize g.bad.getD k default = z at h2 ⊢
 simp at h2
 omega
def Sml (xs : List (List Int)) : Prop := ∀ c, c ∈ xs → c.length ≤ 3
theorem Sml.app {xs ys : List (List Int)} (h : Sml xs) (k : Sml ys) : Sml (xs ++ ys) := fun c hc => (List.mem_append.1 hc).elim (h c) (k c)
theorem gu : Sml [] := fun c hc => by simp at hc
theorem gk {x : List Int} {xs : List (List Int)} (h : x.length ≤ 3) (k : Sml xs) : Sml (x :: xs) := fun c hc => (List.mem_cons.1 hc).elim (fun e => e ▸ h) (k c)
theorem jH (a : Aig) (k : Int) : ∀ j, Sml (lR a k j)
 | 0 => gk (by simp) gu
 | j + 1 => (jH a k j).app (gk (by simp) (gk (by simp) (gk (by simp) gu)))
theorem nc (a : Aig) : ∀ j, Sml (jq a j)
 | 0 => gu
 | j + 1 => by
   unfold jq
   split
   ·exact (nc a j).app (gk (by simp) gu)
   ·exact nc a j
theorem tv (a : Aig) : ∀ j, Sml (pG a j)
 | 0 => gu
 | j + 1 => (tv a j).app (gk (by simp) (gk (by simp) gu))
theorem ur (a : Aig) (ls : List Int) : Sml (fe a ls) := fun c hc => by
 obtain ⟨l, _, rfl⟩ := List.mem_map.1 hc
 simp
theorem Cl {g : Aig} (h : da g) (inv b : Int) (j : Nat) : 0 ≤ (eA g inv b j).n ∧ (eA g inv b j).n ≤ 100000 ∧ (eA g inv b j).c.length ≤ 1000000 ∧ ∀ c, c ∈ (eA g inv b j).c → c.length ≤ 9223372036854775807 := by
 have hv := h.v
 have h0 : 0 ≤ ay g := by have e3 : ay g = g.i + (g.l.length : Nat) + (g.g.length : Nat) := rfl; have := h.i0; omega
 have h1 := h.l1
 have h2 := h.g1
 have h3 := (h.r 2 (by decide)).1
 simp only [List.getD_cons_succ, List.getD_cons_zero] at h3
 have l1 := eu g 0 g.g.length
 have l2 := eu g 1 g.g.length
 have l3 := gR g g.l.length
 have l4 := iG g g.l.length
 have hh : ∀ ls, (fe g ls).length = ls.length := fun ls => by unfold fe; simp
 have key : ∀ xs : List (List Int), Sml xs → ∀ c, c ∈ xs → c.length ≤ 9223372036854775807 := fun xs hx c hc => by have := hx c hc; omega
 match j with
 | 0 =>
   refine ⟨by show 0 ≤ 1 * (ay g + 1); omega, by show 1 * (ay g + 1) ≤ _; omega, ?_, key _ ?_⟩
   ·simp only [eA, oe, dL, jt, List.flatten_cons, List.flatten_nil, List.length_append, List.length_cons, List.length_nil]; omega
   ·show Sml ([dL g 0, jt g, [pN (ay g) 0 [dE inv]]].flatten)
    exact (jH g 0 _).app ((nc g _).app ((gk (by simp) gu).app gu))
 | 1 =>
   refine ⟨by show 0 ≤ 2 * (ay g + 1); omega, by show 2 * (ay g + 1) ≤ _; omega, ?_, key _ ?_⟩
   ·simp only [eA, ra, dL, lH, hh, List.flatten_cons, List.flatten_nil, List.length_append, List.length_cons, List.length_nil]; omega
   ·show Sml ([dL g 0, dL g 1, lH g, fe g (g.con ++ [inv]), [pN (ay g) 1 [dE inv]]].flatten)
    exact (jH g 0 _).app ((jH g 1 _).app ((tv g _).app ((ur g _).app ((gk (by simp) gu).app gu))))
 | j + 2 =>
   refine ⟨by show 0 ≤ 1 * (ay g + 1); omega, by show 1 * (ay g + 1) ≤ _; omega, ?_, key _ ?_⟩
   ·simp only [eA, xj, dL, hh, List.flatten_cons, List.flatten_nil, List.length_append, List.length_cons, List.length_nil]; omega
   ·show Sml ([dL g 0, fe g (g.con ++ [inv, b])].flatten)
    exact (jH g 0 _).app ((ur g _).app gu)
open Classical in
theorem DU (a : Aig) (bad : Nat) (c : gO) (hz : uP c) (hag : a.g.length ≤ 1000000) (hbb : a.bad.length ≤ 1000000) (hbad : bad ≤ 2147483647) (hs : ∀ x, x ∈ a.names → x.s.length ≤ 1000000000000) (hnl : a.names.length ≤ 1000000000000) : kw 65 [bq a, .int .i64 bad, dU c] (fun v => ∃ k z : Int, v = .tup [.int .i64 k, .int .i64 z] ∧ tE a bad c z) := by
 refine dJ ac (f := 65) (fn := Tryz.f65) (N := 79) (rs := [.tmp 6, .tmp 7]) (by kernel_rfl) rfl (by kernel_rfl) rfl rfl [(0, .v (bq a)), (1, .v (.int .i64 bad)), (2, .v (dU c))] ⟨rfl, rfl, rfl, aj⟩ rfl rfl ?_
 intro B
 refine ag<|bE 3 [] J J J ⟨J, aj⟩ J J J<|bE 5 [] J J J ⟨J, aj⟩ J J J<|af J<|af J<|ab<|ae<|ag<|a7 aK J<|a7 ea J<|ap [] (EH a c hz hag hs hnl) J J J J J J aj (.inl J) J J J<|bf (fun h18 => ?_) (fun h18 => ?_)
 ·refine bL J<|aa J<|aa J<|bj J (fun h22 => ?_) (fun h22 => ?_)
  ·refine aJ J<|aa J<|al J<|al J<|al J<|al J<|al J<|aV J<|ab<|ai J<|ag<|af J<|af J<|ar ?_
   refine ak<|am<|au (aD J J ?_)
   refine ⟨_, _, rfl, ⟨fun e => absurd e (by decide), fun _ h2 _ _ => ?_⟩⟩; exfalso; omega
  ·refine aJ J<|aa J<|aa J<|ax aK J<|aC br J<|aI ac J J br J aB J J<|bY J J J J J (fun h29 => ?_) (fun h29 => ?_)
   ·refine aJ J<|ab<|ai J<|ag<|af J<|af J<|ab<|am<|au (aD J J ?_)
    refine ⟨_, _, rfl, ⟨fun e => absurd e (by decide), fun _ h2 _ _ => ?_⟩⟩; exfalso; omega
   ·refine aJ J<|ab<|ah J<|ao<|ak<|ae ?_
    have hC : pf a c := of_decide_eq_true h18
    have hR := hC.r
    have hS := fj hR
    have hbl : bad < a.bad.length := by omega
    have hbd := DN hR (k := bad) hbl
    have hi0 := hC.i0
    have hi1 := hC.i1
    have hvv := hR.v
    have hA := fun j => Cl hR c.inv (a.bad.getD bad default) j
    refine aF<|a7 aK J<|a7 ea J ?_
    refine ap [] (vj a c (by have := hz.g; omega)) J J J J J J aj (.inl rfl) J J J ?_
    refine bl (id := 8) aK J<|aR aK [] J aj J<|ab<|ae<|aS (L := [([8], []), ([5], []), ([5], []), ([], []), ([8], []), ([5], []), ([5], []), ([], []), ([8], []), ([5], []), ([5], []), ([3], []), ([3], []), ([], []), ([], []), ([], []), ([], []), ([], []), ([9], [9]), ([9], [9])]) (by kernel_rfl) mixed (by kernel_rfl)<|a7 aK J<|ax ea J<|aC bm J<|ap [] (Ek (gro a c.g) hR c.inv hC.i0 (by omega)) J J J J J J aj (.inl J) J J J ?_
    refine a7 aK J<|ax ea J<|aC bm J<|ap [] (DX (gro a c.g) hR c.inv hC.i0 (by omega)) J J J J J J aj (.inl J) J J J ?_
    refine a7 aK J<|ax ea J<|aC bm J<|ax aK J<|aC br J<|aa J<|cj br bm J (by omega) (bz (n := bad) (by omega)) J ?_
    refine bu bm J<|ap [] (Em (gro a c.g) hR c.inv (a.bad.getD bad default) hC.i0 (by omega) hbd.1 hbd.2) J J J J J J aj (.inl J) J J J ?_
    refine ef [] ac J kW J eI J aj J J J J J J<|bl (id := 9) kW J<|aR kW [] J aj J<|ab<|ae<|ag<|a7 kW J<|aa J<|ab<|aw<|aZ (α := Nat) (fun j => mk [(3, .ptr 3 0), (5, .ptr 5 0), (9, .ptr 9 0), (52, .v (.agg [.int .i64 (eA (gro a c.g) c.inv (a.bad.getD bad default) 0).n, dS (eA (gro a c.g) c.inv (a.bad.getD bad default) 0).c, .int .i64 (eA (gro a c.g) c.inv (a.bad.getD bad default) 1).n, dS (eA (gro a c.g) c.inv (a.bad.getD bad default) 1).c, .int .i64 (eA (gro a c.g) c.inv (a.bad.getD bad default) 2).n, dS (eA (gro a c.g) c.inv (a.bad.getD bad default) 2).c])), (53, .v (.int .i64 j))] [(3, .box [.v (.int .i64 a.i), .v (jL a.l), .v (iH a.g), .v (cf a.outs), .v (cf a.bad), .v (cf a.con), .v (up a.names)]), (5, .box [.v (iH c.g), .v (.int .i64 c.inv), .v (lu c.p0), .v (lu c.p1), .v (lu c.p2)]), (9, .box [.v (.int .i64 (eA (gro a c.g) c.inv (a.bad.getD bad default) 0).n), .v (dS (eA (gro a c.g) c.inv (a.bad.getD bad default) 0).c), .v (.int .i64 (eA (gro a c.g) c.inv (a.bad.getD bad default) 1).n), .v (dS (eA (gro a c.g) c.inv (a.bad.getD bad default) 1).c), .v (.int .i64 (eA (gro a c.g) c.inv (a.bad.getD bad default) 2).n), .v (dS (eA (gro a c.g) c.inv (a.bad.getD bad default) 2).c)])] 0) (fun j => j ≤ 3 ∧ ∀ q, q < j → iW (eA (gro a c.g) c.inv (a.bad.getD bad default) q).n (eA (gro a c.g) c.inv (a.bad.getD bad default) q).c = true) (fun j => 3 - j) 0 ⟨Nat.zero_le _, fun q h => absurd h (Nat.not_lt_zero q)⟩ (aL ⟨J, J, J, J, J, aj⟩ ⟨J, J, J, aj⟩ J J J J) ?_
    rintro j ⟨hj1, hj2⟩
    refine ag<|bj J (fun h54 => ?_) (fun h54 => ?_)
    ·refine ab<|ae<|ai J<|ao<|ak<|ae<|aw<|ae ?_
     by_cases hc0 : ¬ j = 0
     ·by_cases hc1 : ¬ j = 1
      ·have hi2 : j = 2 := by omega
       subst hi2
       refine aF<|gU ac J J J kW J eI J (by decide) (by decide) (Nat.le_of_ble_eq_true J) J J J ?_
       refine bl (id := 11) eI J<|aR eI [] J aj J<|ab<|ag<|a7 eI J ?_
       refine ap [] (rq (eA (gro a c.g) c.inv (a.bad.getD bad default) 2) (by have := (hA 2).1; omega) (by have := (hA 2).2.1; omega) (by have := (hA 2).2.2.1; omega) (hA 2).2.2.2) J J J J J J aj (.inl rfl) J J J ?_
       refine bf (fun h57 => ?_) (fun h57 => ?_)
       ·refine bL J<|ab<|ah J<|ao<|aH<|ak<|aF<|bh J (by omega) (by omega) J ?_
        refine aa J<|ar ?_
        have hok := h57
        exact aT (2 + 1) ⟨by omega, fun q hq => (Nat.lt_succ_iff_lt_or_eq.1 hq).elim (hj2 q) (fun e => e ▸ hok)⟩ (by show (3 - 3 : Nat) < 3 - 2; decide) (aL ⟨J, J, J, J, J, aj⟩ ⟨J, J, J, aj⟩ J J J J)
       ·refine bL J<|ab<|ai J<|ag<|af J<|af J<|ab<|am<|az (au (bR (az (au (aD J J ?_)))))
        refine ⟨_, _, rfl, ⟨fun e => absurd e (by decide), fun _ _ h3 _ => ?_⟩⟩; have h9 := h3 2 (by decide); rw [h9] at h57; cases h57
      ·have hi1 : j = 1 := Classical.not_not.1 hc1
       subst hi1
       refine aF<|gU ac J J J kW J eI J (by decide) (by decide) (Nat.le_of_ble_eq_true J) J J J ?_
       refine bl (id := 11) eI J<|aR eI [] J aj J<|ab<|ag<|a7 eI J ?_
       refine ap [] (rq (eA (gro a c.g) c.inv (a.bad.getD bad default) 1) (by have := (hA 1).1; omega) (by have := (hA 1).2.1; omega) (by have := (hA 1).2.2.1; omega) (hA 1).2.2.2) J J J J J J aj (.inl rfl) J J J ?_
       refine bf (fun h57 => ?_) (fun h57 => ?_)
       ·refine bL J<|ab<|ah J<|ao<|aH<|ak<|aF<|bh J (by omega) (by omega) J ?_
        refine aa J<|ar ?_
        have hok := h57
        exact aT (1 + 1) ⟨by omega, fun q hq => (Nat.lt_succ_iff_lt_or_eq.1 hq).elim (hj2 q) (fun e => e ▸ hok)⟩ (by show (3 - 2 : Nat) < 3 - 1; decide) (aL ⟨J, J, J, J, J, aj⟩ ⟨J, J, J, aj⟩ J J J J)
       ·refine bL J<|ab<|ai J<|ag<|af J<|af J<|ab<|am<|az (au (bR (az (au (aD J J ?_)))))
        refine ⟨_, _, rfl, ⟨fun e => absurd e (by decide), fun _ _ h3 _ => ?_⟩⟩; have h9 := h3 1 (by decide); rw [h9] at h57; cases h57
     ·have hi0 : j = 0 := Classical.not_not.1 hc0
      subst hi0
      refine aF<|gU ac J J J kW J eI J (by decide) (by decide) (Nat.le_of_ble_eq_true J) J J J ?_
      refine bl (id := 11) eI J<|aR eI [] J aj J<|ab<|ag<|a7 eI J ?_
      refine ap [] (rq (eA (gro a c.g) c.inv (a.bad.getD bad default) 0) (by have := (hA 0).1; omega) (by have := (hA 0).2.1; omega) (by have := (hA 0).2.2.1; omega) (hA 0).2.2.2) J J J J J J aj (.inl rfl) J J J ?_
      refine bf (fun h57 => ?_) (fun h57 => ?_)
      ·refine bL J<|ab<|ah J<|ao<|aH<|ak<|aF<|bh J (by omega) (by omega) J ?_
       refine aa J<|ar ?_
       have hok := h57
       exact aT (0 + 1) ⟨by omega, fun q hq => (Nat.lt_succ_iff_lt_or_eq.1 hq).elim (hj2 q) (fun e => e ▸ hok)⟩ (by show (3 - 1 : Nat) < 3 - 0; decide) (aL ⟨J, J, J, J, J, aj⟩ ⟨J, J, J, aj⟩ J J J J)
      ·refine bL J<|ab<|ai J<|ag<|af J<|af J<|ab<|am<|az (au (bR (az (au (aD J J ?_)))))
       refine ⟨_, _, rfl, ⟨fun e => absurd e (by decide), fun _ _ h3 _ => ?_⟩⟩; have h9 := h3 0 (by decide); rw [h9] at h57; cases h57
    ·refine ab<|ae<|ah J<|aO<|ba (a8 (aP ?_))
     refine ak<|ae<|ae ?_
     have hj3 := fun q (hq : q < 3) => hj2 q (by omega)
     refine aF<|a7 kW J<|aa J<|ab<|aw<|aZ (α := Nat) (fun j => mk [(3, .ptr 3 0), (5, .ptr 5 0), (60, .v (.agg [.int .i64 (eA (gro a c.g) c.inv (a.bad.getD bad default) 0).n, dS (eA (gro a c.g) c.inv (a.bad.getD bad default) 0).c, .int .i64 (eA (gro a c.g) c.inv (a.bad.getD bad default) 1).n, dS (eA (gro a c.g) c.inv (a.bad.getD bad default) 1).c, .int .i64 (eA (gro a c.g) c.inv (a.bad.getD bad default) 2).n, dS (eA (gro a c.g) c.inv (a.bad.getD bad default) 2).c])), (61, .v (.int .i64 j))] [(3, .box [.v (.int .i64 a.i), .v (jL a.l), .v (iH a.g), .v (cf a.outs), .v (cf a.bad), .v (cf a.con), .v (up a.names)]), (5, .box [.v (iH c.g), .v (.int .i64 c.inv), .v (lu c.p0), .v (lu c.p1), .v (lu c.p2)])] 0) (fun j => j ≤ 3 ∧ ∀ q, q < j → FE (eA (gro a c.g) c.inv (a.bad.getD bad default) q)) (fun j => 3 - j) 0 ⟨Nat.zero_le _, fun q h => absurd h (Nat.not_lt_zero q)⟩ (aL ⟨J, J, J, J, aj⟩ ⟨J, J, aj⟩ J J J J) ?_
     rintro j ⟨hj1, hj2⟩
     refine ag<|bj J (fun h62 => ?_) (fun h62 => ?_)
     ·refine ab<|ae<|ai J<|ao<|ak<|ae<|aw<|ae ?_
      by_cases hd0 : ¬ j = 0
      ·by_cases hd1 : ¬ j = 1
       ·have hi2 : j = 2 := by omega
        subst hi2
        refine aF<|aa J<|gU ac J J J kW J eI J (by decide) (by decide) (Nat.le_of_ble_eq_true J) J J J ?_
        refine bl (id := 13) eI J<|af J<|aR eI [] J aj J<|ab<|ae<|mt (L := [([13], []), ([], []), ([5], []), ([5], []), ([5], []), ([], []), ([], []), ([], []), ([], []), ([], []), ([], [])]) 5 (by kernel_rfl) mixed J (by kernel_rfl)<|a7 eI J<|aa J<|ax ea J<|cI ac J J J J mF J eX (by decide) (by decide) J J J J ?_
        refine aC eX J<|ar ?_
        refine mh [] (rk (eA (gro a c.g) c.inv (a.bad.getD bad default) 2) c.p2 (hj3 2 (by decide)) (hC.p 2 (by decide))) rfl rfl rfl rfl rfl rfl aj (.inl rfl) rfl rfl ?_
        rintro _ ⟨k, z, rfl, hz⟩
        refine aa J<|aW J<|aW J<|af J<|af J<|ab<|ag<|aa J<|bt J J J J J (fun h75 => ?_) (fun h75 => ?_)
        ·refine ab<|ai J<|ag<|aa J<|bh J (by omega) (by omega) J ?_
         refine af J<|af J<|ab<|am<|az (au (bR (az (au (aD J J ?_)))))
         refine ⟨_, _, rfl, ⟨fun e => absurd e (by decide), fun _ _ _ h4 => ?_⟩⟩; have h9 := h4 2 (by decide); exact absurd (hz.2 h9.1 h9.2) h75
        ·refine ab<|ah J<|ao<|aH<|ak<|aF<|bh J (by omega) (by omega) J ?_
         refine aa J<|ar ?_
         exact aT (2 + 1) ⟨by omega, fun q hq => (Nat.lt_succ_iff_lt_or_eq.1 hq).elim (hj2 q) (fun e => e ▸ hz.1 (by omega))⟩ (by show (3 - 3 : Nat) < 3 - 2; decide) (aL ⟨J, J, J, J, aj⟩ ⟨J, J, aj⟩ J J J J)
       ·have hi1 : j = 1 := Classical.not_not.1 hd1
        subst hi1
        refine aF<|aa J<|gU ac J J J kW J eI J (by decide) (by decide) (Nat.le_of_ble_eq_true J) J J J ?_
        refine bl (id := 13) eI J<|af J<|aR eI [] J aj J<|ab<|ae<|mt (L := [([13], []), ([], []), ([5], []), ([5], []), ([5], []), ([], []), ([], []), ([], []), ([], []), ([], []), ([], [])]) 5 (by kernel_rfl) mixed J (by kernel_rfl)<|a7 eI J<|aa J<|ax ea J<|cI ac J J J J mF J eX (by decide) (by decide) J J J J ?_
        refine aC eX J<|ar ?_
        refine mh [] (rk (eA (gro a c.g) c.inv (a.bad.getD bad default) 1) c.p1 (hj3 1 (by decide)) (hC.p 1 (by decide))) rfl rfl rfl rfl rfl rfl aj (.inl rfl) rfl rfl ?_
        rintro _ ⟨k, z, rfl, hz⟩
        refine aa J<|aW J<|aW J<|af J<|af J<|ab<|ag<|aa J<|bt J J J J J (fun h75 => ?_) (fun h75 => ?_)
        ·refine ab<|ai J<|ag<|aa J<|bh J (by omega) (by omega) J ?_
         refine af J<|af J<|ab<|am<|az (au (bR (az (au (aD J J ?_)))))
         refine ⟨_, _, rfl, ⟨fun e => absurd e (by decide), fun _ _ _ h4 => ?_⟩⟩; have h9 := h4 1 (by decide); exact absurd (hz.2 h9.1 h9.2) h75
        ·refine ab<|ah J<|ao<|aH<|ak<|aF<|bh J (by omega) (by omega) J ?_
         refine aa J<|ar ?_
         exact aT (1 + 1) ⟨by omega, fun q hq => (Nat.lt_succ_iff_lt_or_eq.1 hq).elim (hj2 q) (fun e => e ▸ hz.1 (by omega))⟩ (by show (3 - 2 : Nat) < 3 - 1; decide) (aL ⟨J, J, J, J, aj⟩ ⟨J, J, aj⟩ J J J J)
      ·have hi0 : j = 0 := Classical.not_not.1 hd0
       subst hi0
       refine aF<|aa J<|gU ac J J J kW J eI J (by decide) (by decide) (Nat.le_of_ble_eq_true J) J J J ?_
       refine bl (id := 13) eI J<|af J<|aR eI [] J aj J<|ab<|ae<|mt (L := [([13], []), ([], []), ([5], []), ([5], []), ([5], []), ([], []), ([], []), ([], []), ([], []), ([], []), ([], [])]) 5 (by kernel_rfl) mixed J (by kernel_rfl)<|a7 eI J<|aa J<|ax ea J<|cI ac J J J J mF J eX (by decide) (by decide) J J J J ?_
       refine aC eX J<|ar ?_
       refine mh [] (rk (eA (gro a c.g) c.inv (a.bad.getD bad default) 0) c.p0 (hj3 0 (by decide)) (hC.p 0 (by decide))) rfl rfl rfl rfl rfl rfl aj (.inl rfl) rfl rfl ?_
       rintro _ ⟨k, z, rfl, hz⟩
       refine aa J<|aW J<|aW J<|af J<|af J<|ab<|ag<|aa J<|bt J J J J J (fun h75 => ?_) (fun h75 => ?_)
       ·refine ab<|ai J<|ag<|aa J<|bh J (by omega) (by omega) J ?_
        refine af J<|af J<|ab<|am<|az (au (bR (az (au (aD J J ?_)))))
        refine ⟨_, _, rfl, ⟨fun e => absurd e (by decide), fun _ _ _ h4 => ?_⟩⟩; have h9 := h4 0 (by decide); exact absurd (hz.2 h9.1 h9.2) h75
       ·refine ab<|ah J<|ao<|aH<|ak<|aF<|bh J (by omega) (by omega) J ?_
        refine aa J<|ar ?_
        exact aT (0 + 1) ⟨by omega, fun q hq => (Nat.lt_succ_iff_lt_or_eq.1 hq).elim (hj2 q) (fun e => e ▸ hz.1 (by omega))⟩ (by show (3 - 1 : Nat) < 3 - 0; decide) (aL ⟨J, J, J, J, aj⟩ ⟨J, J, aj⟩ J J J J)
     ·refine ab<|ae<|ah J<|aO<|ba (a8 (aP ?_))
      refine ak<|ag<|af J<|af J<|ab<|am ?_
      refine aD J J ?_
      exact ⟨_, _, rfl, ⟨fun _ => ⟨hC, hbl, fun q hq => hj2 q (by omega)⟩, fun _ _ _ _ => rfl⟩⟩
 ·refine bL J<|aa J<|al J<|al J<|aV J<|aa J<|al J<|al J<|al J<|al J<|al J<|aV J<|ab<|ai J<|ae ?_
  refine aF<|af J<|af J<|ab<|am<|au (aD J J ?_)
  refine ⟨_, _, rfl, ⟨fun e => absurd e (by decide), fun h1 _ _ _ => ?_⟩⟩; exact absurd h1 (of_decide_eq_false h18)
end Go.Vd
namespace Go.Vd
open Go.Proofs Go.RowKit
def iq {α β : Type} (p : α → β → Bool) : List α → List β → Bool
 | [], [] => true
 | x :: xs, y :: ys => p x y && iq p xs ys
 | _, _ => false
theorem iJ {α β : Type} [Inhabited α] [Inhabited β] (p : α → β → Bool) : ∀ (xs : List α) (ys : List β), iq p xs ys = true ↔ xs.length = ys.length ∧ ∀ j, j < xs.length → p (xs.getD j default) (ys.getD j default) = true
 | [], [] => by simp [iq]
 | x :: xs, y :: ys => by
   simp only [iq, Bool.and_eq_true, iJ p xs ys, List.length_cons, Nat.add_right_cancel_iff]
   constructor
   ·rintro ⟨h1, h2, h3⟩
    refine ⟨h2, fun j hj => ?_⟩
    cases j with
    | zero => exact h1
    | succ j => exact h3 j (by omega)
   ·rintro ⟨h1, h2⟩
    exact ⟨h2 0 (by omega), h1, fun j hj => h2 (j + 1) (by omega)⟩
 | [], y :: ys => by simp [iq]
 | x :: xs, [] => by simp [iq]
theorem xD {α β : Type} [Inhabited α] [Inhabited β] {p : α → β → Bool} {xs : List α} {ys : List β} (h : ¬ xs.length = ys.length) : iq p xs ys = false := by
 cases hb : iq p xs ys with
 | false => rfl
 | true => exact absurd ((iJ p xs ys).1 hb).1 h
theorem AI {α β : Type} [Inhabited α] [Inhabited β] {p : α → β → Bool} {xs : List α} {ys : List β} {j : Nat} (hj : j < xs.length) (h : p (xs.getD j default) (ys.getD j default) = false) : iq p xs ys = false := by
 cases hb : iq p xs ys with
 | false => rfl
 | true => rw [((iJ p xs ys).1 hb).2 j hj] at h; cases h
theorem yZ {α β : Type} [Inhabited α] [Inhabited β] {p : α → β → Bool} {xs : List α} {ys : List β} (hl : xs.length = ys.length) (h : ∀ j, j < xs.length → p (xs.getD j default) (ys.getD j default) = true) : iq p xs ys = true := (iJ p xs ys).2 ⟨hl, h⟩
theorem lg {α : Type} [Inhabited α] {xs : List α} {n : Nat} (h : n < xs.length) : xs.take (n + 1) = xs.take n ++ [xs.getD n default] := by
 rw [List.take_add_one, List.getD_eq_getElem?_getD]; simp [h]
def I6 (v : List Bool) (l : Int) : Bool := decide (0 ≤ l) && (decide (l / 2 < v.length) && (v.getD (l / 2).toNat false != decide (l % 2 = 1)))
theorem qU (l : Int) : bits .and .i64 l 1 = l % 2 := by
 show IntKind.i64.wrap ((BitVec.ofInt 64 l &&& BitVec.ofInt 64 1).toNat : Int) = _
 rw [BitVec.toNat_and, BitVec.toNat_ofInt, show (BitVec.ofInt 64 1).toNat = 1 from rfl, Nat.and_one_is_mod, IntKind.wrap_i64]
 omega
structure Bd (a : Aig) : Prop where
 i0 : 0 ≤ a.i
 i1 : a.i ≤ 20000
 l1 : a.l.length ≤ 20000
 g1 : a.g.length ≤ 20000
 o1 : a.outs.length ≤ 20000
 b1 : a.bad.length ≤ 20000
 c1 : a.con.length ≤ 20000
def sG (x : Int) : Int := if x = 0 then 1 else if x = 1 then 0 else 2
def uk (x y : Int) : Int := if x = 0 ∨ y = 0 then 0 else if x = 1 ∧ y = 1 then 1 else 2
def isTri (l : List Int) : Bool := !l.any fun x => decide (x > 2)
def Tri (x : Int) : Prop := 0 ≤ x ∧ x ≤ 2
theorem Tri.cases {x : Int} (h : Tri x) : x = 0 ∨ x = 1 ∨ x = 2 := by unfold Tri at h; omega
theorem Bz {x : Int} (h : Tri x) : ([V.int .u8 1, .int .u8 0, .int .u8 2] : List V)[x.toNat]? = some (.int .u8 (sG x)) := by
 rcases h.cases with rfl | rfl | rfl <;> rfl
theorem A3 {x y : Int} (h : Tri x) (h' : Tri y) : ([.v (.int .u8 0), .v (.int .u8 0), .v (.int .u8 0), .v (.int .u8 0), .v (.int .u8 1), .v (.int .u8 2), .v (.int .u8 0), .v (.int .u8 2), .v (.int .u8 2)] : List D)[0 + x.toNat * 3 + y.toNat * 1]? = some (.v (.int .u8 (uk x y))) := by
 rcases h.cases with rfl | rfl | rfl <;> rcases h'.cases with rfl | rfl | rfl <;> rfl
theorem Ae (x : Int) : Tri (sG x) := by unfold sG Tri; split <;> (try split) <;> omega
theorem AY (x y : Int) : Tri (uk x y) := by unfold uk Tri; split <;> (try split) <;> omega
def TriL (v : List Int) : Prop := ∀ x, x ∈ v → Tri x
def Nn (v : List Int) : Prop := ∀ x, x ∈ v → 0 ≤ x
theorem isTri_iff {v : List Int} : isTri v = true ↔ ∀ x, x ∈ v → x ≤ 2 := by simp [isTri]
theorem mR {v : List Int} (h : isTri v = true) (h0 : Nn v) : TriL v := fun x hx => ⟨h0 x hx, isTri_iff.1 h x hx⟩
theorem TriL.isTri {v : List Int} (h : TriL v) : isTri v = true := isTri_iff.2 fun x hx => (h x hx).2
theorem TriL.append {v w : List Int} (h : TriL v) (h' : TriL w) : TriL (v ++ w) := fun x hx => by
 rcases List.mem_append.1 hx with hx | hx
 ·exact h x hx
 ·exact h' x hx
theorem TriL.cons {x : Int} {v : List Int} (h : Tri x) (h' : TriL v) : TriL (x :: v) := fun y hy => by
 rcases List.mem_cons.1 hy with rfl | hy
 ·exact h
 ·exact h' y hy
theorem TriL.nil : TriL [] := fun x hx => by cases hx
theorem It : Tri 0 := ⟨by decide, by decide⟩
theorem Iw : Tri 2 := ⟨by decide, by decide⟩
def gE (v : List Int) (l : Int) : Int := if 0 ≤ l ∧ l / 2 < v.length then (if l % 2 = 1 then sG (v.getD (l / 2).toNat default) else v.getD (l / 2).toNat default) else 2
theorem oD {v : List Int} {l : Int} (h : ¬ (0 ≤ l ∧ l / 2 < v.length)) : gE v l = 2 := by simp only [gE]; rw [if_neg h]
theorem AU {v : List Int} {l : Int} (h : 0 ≤ l) (h' : l / 2 < v.length) (h1 : l % 2 = 1) : gE v l = sG (v.getD (l / 2).toNat default) := by simp only [gE]; rw [if_pos ⟨h, h'⟩, if_pos h1]
theorem xT {v : List Int} {l : Int} (h : 0 ≤ l) (h' : l / 2 < v.length) (h1 : ¬ l % 2 = 1) : gE v l = v.getD (l / 2).toNat default := by simp only [gE]; rw [if_pos ⟨h, h'⟩, if_neg h1]
theorem oJ {v : List Int} (hv : TriL v) (l : Int) : Tri (gE v l) := by
 unfold gE
 split
 ·rename_i h
  split
  ·exact Ae _
  ·exact hv _ (cP (by omega))
 ·exact Iw
def g8 (v : List Int) : List Gate → List Int
 | [] => v
 | g :: gs => g8 (v ++ [uk (gE v g.a) (gE v g.b)]) gs
theorem rM (v : List Int) (xs ys : List Gate) : g8 v (xs ++ ys) = g8 (g8 v xs) ys := by
 induction xs generalizing v with
 | nil => rfl
 | cons g gs ih => simp [g8, ih]
theorem xY (v : List Int) (xs : List Gate) : (g8 v xs).length = v.length + xs.length := by
 induction xs generalizing v with
 | nil => rfl
 | cons g gs ih => simp [g8, ih]; omega
theorem ln {v : List Int} (hv : TriL v) : ∀ gs : List Gate, TriL (g8 v gs)
 | [] => hv
 | g :: gs => ln (hv.append (TriL.cons (AY _ _) TriL.nil)) gs
theorem vk (v : List Int) (gs : List Gate) (n : Nat) (h : n < gs.length) :
 g8 v (gs.take (n + 1)) = g8 v (gs.take n) ++ [uk (gE (g8 v (gs.take n)) (gs.getD n default).a) (gE (g8 v (gs.take n)) (gs.getD n default).b)] := by
 rw [lg h, rM]; rfl
def fo (a : Aig) (st inp : List Int) : Prop := (st.length = a.l.length ∧ isTri st = true) ∧ ((inp.length : Int) = a.i ∧ isTri inp = true)
instance (a : Aig) (st inp : List Int) : Decidable (fo a st inp) := by unfold fo; infer_instance
abbrev jp (a : Aig) (st inp : List Int) : List Int := g8 (0 :: (inp ++ st)) a.g
def fC (a : Aig) (st inp : List Int) : List Int × Int := if fo a st inp then (jp a st inp, 0) else ([], 7)
theorem kb {a : Aig} {st inp : List Int} (h : fo a st inp) : fC a st inp = (jp a st inp, 0) := by simp only [fC]; rw [if_pos h]
theorem gY {a : Aig} {st inp : List Int} (h : ¬ fo a st inp) : fC a st inp = ([], 7) := by simp only [fC]; rw [if_neg h]
theorem oX {a : Aig} {st inp : List Int} (h : fo a st inp) (h0 : Nn st) (h1 : Nn inp) : TriL (0 :: (inp ++ st)) := TriL.cons It ((mR h.2.2 h1).append (mR h.1.2 h0))
theorem tL {a : Aig} {st inp : List Int} (h0 : Nn st) (h1 : Nn inp) : TriL (fC a st inp).1 := by
 by_cases h : fo a st inp
 ·rw [kb h]; exact ln (oX h h0 h1) _
 ·rw [gY h]; exact TriL.nil
structure StepT where
 n : List Int
 o : List Int
 b : List Int
 c : List Int
 e : Int
def StepT.v (r : StepT) : V := .tup [gH r.n, .agg [gH r.o, gH r.b, gH r.c], .int .i64 r.e]
abbrev wc (a : Aig) (v : List Int) : StepT := ⟨a.l.map fun l => gE v l.next, a.outs.map (gE v), a.bad.map (gE v), a.con.map (gE v), 0⟩
def eD (a : Aig) (st inp : List Int) : StepT := if fo a st inp then wc a (jp a st inp) else ⟨[], [], [], [], 7⟩
theorem ml {a : Aig} {st inp : List Int} (h : fo a st inp) : eD a st inp = wc a (jp a st inp) := by simp only [eD]; rw [if_pos h]
theorem xr {a : Aig} {st inp : List Int} (h : ¬ fo a st inp) : eD a st inp = ⟨[], [], [], [], 7⟩ := by simp only [eD]; rw [if_neg h]
theorem zC {α : Type} {v : List Int} (hv : TriL v) (f : α → Int) (ls : List α) : TriL (ls.map fun l => gE v (f l)) := fun x hx => by
 obtain ⟨l, _, rfl⟩ := List.mem_map.1 hx
 exact oJ hv _
theorem D3 (x : Int) : dn 182 [.int .u8 x] (.bool (decide (x > 2))) := by
 refine bC ac (f := 182) (fn := Tryz.f182) (N := 5) (rs := [.tmp 2]) (by kernel_rfl) rfl (by kernel_rfl) rfl rfl [(0, .v (.int .u8 x))] ⟨rfl, aj⟩ rfl rfl ?_
 intro B
 refine ag<|af J<|ab<|ag<|aa J<|lI J J J J J J<|af J<|ab<|am ?_
 refine an J J ?_
 rfl
theorem u5 (xs : List Int) (hl : xs.length ≤ 9223372036854775807) : dn 111 [gH xs] (.bool (isTri xs)) := by
 refine bC ac (f := 111) (fn := Tryz.f111) (N := 6) (rs := [.tmp 2]) (by kernel_rfl) rfl (by kernel_rfl) rfl rfl [(0, .v (gH xs))] ⟨rfl, aj⟩ rfl rfl ?_
 intro B
 refine ag<|af J<|ab<|ag<|aa J<|ap [] (Fr xs 182 [] [] (fun x => decide (x > 2)) hl (fun x _ => D3 x)) J J J J J J aj (.inl J) J J J<|bL J<|af J<|ab<|am ?_
 refine an J J ?_
 rfl
theorem Eu (x : Int) (h : Tri x) : dn 312 [.int .u8 x] (.int .u8 (sG x)) := by
 refine bC ac (f := 312) (fn := Tryz.f312) (N := 6) (rs := [.tmp 2]) (by kernel_rfl) rfl (by kernel_rfl) rfl rfl [(0, .v (.int .u8 x))] ⟨rfl, aj⟩ rfl rfl ?_
 intro B
 refine ag<|af J<|ab<|ag<|ef [] ac J nN J ed J aj J J J J J J<|aa J ?_
 refine gM ac J J J nN J ed J J h.1 (by have := h.2; omega) (Bz h) J J ?_
 refine af J<|ab<|am ?_
 refine an J J ?_
 rfl
theorem EO (x y : Int) (h : Tri x) (h' : Tri y) : dn 287 [.int .u8 x, .int .u8 y] (.int .u8 (uk x y)) := by
 refine bC ac (f := 287) (fn := Tryz.f287) (N := 15) (rs := [.tmp 4]) (by kernel_rfl) rfl (by kernel_rfl) rfl rfl [(0, .v (.int .u8 x)), (1, .v (.int .u8 y))] ⟨rfl, rfl, aj⟩ rfl rfl ?_
 intro B
 refine ag<|af J<|ab<|ag<|ef [] ac J nN J ed J aj J J J J J J<|ef [] ac J nN J ed J aj J J J J J J<|ef [] ac J nN J ed J aj J J J J J J<|ef [] ac J xl J nN J aj J J J J J J<|bl (id := 5) xl J<|aR xl [] J aj J<|ab<|ae ?_
 refine aF<|aa J<|aa J ?_
 refine cI (j := 0 + x.toNat * 3) ac J J J J xl J nN h.1 (by have := h.2; omega) J J J J ?_
 refine cI (j := 0 + x.toNat * 3 + y.toNat * 1) ac J J J J nN J ed h'.1 (by have := h'.2; omega) J J J J ?_
 refine Dc ac J J J ed J (A3 h h') J J J<|af J<|ab<|am ?_
 refine an J J ?_
 rfl
theorem uX (v : List Int) (l : Int) (hv : TriL v) : dn 288 [gH v, .int .i64 l] (.int .u8 (gE v l)) := by
 refine bC ac (f := 288) (fn := Tryz.f288) (N := 30) (rs := [.tmp 4]) (by kernel_rfl) rfl (by kernel_rfl) rfl rfl [(0, .v (gH v)), (1, .v (.int .i64 l))] ⟨rfl, rfl, aj⟩ rfl rfl ?_
 intro B
 refine ag<|af J<|ab<|ag<|aa J<|EE J J J (by decide) (by decide) J J J ?_
 refine af J<|ab<|ae<|aw<|ag<|aa J<|bj J (fun h10 => ?_) (fun h10 => ?_)
 ·refine aa J<|al J<|al J<|al J<|al J<|aV J<|af J<|ab<|ai J<|ag<|af J<|ab<|am ?_
  refine az (au (an J J ?_))
  have e1 : l / 2 ^ Int.toNat 1 = l / 2 := rfl
  rw [oD (by omega)]
 ·refine aa J<|aa J<|aa J<|aI ac J J dd J aB J J<|bY J J J J J (fun h15 => ?_) (fun h15 => ?_)
  ·refine aJ J<|af J<|ab<|ai J<|ag<|af J<|ab<|am<|az (au (an J J ?_))
   have e1 : l / 2 ^ Int.toNat 1 = l / 2 := rfl
   rw [oD (by omega)]
  ·refine aJ J<|af J<|ab<|ah J<|ag<|aa J<|D4 J J J J J J<|bc J J J J J (fun h20 => ?_) (fun h20 => ?_)
   ·refine af J<|ab<|ai J<|ag<|aa J<|aa J<|cj dd ed J (by omega) (bz (by omega)) J ?_
    refine bu ed J<|ap [] (Eu _ (hv _ (cP (by omega)))) J J J J J J aj (.inl J) J J J ?_
    refine af J<|ab<|am<|az (au (an J J ?_))
    have e1 : l / 2 ^ Int.toNat 1 = l / 2 := rfl
    have := qU l
    rw [AU (by omega) (by omega) (by omega)]; rfl
   ·refine af J<|ab<|ah J<|ao<|aH<|ak<|ag<|aa J<|aa J<|cj dd ed J (by omega) (bz (by omega)) J ?_
    refine bu ed J<|af J<|ab<|am ?_
    refine an J J ?_
    have e1 : l / 2 ^ Int.toNat 1 = l / 2 := rfl
    have := qU l
    rw [xT (by omega) (by omega) (by omega)]; rfl
theorem EA (a : Aig) : dn 284 [bq a] (.int .i64 a.l.length) := by
 refine bC ac (f := 284) (fn := Tryz.f284) (N := 6) (rs := [.tmp 2]) (by kernel_rfl) rfl (by kernel_rfl) rfl rfl [(0, .v (bq a))] ⟨rfl, aj⟩ rfl rfl ?_
 intro B
 refine ag<|bE 1 [] J J J ⟨J, aj⟩ J J J<|af J<|ab<|ag<|ax aK J<|aC cR J<|aI ac J J cR J aB J J<|af J<|ab<|am ?_
 refine an J J ?_
 rfl
theorem Ew (a : Aig) : dn 285 [bq a] (.int .i64 a.i) := by
 refine bC ac (f := 285) (fn := Tryz.f285) (N := 5) (rs := [.tmp 2]) (by kernel_rfl) rfl (by kernel_rfl) rfl rfl [(0, .v (bq a))] ⟨rfl, aj⟩ rfl rfl ?_
 intro B
 refine ag<|bE 1 [] J J J ⟨J, aj⟩ J J J<|af J<|ab<|ag<|ax aK J<|aC bm J<|af J<|ab<|am ?_
 refine an J J ?_
 rfl
theorem zN (a : Aig) (f : FuncId) (row : List Int) (n : Int) (hl : row.length ≤ 9223372036854775807) (hc : dn f [bq a] (.int .i64 n)) : dn 286 [.agg [.fn (.func f) [] [], gH row], bq a] (.bool (decide ((row.length : Int) = n) && isTri row)) := by
 refine bC ac (f := 286) (fn := Tryz.f286) (N := 18) (rs := [.tmp 4]) (by kernel_rfl) rfl (by kernel_rfl) rfl rfl [(0, .v (.agg [.fn (.func f) [] [], gH row])), (1, .v (bq a))] ⟨rfl, rfl, aj⟩ rfl rfl ?_
 intro B
 refine ag<|bE 2 [] J J J ⟨J, aj⟩ J J J<|bE 3 [] J J J ⟨J, aj⟩ J J J<|af J<|ab<|ae<|aS (L := [([2], []), ([2], []), ([], []), ([2], []), ([2], []), ([3], []), ([], []), ([], []), ([], []), ([2], []), ([2], []), ([], []), ([], []), ([], [])]) (by kernel_rfl) mixed (by kernel_rfl)<|ax kz J<|aC dd J<|aI ac J J dd J aB J J<|ax kz J<|aC Gq J<|a7 aK J<|ap [] (hc) J J J J J J aj (.inl J) J J J ?_
 refine bc J J J J J (fun h12 => ?_) (fun h12 => ?_)
 ·refine aa J<|ax kz J<|aC dd J<|ap [] (u5 row hl) J J J J J J aj (.inl J) J J J<|aV J<|af J<|ab<|am ?_
  refine an J J ?_
  simp [*]
 ·refine aa J<|al J<|al J<|al J<|aJ J<|af J<|ab<|am ?_
  refine an J J ?_
  simp [*]
theorem Fy (a : Aig) (st inp : List Int) (hb : Bd a) (h0 : Nn st) (h1 : Nn inp) (hl0 : st.length ≤ 9223372036854775807) (hl1 : inp.length ≤ 9223372036854775807) : dn 236 [bq a, gH st, gH inp] (.tup [gH (fC a st inp).1, .int .i64 (fC a st inp).2]) := by
 refine bC ac (f := 236) (fn := Tryz.f236) (N := 57) (rs := [.tmp 6, .tmp 7]) (by kernel_rfl) rfl (by kernel_rfl) rfl rfl [(0, .v (bq a)), (1, .v (gH st)), (2, .v (gH inp))] ⟨rfl, rfl, rfl, aj⟩ rfl rfl ?_
 intro B
 have hb0 := hb.i0; have hb1 := hb.i1; have hb2 := hb.l1; have hb3 := hb.g1; have hv : ay a = a.i + (a.l.length : Nat) + (a.g.length : Nat) := rfl; have hz : nR a := ⟨hb.i0, by omega⟩
 refine ag<|bE 3 [] J J J ⟨J, aj⟩ J J J<|af J<|af J<|ab<|ag<|aa J<|bD [] ac J kz J J aj J J J J J J<|bl (id := 8) kz J<|aR kz [] J aj J<|ab<|ae ?_
 refine aF<|aa J<|bD [] ac J kz J J aj J J J J J J<|bl (id := 9) kz J<|aR kz [] J aj J<|ab<|ae<|ag<|a7 kz J<|a7 aK J<|ap [] (zN a 284 st _ (by omega) (EA a)) J J J J J J aj (.inl J) J J J ?_
 refine bf (fun h19 => ?_) (fun h19 => ?_)
 ·refine bL J<|aa J<|a7 kz J<|a7 aK J<|ap [] (zN a 285 inp _ (by omega) (Ew a)) J J J J J J aj (.inl J) J J J ?_
  refine bf (fun h24 => ?_) (fun h24 => ?_)
  ·refine bL J<|aJ J<|ab<|ah J<|ao<|ak<|ae ?_
   have hsh : fo a st inp := by simp only [Bool.and_eq_true, decide_eq_true_eq] at h19 h24; exact ⟨⟨by omega, h19.2⟩, by omega, h24.2⟩
   have hsh1 := hsh.1.1; have hsh2 := hsh.2.1
   refine aF<|a7 aK J<|ap [] (kn _ hz) J J J J J J aj (.inl J) J J J<|bh J (by omega) (by omega) J ?_
   refine md (es := [0].map lA) 30 (el0 := [.int .u8 0]) ac J dd J ed J J J J J ⟨by omega, by omega, by omega, by simp; omega⟩ J J J J J ?_
   refine af J<|ab<|ag<|aa J<|aa J ?_
   refine cw 33 [] ac J dd J dd J ed J J J J ⟨J, J, aj⟩ J (Ds _) ke (by constructor <;> simp <;> omega) J J J ?_
   refine aa J ?_
   refine cw 35 [] ac J dd J dd J ed J J J J ⟨J, J, aj⟩ J (Ds _) ke (by constructor <;> simp <;> omega) J J J ?_
   refine af J<|ab<|ae<|ag<|ax aK J<|aC dg J<|aI ac J J dg J aB J J<|aa J<|ab<|aw ?_
   refine aZ (α := Nat) (fun j => mk [(37, .v (iH a.g)), (38, .v (.int .i64 a.g.length)), (39, .v (.int .i64 j)), (10, .own 35)] [(35, .row 92 1 ((g8 (0 :: (inp ++ st)) (a.g.take j)).map lA))] 0) (fun j => j ≤ a.g.length) (fun j => a.g.length - j) 0 (Nat.zero_le _) (aL ⟨rfl, rfl, rfl, rfl, aj⟩ ⟨(dV rfl (by simp [g8])), aj⟩ rfl rfl rfl rfl) ?_
   rintro j hinv
   have hvt : TriL (g8 (0 :: (inp ++ st)) (a.g.take j)) := ln (oX hsh h0 h1) _
   refine ag<|bj J (fun h40 => ?_) (fun h40 => ?_)
   ·refine ab<|ae<|ai J<|ao<|ak<|ae<|aw<|ag<|cj dg dY J (by omega) (bz (n := j) (by omega)) J ?_
    refine cZ ac J J dY J J J J J<|bl (id := 12) dY J<|aR dY [] J aj J<|ab<|aS (L := [([], []), ([], []), ([12], []), ([12], []), ([35], []), ([], []), ([12], []), ([12], []), ([35], []), ([], []), ([], []), ([35, 54], [35, 54]), ([], [])]) (by kernel_rfl) mixed (by kernel_rfl)<|aa J<|aa J<|ax dY J<|aC bm J<|ap [(35, _)] (uX _ _ hvt) J J J J J J ⟨J, aj⟩ (.inr J) J J J<|aa J<|ax dY J<|aC bm J<|ap [(35, _)] (uX _ _ hvt) J J J J J J ⟨J, aj⟩ (.inr J) J J J<|ap [] (EO _ _ (oJ hvt _) (oJ hvt _)) J J J J J J aj (.inl J) J J J ?_
    refine bZ dd ed [] J aj J ?_
    refine cw 54 [] ac J dd J dd J ed J J J J ⟨J, J, aj⟩ J (elOk.cons rfl rfl elOk.nil) cA (by constructor <;> simp [xY] <;> omega) J J J ?_
    refine af J<|ar<|aH<|ak<|aF<|bh J (by omega) (by omega) J ?_
    refine aa J<|ar ?_
    exact aT (j + 1) (by omega) (by omega) (cd [(35, 54)] ⟨rfl, rfl, rfl, rfl, aj⟩ ⟨(dV rfl (by rw [vk _ _ _ (by omega)] <;> simp)), aj⟩ rfl rfl rfl rfl rfl)
   ·refine ab<|ae<|ah J<|aO<|ba (a8 (aP ?_))
    refine ak<|ag<|aa J<|af J<|af J<|ab<|am ?_
    refine an J J ?_
    rw [kb hsh]
    have hi : j = a.g.length := by omega
    subst hi
    rw [List.take_length]
  ·refine bL J<|aJ J<|ab<|ai J<|ag<|af J<|af J<|ab<|am<|au (an J J ?_)
   rw [gY (fun h => by have q1 := h.1.1; have q2 := h.1.2; have q3 := h.2.1; have q4 := h.2.2; simp [q1, q2, q3, q4] at h24)]; rfl
 ·refine bL J<|aa J<|al J<|al J<|al J<|al J<|aV J<|ab<|ai J<|ag<|af J<|af J<|ab ?_
  refine am<|au (an J J ?_)
  rw [gY (fun h => by have q1 := h.1.1; have q2 := h.1.2; have q3 := h.2.1; have q4 := h.2.2; simp [q1, q2, q3, q4] at h19)]; rfl
theorem u4 {α : Type} [Inhabited α] (gf : α → Int) (xs : List α) (j : Nat) (hj : j < xs.length) :
 ((xs.take j).map gf ++ List.replicate (xs.length - j) 0).set j (gf (xs.getD j default)) = (xs.take (j + 1)).map gf ++ List.replicate (xs.length - (j + 1)) 0 := by
 have h1 : List.replicate (xs.length - j) (0 : Int) = 0 :: List.replicate (xs.length - (j + 1)) 0 := by
  rw [← List.replicate_succ]; congr 1; omega
 rw [lg hj, h1, List.set_append_right _ _ (by simp; omega)]
 have : j - ((xs.take j).map gf).length = 0 := by simp; omega
 rw [this]
 simp
theorem rm (v : List Int) (ls : List Int) (hv : TriL v) (hl : ls.length ≤ 20000) : dn 237 [gH v, cf ls] (gH (ls.map (gE v))) := by
 refine bC ac (f := 237) (fn := Tryz.f237) (N := 26) (rs := [.tmp 4]) (by kernel_rfl) rfl (by kernel_rfl) rfl rfl [(0, .v (gH v)), (1, .v (cf ls))] ⟨rfl, rfl, aj⟩ rfl rfl ?_
 intro B
 refine ag<|af J<|ab<|ag<|aa J<|aI ac J J br J aB J J ?_
 refine md 10 (el0 := [.int .u8 0]) ac J dd J ed J J J J J ⟨by omega, by omega, by omega, by simp; omega⟩ J J J J J ?_
 refine af J<|ab<|ae<|ag<|aa J<|aI ac J J br J aB J J<|aa J<|ab<|aw<|aZ (α := Nat) (fun j => mk [(0, .v (gH v)), (5, .own 10), (11, .v (cf ls)), (12, .v (.int .i64 ls.length)), (13, .v (.int .i64 j))] [(10, .row 92 1 (((ls.take j).map (gE v) ++ List.replicate (ls.length - j) 0).map lA))] 0) (fun j => j ≤ ls.length) (fun j => ls.length - j) 0 (Nat.zero_le _) (aL ⟨J, J, J, J, J, aj⟩ ⟨(dV J (by simp)), aj⟩ J J J J) ?_
 rintro j hinv
 refine ag<|bj J (fun h14 => ?_) (fun h14 => ?_)
 ·refine ab<|ae<|ai J<|ao<|ak<|ae<|aw<|ag<|aa J<|cj br bm J (by omega) (bz (n := j) (by omega)) J ?_
  refine bu bm J<|af J<|af J<|ab<|aF<|aa J<|aa J<|aa J<|aa J<|ap [] (uX _ _ hv) J J J J J J aj (.inl J) J J J ?_
  refine dG ac J J J J dd J ed J (by omega) (by simp; omega) J J J J ?_
  refine jg ac J ed J J J J J (by simp; omega) jl J J J ?_
  refine ar<|aH<|ak<|aF<|bh J (by omega) (by omega) J ?_
  refine aa J<|ar ?_
  exact aT (j + 1) (by omega) (by omega) (aL ⟨rfl, rfl, rfl, rfl, rfl, aj⟩ ⟨(dV rfl (by exact congrArg _ (u4 (gE v) ls j (by omega)))), aj⟩ rfl rfl rfl rfl)
 ·refine ab<|ae<|ah J<|aO<|ba (a8 (aP ?_))
  refine ak<|ag<|aa J<|af J<|ab<|am ?_
  refine an J J ?_
  have hi : j = ls.length := by omega
  subst hi
  simp
theorem qe {a : Aig} {st inp : List Int} : (fC a st inp).2 = 0 → eD a st inp = wc a (fC a st inp).1 := fun h => by
 by_cases hs : fo a st inp
 ·rw [kb hs, ml hs]
 ·rw [gY hs] at h; cases h
theorem qf {a : Aig} {st inp : List Int} : (fC a st inp).2 ≠ 0 → eD a st inp = ⟨[], [], [], [], (fC a st inp).2⟩ := fun h => by
 by_cases hs : fo a st inp
 ·rw [kb hs] at h; exact absurd rfl h
 ·rw [gY hs, xr hs]
theorem Ee (a : Aig) (st inp : List Int) (hb : Bd a) (h0 : Nn st) (h1 : Nn inp) (hl0 : st.length ≤ 9223372036854775807) (hl1 : inp.length ≤ 9223372036854775807) : dn 178 [bq a, gH st, gH inp] ((eD a st inp).v) := by
 refine bC ac (f := 178) (fn := Tryz.f178) (N := 54) (rs := [.tmp 6, .cell 7 226, .tmp 8]) (by kernel_rfl) rfl (by kernel_rfl) rfl rfl [(0, .v (bq a)), (1, .v (gH st)), (2, .v (gH inp))] ⟨rfl, rfl, rfl, aj⟩ rfl rfl ?_
 intro B
 have hb0 := hb.i0; have hb1 := hb.i1; have hb2 := hb.l1; have hb3 := hb.g1; have hv : ay a = a.i + (a.l.length : Nat) + (a.g.length : Nat) := rfl; have hz : nR a := ⟨hb.i0, by omega⟩
 have hvt := tL (a := a) h0 h1
 refine ag<|bE 3 [] J J J ⟨J, aj⟩ J J J<|af J<|bl (id := 7) lB J<|af J<|ab<|ag<|a7 aK J<|aa J<|aa J<|ap [] (Fy a st inp hb h0 h1 hl0 hl1) J J J J J J aj (.inl J) J J J<|aa J<|aW J ?_
 refine aW J<|af J<|af J<|ab<|ae<|ag<|aa J<|bt J J J J J (fun h22 => ?_) (fun h22 => ?_)
 ·refine ab<|ai J<|ag<|ef [] ac J lB J dd J aj J J J J J J<|aa J<|af J<|aR lB [] J aj J<|af J<|ab<|am<|au (an J J ?_)
  rw [qf h22]; rfl
 ·refine ab<|ah J<|ao<|ak<|ag<|af J<|ab<|ae<|ag<|ax aK J<|aC cR J<|aI ac J J cR J aB J J ?_
  refine aa J<|ab<|aw<|cg (gJ (t := 11) (id := 900) (e := 3) (sz := 1) J J (by decide)) ?_
  refine aZ (α := Nat) (fun j => mk [(3, .ptr 3 0), (7, .ptr 7 0), (9, .v (gH (fC a st inp).1)), (11, .own 901), (26, .v (jL a.l)), (27, .v (.int .i64 a.l.length)), (28, .v (.int .i64 j))] [(3, .box ((eE a).map .v)), (7, .box [.nils, .nils, .nils]), (901, .row 3 1 (((a.l.take j).map Latch.next).map d7))] 0) (fun j => j ≤ a.l.length) (fun j => a.l.length - j) 0 (Nat.zero_le _) (cd [(901, 900)] ⟨J, J, J, J, J, J, J, aj⟩ ⟨J, J, J, aj⟩ J J J J J) ?_
  rintro j hinv
  refine ag<|bj J (fun h29 => ?_) (fun h29 => ?_)
  ·refine ab<|ae<|ai J<|ao<|ak<|ae<|aw<|ag<|cj cR c7 J (by omega) (bz (n := j) (by omega)) J ?_
   refine cZ ac J J c7 J J J J J<|bl (id := 13) c7 J<|aR c7 [] J aj J<|ab<|aF<|aa J<|ax c7 J<|aC bm J<|bZ br bm [] J aj J ?_
   refine cw 36 [] ac J br J br J bm J J J J ⟨J, J, aj⟩ J (elOk.cons rfl rfl elOk.nil) cA (by constructor <;> simp <;> omega) J J J ?_
   refine af J<|ar<|aH<|ak<|aF<|bh J (by omega) (by omega) J ?_
   refine aa J<|ar ?_
   exact aT (j + 1) (by omega) (by omega) (cd [(901, 36)] ⟨rfl, rfl, rfl, rfl, rfl, rfl, rfl, aj⟩ ⟨rfl, rfl, (dV rfl (by rw [lg (by omega)]; simp)), aj⟩ rfl rfl rfl rfl rfl)
  ·refine ab<|ae<|ah J<|aO<|ba (a8 (aP ?_))
   refine ak<|ae<|cg (bp (id := 901) J) ?_
   refine cT [(3, .ptr 3 0), (7, .ptr 7 0), (9, .v (gH (fC a st inp).1)), (11, .v (cf (a.l.map Latch.next)))] [(3, .box ((eE a).map .v)), (7, .box [.nils, .nils, .nils])] ⟨rfl, rfl, rfl, (Ih rfl (by rw [List.take_of_length_le (by omega)]; rfl)), aj⟩ ⟨J, J, aj⟩ J J J J ?_
   refine aS (L := [([], []), ([], []), ([], []), ([], []), ([3], []), ([3], []), ([], []), ([], []), ([3], []), ([3], []), ([], []), ([], []), ([3], []), ([3], []), ([], []), ([], []), ([], []), ([7], [7]), ([], [])]) (by kernel_rfl) mixed (by kernel_rfl)<|aa J<|aa J ?_
   refine ap [] (rm _ (a.l.map Latch.next) hvt (by simp; omega)) J J J J J J aj (.inl rfl) J J J ?_
   refine aa J<|ax aK J<|aC br J<|ap [] (rm _ a.outs hvt hb.o1) J J J J J J aj (.inl J) J J J<|aa J<|ax aK J<|aC br J<|ap [] (rm _ a.bad hvt hb.b1) J J J J J J aj (.inl J) J J J<|aa J<|ax aK J<|aC br J<|ap [] (rm _ a.con hvt hb.c1) J J J J J J aj (.inl J) J J J<|ef [] ac J lB J dd J aj J J J J J J<|af J<|aR lB [] J aj J<|af J ?_
   refine ab<|am ?_
   refine an J J ?_
   rw [qe (Decidable.not_not.1 h22)]; simp [StepT.v, Function.comp_def]
end Go.Vd
namespace Go.Vd
open Go.Proofs Go.RowKit
theorem oW {α : Type} [Inhabited α] {xs : List α} {j : Nat} (h : j < xs.length) : xs.drop j = xs.getD j default :: xs.drop (j + 1) := by
 rw [List.getD_eq_getElem?_getD, List.getElem?_eq_getElem h]; exact List.drop_eq_getElem_cons h
structure Ir (a : Aig) : Prop where
 l : a.l.length ≤ 1000000
 b : a.bad.length ≤ 1000000
structure IA (t : dT) : Prop where
 il : t.ini.length ≤ 1000000
 nl : t.ins.length ≤ 1000000
 rl : ∀ r, r ∈ t.ins → r.length ≤ 1000000
theorem vp {α β : Type} [Inhabited α] [Inhabited β] {p : α → β → Bool} {xs : List α} {ys : List β} (h : iq p xs ys = true) : xs.length = ys.length := ((iJ p xs ys).1 h).1
def gX (l : Latch) (v : Int) : Bool := decide (l.reset > 1) || decide (v = l.reset)
def un (a : Aig) (r : List Int) : Bool := decide ((r.length : Int) ≠ a.i) || !isTri r
def i8 (a : Aig) (t : dT) : Bool :=
 (decide (0 ≤ t.bad) && (decide (t.bad < a.bad.length) && (decide (1 ≤ t.ins.length) && (decide (t.ins.length ≤ 200) && isTri t.ini)))) && (iq gX a.l t.ini && !t.ins.any (un a))
structure RightT (a : Aig) (t : dT) : Prop where
 b0 : 0 ≤ t.bad
 b1 : t.bad < a.bad.length
 n0 : 1 ≤ t.ins.length
 n1 : t.ins.length ≤ 200
 it : isTri t.ini = true
 ip : iq gX a.l t.ini = true
 rl : ∀ r, r ∈ t.ins → (r.length : Int) = a.i
 rt : ∀ r, r ∈ t.ins → isTri r = true
theorem rightT_iff {a : Aig} {t : dT} : i8 a t = true ↔ RightT a t := by
 simp only [i8, Bool.and_eq_true, decide_eq_true_eq, Bool.not_eq_true', List.any_eq_false]
 constructor
 ·rintro ⟨⟨h1, h2, h3, h4, h5⟩, h6, h7⟩
  have h8 : ∀ r, r ∈ t.ins → (r.length : Int) = a.i ∧ isTri r = true := fun r hr => by
   have := h7 r hr
   simp only [un, Bool.or_eq_true, decide_eq_true_eq, Bool.not_eq_true', not_or] at this
   exact ⟨Decidable.not_not.1 this.1, by simpa using this.2⟩
  exact ⟨h1, h2, h3, h4, h5, h6, fun r hr => (h8 r hr).1, fun r hr => (h8 r hr).2⟩
 ·rintro ⟨h1, h2, h3, h4, h5, h6, h7, h8⟩
  exact ⟨⟨h1, h2, h3, h4, h5⟩, h6, fun r hr => by simp [un, h7 r hr, h8 r hr]⟩
theorem dH {a : Aig} {t : dT} (h : RightT a t → False) : i8 a t = false := by
 cases hb : i8 a t with
 | false => rfl
 | true => exact (h (rightT_iff.1 hb)).elim
theorem cS {a : Aig} {t : dT} (h1 : 0 ≤ t.bad) (h2 : t.bad < a.bad.length) (h3 : 1 ≤ t.ins.length) (h4 : t.ins.length ≤ 200) (h5 : isTri t.ini = true) : i8 a t = (iq gX a.l t.ini && !t.ins.any (un a)) := by
 simp [i8, h1, h2, h3, h4, h5]
theorem RightT.il {a : Aig} {t : dT} (h : RightT a t) : t.ini.length = a.l.length := (vp h.ip).symm
instance : Inhabited StepT := ⟨⟨[], [], [], [], 0⟩⟩
def nX (a : Aig) (s : List Int) : List (List Int) → List StepT
 | [] => []
 | r :: rs => eD a s r :: nX a (eD a s r).n rs
def mr (a : Aig) (s : List Int) : List (List Int) → List Int
 | [] => s
 | r :: rs => mr a (eD a s r).n rs
theorem oh (a : Aig) : ∀ (ins : List (List Int)) (s : List Int), (nX a s ins).length = ins.length
 | [], _ => rfl
 | r :: rs, s => by simp [nX, oh a rs]
theorem qB (a : Aig) (r : List Int) : ∀ (xs : List (List Int)) (s : List Int), mr a s (xs ++ [r]) = (eD a (mr a s xs) r).n
 | [], _ => rfl
 | x :: xs, s => by simp [mr, qB a r xs]
theorem se (a : Aig) : ∀ (ins : List (List Int)) (s : List Int) (j : Nat), j < ins.length → (nX a s ins).getD j default = eD a (mr a s (ins.take j)) (ins.getD j default)
 | [], _, _, h => by simp at h
 | r :: rs, s, 0, _ => rfl
 | r :: rs, s, j + 1, h => by
   have := se a rs (eD a s r).n j (by simpa using h)
   simpa [nX, mr] using this
structure Okt (a : Aig) (t : dT) : Prop where
 r : RightT a t
 i : TriL t.ini
 n : ∀ r, r ∈ t.ins → TriL r
theorem DB {a : Aig} {t : dT} (h : RightT a t) (h0 : Nn t.ini) (h1 : ∀ r, r ∈ t.ins → Nn r) : Okt a t := ⟨h, mR h.it h0, fun r hr => mR (h.rt r hr) (h1 r hr)⟩
theorem lK {a : Aig} {s r : List Int} (hs : s.length = a.l.length) (ht : TriL s) (hr : (r.length : Int) = a.i) (hrt : TriL r) : fo a s r ∧ (eD a s r).n.length = a.l.length ∧ TriL (eD a s r).n := by
 have h : fo a s r := ⟨⟨hs, ht.isTri⟩, hr, hrt.isTri⟩
 refine ⟨h, ?_⟩
 rw [ml h]
 exact ⟨by simp, zC (ln (oX h (fun x hx => (ht x hx).1) (fun x hx => (hrt x hx).1)) _) _ _⟩
theorem wI {a : Aig} : ∀ (ins : List (List Int)) (s : List Int), s.length = a.l.length → TriL s → (∀ r, r ∈ ins → (r.length : Int) = a.i ∧ TriL r) → (mr a s ins).length = a.l.length ∧ TriL (mr a s ins)
 | [], s, h, h', _ => ⟨h, h'⟩
 | r :: rs, s, h, h', hr => by
   have h1 := lK h h' (hr r List.mem_cons_self).1 (hr r List.mem_cons_self).2
   exact wI rs _ h1.2.1 h1.2.2 (fun x hx => hr x (List.mem_cons_of_mem _ hx))
theorem Okt.at {a : Aig} {t : dT} (h : Okt a t) (j : Nat) : (mr a t.ini (t.ins.take j)).length = a.l.length ∧ TriL (mr a t.ini (t.ins.take j)) :=
 wI _ _ h.r.il h.i (fun r hr => ⟨h.r.rl r (List.mem_of_mem_take hr), h.n r (List.mem_of_mem_take hr)⟩)
theorem Okt.row {a : Aig} {t : dT} (h : Okt a t) {j : Nat} (hj : j < t.ins.length) : ((t.ins.getD j default).length : Int) = a.i ∧ TriL (t.ins.getD j default) := ⟨h.r.rl _ (cP hj), h.n _ (cP hj)⟩
theorem Okt.shape {a : Aig} {t : dT} (h : Okt a t) {j : Nat} (hj : j < t.ins.length) : fo a (mr a t.ini (t.ins.take j)) (t.ins.getD j default) :=
 (lK (h.at j).1 (h.at j).2 (h.row hj).1 (h.row hj).2).1
theorem TriL.nn {v : List Int} (h : TriL v) : Nn v := fun x hx => (h x hx).1
theorem yx {a : Aig} {s r : List Int} (h : fo a s r) : (eD a s r).n.length = a.l.length ∧ (eD a s r).o.length = a.outs.length ∧ (eD a s r).b.length = a.bad.length ∧ (eD a s r).c.length = a.con.length := by
 rw [ml h]; simp
def qJ (f : StepT) : List V := [.agg [gH f.n, gH f.o, gH f.b, gH f.c]]
theorem Fl (a : Aig) (s : List Int) (ins : List (List Int)) (j : Nat) (h : j < ins.length) : ((nX a s ins).map qJ)[j]? = some (qJ (eD a (mr a s (ins.take j)) (ins.getD j default))) := by
 rw [← se a ins s j h, bz (by rw [oh]; exact h)]
theorem DV (xs : List Latch) (ys : List Int) (f : FuncId) (fi ca : List V) (p : Latch → Int → Bool) (hl : xs.length ≤ 9223372036854775807) (hl2 : ys.length ≤ 9223372036854775807) (hc : ∀ x y, x ∈ xs → y ∈ ys → PCall Tryz.prog f (fi ++ [.agg (pL x), .int .u8 y] ++ ca) (.bool (p x y))) : dn 176 [jL xs, gH ys, .fn (.func f) fi ca] (.bool (iq p xs ys)) := by
 refine bC ac (f := 176) (fn := Tryz.f176) (N := 32) (rs := [.tmp 6]) (by kernel_rfl) rfl (by kernel_rfl) rfl rfl [(0, .v (jL xs)), (1, .v (gH ys)), (2, .v (.fn (.func f) fi ca))] ⟨rfl, rfl, rfl, aj⟩ rfl rfl ?_
 intro B
 refine ag<|af J<|ab<|ae<|ag<|aa J<|aI ac J J cR J aB J J<|aa J<|aI ac J J dd J aB J J<|bt J J J J J (fun h14 => ?_) (fun h14 => ?_)
 ·refine ab<|ai J<|ag<|af J<|ab<|am<|au (an J J ?_)
  rw [xD (by omega)]
 ·refine ab<|ah J<|ao<|ak<|ae<|ag<|aa J<|aI ac J J cR J aB J J<|aa J<|ab<|aw<|aZ (α := Nat) (fun j => mk [(1, .v (gH ys)), (2, .v (.fn (.func f) fi ca)), (15, .v (jL xs)), (16, .v (.int .i64 xs.length)), (17, .v (.int .i64 j))] [] 0) (fun j => j ≤ xs.length ∧ ∀ q, q < j → p (xs.getD q default) (ys.getD q default) = true) (fun j => xs.length - j) 0 ⟨Nat.zero_le _, fun q h => absurd h (Nat.not_lt_zero q)⟩ (aL ⟨J, J, J, J, J, aj⟩ aj J J J J) ?_
  rintro j ⟨hj1, hj2⟩
  refine ag<|bj J (fun h18 => ?_) (fun h18 => ?_)
  ·refine ab<|ae<|ai J<|ao<|ak<|ae<|aw<|ag<|aa J<|cj cR c7 J (by omega) (bz (n := j) (by omega)) J ?_
   refine cZ ac J J c7 J J J J J<|bl (id := 8) c7 J<|af J<|aR c7 [] J aj J<|ab<|ag<|aa J<|aa J<|cj dd ed J (by omega) (bz (n := j) (by omega)) J ?_
   refine bu ed J<|af J<|ab<|ag<|aa J<|a7 c7 J<|aa J<|ap [] (hc _ _ (cP (by omega)) (cP (by omega))) J J J J J J aj (.inl J) J J J ?_
   refine bf (fun h29 => ?_) (fun h29 => ?_)
   ·refine bL J<|ab<|ah J<|ao<|aH<|ak<|aF<|bh J (by omega) (by omega) J ?_
    refine aa J<|ar ?_
    exact aT (j + 1) ⟨by omega, fun q hq => (Nat.lt_succ_iff_lt_or_eq.1 hq).elim (hj2 q) (fun e => e ▸ h29)⟩ (by omega) (aL ⟨J, J, J, J, J, aj⟩ aj J J J J)
   ·refine bL J<|ab<|ai J<|ag<|af J<|ab<|am<|az (au (bR (az (au (an J J ?_)))))
    rw [AI (j := j) (by omega) (by assumption)]
  ·refine ab<|ae<|ah J<|aO<|ba (a8 (aP ?_))
   refine ak<|ag<|af J<|ab<|am ?_
   refine an J J ?_
   rw [yZ (by omega) (fun q hq => hj2 q (by omega))]
theorem zF (l : Latch) (v : Int) (hv : Tri v) : dn 151 [.agg (pL l), .int .u8 v] (.bool (gX l v)) := by
 refine bC ac (f := 151) (fn := Tryz.f151) (N := 15) (rs := [.tmp 4]) (by kernel_rfl) rfl (by kernel_rfl) rfl rfl [(0, .v (.agg (pL l))), (1, .v (.int .u8 v))] ⟨rfl, rfl, aj⟩ rfl rfl ?_
 intro B
 refine ag<|bE 2 [] J J J ⟨J, aj⟩ J J J<|af J<|ab<|ag<|ax c7 J<|aC bm J<|bW J J J J J (fun h7 => ?_) (fun h7 => ?_)
 ·refine aa J<|al J<|al J<|al J<|al J<|al J<|aV J<|af J<|ab<|am ?_
  refine an J J ?_
  simp [gX, *]
 ·refine aa J<|aa J ?_
  refine fR ac J J ed bm J J (IntWalk.i64_in _ ⟨by have := hv.1; omega, by have := hv.2; omega⟩) J J ?_
  refine ax c7 J<|aC bm J<|jr J J J J J J<|aJ J<|af J<|ab<|am ?_
  refine an J J ?_
  simp [gX, *]
theorem EY (a : Aig) (r : List Int) (hl : r.length ≤ 9223372036854775807) : dn 175 [gH r, .ref (eE a)] (.bool (un a r)) := by
 refine bC ac (f := 175) (fn := Tryz.f175) (N := 14) (rs := [.tmp 3]) (by kernel_rfl) rfl (by kernel_rfl) rfl rfl [(0, .v (gH r)), (1, .v (.ref (eE a)))] ⟨rfl, rfl, aj⟩ rfl rfl ?_
 intro B
 refine ag<|af J<|ab<|ag<|aa J<|aI ac J J dd J aB J J<|bU (cs' := eE a) ac J J aK J J J J<|bu bm J<|bt J J J J J (fun h8 => ?_) (fun h8 => ?_)
 ·refine aa J<|al J<|al J<|al J<|aV J<|af J<|ab<|am ?_
  refine an J J ?_
  simp [un, *]
 ·refine aa J<|aa J<|ap [] (u5 r (by omega)) J J J J J J aj (.inl J) J J J ?_
  refine bL J<|aJ J<|af J<|ab<|am ?_
  refine an J J ?_
  simp [un, *]
theorem Fu (a : Aig) (t : dT) (hf : Ir a) (hn : Nn t.ini) (hl1 : t.ini.length ≤ 9223372036854775807) (hl2 : t.ins.length ≤ 9223372036854775807) (hl3 : ∀ r, r ∈ t.ins → r.length ≤ 9223372036854775807) : dn 106 [bq a, sr t] (.bool (i8 a t)) := by
 refine bC ac (f := 106) (fn := Tryz.f106) (N := 48) (rs := [.tmp 4]) (by kernel_rfl) rfl (by kernel_rfl) rfl rfl [(0, .v (bq a)), (1, .v (sr t))] ⟨rfl, rfl, aj⟩ rfl rfl ?_
 intro B
 have hfl := hf.l; have hfb := hf.b
 refine ag<|bE 2 [] J J J ⟨J, aj⟩ J J J<|bE 3 [] J J J ⟨J, aj⟩ J J J<|af J<|ab<|ae<|ag<|ax dF J<|aC bm J<|bj J (fun h8 => ?_) (fun h8 => ?_)
 ·refine aa J<|al J<|al J<|al J<|al J<|al J<|al J<|aV J<|aa J<|al J<|al J<|al J<|al J<|aV J<|aa J<|al J ?_
  refine al J<|al J<|al J<|aV J<|aa J<|al J<|al J<|al J<|al J<|aV J<|ab<|ai J<|ag<|af J ?_
  refine ab<|am<|au (an J J ?_)
  first | (rw [cS (by omega) (by omega) (by omega) (by omega) h32, h40]; done) | (rw [cS (by omega) (by omega) (by omega) (by omega) h32, h40]; rfl) | (rw [dH (fun h => Bool.false_ne_true (h32.symm.trans h.it))]; done) | (rw [dH (fun h => by have q1 := h.b0; have q2 := h.b1; have q3 := h.n0; have q4 := h.n1; have q5 := h.it; omega)]; done)
 ·refine aa J<|ax dF J<|aC bm J<|ax aK J<|aC br J<|aI ac J J br J aB J J<|bY J J J J J (fun h15 => ?_) (fun h15 => ?_)
  ·refine aJ J<|aa J<|al J<|al J<|al J<|al J<|aV J<|aa J<|al J<|al J<|al J<|al J<|aV J<|aa J<|al J<|al J ?_
   refine al J<|al J<|aV J<|ab<|ai J<|ag<|af J<|ab<|am<|au (an J J ?_)
   first | (rw [cS (by omega) (by omega) (by omega) (by omega) h32, h40]; done) | (rw [cS (by omega) (by omega) (by omega) (by omega) h32, h40]; rfl) | (rw [dH (fun h => Bool.false_ne_true (h32.symm.trans h.it))]; done) | (rw [dH (fun h => by have q1 := h.b0; have q2 := h.b1; have q3 := h.n0; have q4 := h.n1; have q5 := h.it; omega)]; done)
  ·refine aJ J<|aa J<|ax dF J<|aC eB J<|aI ac J J eB J aB J J<|bj J (fun h21 => ?_) (fun h21 => ?_)
   ·refine aJ J<|aa J<|al J<|al J<|al J<|al J<|aV J<|aa J<|al J<|al J<|al J<|al J<|aV J<|ab<|ai J ?_
    refine ag<|af J<|ab<|am<|au (an J J ?_)
    first | (rw [cS (by omega) (by omega) (by omega) (by omega) h32, h40]; done) | (rw [cS (by omega) (by omega) (by omega) (by omega) h32, h40]; rfl) | (rw [dH (fun h => Bool.false_ne_true (h32.symm.trans h.it))]; done) | (rw [dH (fun h => by have q1 := h.b0; have q2 := h.b1; have q3 := h.n0; have q4 := h.n1; have q5 := h.it; omega)]; done)
   ·refine aJ J<|aa J<|ax dF J<|aC eB J<|aI ac J J eB J aB J J<|bW J J J J J (fun h27 => ?_) (fun h27 => ?_)
    ·refine aJ J<|aa J<|al J<|al J<|al J<|al J<|aV J<|ab<|ai J<|ag<|af J<|ab<|am ?_
     refine au (an J J ?_)
     first | (rw [cS (by omega) (by omega) (by omega) (by omega) h32, h40]; done) | (rw [cS (by omega) (by omega) (by omega) (by omega) h32, h40]; rfl) | (rw [dH (fun h => Bool.false_ne_true (h32.symm.trans h.it))]; done) | (rw [dH (fun h => by have q1 := h.b0; have q2 := h.b1; have q3 := h.n0; have q4 := h.n1; have q5 := h.it; omega)]; done)
    ·refine aJ J<|aa J<|ax dF J<|aC dd J<|ap [] (u5 t.ini hl1) J J J J J J aj (.inl J) J J J<|bf (fun h32 => ?_) (fun h32 => ?_)
     ·refine bL J<|aJ J<|ab<|ah J<|ao<|ak<|ae ?_
      have hti := mR h32 hn
      refine aF<|jP J J J J J J<|af J<|ab<|ag<|ax aK J<|aC cR J<|ax dF J<|aC dd J<|ap [] (DV a.l t.ini 151 [] [] gX (by omega) hl1 (fun x y _ hy => zF x y (hti y hy))) J J J J J J aj (.inl J) J J J ?_
      refine bf (fun h40 => ?_) (fun h40 => ?_)
      ·refine aa J<|ax dF J<|aC eB J<|aa J<|ap [(2, _)] (DC t.ins 175 [] [.ref (eE a)] (un a) hl2 (fun x hx => EY a x (hl3 x hx))) J J J J J J ⟨J, aj⟩ (.inr J) J J J<|bL J<|aV J<|af J<|ab<|am ?_
       refine an J J ?_
       first | (rw [cS (by omega) (by omega) (by omega) (by omega) h32, h40]; done) | (rw [cS (by omega) (by omega) (by omega) (by omega) h32, h40]; rfl) | (rw [dH (fun h => Bool.false_ne_true (h32.symm.trans h.it))]; done) | (rw [dH (fun h => by have q1 := h.b0; have q2 := h.b1; have q3 := h.n0; have q4 := h.n1; have q5 := h.it; omega)]; done)
      ·refine aa J<|al J<|al J<|al J<|al J<|al J<|aJ J<|af J<|ab<|am ?_
       refine an J J ?_
       first | (rw [cS (by omega) (by omega) (by omega) (by omega) h32, h40]; done) | (rw [cS (by omega) (by omega) (by omega) (by omega) h32, h40]; rfl) | (rw [dH (fun h => Bool.false_ne_true (h32.symm.trans h.it))]; done) | (rw [dH (fun h => by have q1 := h.b0; have q2 := h.b1; have q3 := h.n0; have q4 := h.n1; have q5 := h.it; omega)]; done)
     ·refine bL J<|aJ J<|ab<|ai J<|ag<|af J<|ab<|am<|au (an J J ?_)
      first | (rw [cS (by omega) (by omega) (by omega) (by omega) h32, h40]; done) | (rw [cS (by omega) (by omega) (by omega) (by omega) h32, h40]; rfl) | (rw [dH (fun h => Bool.false_ne_true (h32.symm.trans h.it))]; done) | (rw [dH (fun h => by have q1 := h.b0; have q2 := h.b1; have q3 := h.n0; have q4 := h.n1; have q5 := h.it; omega)]; done)
theorem Fd (a : Aig) (t : dT) (hb : Bd a) (ho : Okt a t) : qI Tryz.prog 177 [.ref (rz t), .ref (eE a)] ((nX a t.ini t.ins).map qJ) := by
 refine Dl (f := 177) (fn := Tryz.f177) (N := 35) (by kernel_rfl) rfl (by kernel_rfl) rfl rfl (fun l => [(0, .v (.fn (.yield l) [] [])), (1, .v (.ref (rz t))), (2, .v (.ref (eE a)))]) (fun _ => ⟨rfl, rfl, rfl, aj⟩) rfl (fun _ => rfl) ?_
 intro 𝔅 l hy
 refine ag<|bU (cs' := [gH t.ini, pm t.ins]) ac J J dF J J J J<|bu dd J<|af J<|ab<|ag<|bU (cs' := [pm t.ins]) ac J J dF J J J J<|bu eB J<|aI ac J J eB J aB J J<|aa J<|ab<|aw ?_
 refine aZ (α := Nat) (fun j => mk [(0, .v (.fn (.yield l) [] [])), (2, .v (.ref (eE a))), (4, .v (gH (mr a t.ini (t.ins.take j)))), (13, .v (pm t.ins)), (14, .v (.int .i64 t.ins.length)), (15, .v (.int .i64 j))] [] ⟨0, j + 1, []⟩) (fun j => j ≤ t.ins.length) (fun j => t.ins.length - j) 0 (Nat.zero_le _) (aL ⟨J, J, J, J, J, J, aj⟩ aj J J J J) ?_
 rintro j hinv
 have hn1 := ho.r.n1
 have hat := ho.at j
 refine ag<|bj J (fun h16 => ?_) (fun h16 => ?_)
 ·refine ab<|ae<|ai J<|ao<|ak<|ae<|aw<|ag<|cj eB dd J (by omega) (bz (n := j) (by omega)) J ?_
  refine bu dd J<|af J<|ab<|ag<|cZ (cs' := eE a) ac J J aK J J J J J<|aa J<|aa J ?_
  refine ap [] (Ee a (mr a t.ini (t.ins.take j)) (t.ins.getD j default) hb hat.2.nn (ho.row (by omega)).2.nn (by have := hat.1; have := hb.l1; omega) (by have := (ho.row (j := j) (by omega)).1; have := hb.i1; omega)) J J J J J J aj (.inl rfl) J J J ?_
  refine aa J<|aW J<|aW J<|aW J<|bl (id := 8) lB J<|af J<|aR lB [] J aj J<|af J<|ab<|ae<|ag<|aa J<|aa J<|a7 lB J ?_
  refine bD [] ac J sX J J aj J J J J J J ?_
  refine y9 (j := j) hy (Fl a t.ini t.ins j (by omega)) J J J J J J J J J ?_ ?_
  ·refine bL J<|ab<|ah J<|ao<|ak<|aF<|aa J<|af J<|ar<|aH<|ak<|aF<|bh J (by omega) (by omega) J ?_
   refine aa J<|ar ?_
   exact aT (j + 1) (by omega) (by omega) (aL ⟨rfl, rfl, (Dp rfl (by rw [lg (by omega), qB])), rfl, rfl, rfl, aj⟩ aj rfl rfl rfl rfl)
  ·refine bL J<|ab<|ai J<|am ?_
   exact au (az (au (bR (az (⟨J, .inr J⟩)))))
 ·refine ab<|ae<|ah J<|aO<|ba (a8 (aP ?_))
  refine ⟨rfl, .inl ?_⟩
  show _ = ((nX a t.ini t.ins).map qJ).length + 1
  rw [List.length_map, oh]
  simp [mk]
  omega
theorem E5 (a : Aig) (t : dT) : dn 107 [bq a, sr t] (.fn (.func 177) [] [.ref (rz t), .ref (eE a)]) := by
 refine bC ac (f := 107) (fn := Tryz.f107) (N := 6) (rs := [.tmp 4]) (by kernel_rfl) rfl (by kernel_rfl) rfl rfl [(0, .v (bq a)), (1, .v (sr t))] ⟨rfl, rfl, aj⟩ rfl rfl ?_
 intro B
 refine ag<|bE 2 [] J J J ⟨J, aj⟩ J J J<|bE 3 [] J J J ⟨J, aj⟩ J J J<|nv J J J<|ab<|ag<|jP J J J J J J<|af J<|ab<|am ?_
 refine an J J ?_
 rfl
theorem Hf {fs : List StepT} {k : Nat} {x : List V} (h : (fs.map qJ)[k]? = some x) : k < fs.length ∧ qJ (fs.getD k default) = x := by
 rw [List.getElem?_map, Option.map_eq_some_iff] at h
 obtain ⟨p, h1, rfl⟩ := h
 have hlt := (List.getElem?_eq_some_iff.1 h1).1
 refine ⟨hlt, ?_⟩
 rw [List.getD_eq_getElem?_getD, h1]; rfl
def vx (f : StepT) : Bool := f.c.all fun x => decide (x = 1)
def dM (k : Nat) (bad : Int) : List StepT → Int
 | [] => bad
 | f :: fs => if vx f then dM k (f.b.getD k default) fs else 0
def db (a : Aig) (t : dT) : Int := if i8 a t then (if dM t.bad.toNat 0 (nX a t.ini t.ins) = 1 then 0 else 8) else 7
theorem gz {a : Aig} {t : dT} (h : i8 a t = false) : db a t = 7 := by simp only [db]; rw [if_neg (by rw [h]; exact Bool.false_ne_true)]
theorem iR {a : Aig} {t : dT} (h : i8 a t = true) (h' : dM t.bad.toNat 0 (nX a t.ini t.ins) = 1) : db a t = 0 := by simp only [db]; rw [if_pos h, if_pos h']
theorem ew {a : Aig} {t : dT} (h : i8 a t = true) (h' : ¬ dM t.bad.toNat 0 (nX a t.ini t.ins) = 1) : db a t = 8 := by simp only [db]; rw [if_pos h, if_neg h']
theorem mO {f : StepT} {i : Nat} (h : i < f.c.length) (h' : f.c.getD i default ≠ 1) : vx f = false := by
 simp only [vx]
 cases hb : (f.c.all fun x => decide (x = 1)) with
 | false => rfl
 | true =>
   have := List.all_eq_true.1 hb _ (cP h)
   exact absurd (of_decide_eq_true this) h'
theorem BM {f : StepT} (h : ∀ q, q < f.c.length → f.c.getD q default = 1) : vx f = true := List.all_eq_true.2 fun x hx => by
 obtain ⟨q, hq, rfl⟩ := List.getElem_of_mem hx
 have := h q hq
 rw [List.getD_eq_getElem?_getD, List.getElem?_eq_getElem hq] at this
 exact decide_eq_true this
theorem tP {k j : Nat} {bad : Int} {fs : List StepT} (h : j < fs.length) (hc : vx (fs.getD j default) = true) : dM k bad (fs.drop j) = dM k ((fs.getD j default).b.getD k default) (fs.drop (j + 1)) := by
 rw [oW h, dM, if_pos hc]
theorem ig {k j : Nat} {bad : Int} {fs : List StepT} (h : j < fs.length) (hc : vx (fs.getD j default) = false) : dM k bad (fs.drop j) = 0 := by
 rw [oW h, dM, if_neg (by rw [hc]; exact Bool.false_ne_true)]
theorem Okt.fb {a : Aig} {t : dT} (h : Okt a t) {k : Nat} (hk : k < t.ins.length) : ((nX a t.ini t.ins).getD k default).b.length = a.bad.length ∧ ((nX a t.ini t.ins).getD k default).c.length = a.con.length := by
 rw [se a t.ins t.ini k hk]
 have := yx (h.shape hk)
 exact ⟨this.2.2.1, this.2.2.2⟩
theorem GG (a : Aig) (t : dT) (hf : Ir a) (hb : Bd a) (hz : IA t) (hn : Nn t.ini) (hn2 : ∀ r, r ∈ t.ins → Nn r) : dn 57 [bq a, sr t] (.int .i64 (db a t)) := by
 refine bC ac (f := 57) (fn := Tryz.f57) (N := 37) (rs := [.tmp 4]) (by kernel_rfl) rfl (by kernel_rfl) rfl rfl [(0, .v (bq a)), (1, .v (sr t))] ⟨rfl, rfl, aj⟩ rfl rfl ?_
 intro B
 refine ag<|bE 2 [] J J J ⟨J, aj⟩ J J J<|bE 3 [] J J J ⟨J, aj⟩ J J J<|af J<|ab<|zv<|ae<|ag<|a7 aK J<|a7 dF J ?_
 refine ap [] (Fu a t hf hn (by have := hz.il; omega) (by have := hz.nl; omega) (fun r hr => by have := hz.rl r hr; omega)) J J J J J J aj (.inl rfl) J J J ?_
 refine bf (fun h11 => ?_) (fun h11 => ?_)
 ·refine bL J<|ab<|ah J<|ao<|ak<|ae ?_
  have ho := DB (rightT_iff.1 h11) hn hn2
  refine aF<|bl (id := 5) ed J<|aR ed [] J aj J<|ab<|ae<|zY<|ak<|ae<|ag<|a7 aK J<|a7 dF J<|ap [] (E5 a t) J J J J J J aj (.inl J) J J J<|ab ?_
  refine aw ?_
  refine tO (α := Int) (Fd a t hb ho) (fun x hx => by obtain ⟨p, _, rfl⟩ := List.mem_map.1 hx; rfl) [(2, .ptr 2 0), (3, .ptr 3 0), (4, .v (.int .i64 0)), (5, .ptr 5 0), (15, .v (.fn (.func 177) [] [.ref (rz t), .ref (eE a)]))] [2, 3, 5] (fun y => [(2, .box ((eE a).map .v)), (3, .box ((rz t).map .v)), (5, .box [.v (.int .u8 y)])]) (fun k y => k ≤ (nX a t.ini t.ins).length ∧ dM t.bad.toNat 0 (nX a t.ini t.ins) = dM t.bad.toNat y ((nX a t.ini t.ins).drop k)) 0 0 0 ⟨Nat.zero_le _, J⟩ (aL ⟨rfl, rfl, rfl, rfl, rfl, aj⟩ ⟨rfl, rfl, rfl, aj⟩ rfl rfl rfl rfl) J J J (fun _ => rfl) ?_ ?_
  ·rintro l β k x y hx ⟨hk1, hk2⟩ 𝔅1
   obtain ⟨hk4, rfl⟩ := Hf hx
   have hk5 := oh a t.ins t.ini
   have hk6 := ho.r.n1
   have hk7 := ho.fb (k := k) (by omega)
   have hk8 := ho.r.b0; have hk9 := ho.r.b1
   have hk10 := hb.c1
   refine aF<|bl (id := 6) sX J<|aR sX [] J aj J<|ar<|zU J ?_
   intro 𝔅2
   refine aw<|ag<|ax sX J<|cI ac J J J J lB J dd (by omega) (by omega) J J J J ?_
   refine aC dd J<|ax dF J<|aC bm J<|cj dd ed J hk8 (bz (n := t.bad.toNat) (by omega)) J ?_
   refine bu ed J<|aR ed [] J aj J<|ab<|ag<|ax sX J<|cI ac J J J J lB J dd (by omega) (by omega) J J J J ?_
   refine aC dd J<|aI ac J J dd J aB J J<|aa J<|ab<|aw<|aZ (α := Nat) (fun i => mk [(2, .ptr 2 0), (3, .ptr 3 0), (4, .v (.int .i64 0)), (5, .ptr 5 0), (15, .v (.fn (.func 177) [] [.ref (rz t), .ref (eE a)])), (26, .v (gH ((nX a t.ini t.ins).getD k default).c)), (27, .v (.int .i64 (((nX a t.ini t.ins).getD k default).c.length : Nat))), (28, .v (.int .i64 i))] [(2, .box ((eE a).map .v)), (3, .box ((rz t).map .v)), (5, .box [.v (.int .u8 (((nX a t.ini t.ins).getD k default).b.getD t.bad.toNat default))])] ⟨0, 0, cK [2, 3, 5] β⟩) (fun i => i ≤ ((nX a t.ini t.ins).getD k default).c.length ∧ ∀ q, q < i → ((nX a t.ini t.ins).getD k default).c.getD q default = 1) (fun i => ((nX a t.ini t.ins).getD k default).c.length - i) 0 ⟨Nat.zero_le _, fun q h => absurd h (Nat.not_lt_zero q)⟩ (aL ⟨J, J, J, J, J, J, J, J, aj⟩ ⟨J, J, J, aj⟩ J J J J) ?_
   rintro i ⟨hq1, hq2⟩
   refine ag<|bj J (fun h29 => ?_) (fun h29 => ?_)
   ·refine ab<|ae<|ai J<|ao<|ak<|ae<|aw<|ag<|cj dd ed J (by omega) (bz (n := i) (by omega)) J ?_
    refine bu ed J<|af J<|ab<|ag<|aa J<|bt J J J J J (fun h33 => ?_) (fun h33 => ?_)
    ·refine ab<|ai J<|ag<|aR ed [] J aj J<|ab<|aO<|ir J (ba (a8 (ir J (ir J (A5 [(2, .box ((eE a).map .v)), (3, .box ((rz t).map .v)), (5, .box [.v (.int .u8 0)])] J (aL ⟨J, J, J, J, J, aj⟩ ⟨J, J, J, aj⟩ J J J J) ?_)))))
     refine aP<|ak<|ae<|ag<|aC ed J<|bt J J J J J (fun h36 => ?_) (fun h36 => ?_)
     ·refine ab<|ai J<|ag<|af J<|ab<|am<|au (oM (an J J ?_))
      first | (rw [gz h11]; done) | exact absurd (show (0 : Int) ≠ 1 by decide) h36 | (rw [ew h11 (by rw [hk2, ig hk4 (mO (by omega) h33)]; decide)]; done) | (rw [ew h11 (by rw [hk2, List.drop_eq_nil_of_le (by rw [List.length_map]; exact Nat.le_refl _), dM]; exact h36)]; done) | (rw [iR h11 (by rw [hk2, List.drop_eq_nil_of_le (by rw [List.length_map]; exact Nat.le_refl _), dM]; exact Decidable.not_not.1 h36)]; done)
     ·refine ab<|ah J<|ao<|ak<|ag<|af J<|ab<|am<|oM (an J J ?_)
      first | (rw [gz h11]; done) | exact absurd (show (0 : Int) ≠ 1 by decide) h36 | (rw [ew h11 (by rw [hk2, ig hk4 (mO (by omega) h33)]; decide)]; done) | (rw [ew h11 (by rw [hk2, List.drop_eq_nil_of_le (by rw [List.length_map]; exact Nat.le_refl _), dM]; exact h36)]; done) | (rw [iR h11 (by rw [hk2, List.drop_eq_nil_of_le (by rw [List.length_map]; exact Nat.le_refl _), dM]; exact Decidable.not_not.1 h36)]; done)
    ·refine ab<|ah J<|ao<|aH<|ak<|aF<|bh J (by omega) (by omega) J ?_
     refine aa J<|ar ?_
     exact aT (i + 1) ⟨by omega, fun q hq => (Nat.lt_succ_iff_lt_or_eq.1 hq).elim (hq2 q) (fun e => e ▸ Decidable.not_not.1 h33)⟩ (by omega) (aL ⟨J, J, J, J, J, J, J, J, aj⟩ ⟨J, J, J, aj⟩ J J J J)
   ·refine ab<|ae<|ah J<|aO<|ba (a8 (aP ?_))
    refine aH ?_
    exact BH (((nX a t.ini t.ins).getD k default).b.getD t.bad.toNat default) ⟨hk4, by rw [hk2, tP hk4 (BM (fun q hq => hq2 q (by omega)))]⟩ (aL ⟨rfl, rfl, rfl, rfl, rfl, aj⟩ ⟨rfl, rfl, rfl, aj⟩ rfl rfl rfl rfl)
  ·rintro y ⟨hk1, hk2⟩
   refine aH<|ak<|ae<|ag<|aC ed J<|bt J J J J J (fun h36 => ?_) (fun h36 => ?_)
   ·refine ab<|ai J<|ag<|af J<|ab<|am<|au (oM (an J J ?_))
    first | (rw [gz h11]; done) | exact absurd (show (0 : Int) ≠ 1 by decide) h36 | (rw [ew h11 (by rw [hk2, ig hk4 (mO (by omega) h33)]; decide)]; done) | (rw [ew h11 (by rw [hk2, List.drop_eq_nil_of_le (by rw [List.length_map]; exact Nat.le_refl _), dM]; exact h36)]; done) | (rw [iR h11 (by rw [hk2, List.drop_eq_nil_of_le (by rw [List.length_map]; exact Nat.le_refl _), dM]; exact Decidable.not_not.1 h36)]; done)
   ·refine ab<|ah J<|ao<|ak<|ag<|af J<|ab<|am<|oM (an J J ?_)
    first | (rw [gz h11]; done) | exact absurd (show (0 : Int) ≠ 1 by decide) h36 | (rw [ew h11 (by rw [hk2, ig hk4 (mO (by omega) h33)]; decide)]; done) | (rw [ew h11 (by rw [hk2, List.drop_eq_nil_of_le (by rw [List.length_map]; exact Nat.le_refl _), dM]; exact h36)]; done) | (rw [iR h11 (by rw [hk2, List.drop_eq_nil_of_le (by rw [List.length_map]; exact Nat.le_refl _), dM]; exact Decidable.not_not.1 h36)]; done)
 ·refine bL J<|ab<|ai J<|ag<|af J<|ab<|am<|au (oM (an J J ?_))
  first | (rw [gz h11]; done) | exact absurd (show (0 : Int) ≠ 1 by decide) h36 | (rw [ew h11 (by rw [hk2, ig hk4 (mO (by omega) h33)]; decide)]; done) | (rw [ew h11 (by rw [hk2, List.drop_eq_nil_of_le (by rw [List.length_map]; exact Nat.le_refl _), dM]; exact h36)]; done) | (rw [iR h11 (by rw [hk2, List.drop_eq_nil_of_le (by rw [List.length_map]; exact Nat.le_refl _), dM]; exact Decidable.not_not.1 h36)]; done)
end Go.Vd
namespace Go.Vd
open Go.Proofs Go.RowKit
def kT (c : UInt8) : Int := if oB c = 3 then -1 else oB c
def cW (b : List UInt8) (x : At) : Int := if x.p < b.length then kT (b.getD x.p 0) else -1
theorem C9 (c : UInt8) : -1 ≤ kT c ∧ kT c ≤ 2 := by have := q9 c; unfold kT; split <;> omega
theorem Db (b : List UInt8) (x : At) : -1 ≤ cW b x ∧ cW b x ≤ 2 ∧ (cW b x = -1 ∨ x.p < b.length) := by
 unfold cW
 split
 ·exact ⟨(C9 _).1, (C9 _).2, .inr (by assumption)⟩
 ·exact ⟨by decide, by decide, .inl rfl⟩
theorem xJ (c : UInt8) : Lib.indexByte [48, 49, 120] c = kT c := by
 have h : ∀ n : Fin 256, Lib.indexByte [48, 49, 120] (UInt8.ofNat n.val) = kT (UInt8.ofNat n.val) := by decide +kernel
 have := h ⟨c.toNat, c.toNat_lt⟩
 simpa using this
theorem BI (c : UInt8) : dn 158 [.str (bs [48, 49, 120]), .int .u8 c.toNat] (.int .i64 (kT c)) := by
 refine ⟨cJ (fn := Tryz.f158) (by kernel_rfl) rfl (by kernel_rfl), fun w im us hG hp => ?_⟩
 obtain ⟨u, v, rfl, hu, hv⟩ := GL hp
 cases hu.str_inv; cases hv.int_inv
 refine (Tryz.strings_IndexByte (bs [48, 49, 120]) (c.toNat : Nat) w).mono ?_
 rintro e w' ⟨rfl, rfl⟩
 have : ((c.toNat : Int)).toNat.toUInt8 = c := by simp
 rw [od, this, xJ]
 exact ⟨_, rfl, Below.refl _ _, .int _ _⟩
def eU (b : List UInt8) (may : Nat → Int → Bool) : Nat → Nat → At → List Int → List Int × At
 | 0, _, x, out => (out, bS b x [10])
 | n + 1, j, x, out => if x.bad = 0 then (if cW b x < 0 ∨ may j (cW b x) = false then ([], ⟨x.p, 2⟩) else eU b may n (j + 1) ⟨x.p + 1, x.bad⟩ (out ++ [cW b x])) else (out, bS b x [10])
theorem mS {b : List UInt8} {may : Nat → Int → Bool} {n j : Nat} {x : At} {out : List Int} (h : x.bad ≠ 0) : eU b may n j x out = (out, bS b x [10]) := by
 cases n with
 | zero => rfl
 | succ n => unfold eU; rw [if_neg h]
theorem qp {b : List UInt8} {may : Nat → Int → Bool} {n j : Nat} {x : At} {out : List Int} (h : x.bad = 0) : eU b may (n + 1) j x out = if cW b x < 0 ∨ may j (cW b x) = false then ([], ⟨x.p, 2⟩) else eU b may n (j + 1) ⟨x.p + 1, x.bad⟩ (out ++ [cW b x]) := by
 show (if x.bad = 0 then _ else _) = _
 rw [if_pos h]
theorem og {b : List UInt8} {may : Nat → Int → Bool} : ∀ {n j : Nat} {x : At} {out : List Int}, x.p ≤ b.length → TriL out → (eU b may n j x out).2.p ≤ b.length ∧ (x.bad ≠ 0 → (eU b may n j x out).2.bad ≠ 0) ∧ TriL (eU b may n j x out).1 ∧ (eU b may n j x out).1.length ≤ out.length + n
 | 0, _, x, _, h, ht => ⟨cE h, fun h => fX h, ht, Nat.le_refl _⟩
 | n + 1, j, x, out, h, ht => by
   by_cases hx : x.bad = 0
   ·rw [qp hx]
    have hb := Db b x
    split
    ·exact ⟨h, fun h => absurd hx h, TriL.nil, Nat.zero_le _⟩
    ·rename_i hc
     have h1 : ¬ cW b x < 0 := fun h => hc (.inl h)
     have hr := og (b := b) (may := may) (n := n) (j := j + 1) (x := ⟨x.p + 1, x.bad⟩) (out := out ++ [cW b x]) (by show x.p + 1 ≤ _; omega) (ht.append (TriL.cons ⟨by omega, hb.2.1⟩ TriL.nil))
     refine ⟨hr.1, fun h => absurd hx h, hr.2.2.1, ?_⟩
     have := hr.2.2.2
     rw [List.length_append] at this
     simp at this
     omega
   ·rw [mS hx]; exact ⟨cE h, fun h => fX h, ht, Nat.le_add_right _ _⟩
abbrev AT (b : List UInt8) (x : At) : Blk := .box [.v (cH b), .v (.int .i64 x.p), .v (.int .i64 x.bad)]
theorem sn (b s : List UInt8) (x : At) (h : x.p ≤ b.length) (hb : b.length ≤ 1000000000000) (hs : s.length ≤ 1000000000000) : dh Tryz.prog 148 [.ptr 900 0, .v (.str (bs s))] [(900, .box [.v (cH b), .v (.int .i64 x.p), .v (.int .i64 x.bad)])] (.ret (.tup []) [(900, AT b (bS b x s))]) := by
 refine cY ac (f := 148) (fn := Tryz.f148) (N := 33) (rs := []) (by kernel_rfl) rfl (by kernel_rfl) rfl rfl rfl ?_
 intro B β
 refine cT [(0, .ptr 900 0), (1, .v (.str (bs s)))] [(900, .box [.v (cH b), .v (.int .i64 x.p), .v (.int .i64 x.bad)])] ⟨J, J, aj⟩ ⟨J, aj⟩ J J J J<|ae<|ag<|aa J<|bJ J<|ax dN J<|aC mI J<|bt J J J J J (fun h10 => ?_) (fun h10 => ?_)
 ·refine ab<|ai J<|am<|au (eo (L' := [(900, _)]) J (fa J) ⟨J, aj⟩ J J J J ?_)
  unfold bS
  simp_all; done
 ·refine ab<|ah J<|ao<|ak<|ae<|aS (L := [([], []), ([900], []), ([900], []), ([900], []), ([], []), ([900], []), ([900], []), ([900], []), ([], []), ([], []), ([], []), ([], []), ([], []), ([], []), ([], [])]) (by kernel_rfl) mixed (by kernel_rfl)<|aa J<|bJ J<|ax dN J<|aC bG J<|aa J<|bJ J<|ax dN J<|aC bm J<|aa J ?_
  refine ap [] (o5 b s x.p h hb hs) J J J J J J aj (.inl J) J J J<|aa J<|aW J<|aW J<|bf (fun h23 => ?_) (fun h23 => ?_)
  ·refine af J<|af J<|ab<|ag<|aa J<|aa J<|bJ J<|ax dN J<|aR bm [] J aj J<|ab<|ag<|aa J ?_
   refine bL J<|ab<|ah J<|ao ?_
   refine me (L' := [(900, _)]) rfl (fa rfl) ⟨rfl, aj⟩ rfl rfl rfl rfl ?_
   unfold bS
   simp_all; rfl
  ·refine af J<|af J<|ab<|ag<|aa J<|aa J<|bJ J<|ax dN J<|aR bm [] J aj J<|ab<|ag<|aa J ?_
   refine bL J<|ab<|ai J<|aF<|aa J<|bJ J<|ax dN J<|aR mI [] J aj J<|ar ?_
   refine me (L' := [(900, _)]) rfl (fa rfl) ⟨rfl, aj⟩ rfl rfl rfl rfl ?_
   unfold bS
   simp_all; rfl
theorem wO {z : Int} (h0 : 0 ≤ z) (h1 : z ≤ 2) : IntKind.u8.wrap z = z := by simp [IntKind.wrap, IntKind.bits, IntKind.signed]; omega
theorem Aa (b : List UInt8) (x : At) (h : x.p ≤ b.length) (hb : b.length ≤ 1000000000000) (may : Nat → Int → Bool) (f : FuncId) (fi ca : List V) (n : Nat) (hn : n ≤ 1000000) (hc : ∀ (i : Nat) (v : Int), i < n → Tri v → PCall Tryz.prog f (fi ++ [.int .i64 i, .int .u8 v] ++ ca) (.bool (may i v))) : dh Tryz.prog 149 [.ptr 900 0, .v (.int .i64 n), .v (.fn (.func f) fi ca)] [(900, .box [.v (cH b), .v (.int .i64 x.p), .v (.int .i64 x.bad)])] (.ret (.v (gH (eU b may n 0 x []).1)) [(900, AT b (eU b may n 0 x []).2)]) := by
 refine cY ac (f := 149) (fn := Tryz.f149) (N := 71) (rs := [.tmp 6]) (by kernel_rfl) rfl (by kernel_rfl) rfl rfl rfl ?_
 intro B β
 refine cT [(0, .ptr 900 0), (1, .v (.int .i64 n)), (2, .v (.fn (.func f) fi ca))] [(900, .box [.v (cH b), .v (.int .i64 x.p), .v (.int .i64 x.bad)])] ⟨J, J, J, aj⟩ ⟨J, aj⟩ J J J J<|ag<|af J<|ab<|ag<|af J<|ab<|ae<|ag<|af J<|ar ?_
 refine ak<|aw<|cg (gJ (t := 7) (id := 7) (e := 92) (sz := 1) J J (by decide)) ?_
 refine aZ (α := Nat × At × List Int) (fun ⟨j, y, out⟩ => mk [(0, .ptr 900 0), (1, .v (.int .i64 n)), (2, .v (.fn (.func f) fi ca)), (7, .own 7), (8, .v (.int .i64 j))] [(900, .box [.v (cH b), .v (.int .i64 y.p), .v (.int .i64 y.bad)]), (7, .row 92 1 (out.map lA))] ⟨0, 0, [(900, β 900)]⟩) (fun ⟨j, y, out⟩ => j ≤ n ∧ y.p ≤ b.length ∧ eU b may (n - j) j y out = eU b may n 0 x [] ∧ out.length ≤ j) (fun ⟨j, y, out⟩ => n - j) ⟨0, x, []⟩ ⟨Nat.zero_le _, h, J, Nat.le_refl _⟩ (aL ⟨J, J, J, J, J, aj⟩ ⟨J, J, aj⟩ J J J J) ?_
 rintro ⟨j, y, out⟩ ⟨hj1, hj2, hj3, hj4⟩
 refine ae<|ag<|aa J<|aa J<|bj J (fun h12 => ?_) (fun h12 => ?_)
 ·refine aa J<|aa J<|bJ J<|ax dN J<|aC mI J<|bc J J J J J (fun h18 => ?_) (fun h18 => ?_)
  ·refine aV J<|ab<|ai J<|ao<|ak<|ae<|aw<|ag<|af J<|ab<|gN (α := Unit) (fun _ => mk [(0, .ptr 900 0), (1, .v (.int .i64 n)), (2, .v (.fn (.func f) fi ca)), (7, .own 7), (8, .v (.int .i64 j)), (9, .v (.int .i64 (cW b y)))] [(900, .box [.v (cH b), .v (.int .i64 y.p), .v (.int .i64 y.bad)]), (7, .row 92 1 (out.map lA))] ⟨0, 0, [(900, β 900)]⟩) (fun _ => True) ?_ ?_
   ·refine ae<|aS (L := [([], []), ([900], []), ([900], []), ([900], []), ([], []), ([900], []), ([900], []), ([900], []), ([], []), ([], [])]) (by kernel_rfl) mixed (by kernel_rfl)<|aa J<|bJ J<|ax dN J<|aC bm J<|aa J<|bJ J<|ax dN J<|aC bG J<|aI ac J J bG J aB J J<|bj J (fun h31 => ?_) (fun h31 => ?_)
    ·refine ab<|ai J<|aS (L := [([], []), ([900], []), ([900], []), ([900], []), ([], []), ([900], []), ([900], []), ([900], []), ([], []), ([], []), ([], []), ([], [])]) (by kernel_rfl) mixed (by kernel_rfl)<|aa J<|bJ J<|ax dN J<|aC bG J<|aa J<|bJ J<|ax dN J<|aC bm J<|cj bG eK J (by omega) (ek (n := y.p) (by omega)) J ?_
     refine bu eK J<|ap [] (BI (b.getD y.p 0)) J J J J J J aj (.inl J) J J J<|af J<|ar ?_
     exact cX () aj (aL ⟨rfl, rfl, rfl, rfl, rfl, (fJ rfl (by unfold cW; first | (rw [if_pos (by omega)]; done) | (rw [if_neg (by omega)]; done))), aj⟩ ⟨rfl, rfl, aj⟩ rfl rfl rfl rfl)
    ·refine ab<|ah J<|ao ?_
     exact cX () aj (aL ⟨rfl, rfl, rfl, rfl, rfl, (fJ rfl (by unfold cW; first | (rw [if_pos (by omega)]; done) | (rw [if_neg (by omega)]; done))), aj⟩ ⟨rfl, rfl, aj⟩ rfl rfl rfl rfl)
   ·intro _ _
    have hv := Db b y
    have hun := qp (b := b) (may := may) (n := n - (j + 1)) (j := j) (out := out) h18
    rw [show n - (j + 1) + 1 = n - j by omega, hj3] at hun
    refine ae<|ag<|aa J<|bj J (fun h44 => ?_) (fun h44 => ?_)
    ·refine aa J<|al J<|al J<|al J<|al J<|al J<|al J<|aV J<|ab<|ai J<|ag<|aa J<|bJ J<|ax dN J ?_
     refine aR mI [] J aj J<|ab<|ag<|af J<|ab<|cg (rn (t := 6) J)<|cT [(6, .v (.sl []))] [(900, .box [.v (cH b), .v (.int .i64 y.p), .v (.int .i64 2)])] ⟨J, aj⟩ ⟨J, aj⟩ J J J J<|am<|au (az (au (bR (az (au (eo (L' := [(900, _)]) J (.inl J) ⟨J, aj⟩ J J J J ?_))))))
     rw [hun, if_pos (Or.inl (by omega))]; rfl
    ·refine aa J<|aa J<|aa J<|aa J<|fR ac J J bm ed J J (wO (by omega) (by omega)) J J ?_
     refine ap [] (hc j (cW b y) (by omega) ⟨by omega, by omega⟩) J J J J J J aj (.inl rfl) J J J ?_
     refine bf (fun h50 => ?_) (fun h50 => ?_)
     ·refine bL J<|aJ J<|ab<|ah J<|ao<|ak<|ag<|aa J<|aa J<|fR ac J J bm ed J J (wO (by omega) (by omega)) J J ?_
      refine bZ (es := [cW b y].map lA) dd ed [] J aj J ?_
      refine cw 60 [] ac J dd J dd J ed J J J J ⟨J, J, aj⟩ J (elOk.cons rfl rfl elOk.nil) cA (by constructor <;> simp <;> omega) J J J ?_
      refine af J<|ab ?_
      have hstep : eU b may (n - (j + 1)) (j + 1) ⟨y.p + 1, y.bad⟩ (out ++ [cW b y]) = eU b may n 0 x [] := by (rw [hun, if_neg (fun h => h.elim (fun h => by omega) (fun h => by rw [h50] at h; cases h))])
      refine aF<|aa J<|bJ J<|ax dN J<|aC bm J<|bh J (by omega) (by omega) J ?_
      refine bJ J<|ax dN J<|aR bm [] J aj J<|ar<|aH<|ak<|aF<|aa J<|bh J (by omega) (by omega) J ?_
      refine af J<|ar ?_
      exact aT ⟨j + 1, ⟨y.p + 1, y.bad⟩, out ++ [cW b y]⟩ ⟨by show j + 1 ≤ _; omega, by show y.p + 1 ≤ _; omega, hstep, by simp; omega⟩ (by show n - (j + 1) < n - j; omega) (cd [(7, 60)] ⟨J, J, J, J, J, aj⟩ ⟨J, J, aj⟩ J J J J J)
     ·refine bL J<|aJ J<|ab<|ai J<|ag<|aa J<|bJ J<|ax dN J<|aR mI [] J aj J<|ab<|ag<|af J ?_
      refine ab<|cg (rn (t := 6) J)<|cT [(6, .v (.sl []))] [(900, .box [.v (cH b), .v (.int .i64 y.p), .v (.int .i64 2)])] ⟨J, aj⟩ ⟨J, aj⟩ J J J J<|am<|au (az (au (bR (az (au (eo (L' := [(900, _)]) J (.inl J) ⟨J, aj⟩ J J J J ?_))))))
      rw [hun, if_pos (Or.inr h50)]; rfl
  ·refine aV J<|ab<|ah J<|aO<|ba (a8 (aP ?_))
   refine ak<|ag<|aa J<|er [(7, .own 7)] [(7, .row 92 1 (out.map lA))] (sn b [10] y hj2 hb (by decide)) J J J J ⟨J, aj⟩ J J J J ⟨J, aj⟩ ⟨J, aj⟩ J J J J J J J J ?_
   refine ab<|ae<|cg (bp (id := 7) J)<|cT [(7, .v (gH out))] [(900, .box [.v (cH b), .v (.int .i64 ((bS b y [10]).p : Nat)), .v (.int .i64 (bS b y [10]).bad)])] ⟨J, aj⟩ ⟨J, aj⟩ J J J J<|aF<|aa J<|af J<|ab<|am ?_
   refine eo (L' := [(900, _)]) J (.inl rfl) ⟨J, aj⟩ J J J J ?_
   first
    | (rw [hun, if_pos (Or.inl (by omega))]; rfl)
    | (rw [hun, if_pos (Or.inr h50)]; rfl)
    | (have e : eU b may n 0 x [] = (out, bS b y [10]) := by
        rw [← hj3]
        first
         | (rw [show n - j = 0 by omega]; rfl)
         | exact mS (by assumption)
       rw [e])
 ·refine aa J<|al J<|al J<|al J<|al J<|al J<|aJ J<|ab<|ah J<|aO<|ba (a8 (aP ?_))
  refine ak<|ag<|aa J<|er [(7, .own 7)] [(7, .row 92 1 (out.map lA))] (sn b [10] y hj2 hb (by decide)) J J J J ⟨J, aj⟩ J J J J ⟨J, aj⟩ ⟨J, aj⟩ J J J J J J J J ?_
  refine ab<|ae<|cg (bp (id := 7) J)<|cT [(7, .v (gH out))] [(900, .box [.v (cH b), .v (.int .i64 ((bS b y [10]).p : Nat)), .v (.int .i64 (bS b y [10]).bad)])] ⟨J, aj⟩ ⟨J, aj⟩ J J J J<|aF<|aa J<|af J<|ab<|am ?_
  refine eo (L' := [(900, _)]) J (.inl rfl) ⟨J, aj⟩ J J J J ?_
  first
   | (rw [hun, if_pos (Or.inl (by omega))]; rfl)
   | (rw [hun, if_pos (Or.inr h50)]; rfl)
   | (have e : eU b may n 0 x [] = (out, bS b y [10]) := by
       rw [← hj3]
       first
        | (rw [show n - j = 0 by omega]; rfl)
        | exact mS (by assumption)
      rw [e])
end Go.Vd
namespace Go.Vd
open Go.Proofs Go.RowKit
def m8 (a : Aig) (i : Nat) (v : Int) : Bool := gX (a.l.getD i default) v
structure ri (a : Aig) (b : List UInt8) (t : dT) : Prop where
 bad : qs b ((a.bad.length : Int) - 1) t.bad
 ini : TriL t.ini
 ins : ∀ r, r ∈ t.ins → TriL r
 il : t.ini.length ≤ 1000000
 nl : t.ins.length ≤ 200
 rl : ∀ r, r ∈ t.ins → r.length ≤ 1000000
theorem Fp (a : Aig) (i : Nat) (v : Int) (hi : i < a.l.length) (hv : Tri v) : dn 150 [.int .i64 i, .int .u8 v, .ref (eE a)] (.bool (m8 a i v)) := by
 refine bC ac (f := 150) (fn := Tryz.f150) (N := 13) (rs := [.tmp 5]) (by kernel_rfl) rfl (by kernel_rfl) rfl rfl [(0, .v (.int .i64 i)), (1, .v (.int .u8 v)), (2, .v (.ref (eE a)))] ⟨rfl, rfl, rfl, aj⟩ rfl rfl ?_
 intro B
 refine ag<|af J<|ab<|ag<|bU ac J J aK J J J J<|bu cR J<|aa J<|cj cR c7 J (by omega) (bz (n := i) (by omega)) J ?_
 refine cZ ac J J c7 J J J J J<|aa J<|ap [] (zF (a.l.getD i default) v hv) J J J J J J aj (.inl J) J J J<|af J<|ab<|am ?_
 refine an J J ?_
 rfl
theorem D0 (i v : Int) : dn 152 [.int .i64 i, .int .u8 v] (.bool true) := by
 refine bC ac (f := 152) (fn := Tryz.f152) (N := 5) (rs := [.tmp 4]) (by kernel_rfl) rfl (by kernel_rfl) rfl rfl [(0, .v (.int .i64 i)), (1, .v (.int .u8 v))] ⟨rfl, rfl, aj⟩ rfl rfl ?_
 intro B
 refine ag<|af J<|ab<|ag<|af J<|ab<|am ?_
 refine an J J ?_
 rfl
theorem BR {b : List UInt8} {most : Int} : (ez b most).2.p ≤ b.length := by
 unfold ez ix
 split
 ·exact cE (Nat.zero_le _)
 ·exact (gv (cE (Nat.zero_le _))).2
theorem tn {b : List UInt8} {most : Int} (h : (bS b ⟨0, 0⟩ [49, 10, 98]).bad = 0) : ez b most = ((bK b (bS b ⟨0, 0⟩ [49, 10, 98]).p most).1, ⟨(bK b (bS b ⟨0, 0⟩ [49, 10, 98]).p most).2.1, (bK b (bS b ⟨0, 0⟩ [49, 10, 98]).p most).2.2⟩) := by
 unfold ez ix
 rw [if_neg (fun h2 => h2 h)]
theorem ue {b : List UInt8} {most : Int} (h : ¬ (bS b ⟨0, 0⟩ [49, 10, 98]).bad = 0) : ez b most = (0, bS b ⟨0, 0⟩ [49, 10, 98]) := by
 unfold ez ix
 rw [if_pos h]
theorem B7 {a : Aig} {b : List UInt8} (h : (eU b (m8 a) a.l.length 0 (bS b (ez b ((a.bad.length : Int) - 1)).2 [10]) []).2.bad = 0) : qs b ((a.bad.length : Int) - 1) (ez b ((a.bad.length : Int) - 1)).1 := by
 refine xn (Classical.byContradiction fun h1 => ?_)
 have h2 := fX (b := b) (s := [10]) h1
 cases hal : a.l.length with
 | zero => rw [hal] at h; exact fX h2 h
 | succ n => rw [hal, mS h2] at h; exact fX h2 h
theorem FA (a : Aig) (b : List UInt8) (hb : b.length ≤ 1000000000000) (h0 : 0 ≤ a.i) (h1 : a.i ≤ 1000000) (hal : a.l.length ≤ 1000000) (hbad : a.bad.length ≤ 1000000) : kw 81 [bq a, cH b] (fun v => ∃ (t : dT) (p e : Int), v = .tup [sr t, .int .i64 p, .int .i64 e] ∧ (e = 0 → ri a b t)) := by
 refine dJ ac (f := 81) (fn := Tryz.f81) (N := 134) (rs := [.cell 4 39, .tmp 5, .tmp 6]) (by kernel_rfl) rfl (by kernel_rfl) rfl rfl [(0, .v (bq a)), (1, .v (cH b))] ⟨rfl, rfl, aj⟩ rfl rfl ?_
 intro B
 have h148 : dh Tryz.prog 148 [.ptr 900 0, .v (.str (bs [49, 10, 98]))] [(900, .box [.v (cH b), .v (.int .i64 0), .v (.int .i64 0)])] (.ret (.tup []) [(900, AT b (bS b ⟨0, 0⟩ [49, 10, 98]))]) := sn b [49, 10, 98] ⟨0, 0⟩ (Nat.zero_le _) hb (by decide)
 obtain ⟨ni, hni⟩ : ∃ ni : Nat, a.i = (ni : Nat) := ⟨a.i.toNat, by omega⟩
 have hz0 : (bS b ⟨0, 0⟩ [49, 10, 98]).p ≤ b.length := cE (Nat.zero_le _)
 have hz1 : (ez b ((a.bad.length : Int) - 1)).2.p ≤ b.length := BR
 have hz2 : (bS b (ez b ((a.bad.length : Int) - 1)).2 [10]).p ≤ b.length := cE hz1
 have hr3 := og (b := b) (may := m8 a) (n := a.l.length) (j := 0) (x := (bS b (ez b ((a.bad.length : Int) - 1)).2 [10])) (out := []) hz2 TriL.nil
 have h149 : ∀ (y : At), y.p ≤ b.length → dh Tryz.prog 149 [.ptr 900 0, .v (.int .i64 a.i), .v (.fn (.func 152) [] [])] [(900, AT b y)] (.ret (.v (gH (eU b (fun _ _ => true) ni 0 y []).1)) [(900, AT b (eU b (fun _ _ => true) ni 0 y []).2)]) := fun y hy => by (rw [hni]; exact Aa b y hy hb (fun _ _ => true) 152 [] [] ni (by omega) (fun i v _ _ => D0 i v))
 refine ag<|bE 2 [] J J J ⟨J, aj⟩ J J J<|bl (id := 4) dF J<|af J<|af J<|ab<|ae<|ag<|aa J<|aI ac J J bG J aB J J<|bW J J J J J (fun h14 => ?_) (fun h14 => ?_)
 ·refine ab<|ai J<|ag<|bD [] ac J dF J J aj J J J J J J<|aR dF [] J aj J<|af J<|af J<|ab<|am<|au (aD J J ?_)
  exact ⟨⟨0, [], []⟩, _, _, rfl, fun he => absurd he (by first | assumption | decide | omega)⟩
 ·refine ab<|ah J<|ao<|ak<|ae<|cg (g9 (id := 2) J J)<|cT [(1, .v (cH b)), (2, .v (.ref (eE a))), (4, .ptr 4 0), (5, .v (.int .i64 0)), (6, .v (.int .i64 0))] [(4, .box [.v (.int .i64 0), .nils, .nils])] ⟨J, J, J, J, J, aj⟩ ⟨J, aj⟩ J J J J<|aF<|aa J<|bD [] ac J dN J J aj J J J J J J<|bE 900 [] J J J ⟨J, aj⟩ J J J<|af J<|ab<|ae ?_
  refine aF<|aa J<|bn (h148) J J J J J J J J J J J J<|ab<|ag<|bl (id := 8) dF J<|ab<|gN (α := Unit) (fun _ => mk [(1, .v (cH b)), (2, .v (.ref (eE a))), (4, .ptr 4 0), (5, .v (.int .i64 0)), (6, .v (.int .i64 0)), (7, .ptr 900 0), (8, .ptr 8 0)] [(4, .box [.v (.int .i64 0), .nils, .nils]), (900, .box [.v (cH b), .v (.int .i64 ((ez b ((a.bad.length : Int) - 1)).2.p : Nat)), .v (.int .i64 (ez b ((a.bad.length : Int) - 1)).2.bad)]), (8, .box [.v (.int .i64 (ez b ((a.bad.length : Int) - 1)).1), .nils, .nils])] 0) (fun _ => True) ?_ ?_
  ·refine ag<|aa J<|bJ J<|ax dN J<|aC mI J<|bc J J J J J (fun h25 => ?_) (fun h25 => ?_)
   ·refine ab<|ai J<|aS (L := [([], []), ([], []), ([], []), ([], []), ([900], []), ([900], []), ([900], []), ([], []), ([], []), ([], []), ([], []), ([], []), ([], []), ([], []), ([], []), ([], []), ([8], []), ([8], [8]), ([900], []), ([900], []), ([900], [900]), ([900], []), ([900], []), ([900], [900])]) (by kernel_rfl) mixed (by kernel_rfl)<|aa J<|aa J<|aa J<|aa J<|bJ J<|ax dN J<|aC bm J<|bU ac J J aK J J J J<|bu br J<|aI ac J J br J aB J J<|bX J J J J (by omega) (by omega) J J ?_
    refine ap [] (mv b (bS b ⟨0, 0⟩ [49, 10, 98]).p ((a.bad.length : Int) - 1) hz0 hb (by omega) (by omega)) J J J J J J aj (.inl J) J J J ?_
    refine aa J<|aW J<|aW J<|aW J<|ax dF J<|aR bm [] J aj J<|bJ J<|ax dN J<|aR bm [] J aj J<|bJ J<|ax dN J<|aR mI [] J aj J<|ar ?_
    exact cX () aj (aL ⟨rfl, rfl, rfl, rfl, rfl, rfl, rfl, aj⟩ ⟨rfl, (by rw [tn h25]; rfl), (by rw [tn h25]; rfl), aj⟩ rfl rfl rfl rfl)
   ·refine ab<|ah J<|ao ?_
    exact cX () aj (aL ⟨rfl, rfl, rfl, rfl, rfl, rfl, rfl, aj⟩ ⟨rfl, (by rw [ue h25]; rfl), (by rw [ue h25]; rfl), aj⟩ rfl rfl rfl rfl)
  ·intro _ _
   refine ag<|aa J<|bn (sn b [10] (ez b ((a.bad.length : Int) - 1)).2 hz1 hb (by decide)) J J J J J J J J J J J J ?_
   refine ab<|ag<|aa J<|bU ac J J aK J J J J<|bu cR J<|aI ac J J cR J aB J J<|jP J J J J J J<|bn (Aa b (bS b (ez b ((a.bad.length : Int) - 1)).2 [10]) hz2 hb (m8 a) 150 [] [.ref (eE a)] a.l.length hal (fun i v hi hv => Fp a i v hi hv)) J J J J J J J J J J J J<|ax dF J<|aR dd [] J aj J<|ab<|ag ?_
   refine af J<|ab<|gN (α := At × List (List Int)) (fun ⟨y, ins⟩ => mk [(1, .v (cH b)), (2, .v (.ref (eE a))), (4, .ptr 4 0), (5, .v (.int .i64 0)), (6, .v (.int .i64 0)), (7, .ptr 900 0), (8, .ptr 8 0)] [(4, .box [.v (.int .i64 0), .nils, .nils]), (900, .box [.v (cH b), .v (.int .i64 y.p), .v (.int .i64 y.bad)]), (8, .box [.v (.int .i64 (ez b ((a.bad.length : Int) - 1)).1), .v (gH (eU b (m8 a) a.l.length 0 (bS b (ez b ((a.bad.length : Int) - 1)).2 [10]) []).1), .own 901]), (901, .row 36 1 (ins.map mG))] 0) (fun ⟨y, ins⟩ => (y.bad = 0 → (eU b (m8 a) a.l.length 0 (bS b (ez b ((a.bad.length : Int) - 1)).2 [10]) []).2.bad = 0) ∧ ins.length ≤ 200 ∧ (∀ r, r ∈ ins → TriL r ∧ r.length ≤ 1000000)) ?_ ?_
   ·refine aw<|cg (fO (bid := 8) (id := 901) (e := 36) (sz := 1) (j := 2) J J J (by decide)) ?_
    refine aZ (α := At × List (List Int)) (fun ⟨y, ins⟩ => mk [(1, .v (cH b)), (2, .v (.ref (eE a))), (4, .ptr 4 0), (5, .v (.int .i64 0)), (6, .v (.int .i64 0)), (7, .ptr 900 0), (8, .ptr 8 0), (9, .v (.fn (.func 152) [] []))] [(4, .box [.v (.int .i64 0), .nils, .nils]), (900, .box [.v (cH b), .v (.int .i64 y.p), .v (.int .i64 y.bad)]), (8, .box [.v (.int .i64 (ez b ((a.bad.length : Int) - 1)).1), .v (gH (eU b (m8 a) a.l.length 0 (bS b (ez b ((a.bad.length : Int) - 1)).2 [10]) []).1), .own 901]), (901, .row 36 1 (ins.map mG))] 0) (fun ⟨y, ins⟩ => y.p ≤ b.length ∧ (y.bad = 0 → (eU b (m8 a) a.l.length 0 (bS b (ez b ((a.bad.length : Int) - 1)).2 [10]) []).2.bad = 0) ∧ ins.length ≤ 200 ∧ (∀ r, r ∈ ins → TriL r ∧ r.length ≤ 1000000)) (fun ⟨y, ins⟩ => 201 - ins.length) ⟨(eU b (m8 a) a.l.length 0 (bS b (ez b ((a.bad.length : Int) - 1)).2 [10]) []).2, []⟩ ⟨hr3.1, id, Nat.zero_le _, fun r hr => by simp at hr⟩ (aL ⟨rfl, rfl, rfl, rfl, rfl, rfl, rfl, rfl, aj⟩ ⟨rfl, rfl, rfl, rfl, aj⟩ rfl rfl rfl rfl) ?_
    rintro ⟨y, ins⟩ ⟨hj1, hj2, hj3, hj4⟩
    refine ae<|ag<|aa J<|bJ J<|ax dN J<|aC mI J<|bc J J J J J (fun h60 => ?_) (fun h60 => ?_)
    ·refine ab<|ai J<|ao<|ak<|aw<|ae<|ag<|aa J<|aa J<|bJ J<|ax dN J<|aC bm J<|ap [] (o5 b [46, 10] y.p hj1 hb (by decide)) J J J J J J aj (.inl J) J J J ?_
     refine aa J<|aW J<|aW J<|bf (fun h69 => ?_) (fun h69 => ?_)
     ·refine af J<|af J<|ab<|ag<|aa J<|aa J<|ax dF J<|aC eB J<|dW ac J J J eB J aB J J J<|bW J J J J J (fun h75 => ?_) (fun h75 => ?_)
      ·refine aV J<|ab<|ai J<|ag<|aa J<|aa J<|bJ J<|ax dN J<|aR bm [] J aj J<|ab<|aO<|ba (ir J (a8 (aP ?_)))
       exact cX ⟨⟨if eL b y.p [46, 10] = true then y.p + [46, 10].length else y.p, y.bad⟩, ins⟩ ⟨hj2, hj3, hj4⟩ (aL ⟨J, J, J, J, J, J, J, aj⟩ ⟨J, J, J, J, aj⟩ J J J J)
      ·refine aV J<|ab<|ah J<|ao<|ak<|ae<|ag<|ax dF J<|aC eB J<|dW ac J J J eB J aB J J J<|bc J J J J J (fun h84 => ?_) (fun h84 => ?_)
       ·refine ab<|ai J<|ag<|aa J<|bJ J<|ax dN J<|aR mI [] J aj J<|ab<|aO<|ba (ir J (a8 (aP ?_)))
        exact cX ⟨⟨_, 3⟩, ins⟩ ⟨fun h => absurd h (by show ¬ (3 : Int) = 0; decide), hj3, hj4⟩ (aL ⟨J, J, J, J, J, J, J, aj⟩ ⟨J, J, J, J, aj⟩ J J J J)
       ·refine ab<|ah J<|ao<|ak ?_
        have hr4 := og (b := b) (may := fun _ _ => true) (n := ni) (j := 0) (x := y) (out := []) hj1 TriL.nil
        have hr5 : (eU b (fun _ _ => true) ni 0 y []).1.length ≤ 1000000 := by (have h := hr4.2.2.2; simp at h; omega)
        refine aS (L := [([8], []), ([8], []), ([], []), ([], []), ([], []), ([], []), ([900], [900]), ([], []), ([96, 901], [96, 901]), ([8], []), ([8, 96], [8])]) (by kernel_rfl) mixed (by kernel_rfl)<|ax dF J<|aC eB J<|aa J<|bU ac J J aK J J J J<|bu bm J<|aa J<|bn (h149 y hj1) J J J J J J J J J J J J<|bZ (es := [(eU b (fun _ _ => true) ni 0 y []).1].map mG) eB dd [] J aj J ?_
        refine cw 96 [] ac J eB J eB J dd J J J J ⟨J, J, aj⟩ J (elOk.cons rfl rfl elOk.nil) cA (by constructor <;> simp <;> omega) J J J ?_
        refine ax dF J<|gF [(96, _)] ac J eB J J J ⟨J, aj⟩ J J J J J J J J<|ar<|aH ?_
        exact aT ⟨(eU b (fun _ _ => true) ni 0 y []).2, ins ++ [(eU b (fun _ _ => true) ni 0 y []).1]⟩ ⟨hr4.1, fun h => hj2 (Classical.byContradiction fun hn => hr4.2.1 hn h), (by simp; omega), fun r hr => (List.mem_append.1 hr).elim (hj4 r) (fun h => by rw [List.mem_singleton] at h; subst h; exact ⟨hr4.2.2.1, hr5⟩)⟩ (by simp; omega) (cd [(901, 96)] ⟨J, J, J, J, J, J, J, J, aj⟩ ⟨J, J, J, J, aj⟩ J J J J J)
     ·refine af J<|af J<|ab<|ag<|aa J<|aa J<|al J<|al J<|al J<|al J<|aJ J<|ab<|ah J ?_
      refine ao<|ak<|ae<|ag<|ax dF J<|aC eB J<|dW ac J J J eB J aB J J J<|bc J J J J J (fun h84 => ?_) (fun h84 => ?_)
      ·refine ab<|ai J<|ag<|aa J<|bJ J<|ax dN J<|aR mI [] J aj J<|ab<|aO<|ba (ir J (a8 (aP ?_)))
       exact cX ⟨⟨_, 3⟩, ins⟩ ⟨fun h => absurd h (by show ¬ (3 : Int) = 0; decide), hj3, hj4⟩ (aL ⟨J, J, J, J, J, J, J, aj⟩ ⟨J, J, J, J, aj⟩ J J J J)
      ·refine ab<|ah J<|ao<|ak ?_
       have hr4 := og (b := b) (may := fun _ _ => true) (n := ni) (j := 0) (x := y) (out := []) hj1 TriL.nil
       have hr5 : (eU b (fun _ _ => true) ni 0 y []).1.length ≤ 1000000 := by (have h := hr4.2.2.2; simp at h; omega)
       refine aS (L := [([8], []), ([8], []), ([], []), ([], []), ([], []), ([], []), ([900], [900]), ([], []), ([96, 901], [96, 901]), ([8], []), ([8, 96], [8])]) (by kernel_rfl) mixed (by kernel_rfl)<|ax dF J<|aC eB J<|aa J<|bU ac J J aK J J J J<|bu bm J<|aa J<|bn (h149 y hj1) J J J J J J J J J J J J<|bZ (es := [(eU b (fun _ _ => true) ni 0 y []).1].map mG) eB dd [] J aj J ?_
       refine cw 96 [] ac J eB J eB J dd J J J J ⟨J, J, aj⟩ J (elOk.cons rfl rfl elOk.nil) cA (by constructor <;> simp <;> omega) J J J ?_
       refine ax dF J<|gF [(96, _)] ac J eB J J J ⟨J, aj⟩ J J J J J J J J<|ar<|aH ?_
       exact aT ⟨(eU b (fun _ _ => true) ni 0 y []).2, ins ++ [(eU b (fun _ _ => true) ni 0 y []).1]⟩ ⟨hr4.1, fun h => hj2 (Classical.byContradiction fun hn => hr4.2.1 hn h), (by simp; omega), fun r hr => (List.mem_append.1 hr).elim (hj4 r) (fun h => by rw [List.mem_singleton] at h; subst h; exact ⟨hr4.2.2.1, hr5⟩)⟩ (by simp; omega) (cd [(901, 96)] ⟨J, J, J, J, J, J, J, J, aj⟩ ⟨J, J, J, J, aj⟩ J J J J J)
    ·refine ab<|ah J<|aO<|ba (a8 (aP ?_))
     exact cX ⟨y, ins⟩ ⟨hj2, hj3, hj4⟩ (aL ⟨J, J, J, J, J, J, J, aj⟩ ⟨J, J, J, J, aj⟩ J J J J)
   ·rintro ⟨y, ins⟩ ⟨hc1, hc2, hc3⟩
    refine gN (α := At × List (List Int)) (fun ⟨y, ins⟩ => mk [(1, .v (cH b)), (2, .v (.ref (eE a))), (4, .ptr 4 0), (5, .v (.int .i64 0)), (6, .v (.int .i64 0)), (7, .ptr 900 0), (8, .ptr 8 0)] [(4, .box [.v (.int .i64 0), .nils, .nils]), (900, .box [.v (cH b), .v (.int .i64 y.p), .v (.int .i64 y.bad)]), (8, .box [.v (.int .i64 (ez b ((a.bad.length : Int) - 1)).1), .v (gH (eU b (m8 a) a.l.length 0 (bS b (ez b ((a.bad.length : Int) - 1)).2 [10]) []).1), .own 901]), (901, .row 36 1 (ins.map mG))] 0) (fun ⟨y, ins⟩ => (y.bad = 0 → (eU b (m8 a) a.l.length 0 (bS b (ez b ((a.bad.length : Int) - 1)).2 [10]) []).2.bad = 0) ∧ ins.length ≤ 200 ∧ (∀ r, r ∈ ins → TriL r ∧ r.length ≤ 1000000)) ?_ ?_
    ·refine ag<|aa J<|bJ J<|ax dN J<|aC mI J<|bc J J J J J (fun h102 => ?_) (fun h102 => ?_)
     ·refine aa J<|aa J<|bJ J<|ax dN J<|aC bm J<|aa J<|aI ac J J bG J aB J J<|bj J (fun h110 => ?_) (fun h110 => ?_)
      ·refine aV J<|ab<|ai J<|aF<|aa J<|bJ J<|ax dN J<|aR mI [] J aj J<|ar ?_
       exact cX ⟨⟨_, 2⟩, ins⟩ ⟨fun h => absurd h (by show ¬ (2 : Int) = 0; decide), hc2, hc3⟩ (aL ⟨J, J, J, J, J, J, J, aj⟩ ⟨J, J, J, J, aj⟩ J J J J)
      ·refine aV J<|ab<|ah J<|ao ?_
       exact cX ⟨y, ins⟩ ⟨hc1, hc2, hc3⟩ (aL ⟨J, J, J, J, J, J, J, aj⟩ ⟨J, J, J, J, aj⟩ J J J J)
     ·refine aa J<|al J<|al J<|al J<|al J<|al J<|al J<|al J<|aJ J<|ab<|ah J<|ao ?_
      exact cX ⟨y, ins⟩ ⟨hc1, hc2, hc3⟩ (aL ⟨J, J, J, J, J, J, J, aj⟩ ⟨J, J, J, J, aj⟩ J J J J)
    ·rintro ⟨y, ins⟩ ⟨hc1, hc2, hc3⟩
     refine ae<|ag<|aa J<|bJ J<|ax dN J<|aC mI J<|bt J J J J J (fun h119 => ?_) (fun h119 => ?_)
     ·refine ab<|ai J<|ae<|aS (L := [([], []), ([], []), ([900], []), ([900], []), ([900], []), ([], []), ([900], []), ([900], []), ([900], []), ([4], [4]), ([], []), ([], [])]) (by kernel_rfl) mixed (by kernel_rfl)<|bD [] ac J dF J J aj J J J J J J<|aa J<|bJ J<|ax dN J<|aC bm J<|aa J<|bJ J<|ax dN J<|aC mI J<|aR dF [] J aj J<|af J ?_
      refine af J<|ab<|am<|au (aD J J ?_)
      exact ⟨⟨0, [], []⟩, _, _, rfl, fun he => absurd he (by first | assumption | decide | omega)⟩
     ·refine ab<|ah J<|ao<|ak<|ae<|cg (bp (id := 901) J)<|cT [(1, .v (cH b)), (2, .v (.ref (eE a))), (4, .ptr 4 0), (5, .v (.int .i64 0)), (6, .v (.int .i64 0)), (7, .ptr 900 0), (8, .ptr 8 0)] [(4, .box [.v (.int .i64 0), .nils, .nils]), (900, .box [.v (cH b), .v (.int .i64 y.p), .v (.int .i64 y.bad)]), (8, .box [.v (.int .i64 (ez b ((a.bad.length : Int) - 1)).1), .v (gH (eU b (m8 a) a.l.length 0 (bS b (ez b ((a.bad.length : Int) - 1)).2 [10]) []).1), .v (pm ins)])] ⟨J, J, J, J, J, J, J, aj⟩ ⟨J, J, J, aj⟩ J J J J<|aS (L := [([8], []), ([], []), ([900], []), ([900], []), ([900], []), ([4], [4]), ([], []), ([], [])]) (by kernel_rfl) mixed (by kernel_rfl)<|a7 dF J<|aa J<|bJ J<|ax dN J<|aC bm J<|aR dF [] J aj J<|af J ?_
      refine af J<|ab<|am ?_
      refine aD J J ?_
      exact ⟨⟨(ez b ((a.bad.length : Int) - 1)).1, (eU b (m8 a) a.l.length 0 (bS b (ez b ((a.bad.length : Int) - 1)).2 [10]) []).1, ins⟩, _, _, rfl, fun he => ⟨B7 (hc1 (Classical.not_not.1 h119)), hr3.2.2.1, fun r hr => (hc3 r hr).1, Nat.le_trans hr3.2.2.2 (by rw [List.length_nil]; omega), hc2, fun r hr => (hc3 r hr).2⟩⟩
end Go.Vd
namespace Go.Vd
theorem bH {α β : Type} {x : Option α} {f : α → Option β} {y : β} (h : x.bind f = some y) : ∃ a, x = some a ∧ f a = some y := by
 cases x with
 | none => cases h
 | some a => exact ⟨a, rfl, h⟩
theorem BQ {b : List UInt8} {p q : Nat} {s : List UInt8} (h : wM b p s = some q) : bS b ⟨p, 0⟩ s = ⟨q, 0⟩ := by
 unfold wM at h
 split at h
 ·rename_i hw
  cases h
  unfold bS
  rw [if_neg (fun e => e rfl), if_pos hw]
 ·cases h
theorem gQ {b : List UInt8} {p q : Nat} {most v : Int} {s : List UInt8} (h : cG b p most s = some (v, q)) : cN b ⟨p, 0⟩ most s = (v, ⟨q, 0⟩) := by
 unfold cG at h
 split at h
 ·cases h
 ·rename_i h0
  split at h
  ·rename_i hw
   cases h
   have h0' := Classical.not_not.1 h0
   unfold cN ix bS
   simp only [ne_eq, not_true_eq_false, if_false, h0', hw, if_true]
  ·cases h
theorem Bx {b : List UInt8} {h : HeadM} (hh : iQ b 0 = some h) : jI b (bS b ⟨0, 0⟩ [97, 97, 103, 32]) = (⟨h.most, h.i, h.l, h.o, h.g, h.d, h.c⟩, ⟨h.q, 0⟩) ∧ h.most = h.i + h.l + h.g := by
 unfold iQ at hh
 obtain ⟨q0, e0, hh⟩ := bH hh
 obtain ⟨⟨v1, r1⟩, e1, hh⟩ := bH hh
 obtain ⟨⟨v2, r2⟩, e2, hh⟩ := bH hh
 obtain ⟨⟨v3, r3⟩, e3, hh⟩ := bH hh
 obtain ⟨⟨v4, r4⟩, e4, hh⟩ := bH hh
 obtain ⟨⟨v5, r5⟩, e5, hh⟩ := bH hh
 obtain ⟨⟨v6, r6⟩, e6, hh⟩ := bH hh
 obtain ⟨⟨v7, r7⟩, e7, hh⟩ := bH hh
 simp only at e1 e2 e3 e4 e5 e6 e7 hh
 split at hh
 ·cases hh
 ·rename_i hne
  cases hh
  have hs := Classical.not_not.1 hne
  refine ⟨?_, hs⟩
  rw [BQ e0]
  unfold jI
  simp only [gQ e1, gQ e2, gQ e3, gQ e4, gQ e5, gQ e6, gQ e7]
  rw [if_neg (fun h => h.2 hs)]
theorem zQ {b : List UInt8} : ∀ {n j q q2 : Nat}, nx b n j q = some q2 → pD b n j ⟨q, 0⟩ = ⟨q2, 0⟩
 | 0, _, _, _, h => by cases h; rfl
 | n + 1, j, q, q2, h => by
   obtain ⟨q1, e1, h⟩ := bH (f := fun q2 => nx b n (j + 1) q2) h
   unfold pD
   rw [if_pos rfl, BQ e1]
   exact zQ h
theorem AR {b : List UInt8} {i most : Int} : ∀ {n j q q2 : Nat} {ls ls' : List Latch}, iz b i most n j q ls = some (ls', q2) → kh b i most n j ⟨q, 0⟩ ls = (ls', ⟨q2, 0⟩) ∧ ls'.length = ls.length + n
 | 0, _, _, _, _, _, h => by cases h; exact ⟨rfl, rfl⟩
 | n + 1, j, q, q2, ls, ls', h => by
   unfold iz at h
   obtain ⟨q1, e1, h⟩ := bH h
   obtain ⟨⟨v1, r1⟩, e2, h⟩ := bH h
   obtain ⟨⟨v2, r2⟩, e3, h⟩ := bH h
   simp only at e2 e3 h
   split at h
   ·cases h
   ·rename_i hne
    have ih := AR h
    have hl : Dy b i most j ⟨q, 0⟩ = (⟨v1, v2⟩, ⟨r2, 0⟩) := by
     unfold Dy
     rw [BQ e1]
     unfold js
     simp only [gQ e2, gQ e3]
     rw [if_neg (fun h => hne h.2)]
    unfold kh
    rw [if_pos rfl, hl]
    refine ⟨ih.1, by rw [ih.2]; simp; omega⟩
theorem oa {b : List UInt8} {most : Int} : ∀ {n q q2 : Nat} {out l : List Int}, ge b most n q out = some (l, q2) → jF b most n ⟨q, 0⟩ out = (l, ⟨q2, 0⟩) ∧ l.length = out.length + n
 | 0, _, _, _, _, h => by cases h; exact ⟨rfl, rfl⟩
 | n + 1, q, q2, out, l, h => by
   unfold ge at h
   split at h
   ·rename_i v r e
    have ih := oa h
    unfold jF
    rw [if_pos rfl, gQ e]
    refine ⟨ih.1, by rw [ih.2]; simp; omega⟩
   ·cases h
theorem jn {b : List UInt8} {p q : Nat} {most v : Int} {s : List UInt8} (h : cG b p most s = some (v, q)) : 0 ≤ v ∧ v ≤ most := by
 unfold cG at h
 split at h
 ·cases h
 ·rename_i h0
  split at h
  ·cases h
   have hv := g7 b p most
   exact ⟨hv.1, hv.2.2.1 (Classical.not_not.1 h0)⟩
  ·cases h
theorem Ap {b : List UInt8} {k : Int} : ∀ {n j q q2 : Nat} {gs gs' : List Gate}, jb b k n j q gs = some (gs', q2) → iV b k n j ⟨q, 0⟩ gs = (gs', ⟨q2, 0⟩) ∧ gs'.length = gs.length + n ∧
 (gs.length = j → (∀ z, z < gs.length → 0 ≤ (gs.getD z default).b ∧ (gs.getD z default).b ≤ (gs.getD z default).a ∧ (gs.getD z default).a < 2 * (k + 1 + (z : Nat))) → ∀ z, z < gs'.length → 0 ≤ (gs'.getD z default).b ∧ (gs'.getD z default).b ≤ (gs'.getD z default).a ∧ (gs'.getD z default).a < 2 * (k + 1 + (z : Nat)))
 | 0, _, _, _, _, _, h => by cases h; exact ⟨rfl, rfl, fun _ h => h⟩
 | n + 1, j, q, q2, gs, gs', h => by
   unfold jb at h
   obtain ⟨q1, e1, h⟩ := bH h
   obtain ⟨⟨v1, r1⟩, e2, h⟩ := bH h
   obtain ⟨⟨v2, r2⟩, e3, h⟩ := bH h
   simp only at e2 e3 h
   have ih := Ap h
   have ha : gA b k j ⟨q, 0⟩ = (v1, ⟨r1, 0⟩) := by unfold gA; rw [BQ e1]; exact gQ e2
   have hb : Ez b k j ⟨q, 0⟩ = (v2, ⟨r2, 0⟩) := by unfold Ez; rw [ha]; exact gQ e3
   have b1 := jn e2
   have b2 := jn e3
   unfold iV
   rw [if_pos rfl, ha, hb]
   refine ⟨ih.1, by rw [ih.2.1]; simp; omega, fun hlen hg => ih.2.2 (by simp; exact hlen) (fun z hz => ?_)⟩
   by_cases hzl : z < gs.length
   ·have := hg z hzl
    rw [List.getD_eq_getElem?_getD, List.getElem?_append_left hzl]
    rw [List.getD_eq_getElem?_getD] at this
    exact this
   ·have : z = gs.length := by simp at hz; omega
    subst this
    rw [List.getD_eq_getElem?_getD, List.getElem?_append_right (Nat.le_refl _)]
    simp only [Nat.sub_self, List.getElem?_cons_zero, Option.getD_some]
    omega
theorem yn {b : List UInt8} {p : Nat} : (dv b p).1.length ≤ b.length := by
 unfold dv
 split
 ·show (jA (b.drop p)).length ≤ _
  have h1 : (jA (b.drop p)).length ≤ (b.drop p).length := (List.takeWhile_sublist _).length_le
  simp at h1
  omega
 ·exact Nat.zero_le _
theorem tt {b : List UInt8} {a : Aig} : ∀ {k q q2 : Nat} {ns ns' : List ij}, fm b a k q ns = some (ns', q2) → ns.length ≤ 2000 → (∀ x, x ∈ ns → x.s.length ≤ b.length) → fK b k ⟨q, 0⟩ (wn a ns) = (wn a ns', ⟨q2, 0⟩) ∧ ns'.length ≤ 2000 ∧ ∀ x, x ∈ ns' → x.s.length ≤ b.length
 | 0, _, _, _, _, h, h1, h2 => by cases h; exact ⟨rfl, h1, h2⟩
 | k + 1, q, q2, ns, ns', h, h1, h2 => by
   by_cases hq : q < b.length
   ·rw [nJ hq] at h
    split at h
    ·cases h
    ·rename_i hn
     split at h
     ·cases h
     ·rename_i hk
      split at h
      ·cases h
      ·rename_i v r e
       split at h
       ·cases h
       ·rename_i hg
        split at h
        ·cases h
        ·rename_i hw
         split at h
         ·cases h
         ·rename_i hbh
          have hf : nf b ⟨q, 0⟩ (wn a ns) = (v, ⟨r, 0⟩) := gQ e
          have hg' := Classical.not_not.1 hg
          have hw' := Classical.not_not.1 hw
          have hww : nw b ⟨q, 0⟩ (wn a ns) = ⟨(dv b r).2.1 + 1, 0⟩ := by
           unfold nw ng
           rw [hf]
           show bS b ⟨(dv b r).2.1, (dv b r).2.2⟩ [10] = _
           rw [hg']
           unfold bS
           rw [if_neg (fun e => e rfl), if_pos hw']; rfl
          have hnn : nn b ⟨q, 0⟩ (wn a ns) = m7 b q v r := by
           unfold nn ng m7
           rw [hf]
          have ih := tt h (by simp; omega) (fun x hx => (List.mem_append.1 hx).elim (h2 x) (fun hx => by
           rw [List.mem_singleton] at hx; subst hx; exact yn))
          refine ⟨?_, ih.2⟩
          rw [nI rfl hq, if_neg (show ¬ (wn a ns).names.length = 2000 from hn), if_neg hk, if_neg (by rw [hf]; exact fun e => e rfl), if_neg (by rw [hww]; exact fun e => e rfl), if_neg (by rw [hnn]; exact hbh), hww, hnn]
          exact ih.1
   ·rw [pJ hq] at h
    cases h
    refine ⟨?_, h1, h2⟩
    unfold fK
    rw [if_neg (fun h => hq h.2)]
structure Gf (b : List UInt8) (a : Aig) (q : Nat) : Prop where
 ref : jh b = (a, q, 0)
 s : AigS a
 i1 : a.i ≤ 20000
 v : ay a ≤ 20000
 l : a.l.length ≤ 20000
 g : a.g.length ≤ 20000
 o : a.outs.length ≤ 20000
 bd : a.bad.length ≤ 20000
 c : a.con.length ≤ 20000
 nl : a.names.length ≤ 2000
 ns : ∀ x, x ∈ a.names → x.s.length ≤ 1000000000000
theorem yX {b : List UInt8} {h : HeadM} (hh : iQ b 0 = some h) : 0 ≤ h.i ∧ 0 ≤ h.l ∧ 0 ≤ h.g ∧ h.most ≤ 20000 ∧ h.o ≤ 2000 ∧ h.d ≤ 2000 ∧ h.c ≤ 2000 := by
 unfold iQ at hh
 obtain ⟨q0, e0, hh⟩ := bH hh
 obtain ⟨⟨v1, r1⟩, e1, hh⟩ := bH hh
 obtain ⟨⟨v2, r2⟩, e2, hh⟩ := bH hh
 obtain ⟨⟨v3, r3⟩, e3, hh⟩ := bH hh
 obtain ⟨⟨v4, r4⟩, e4, hh⟩ := bH hh
 obtain ⟨⟨v5, r5⟩, e5, hh⟩ := bH hh
 obtain ⟨⟨v6, r6⟩, e6, hh⟩ := bH hh
 obtain ⟨⟨v7, r7⟩, e7, hh⟩ := bH hh
 simp only at e1 e2 e3 e4 e5 e6 e7 hh
 split at hh
 ·cases hh
 ·cases hh
  exact ⟨(jn e2).1, (jn e3).1, (jn e5).1, (jn e1).2, (jn e4).2, (jn e6).2, (jn e7).2⟩
theorem kJ {b : List UInt8} {a : Aig} {q : Nat} (h : dk b = some (a, q)) : Gf b a q := by
 unfold dk at h
 split at h
 ·rename_i hbl
  unfold cO at h
  obtain ⟨hd, e0, h⟩ := bH h
  obtain ⟨s0, hmost⟩ := Bx e0
  obtain ⟨z1, z2, z3, z4, z5, z6, z7⟩ := yX e0
  unfold D5 at h
  obtain ⟨q1, e1, h⟩ := bH h
  have s1 := zQ e1
  unfold EL at h
  obtain ⟨⟨ls, q2⟩, e2, h⟩ := bH h
  obtain ⟨s2, l2⟩ := AR e2
  unfold E6 at h
  obtain ⟨⟨os, q3⟩, e3, h⟩ := bH h
  obtain ⟨s3, l3⟩ := oa e3
  unfold DF at h
  obtain ⟨⟨bd, q4⟩, e4, h⟩ := bH h
  obtain ⟨s4, l4⟩ := oa e4
  unfold Ep at h
  obtain ⟨⟨cn, q5⟩, e5, h⟩ := bH h
  obtain ⟨s5, l5⟩ := oa e5
  unfold EF at h
  obtain ⟨⟨gs, q6⟩, e6, h⟩ := bH h
  obtain ⟨s6, l6, g6⟩ := Ap e6
  unfold Ct at h
  obtain ⟨⟨ns, q7⟩, e7, h⟩ := bH h
  obtain ⟨s7, l7, n7⟩ := tt e7 (Nat.zero_le _) (fun x hx => by simp at hx)
  simp only [Option.some.injEq, Prod.mk.injEq] at h
  obtain ⟨rfl, rfl⟩ := h
  simp only at s1 s2 s3 s4 s5 s6 s7 l2 l3 l4 l5 l6 g6
  simp only [List.length_nil, Nat.zero_add] at l2 l3 l4 l5 l6
  have t0 : p0 b = (⟨hd.most, hd.i, hd.l, hd.o, hd.g, hd.d, hd.c⟩, ⟨hd.q, 0⟩) := s0
  have tM : pM b = hd.top := by
   unfold pM pI
   rw [t0]
   unfold HeadM.top
   simp only
   omega
  have t1 : p1 b = ⟨q1, 0⟩ := by unfold p1 pI; rw [t0]; exact s1
  have t2 : p2 b = (ls, ⟨q2, 0⟩) := by unfold p2; rw [tM, t1]; unfold pI; rw [t0]; exact s2
  have t3 : p3 b = (os, ⟨q3, 0⟩) := by unfold p3; rw [tM, t2]; unfold pI; rw [t0]; exact s3
  have t4 : p4 b = (bd, ⟨q4, 0⟩) := by unfold p4; rw [tM, t3]; unfold pI; rw [t0]; exact s4
  have t5 : p5 b = (cn, ⟨q5, 0⟩) := by unfold p5; rw [tM, t4]; unfold pI; rw [t0]; exact s5
  have t6 : p6 b = (gs, ⟨q6, 0⟩) := by unfold p6; rw [t5]; unfold pI; rw [t0]; exact s6
  have ta : a6 b = ⟨hd.i, ls, gs, os, bd, cn, []⟩ := by unfold a6; rw [t2, t3, t4, t5, t6]; unfold pI; rw [t0]
  have t7 : p7 b = (⟨hd.i, ls, gs, os, bd, cn, ns⟩, ⟨q7, 0⟩) := by unfold p7; rw [ta, t6]; exact s7
  have hg := g6 rfl (fun z hz => by simp at hz)
  refine ⟨?_, ⟨z1, ?_, ?_, ?_, ?_, fun k hk => ?_⟩, ?_, ?_, ?_, ?_, ?_, ?_, ?_, l7, fun x hx => by have := n7 x hx; omega⟩
  ·unfold jh
   rw [if_neg (by omega), t7]
   rw [if_neg (fun e => e rfl)]
  ·show hd.i + (ls.length : Nat) + (gs.length : Nat) ≤ 1000000; omega
  ·show os.length ≤ 1000000; omega
  ·show bd.length ≤ 1000000; omega
  ·show cn.length ≤ 1000000; omega
  ·have := hg k hk
   refine ⟨this.1, this.2.1, ?_⟩
   show (gs.getD k default).a < 2 * (hd.i + (ls.length : Nat) + 1 + (k : Nat))
   have := this.2.2
   omega
  ·show hd.i ≤ 20000; omega
  ·show hd.i + (ls.length : Nat) + (gs.length : Nat) ≤ 20000; omega
  ·show ls.length ≤ 20000; omega
  ·show gs.length ≤ 20000; omega
  ·show os.length ≤ 20000; omega
  ·show bd.length ≤ 20000; omega
  ·show cn.length ≤ 20000; omega
 ·cases h
end Go.Vd
namespace Go.Vd
open Go.Proofs Go.RowKit
theorem q8 (p q r : Addr) (w : World) :
 CallsD Tryz.prog 88 #[.pointer (some p), .pointer (some q), .pointer (some r)] .returning w fun e u' w' => e = .returned (.tuple #[]) ∧ u' = .returning ∧ w' = w := by
 refine callsD_of_wpS Tryz.func88 rfl fun c₀ cs hu => ?_
 apply wpS_seq
 apply wpS_region
 simp [wpOpsS, go_sem, recoverD, hu, Tryz.ntmps88, Exit.thenS]
 apply wpS_seq
 apply wpS_seq
 apply wpS_region
 simp [wpOpsS, go_sem, Exit.thenS]
 refine wpS_cond (t := true) (by simp [Act.eval, Array.replicate]) ?_
 simp only [if_true]
 refine wpS_of_wp (_root_.Go.wp_ret ?_)
 cases c₀
 simp_all [bodyPostS, results, Tryz.results88, Exit.thenS]
theorem Ip {p q r : Nat} {vs : List Value} {arr : Array Value} {ty : TypeId} {z1 z2 pp ee : Int} {w : World} (hp : w.heap[p]? = some (.cells arr ty (0, 0))) (hs : vs.length = arr.size) (hq : w.heap[q]? = some (.cells #[.int .i64 z1] 3 (0, 0))) (hr : w.heap[r]? = some (.cells #[.int .i64 z2] 43 (0, 0))) (hpq : p ≠ q) (hpr : p ≠ r) (hqr : q ≠ r) :
 (((gK p 0 vs w).setCell ⟨q, 0, none⟩ (.int .i64 pp)).setCell ⟨r, 0, none⟩ (.int .i64 ee)).heap[p]? = some (.cells vs.toArray ty (0, 0)) ∧ (((gK p 0 vs w).setCell ⟨q, 0, none⟩ (.int .i64 pp)).setCell ⟨r, 0, none⟩ (.int .i64 ee)).heap[q]? = some (.cells #[.int .i64 pp] 3 (0, 0)) ∧ (((gK p 0 vs w).setCell ⟨q, 0, none⟩ (.int .i64 pp)).setCell ⟨r, 0, none⟩ (.int .i64 ee)).heap[r]? = some (.cells #[.int .i64 ee] 43 (0, 0)) ∧
 (∀ b, b ≠ p → b ≠ q → b ≠ r → (((gK p 0 vs w).setCell ⟨q, 0, none⟩ (.int .i64 pp)).setCell ⟨r, 0, none⟩ (.int .i64 ee)).heap[b]? = w.heap[b]?) ∧ (((gK p 0 vs w).setCell ⟨q, 0, none⟩ (.int .i64 pp)).setCell ⟨r, 0, none⟩ (.int .i64 ee)).heap.size = w.heap.size ∧ (((gK p 0 vs w).setCell ⟨q, 0, none⟩ (.int .i64 pp)).setCell ⟨r, 0, none⟩ (.int .i64 ee)).os = w.os ∧ (((gK p 0 vs w).setCell ⟨q, 0, none⟩ (.int .i64 pp)).setCell ⟨r, 0, none⟩ (.int .i64 ee)).tape = w.tape ∧ (((gK p 0 vs w).setCell ⟨q, 0, none⟩ (.int .i64 pp)).setCell ⟨r, 0, none⟩ (.int .i64 ee)).output = w.output := by
 obtain ⟨s1, s2, s3, s4, s5⟩ := iM p vs 0 w
 have s0 := kV hp hs
 generalize gK p 0 vs w = w1 at s0 s1 s2 s3 s4 s5
 have e2 := (s1 q hpq.symm).trans hq
 have e3 := (s1 r hpr.symm).trans hr
 refine ⟨?_, ?_, heap_setCell_same (w1.setCell ⟨q, 0, none⟩ (.int .i64 pp)) r 0 _ 43 _ ((heap_setCell_other _ _ _ _ hqr.symm).trans e3), fun c c1 c2 c3 => ?_, by simp [s2], by rw [nL, nL, s3], by rw [oU, oU, s4], by rw [kS, kS, s5]⟩
 ·rw [heap_setCell_other _ _ _ _ hpr, heap_setCell_other _ _ _ _ hpq]; exact s0
 ·rw [heap_setCell_other _ _ _ _ hqr]; exact heap_setCell_same w1 q 0 _ 3 _ e2
 ·rw [heap_setCell_other _ _ _ _ c3, heap_setCell_other _ _ _ _ c2]; exact s1 c c1
abbrev Z5 : Array Value := #[.slice none 0 0, .int .i64 0, .slice none 0 0, .slice none 0 0, .slice none 0 0]
set_option maxHeartbeats 1000000 in
set_option maxRecDepth 100000 in
theorem lC (p q r : Nat) (x y : Int) (pp ee : Int) (older : List PanicEntry) (w : World) (hp : w.heap[p]? = some (.cells Z5 119 (0, 0))) (hq : w.heap[q]? = some (.cells #[.int .i64 x] 3 (0, 0))) (hr : w.heap[r]? = some (.cells #[.int .i64 y] 43 (0, 0)))
 (hpq : p ≠ q) (hpr : p ≠ r) (hqr : q ≠ r) :
 CallsD Tryz.prog 88 #[.pointer (some ⟨p, 0, none⟩), .pointer (some ⟨q, 0, none⟩), .pointer (some ⟨r, 0, none⟩)] (.panicking ({ v := wv 189 pp ee, recovered := false } :: older)) w fun e u' w' =>
  e = .returned (.tuple #[]) ∧ u' = .panicking ({ v := wv 189 pp ee, recovered := true } :: older) ∧ w'.heap[p]? = some (.cells Z5 119 (0, 0)) ∧ w'.heap[q]? = some (.cells #[.int .i64 pp] 3 (0, 0)) ∧ w'.heap[r]? = some (.cells #[.int .i64 ee] 43 (0, 0)) ∧ (∀ b, b < w.heap.size → b ≠ p → b ≠ q → b ≠ r → w'.heap[b]? = w.heap[b]?) ∧ w.heap.size ≤ w'.heap.size ∧ w'.os = w.os ∧ w'.tape = w.tape ∧ w'.output = w.output := by
 have hta : ∀ (v : Value) (w : World), (Instr.typeAssert (.iface 189 v) 20 189 false).run Tryz.prog w = .ok v w := fun _ _ => ot ac (by decide) kK false
 refine callsD_of_wpS Tryz.func88 rfl fun c₀ cs hu => ?_
 apply wpS_seq
 apply wpS_region
 simp [wpOpsS, go_sem, recoverD, hu, Tryz.ntmps88, Exit.thenS]
 apply wpS_seq
 apply wpS_seq
 apply wpS_region
 simp [wpOpsS, go_sem, Exit.thenS, wv]
 refine wpS_cond (t := false) (by simp [Act.eval, Array.replicate]) ?_
 simp only [Bool.false_eq_true, if_false]
 refine wpS_of_wp (_root_.Go.wp_skip ?_)
 simp only [Exit.thenS]
 refine wpS_of_wp ?_
 refine CE (a' := { tmps := #[.pointer (some ⟨p, 0, none⟩), .pointer (some ⟨q, 0, none⟩), .pointer (some ⟨r, 0, none⟩), .iface 189 (.agg #[.int .i64 pp, .int .i64 ee]), undef, .iface 189 (.agg #[.int .i64 pp, .int .i64 ee]), .iface 189 (.agg #[.int .i64 pp, .int .i64 ee]), .bool false, undef, undef, undef, undef, undef, undef, undef], defers := [] }) (by kernel_rfl) ?_
 go_wp2
 have hlt : ∀ {b : Nat} {o : Obj}, w.heap[b]? = some o → b < w.heap.size := fun h => (Array.getElem?_eq_some_iff.1 h).1
 have h1 := hlt hp; have h2 := hlt hq; have h3 := hlt hr
 have cp0 : (w.alloc (Obj.cells #[Value.int IntKind.i64 pp, Value.int IntKind.i64 ee] 189)).cell? ⟨p, 0, none⟩ = some (.slice none 0 0) := by rw [World.cell?_alloc_lt _ _ _ h1]; exact aY hp rfl
 have fp0 : (w.alloc (Obj.cells #[Value.int IntKind.i64 pp, Value.int IntKind.i64 ee] 189)).frozen? ⟨p, 0, none⟩ = false := by (rw [frozen?_alloc_cells]; simp [World.frozen?, hp])
 have dp0 : w.cell? ⟨p, 0, none⟩ = some (.slice none 0 0) := aY hp rfl
 have gp0 : w.frozen? ⟨p, 0, none⟩ = false := bQ hp
 have cp1 : (w.alloc (Obj.cells #[Value.int IntKind.i64 pp, Value.int IntKind.i64 ee] 189)).cell? ⟨p, 1, none⟩ = some (.int .i64 0) := by rw [World.cell?_alloc_lt _ _ _ h1]; exact aY hp rfl
 have fp1 : (w.alloc (Obj.cells #[Value.int IntKind.i64 pp, Value.int IntKind.i64 ee] 189)).frozen? ⟨p, 1, none⟩ = false := by (rw [frozen?_alloc_cells]; simp [World.frozen?, hp])
 have dp1 : w.cell? ⟨p, 1, none⟩ = some (.int .i64 0) := aY hp rfl
 have gp1 : w.frozen? ⟨p, 1, none⟩ = false := bQ hp
 have cp2 : (w.alloc (Obj.cells #[Value.int IntKind.i64 pp, Value.int IntKind.i64 ee] 189)).cell? ⟨p, 2, none⟩ = some (.slice none 0 0) := by rw [World.cell?_alloc_lt _ _ _ h1]; exact aY hp rfl
 have fp2 : (w.alloc (Obj.cells #[Value.int IntKind.i64 pp, Value.int IntKind.i64 ee] 189)).frozen? ⟨p, 2, none⟩ = false := by (rw [frozen?_alloc_cells]; simp [World.frozen?, hp])
 have dp2 : w.cell? ⟨p, 2, none⟩ = some (.slice none 0 0) := aY hp rfl
 have gp2 : w.frozen? ⟨p, 2, none⟩ = false := bQ hp
 have cp3 : (w.alloc (Obj.cells #[Value.int IntKind.i64 pp, Value.int IntKind.i64 ee] 189)).cell? ⟨p, 3, none⟩ = some (.slice none 0 0) := by rw [World.cell?_alloc_lt _ _ _ h1]; exact aY hp rfl
 have fp3 : (w.alloc (Obj.cells #[Value.int IntKind.i64 pp, Value.int IntKind.i64 ee] 189)).frozen? ⟨p, 3, none⟩ = false := by (rw [frozen?_alloc_cells]; simp [World.frozen?, hp])
 have dp3 : w.cell? ⟨p, 3, none⟩ = some (.slice none 0 0) := aY hp rfl
 have gp3 : w.frozen? ⟨p, 3, none⟩ = false := bQ hp
 have cp4 : (w.alloc (Obj.cells #[Value.int IntKind.i64 pp, Value.int IntKind.i64 ee] 189)).cell? ⟨p, 4, none⟩ = some (.slice none 0 0) := by rw [World.cell?_alloc_lt _ _ _ h1]; exact aY hp rfl
 have fp4 : (w.alloc (Obj.cells #[Value.int IntKind.i64 pp, Value.int IntKind.i64 ee] 189)).frozen? ⟨p, 4, none⟩ = false := by (rw [frozen?_alloc_cells]; simp [World.frozen?, hp])
 have dp4 : w.cell? ⟨p, 4, none⟩ = some (.slice none 0 0) := aY hp rfl
 have gp4 : w.frozen? ⟨p, 4, none⟩ = false := bQ hp
 have cq : (w.alloc (Obj.cells #[Value.int IntKind.i64 pp, Value.int IntKind.i64 ee] 189)).cell? ⟨q, 0, none⟩ = some (.int .i64 x) := by rw [World.cell?_alloc_lt _ _ _ h2]; exact aY hq rfl
 have fq : (w.alloc (Obj.cells #[Value.int IntKind.i64 pp, Value.int IntKind.i64 ee] 189)).frozen? ⟨q, 0, none⟩ = false := by (rw [frozen?_alloc_cells]; simp [World.frozen?, hq])
 have dq : w.cell? ⟨q, 0, none⟩ = some (.int .i64 x) := aY hq rfl
 have gq : w.frozen? ⟨q, 0, none⟩ = false := bQ hq
 have cr : (w.alloc (Obj.cells #[Value.int IntKind.i64 pp, Value.int IntKind.i64 ee] 189)).cell? ⟨r, 0, none⟩ = some (.int .i64 y) := by rw [World.cell?_alloc_lt _ _ _ h3]; exact aY hr rfl
 have fr : (w.alloc (Obj.cells #[Value.int IntKind.i64 pp, Value.int IntKind.i64 ee] 189)).frozen? ⟨r, 0, none⟩ = false := by (rw [frozen?_alloc_cells]; simp [World.frozen?, hr])
 have dr : w.cell? ⟨r, 0, none⟩ = some (.int .i64 y) := aY hr rfl
 have gr : w.frozen? ⟨r, 0, none⟩ = false := bQ hr
 have hA := Ip (p := p) (q := q) (r := r) (vs := [.slice none 0 0, .int .i64 0, .slice none 0 0, .slice none 0 0, .slice none 0 0]) (pp := pp) (ee := ee) hp rfl hq hr hpq hpr hqr
 go_region
 rw [zV]
 exact ⟨rfl, _, rfl, .tuple #[], by simp [results, Tryz.results88, go_sem], rfl, rfl, F5 h1 h2 h3 hA⟩
end Go.Vd
