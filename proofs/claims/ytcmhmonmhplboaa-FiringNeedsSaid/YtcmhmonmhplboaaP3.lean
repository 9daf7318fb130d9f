/- The law in plain Lean: it answers true. No condition. -/
import Derived.Test.YtcmhmonmhplboaaP1
set_option linter.all false
set_option linter.unusedVariables false
set_option linter.unusedSimpArgs false
set_option linter.unnecessarySimpa false
set_option autoImplicit true
set_option relaxedAutoImplicit true
/- Layer 34 in plain Lean: what a shot needs. -/
open Go Go.Ev
namespace Fs

abbrev Bl := (List Int) × Int × Int × Unit
abbrev Sh4 := Int × Int × Int × Int × Unit
abbrev Bf := (List ((List Int) × (List (Int × (List Int) × Unit)) × Unit)) × Unit
def nX : Bl := ([1], 300, 1800, ())
def nK (o : Bool) : Ks := ([0], [2], o, ())
def nB (v : Int) : Bf := ([([1], [(0, [0, v], ())], ())], ())
def nvr : Int := 1099511627776

theorem n34 {K : Nat} (hK : K = 1000) : c34 K = some (true, ()) := by subst hK; kernel_rfl
theorem n39 {K : Nat} : c39 K = some (nX, nK true, nB nvr, ()) := by rw [c39_eq]; rfl
theorem n40 {K : Nat} (hK : K = 1000) : c40 K (nB nvr) = some (nB nvr, ()) := by subst hK; kernel_rfl
theorem n58 {K : Nat} (hK : K = 1000) (o : Bool) : c58 K (nK o) = some (true, ()) := by subst hK; cases o <;> kernel_rfl
theorem n86g {K : Nat} (hK : K = 1000) (o : Bool) : c86 K nX (nK o) (nB nvr) = some (o, ()) := by subst hK; cases o <;> kernel_rfl
theorem n86w {K : Nat} (hK : K = 1000) (o : Bool) : c86 K nX (nK o) (nB 5000) = some (false, ()) := by subst hK; cases o <;> kernel_rfl
theorem n92 {K : Nat} (hK : K = 1000) : c92 K [1] 0 63 = some (true, ()) := by subst hK; kernel_rfl

/-- A shot that came about: its state, its persons, its time. -/
def SOk (s : Sh4) (now : Int) : Prop := 0 ≤ s.2.2.2.1 ∧ s.2.2.2.1 ≤ now ∧ ((s = (0, 0, 0, 0, ())) ∨ (s.1 = 1 ∧ 1 ≤ s.2.1 ∧ s.2.2.1 = 0) ∨ ((s.1 = 2 ∨ s.1 = 3 ∨ s.1 = 4) ∧ 1 ≤ s.2.1 ∧ 1 ≤ s.2.2.1 ∧ s.2.1 ≠ s.2.2.1))
theorem n45 {K : Nat} (hK : K = 1000) {s : Sh4} {now : Int} (h : SOk s now) (hn : now ≤ 2147483648) : c45 K nX s = some (true, ()) := by
  have e : nX = ([1], 300, 1800, ()) := rfl
  obtain ⟨st, p, q, t, u⟩ := s
  obtain ⟨h0, h1, h2⟩ := h
  simp only at h0 h1 h2
  rw [c45_eq, e, n92 hK, c93_ok, c93_ok, c93_ok]
  have ht : t ≤ 2147483648 := by omega
  rcases h2 with h2 | ⟨rfl, h3, h4⟩ | ⟨h2, h3, h4, h5⟩
  · cases h2
    simp [eqD, eqDL]
  · simp [h0, ht, h4]; omega
  · rcases h2 with rfl | rfl | rfl <;> simp [h0, ht, h5] <;> omega

/-- What is wrong with a request. -/
def chk (s : Sh4) (o g : Bool) (now want : Int) (bad : Bool) : Int :=
  if s.1 ≠ want then 10 else if bad then 19 else if want ≠ 0 ∧ now - s.2.2.2.1 > 300 then 10 else if o = false then 48 else if g = false then 49 else 0
theorem n90 {K : Nat} (hK : K = 1000) {s : Sh4} {now : Int} (h : SOk s now) (hn0 : 0 ≤ now) (hn : now ≤ 100000) (o g : Bool) {B : Bf} (hB : ∀ o, c86 K nX (nK o) B = some (o && g, ())) (want : Int) (bad : Bool) :
    c90 K (nX, s, nK o, B, now, want, ()) bad = some (chk s o g now want bad, ()) := by
  rw [c90_eq]
  simp only
  rw [n45 hK h (by omega), c91_eq, n58 hK, hB]
  obtain ⟨h0, h1, _⟩ := h
  have e : IntKind.i64.wrap (now - s.2.2.2.1) = now - s.2.2.2.1 := wrap_id (by omega) (by omega)
  rw [e]
  unfold chk
  have hx : nX.2.1 = 300 := rfl
  have ho : (nK o).2.2.1 = o := rfl
  rw [hx, ho]
  have a1 : ¬ now < 0 := by omega
  have a2 : now ≥ s.2.2.2.1 := by omega
  have a3 : now ≤ 2147483648 := by omega
  generalize s.2.2.2.1 = t at *
  generalize s.1 = st
  cases bad <;> cases o <;> cases g <;> simp [a1, a2, a3] <;> grind

end Fs

/- Layer 34 in plain Lean: the third law. -/
open Go Go.Ev
namespace Fs

/-- What is known between two steps. -/
def NI (s : Sh4) (now am ag p1 p2 : Int) : Prop := SOk s now ∧ (s.1 = 1 → am = s.2.2.2.1 ∧ p1 = s.2.1) ∧ (s.1 = 2 → ag = s.2.2.2.1 ∧ p1 = s.2.1 ∧ p2 = s.2.2.1)

theorem needs_step {K k1 : Nat} (hK : K = 1000) {s : Sh4} {am ag p1 p2 now now0 cn : Int} (hI : NI s now0 am ag p1 p2) (hn0 : 0 ≤ now0) (hle : now0 ≤ now) (hn : now ≤ 100000) (o g : Bool) {B : Bf} (hB : ∀ o, c86 K nX (nK o) B = some (o && g, ())) {d3 : Dc} (hd : DOk d3)
    (rec : ∀ (d : Dc) (s : Sh4) (am ag p1 p2 : Int), DOk d → NI s now am ag p1 p2 → m9_10 K k1 d nX (nK true) (nB nvr) (nB 5000) s now am ag p1 p2 cn = some (true, ())) :
    ((c19 K d3 3).bind fun r4 => (c19 K r4.2.1 4).bind fun r5 => (if ((r5.1 : Int) == 0) = true then (c41 K nX s (nK o) B (IntKind.i64.wrap (1 + r4.1)) now).bind fun r6 => (if ((r6.2.1 : Int) == 0) = true then (if (if (!(if o = true then g else false)) = true then true else ((s.1 : Int) != 0)) = true then some (false, ()) else (c45 K nX r6.1).bind fun r7 => (if (!r7.1) = true then some (false, ()) else m9_10 K k1 r5.2.1 nX (nK true) (nB nvr) (nB 5000) r6.1 now now ag (IntKind.i64.wrap (1 + r4.1)) p2 cn)) else (c45 K nX r6.1).bind fun r8 => (if (!r8.1) = true then some (false, ()) else m9_10 K k1 r5.2.1 nX (nK true) (nB nvr) (nB 5000) r6.1 now am ag p1 p2 cn)) else (if ((r5.1 : Int) == 1) = true then (c42 K nX s (nK o) B (IntKind.i64.wrap (1 + r4.1)) now).bind fun r9 => (if ((r9.2.1 : Int) == 0) = true then (if (if (if (if (!(if o = true then g else false)) = true then true else (decide (am < 0))) = true then true else (decide ((IntKind.i64.wrap (now - am)) > nX.2.1))) = true then true else (((IntKind.i64.wrap (1 + r4.1)) : Int) == p1)) = true then some (false, ()) else (c45 K nX r9.1).bind fun r10 => (if (!r10.1) = true then some (false, ()) else m9_10 K k1 r5.2.1 nX (nK true) (nB nvr) (nB 5000) r9.1 now am now p1 (IntKind.i64.wrap (1 + r4.1)) cn)) else (c45 K nX r9.1).bind fun r11 => (if (!r11.1) = true then some (false, ()) else m9_10 K k1 r5.2.1 nX (nK true) (nB nvr) (nB 5000) r9.1 now am ag p1 p2 cn)) else (if ((r5.1 : Int) == 2) = true then (c22 K r5.2.1 3).bind fun r12 => (c43 K nX s (nK o) B now r12.1).bind fun r13 => (if (if ((r13.2.1 : Int) == 0) = true then (if (if (if (!(if o = true then g else false)) = true then true else (decide (ag < 0))) = true then true else (decide ((IntKind.i64.wrap (now - ag)) > nX.2.1))) = true then true else ((p1 : Int) == p2)) else false) = true then some (false, ()) else (c45 K nX r13.1).bind fun r14 => (if (!r14.1) = true then some (false, ()) else m9_10 K k1 r12.2.1 nX (nK true) (nB nvr) (nB 5000) r13.1 now am ag p1 p2 cn)) else (c44 K nX s now).bind fun r15 => (if ((r15.2.1 : Int) == 0) = true then (c45 K nX r15.1).bind fun r16 => (if (!r16.1) = true then some (false, ()) else m9_10 K k1 r5.2.1 nX (nK true) (nB nvr) (nB 5000) r15.1 now (-1) (-1) 0 0 cn) else (c45 K nX r15.1).bind fun r17 => (if (!r17.1) = true then some (false, ()) else m9_10 K k1 r5.2.1 nX (nK true) (nB nvr) (nB 5000) r15.1 now am ag p1 p2 cn)))))) = some (true, ()) := by
  obtain ⟨hs, h1, h2⟩ := hI
  have hs' : SOk s now := ⟨hs.1, by have := hs.2.1; omega, hs.2.2⟩
  obtain ⟨r4, d4, hr4, hr40, hr41, hd4⟩ := c19_ok K hd (n := 3) (by decide) (by decide)
  rw [hr4]
  simp only [Option.bind_some]
  obtain ⟨r5, d5, hr5, hr50, hr51, hd5⟩ := c19_ok K hd4 (n := 4) (by decide) (by decide)
  rw [hr5]
  simp only [Option.bind_some]
  have e1 : IntKind.i64.wrap (1 + r4) = 1 + r4 := wrap_id (by omega) (by omega)
  rw [e1]
  have hrole : ¬ 1 + r4 ≤ 0 := by omega
  have hX : nX.2.1 = 300 := rfl
  have hX2 : nX.2.2.1 = 1800 := rfl
  by_cases c0 : r5 = 0
  · rw [if_pos (by simp [c0]), c41_eq, n90 hK hs' (by omega) hn o g hB]
    simp only [Option.bind_some]
    by_cases hz : chk s o g now 0 (decide (1 + r4 ≤ 0)) = 0
    · rw [hz]
      have hc : s.1 = 0 ∧ o = true ∧ g = true := by
        unfold chk at hz
        revert hz
        cases o <;> cases g <;> simp [hrole] <;> omega
      obtain ⟨hs0, ho, hg⟩ := hc
      have hnew : SOk (1, 1 + r4, 0, now, ()) now := ⟨by simp only; omega, Int.le_refl _, .inr (.inl ⟨rfl, by simp only; omega, rfl⟩)⟩
      have hcond : (if (!(if o = true then g else false)) = true then true else ((s.1 : Int) != 0)) = false := by rw [ho, hg, hs0]; rfl
      rw [if_neg (by simp)]
      simp only [Option.bind_some]
      rw [if_pos (by simp), hcond, if_neg (by simp), n45 hK hnew (by omega)]
      simp only [Option.bind_some]
      rw [if_neg (by simp)]
      exact rec d5 _ _ _ _ _ hd5 ⟨hnew, fun _ => ⟨rfl, rfl⟩, fun h => by simp at h⟩
    · rw [if_pos (by simpa using hz)]
      simp only [Option.bind_some]
      rw [if_neg (by simpa using hz), n45 hK hs' (by omega)]
      simp only [Option.bind_some]
      rw [if_neg (by simp)]
      exact rec d5 _ _ _ _ _ hd5 ⟨hs', h1, h2⟩
  · rw [if_neg (by simpa using c0)]
    by_cases c1 : r5 = 1
    · rw [if_pos (by simp [c1]), c42_eq, n90 hK hs' (by omega) hn o g hB]
      simp only [Option.bind_some]
      generalize hb : (if decide (1 + r4 ≤ 0) = true then true else (1 + r4 : Int) == s.2.1) = bad
      by_cases hz : chk s o g now 1 bad = 0
      · rw [hz]
        have hc : s.1 = 1 ∧ o = true ∧ g = true ∧ bad = false ∧ now - s.2.2.2.1 ≤ 300 := by
          unfold chk at hz
          revert hz
          cases o <;> cases g <;> cases bad <;> simp <;> omega
        obtain ⟨hs1, ho, hg, hbad, hlate⟩ := hc
        have hne : ¬ 1 + r4 = s.2.1 := by
          rw [hbad] at hb
          simpa [hrole] using hb
        obtain ⟨ha, hp⟩ := h1 hs1
        have hp1 : 1 ≤ s.2.1 := by
          rcases hs.2.2 with h | h | h
          · rw [h] at hs1; simp at hs1
          · exact h.2.1
          · omega
        have hnew : SOk (2, s.2.1, 1 + r4, now, ()) now := ⟨by simp only; omega, Int.le_refl _, .inr (.inr ⟨.inl rfl, hp1, by simp only; omega, fun h => hne h.symm⟩)⟩
        have e2 : IntKind.i64.wrap (now - am) = now - am := wrap_id (by have := hs.1; have := hs'.2.1; omega) (by have := hs.1; have := hs'.2.1; omega)
        have b1 : ¬ am < 0 := by have := hs.1; omega
        have b2 : ¬ now - am > 300 := by omega
        have b3 : ((1 + r4 : Int) == p1) = false := by rw [hp]; simpa using hne
        have hcond : (if (if (if (!(if o = true then g else false)) = true then true else (decide (am < 0))) = true then true else (decide ((IntKind.i64.wrap (now - am)) > nX.2.1))) = true then true else ((1 + r4 : Int) == p1)) = false := by
          rw [ho, hg, e2, hX, b3, decide_eq_false b1, decide_eq_false b2]; rfl
        rw [if_neg (by simp)]
        simp only [Option.bind_some]
        rw [if_pos (by simp), hcond, if_neg (by simp), n45 hK hnew (by omega)]
        simp only [Option.bind_some]
        rw [if_neg (by simp)]
        exact rec d5 _ _ _ _ _ hd5 ⟨hnew, fun h => by simp at h, fun _ => ⟨rfl, hp, rfl⟩⟩
      · rw [if_pos (by simpa using hz)]
        simp only [Option.bind_some]
        rw [if_neg (by simpa using hz), n45 hK hs' (by omega)]
        simp only [Option.bind_some]
        rw [if_neg (by simp)]
        exact rec d5 _ _ _ _ _ hd5 ⟨hs', h1, h2⟩
    · rw [if_neg (by simpa using c1)]
      by_cases c2 : r5 = 2
      · rw [if_pos (by simp [c2]), c22_eq]
        obtain ⟨r6, d6, hr6, hr60, hr61, hd6⟩ := c19_ok K hd5 (n := 3) (by decide) (by decide)
        rw [hr6]
        simp only [Option.bind_some]
        generalize ((r6 : Int) == IntKind.i64.wrap (3 - 1)) = fails
        rw [c43_eq, n90 hK hs' (by omega) hn o g hB]
        simp only [Option.bind_some]
        by_cases hz : chk s o g now 2 false = 0
        · rw [hz]
          have hc : s.1 = 2 ∧ o = true ∧ g = true ∧ now - s.2.2.2.1 ≤ 300 := by
            unfold chk at hz
            revert hz
            cases o <;> cases g <;> simp <;> omega
          obtain ⟨hs2, ho, hg, hlate⟩ := hc
          obtain ⟨ha, hp, hq⟩ := h2 hs2
          have hpq : 1 ≤ s.2.1 ∧ 1 ≤ s.2.2.1 ∧ s.2.1 ≠ s.2.2.1 := by
            rcases hs.2.2 with h | h | h
            · rw [h] at hs2; simp at hs2
            · omega
            · exact h.2
          have e2 : IntKind.i64.wrap (now - ag) = now - ag := wrap_id (by have := hs.1; have := hs'.2.1; omega) (by have := hs.1; have := hs'.2.1; omega)
          have b1 : ¬ ag < 0 := by have := hs.1; omega
          have b2 : ¬ now - ag > 300 := by omega
          have b3 : ((p1 : Int) == p2) = false := by rw [hp, hq]; simpa using hpq.2.2
          have hnew : ∀ st : Int, st = 3 ∨ st = 4 → SOk (st, s.2.1, s.2.2.1, now, ()) now := fun st hst => ⟨by simp only; omega, Int.le_refl _, .inr (.inr ⟨.inr hst, hpq⟩)⟩
          have hcond : (if (if (if (!(if o = true then g else false)) = true then true else (decide (ag < 0))) = true then true else (decide ((IntKind.i64.wrap (now - ag)) > nX.2.1))) = true then true else ((p1 : Int) == p2)) = false := by
            rw [ho, hg, e2, hX, b3, decide_eq_false b1, decide_eq_false b2]; rfl
          have hz0 : ((0 : Int) == 0) = true := rfl
          rw [if_neg (by simp)]
          cases fails with
          | true =>
            rw [if_pos rfl]
            simp only [Option.bind_some]
            rw [hcond, if_pos hz0, if_neg (by simp), n45 hK (hnew 4 (.inr rfl)) (by omega)]
            simp only [Option.bind_some]
            rw [if_neg (by simp)]
            exact rec d6 _ _ _ _ _ hd6 ⟨hnew 4 (.inr rfl), fun h => by simp at h, fun h => by simp at h⟩
          | false =>
            rw [if_neg (by simp)]
            simp only [Option.bind_some]
            rw [hcond, if_pos hz0, if_neg (by simp), n45 hK (hnew 3 (.inl rfl)) (by omega)]
            simp only [Option.bind_some]
            rw [if_neg (by simp)]
            exact rec d6 _ _ _ _ _ hd6 ⟨hnew 3 (.inl rfl), fun h => by simp at h, fun h => by simp at h⟩
        · rw [if_pos (by simpa using hz)]
          simp only [Option.bind_some]
          have hz2 : ¬ ((chk s o g now 2 false : Int) == 0) = true := by simpa using hz
          rw [if_neg hz2, if_neg (by simp), n45 hK hs' (by omega)]
          simp only [Option.bind_some]
          rw [if_neg (by simp)]
          exact rec d6 _ _ _ _ _ hd6 ⟨hs', h1, h2⟩
      · rw [if_neg (by simpa using c2), c44_eq, n45 hK hs' (by omega), c91_eq]
        simp only [Option.bind_some]
        have a2 : now ≥ s.2.2.2.1 := hs'.2.1
        have a3 : now ≤ 2147483648 := by omega
        have e2 : IntKind.i64.wrap (now - s.2.2.2.1) = now - s.2.2.2.1 := wrap_id (by have := hs.1; have := hs'.2.1; omega) (by have := hs.1; have := hs'.2.1; omega)
        rw [e2, hX2]
        have h0 : SOk (0, 0, 0, 0, ()) now := ⟨Int.le_refl _, by simp only; omega, .inl rfl⟩
        rw [if_neg (by simp)]
        by_cases hs0 : s.1 = 0
        · rw [if_pos (by simpa using hs0)]
          simp only [Option.bind_some]
          rw [if_neg (by decide), n45 hK hs' (by omega)]
          simp only [Option.bind_some]
          rw [if_neg (by simp)]
          exact rec d5 _ _ _ _ _ hd5 ⟨hs', h1, h2⟩
        · rw [if_neg (by simpa using hs0), if_neg (by simp [a2, a3])]
          by_cases hw : (if ((s.1 : Int) == 4) = true then decide (now - s.2.2.2.1 < 1800) else false) = true
          · rw [if_pos hw]
            simp only [Option.bind_some]
            rw [if_neg (by decide), n45 hK hs' (by omega)]
            simp only [Option.bind_some]
            rw [if_neg (by simp)]
            exact rec d5 _ _ _ _ _ hd5 ⟨hs', h1, h2⟩
          · rw [if_neg hw]
            simp only [Option.bind_some]
            rw [if_pos (by decide), n45 hK h0 (by omega)]
            simp only [Option.bind_some]
            rw [if_neg (by simp)]
            exact rec d5 _ _ _ _ _ hd5 ⟨h0, fun h => by simp at h, fun h => by simp at h⟩

end Fs

/- Layer 34 in plain Lean: the third law, whole. -/
open Go Go.Ev
namespace Fs

theorem needs_loop {K : Nat} (hK : K = 1000) : (c : Nat) → (q : Nat) → (d : Dc) → (s : Sh4) → (now am ag p1 p2 : Int) → DOk d → NI s now am ag p1 p2 → 0 ≤ now → now + (c : Int) * 301 ≤ 100000 → c < q → c ≤ 40 →
    m9_10 K q d nX (nK true) (nB nvr) (nB 5000) s now am ag p1 p2 (c : Int) = some (true, ()) := by
  intro c
  induction c with
  | zero =>
    intro q d s now am ag p1 p2 hd hI h0 hn hq hc
    obtain ⟨q, rfl⟩ : ∃ j, q = j + 1 := ⟨q - 1, by omega⟩
    rw [m9_10_eq, if_neg (by decide), n34 hK]
    rfl
  | succ c ih =>
    intro q d s now am ag p1 p2 hd hI h0 hn hq hc
    obtain ⟨q, rfl⟩ : ∃ j, q = j + 1 := ⟨q - 1, by omega⟩
    have e2 : IntKind.i64.wrap (((c + 1 : Nat) : Int) - 1) = (c : Int) := by rw [wrap_id (by omega) (by omega)]; omega
    rw [m9_10_eq, e2, if_pos (by simp)]
    obtain ⟨r, d1, hr, hmem, hd1⟩ := c35_ok K hd (l := [0, 10, 200, 301]) (by decide) (by decide)
    rw [hr]
    simp only [Option.bind_some]
    have hr0 : 0 ≤ r ∧ r ≤ 301 := by
      simp only [List.mem_cons, List.not_mem_nil, or_false] at hmem
      omega
    obtain ⟨r2, d2, hr2, _, _, hd2⟩ := c19_ok K hd1 (n := 6) (by decide) (by decide)
    rw [hr2]
    simp only [Option.bind_some]
    rw [c22_eq]
    obtain ⟨r3, d3, hr3, _, _, hd3⟩ := c19_ok K hd2 (n := 6) (by decide) (by decide)
    rw [hr3]
    simp only [Option.bind_some]
    have e1 : IntKind.i64.wrap (now + r) = now + r := wrap_id (by omega) (by omega)
    rw [e1]
    have hrec : ∀ (d : Dc) (s : Sh4) (am ag p1 p2 : Int), DOk d → NI s (now + r) am ag p1 p2 → m9_10 K q d nX (nK true) (nB nvr) (nB 5000) s (now + r) am ag p1 p2 (c : Int) = some (true, ()) :=
      fun d s am ag p1 p2 hd hI => ih q d s (now + r) am ag p1 p2 hd hI (by omega) (by omega) (by omega) (by omega)
    generalize decide (r2 > 0) = o
    by_cases h3 : ((r3 : Int) == IntKind.i64.wrap (6 - 1)) = true
    · rw [if_pos h3, if_pos (by cases o <;> rfl), if_pos (by cases o <;> rfl), if_pos (by cases o <;> rfl)]
      exact needs_step hK hI h0 (by omega) (by omega) o false (B := nB 5000) (fun o => by rw [n86w hK]; simp) hd3 hrec
    · rw [if_neg h3, if_pos (by cases o <;> rfl), if_pos (by cases o <;> rfl), if_pos (by cases o <;> rfl)]
      exact needs_step hK hI h0 (by omega) (by omega) o true (B := nB nvr) (fun o => by rw [n86g hK]; simp) hd3 hrec

theorem firingNeeds_true {K : Nat} (hK : K = 1000) (l : List Int) : c9 K l = some (true, ()) := by
  rw [c9_eq, c13_eq]
  simp only [Option.bind_some]
  by_cases h : (l.length : Int) ≤ 400
  · have hd : DOk (l, 0, ()) := ⟨show l.length ≤ 400 by omega, by simp, by simp⟩
    rw [c15_eq, n39]
    simp only [h, decide_true, Bool.not_true, Bool.false_eq_true, if_false, Option.bind_some]
    rw [n40 hK]
    simp only [Option.bind_some]
    obtain ⟨x, d2, hx, hx0, hx1, hd2⟩ := c19_ok K hd (n := 30) (by decide) (by decide)
    rw [if_pos (by decide), if_pos (by decide), if_pos (by decide), hx]
    simp only [Option.bind_some]
    have hI : NI (0, 0, 0, 0, ()) 0 (-1) (-1) 0 0 := ⟨⟨Int.le_refl _, Int.le_refl _, .inl rfl⟩, fun h => by simp at h, fun h => by simp at h⟩
    have := needs_loop hK x.toNat K d2 _ 0 (-1) (-1) 0 0 hd2 hI (Int.le_refl _) (by omega) (by omega) (by omega)
    rw [Int.toNat_of_nonneg hx0] at this
    exact this
  · simp only [h, decide_false, Bool.not_false, if_true]
    rw [n34 hK]
    rfl

end Fs
