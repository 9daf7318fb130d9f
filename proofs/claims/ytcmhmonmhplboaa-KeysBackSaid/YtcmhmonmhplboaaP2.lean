/- The law in plain Lean: it answers true. No condition. -/
import Derived.Test.YtcmhmonmhplboaaP1
set_option linter.all false
set_option linter.unusedVariables false
set_option linter.unusedSimpArgs false
set_option linter.unnecessarySimpa false
set_option autoImplicit true
set_option relaxedAutoImplicit true
/- Layer 33 in plain Lean: the second law. -/
open Go Go.Ev
namespace Fs

def RS (l : List Int) : Bool := roadsOk l
theorem valid_mv {k : Ks} (hv : valid k = true) (i a b : Int) (hb : 0 ≤ b ∧ b ≤ 2) : valid (mv k i a b).1 = true := by
  unfold mv
  rw [if_pos hv]
  split
  · exact hv
  · split
    · exact hv
    · rename_i h1 h2
      have ho : k.2.2.1 = false := by
        cases hz : k.2.2.1 with
        | false => rfl
        | true => exact absurd (.inr hz) h2
      unfold valid at hv ⊢
      simp only [Bool.and_eq_true, beq_iff_eq] at hv
      simp only [Bool.and_eq_true, beq_iff_eq, ho, Bool.not_false, Bool.true_or, List.length_set, and_true]
      refine ⟨hv.1, hv.2.1, ?_⟩
      rw [List.all_eq_true] at hv ⊢
      intro x hx
      rcases List.mem_or_eq_of_mem_set hx with h | rfl
      · exact hv.2.2.1 x h
      · simp [hb.1, hb.2]
theorem valid_tn {k : Ks} (hv : valid k = true) (o : Bool) : valid (tn k o).1 = true := by
  unfold tn
  rw [if_pos hv]
  split
  · exact hv
  · rename_i h
    unfold valid at hv ⊢
    simp only [Bool.and_eq_true, beq_iff_eq] at hv
    simp only [Bool.and_eq_true, beq_iff_eq]
    refine ⟨hv.1, hv.2.1, hv.2.2.1, ?_⟩
    cases o with
    | false => rfl
    | true =>
      cases hb : boxed k with
      | false => exact absurd (.inr ⟨rfl, hb⟩) h
      | true => exact hb
theorem valid_stp {k : Ks} (hv : valid k = true) (w i : Int) : valid (stp k w i).1 = true := by
  unfold stp
  split
  · exact valid_mv hv _ _ _ (by decide)
  · split
    · exact valid_mv hv _ _ _ (by decide)
    · split
      · exact valid_mv hv _ _ _ (by decide)
      · split
        · exact valid_mv hv _ _ _ (by decide)
        · split
          · exact valid_tn hv _
          · exact valid_tn hv _
theorem mv_out {k : Ks} (hv : valid k = true) (ho : k.2.2.1 = true) (i a b : Int) : (mv k i a b).2 ≠ 0 := by
  unfold mv
  rw [if_pos hv]
  split
  · exact (show (47 : Int) ≠ 0 by decide)
  · rw [if_pos (.inr ho)]; exact (show (48 : Int) ≠ 0 by decide)
theorem stp_out {k : Ks} (hv : valid k = true) (ho : k.2.2.1 = true) (w i : Int) (h0 : 0 ≤ w) (h6 : w < 6) (h5 : w ≠ 5) : (stp k w i).2 ≠ 0 := by
  unfold stp
  split
  · exact mv_out hv ho i _ _
  · split
    · exact mv_out hv ho i _ _
    · split
      · exact mv_out hv ho i _ _
      · split
        · exact mv_out hv ho i _ _
        · split
          · unfold tn
            rw [if_pos hv, if_pos (.inl ho)]; exact (show (48 : Int) ≠ 0 by decide)
          · omega
theorem mv_err {k : Ks} (i a b : Int) (h : (mv k i a b).2 ≠ 0) : (mv k i a b).1 = k := by
  unfold mv at h ⊢
  split
  · rename_i h1
    rw [if_pos h1] at h
    split
    · rfl
    · rename_i h2
      rw [if_neg h2] at h
      split
      · rfl
      · rename_i h3
        rw [if_neg h3] at h
        exact absurd rfl h
  · rfl
theorem tn_err {k : Ks} (o : Bool) (h : (tn k o).2 ≠ 0) : (tn k o).1 = k := by
  unfold tn at h ⊢
  split
  · rename_i h1
    rw [if_pos h1] at h
    split
    · rfl
    · rename_i h2
      rw [if_neg h2] at h
      exact absurd rfl h
  · rfl
theorem stp_err {k : Ks} (w i : Int) (h : (stp k w i).2 ≠ 0) : (stp k w i).1 = k := by
  unfold stp at h ⊢
  split
  · rename_i h1; rw [if_pos h1] at h; exact mv_err _ _ _ h
  · rename_i h1; rw [if_neg h1] at h
    split
    · rename_i h1; rw [if_pos h1] at h; exact mv_err _ _ _ h
    · rename_i h1; rw [if_neg h1] at h
      split
      · rename_i h1; rw [if_pos h1] at h; exact mv_err _ _ _ h
      · rename_i h1; rw [if_neg h1] at h
        split
        · rename_i h1; rw [if_pos h1] at h; exact mv_err _ _ _ h
        · rename_i h1; rw [if_neg h1] at h
          split
          · rename_i h1; rw [if_pos h1] at h; exact tn_err _ h
          · rename_i h1; rw [if_neg h1] at h; exact tn_err _ h
theorem locked_all (r : List Int) : (q : List Int) → q.length = r.length → q.all (· == 2) = true → (lockedR r q).length = r.length := by
  induction r with
  | nil => intro q h1 h2; simp [lockedR]
  | cons a r ih =>
    intro q h1 h2
    cases q with
    | nil => simp at h1
    | cons b q =>
      simp only [List.all_cons, Bool.and_eq_true, beq_iff_eq] at h2
      simp only [lockedR]
      rw [if_pos (by omega), List.length_cons, ih q (by simpa using h1) h2.2, List.length_cons]
theorem valid_locked {k : Ks} (hv : valid k = true) (ho : k.2.2.1 = true) : (lockedR k.1 k.2.1).length = k.1.length := by
  have h := valid_len hv
  refine locked_all k.1 k.2.1 h.2.2 ?_
  unfold valid boxed at hv
  simp only [Bool.and_eq_true, Bool.or_eq_true, ho, Bool.not_true, Bool.false_eq_true, false_or] at hv
  exact hv.2.2.2

theorem stp_0 (k : Ks) (i : Int) : stp k 0 i = mv k i 0 1 := by simp [stp]
theorem stp_1 (k : Ks) (i : Int) : stp k 1 i = mv k i 1 2 := by simp [stp]
theorem stp_2 (k : Ks) (i : Int) : stp k 2 i = mv k i 2 1 := by simp [stp]
theorem stp_3 (k : Ks) (i : Int) : stp k 3 i = mv k i 1 0 := by simp [stp]
theorem stp_4 (k : Ks) (i : Int) : stp k 4 i = tn k true := by simp [stp]
theorem stp_5 (k : Ks) (i : Int) : stp k 5 i = tn k false := by simp [stp]
theorem safe_tail {K : Nat} (hK : 1000 ≤ K) {k : Ks} {n : Nat} (hv : valid k = true) (hk : Len k n) (hn : n ≤ 12) (w i : Int) (h0 : 0 ≤ w) (h6 : w < 6) (y : Ks × Int) (hy : stp k w i = y) (X : Option (Bool × Unit)) :
    ((c58 K y.1).bind fun r4 => ((if ((!(if (!r4.1) = true then true else (if (if k.2.2.1 = true then ((w : Int) != 5) else false) = true then ((y.2 : Int) == 0) else false))) && y.1.2.2.1) = true then c59 K y.1 else some ([], ()))).bind fun r5 => ((if ((!(if (if (!r4.1) = true then true else (if (if k.2.2.1 = true then ((w : Int) != 5) else false) = true then ((y.2 : Int) == 0) else false)) = true then true else (if y.1.2.2.1 = true then (((r5.1.length : Int) : Int) != (y.1.1.length : Int)) else false))) && ((y.2 : Int) != 0)) = true then c60 K y.1 k else some (false, ()))).bind fun r6 => (if (if (if (if (!r4.1) = true then true else (if (if k.2.2.1 = true then ((w : Int) != 5) else false) = true then ((y.2 : Int) == 0) else false)) = true then true else (if y.1.2.2.1 = true then (((r5.1.length : Int) : Int) != (y.1.1.length : Int)) else false)) = true then true else (if ((y.2 : Int) != 0) = true then (!r6.1) else false)) = true then some (false, ()) else X)) = X := by
  have hl := stp_len hk w i
  have hs := hl.short (n := n) (by omega)
  have hv2 := valid_stp hv w i
  have hout := stp_out (k := k) hv (w := w) (i := i)
  have herr := stp_err (k := k) w i
  have hlk := valid_locked hv2
  rw [hy] at hl hs hv2 hout herr hlk
  clear hy
  obtain ⟨k2, e⟩ := y
  simp only at hl hs hv2 hout herr hlk ⊢
  rw [c58_ok hs hK, hv2]
  simp only [Option.bind_some]
  rw [c59_ok hK (by rw [hl.1]; exact hn) (by rw [hl.2]; omega), c60_ok hs hK]
  have a1 : (if (!true) = true then true else (if (if k.2.2.1 = true then ((w : Int) != 5) else false) = true then ((e : Int) == 0) else false)) = false := by
    cases ho : k.2.2.1 with
    | false => simp
    | true =>
      by_cases h5 : w = 5
      · simp [h5]
      · have := hout ho h0 h6 h5
        simp [h5, this]
  rw [a1]
  simp only [Bool.not_false, Bool.true_and, Bool.false_eq_true, if_false]
  cases ho2 : k2.2.2.1 with
  | false =>
    by_cases he : e = 0
    · simp [he]
    · have := herr he
      simp [he, this]
  | true =>
    have hlen := hlk ho2
    have hlen2 : (((isort (lockedR k2.1 k2.2.1)).length : Int) != (k2.1.length : Int)) = false := by rw [isort_length, hlen]; simp
    simp only [if_true, Option.bind_some, hlen2, Bool.false_eq_true, if_false, Bool.not_false, Bool.true_and]
    by_cases he : e = 0
    · simp [he]
    · have := herr he
      simp [he, this]

theorem safe_loop {K : Nat} (hK : 1000 ≤ K) {n : Nat} (h1 : 1 ≤ n) (h4 : n ≤ 12) : (c : Nat) → (q : Nat) → (d : Dc) → (k : Ks) → DOk d → Len k n → valid k = true → c < q → c ≤ 40 → m11_6 K q d k 0 (c : Int) = some (true, ()) := by
  intro c
  induction c with
  | zero =>
    intro q d k hd hk hv hq hc
    obtain ⟨q, rfl⟩ : ∃ j, q = j + 1 := ⟨q - 1, by omega⟩
    rw [m11_6_eq, c46_ok hK]
    simp
  | succ c ih =>
    intro q d k hd hk hv hq hc
    obtain ⟨q, rfl⟩ : ∃ j, q = j + 1 := ⟨q - 1, by omega⟩
    have hs := hk.short (by omega)
    have e2 : IntKind.i64.wrap (((c + 1 : Nat) : Int) - 1) = (c : Int) := by rw [wrap_id (by omega) (by omega)]; omega
    have hp : (((c + 1 : Nat) : Int) > 0) := by omega
    rw [m11_6_eq, e2]
    obtain ⟨w, d1, hr, hw0, hw6, hd1⟩ := c19_ok K hd (n := 6) (by decide) (by decide)
    rw [hr]
    simp only [hp, decide_true, if_true, Option.bind_some, beq_self_eq_true]
    obtain ⟨i, d2, hr2, _, _, hd2⟩ := c19_ok K hd1 (n := 3) (by decide) (by decide)
    rw [hr2]
    simp only [Option.bind_some]
    have hrec := ih q d2 (stp k w i).1 hd2 (stp_len hk w i) (valid_stp hv w i) (by omega) (by omega)
    rw [c52_eq, c53_eq, c54_eq, c55_eq, c56_eq, c57_eq]
    simp only [c104_ok hs hK, c105_ok hs hK, Option.bind_some]
    by_cases e0 : w = 0
    · subst e0
      rw [if_pos (by decide)]
      rw [stp_0] at hrec
      exact (safe_tail hK hv hk h4 0 i hw0 hw6 _ (stp_0 k i) _).trans hrec
    · by_cases e1 : w = 1
      · subst e1
        rw [if_neg (by decide), if_pos (by decide)]
        rw [stp_1] at hrec
        exact (safe_tail hK hv hk h4 1 i hw0 hw6 _ (stp_1 k i) _).trans hrec
      · by_cases e3 : w = 2
        · subst e3
          rw [if_neg (by decide), if_neg (by decide), if_pos (by decide)]
          rw [stp_2] at hrec
          exact (safe_tail hK hv hk h4 2 i hw0 hw6 _ (stp_2 k i) _).trans hrec
        · by_cases e4 : w = 3
          · subst e4
            rw [if_neg (by decide), if_neg (by decide), if_neg (by decide), if_pos (by decide)]
            rw [stp_3] at hrec
            exact (safe_tail hK hv hk h4 3 i hw0 hw6 _ (stp_3 k i) _).trans hrec
          · by_cases e5 : w = 4
            · subst e5
              rw [if_neg (by decide), if_neg (by decide), if_neg (by decide), if_neg (by decide), if_pos (by decide)]
              rw [stp_4] at hrec
              exact (safe_tail hK hv hk h4 4 i hw0 hw6 _ (stp_4 k i) _).trans hrec
            · have e6 : w = 5 := by omega
              subst e6
              rw [if_neg (by decide), if_neg (by decide), if_neg (by decide), if_neg (by decide), if_neg (by decide)]
              rw [stp_5] at hrec
              exact (safe_tail hK hv hk h4 5 i hw0 hw6 _ (stp_5 k i) _).trans hrec

theorem safe_start : ∀ n : Nat, 1 ≤ n → n ≤ 3 → roadsOk (List.take n [2, 5, 9]) = true := by
  intro n h1 h2
  have : n = 1 ∨ n = 2 ∨ n = 3 := by omega
  rcases this with rfl | rfl | rfl <;> decide
theorem keysSafe_true {K : Nat} (hK : 1000 ≤ K) (l : List Int) : c11 K l = some (true, ()) := by
  rw [c11_eq, c13_eq]
  simp only [Option.bind_some]
  by_cases h : (l.length : Int) ≤ 400
  · have hd : DOk (l, 0, ()) := ⟨show l.length ≤ 400 by omega, by simp, by simp⟩
    obtain ⟨r, d1, hr, hr0, hr1, hd1⟩ := c19_ok K hd (n := 3) (by decide) (by decide)
    rw [c15_eq]
    simp only [h, decide_true, Bool.not_true, Bool.false_eq_true, if_false, Option.bind_some]
    rw [hr]
    simp only [Option.bind_some]
    have e : IntKind.i64.wrap (1 + r) = ((r.toNat + 1 : Nat) : Int) := by rw [wrap_id (by omega) (by omega)]; omega
    rw [e, Int.toNat_natCast]
    have hro := safe_start (r.toNat + 1) (by omega) (by omega)
    have hlen : (List.take (r.toNat + 1) ([2, 5, 9] : List Int)).length = r.toNat + 1 := by simp; omega
    have b1 : (0 : Int) ≤ ((r.toNat + 1 : Nat) : Int) := by omega
    have b2 : ((r.toNat + 1 : Nat) : Int) ≤ (([2, 5, 9] : List Int).length : Int) := by simp; omega
    obtain ⟨x, d2, hx, hx0, hx1, hd2⟩ := c19_ok K hd1 (n := 40) (by decide) (by decide)
    rw [if_pos (by simp; omega), c51_ok hK (by omega)]
    simp only [Option.bind_some]
    rw [hx]
    simp only [Option.bind_some]
    have hk := start_len hro
    rw [hlen] at hk
    have hv : valid (start (List.take (r.toNat + 1) [2, 5, 9])).1 = true := by
      unfold start
      rw [if_pos hro]
      exact (valid_start _).trans hro
    have he : (start (List.take (r.toNat + 1) [2, 5, 9])).2 = 0 := by
      unfold start
      rw [if_pos hro]
    rw [he]
    have := safe_loop hK (n := r.toNat + 1) (by omega) (by omega) x.toNat K d2 _ hd2 hk hv (by omega) (by omega)
    rwa [Int.toNat_of_nonneg hx0] at this
  · simp only [h, decide_false, Bool.not_false, if_true]
    rw [c46_ok hK]
    rfl

end Fs

/- Layer 33 in plain Lean: the third law. -/
open Go Go.Ev
namespace Fs

theorem set_back (q : List Int) (i : Nat) (b a : Int) (h : i < q.length) (ha : q.getD i 0 = a) : (q.set i b).set i a = q := by
  rw [List.set_set, ← ha, getD_get h]
  exact List.set_getElem_self h
theorem mv_ok {k : Ks} {i a b : Int} (h : (mv k i a b).2 = 0) : valid k = true ∧ 0 ≤ i ∧ i < (k.2.1.length : Int) ∧ k.2.1.getD i.toNat 0 = a ∧ k.2.2.1 = false ∧ (mv k i a b).1 = (k.1, k.2.1.set i.toNat b, k.2.2.1, ()) := by
  unfold mv at h ⊢
  split at h
  · rename_i hv
    rw [if_pos hv]
    split at h
    · exact absurd h (show (47 : Int) ≠ 0 by decide)
    · rename_i h1
      rw [if_neg h1]
      split at h
      · exact absurd h (show (48 : Int) ≠ 0 by decide)
      · rename_i h2
        rw [if_neg h2]
        simp only [not_or, ne_eq, Decidable.not_not, Bool.not_eq_true] at h2
        exact ⟨hv, by omega, by omega, h2.1, h2.2, rfl⟩
  · exact absurd h (show (6 : Int) ≠ 0 by decide)
/-- A key that was moved can be moved back. -/
theorem mv_back {k : Ks} {i a b : Int} (hb : 0 ≤ b ∧ b ≤ 2) (h : (mv k i a b).2 = 0) : mv (mv k i a b).1 i b a = (k, 0) := by
  have hv2 := valid_mv (mv_ok h).1 i a b hb
  obtain ⟨hv, h0, h1, hx, ho, he⟩ := mv_ok h
  rw [he] at hv2 ⊢
  obtain ⟨r, q, z, w⟩ := k
  simp only at hv h0 h1 hx ho he hv2 ⊢
  subst ho
  unfold mv
  rw [if_pos hv2]
  simp only [List.length_set]
  have hn : ¬ (i < 0 ∨ (q.length : Int) ≤ i) := by omega
  have hg : (q.set i.toNat b).getD i.toNat 0 = b := by
    rw [getD_get (by simp; omega)]; simp
  rw [if_neg hn, hg, if_neg (by simp), set_back q i.toNat b a (by omega) hx]
theorem tn_back {k : Ks} (h : (tn k true).2 = 0) : tn (tn k true).1 false = (k, 0) := by
  have hv2 : valid k = true → valid (tn k true).1 = true := fun hv => valid_tn hv true
  unfold tn at h hv2 ⊢
  split at h
  · rename_i hv
    have hv2 := hv2 hv
    rw [if_pos hv] at hv2 ⊢
    split at h
    · exact absurd h (show (48 : Int) ≠ 0 by decide)
    · rename_i h1
      rw [if_neg h1] at hv2 ⊢
      have ho : k.2.2.1 = false := by
        cases hz : k.2.2.1 with
        | false => rfl
        | true => exact absurd (.inl hz) h1
      rw [if_pos hv2]
      obtain ⟨r, q, z, w⟩ := k
      simp only at ho ⊢
      subst ho
      rfl
  · exact absurd h (show (6 : Int) ≠ 0 by decide)

theorem back_gen {K : Nat} (hK : 1000 ≤ K) {k : Ks} (hk : Short k) {y : Ks × Int} {F : Option (Ks × Int × Unit)} (hF : F = some (y.1, y.2, ())) (G : Ks → Option (Ks × Int × Unit)) (hG : y.2 = 0 → G y.1 = some (k, 0, ())) (X : Option (Bool × Unit)) :
    (F.bind fun r5 => (if ((r5.2.1 : Int) == 0) = true then (G r5.1).bind fun r6 => ((if (!((r6.2.1 : Int) != 0)) = true then c60 K r6.1 k else some (false, ()))).bind fun r7 => (if (if ((r6.2.1 : Int) != 0) = true then true else (!r7.1)) = true then some (false, ()) else X) else X)) = X := by
  rw [hF]
  simp only [Option.bind_some]
  by_cases h : y.2 = 0
  · rw [if_pos (by simp [h]), hG h]
    simp only [Option.bind_some]
    rw [if_pos (by decide), c60_ok hk hK]
    simp
  · rw [if_neg (by simp [h])]

theorem back_loop {K : Nat} (hK : 1000 ≤ K) {n : Nat} (h1 : 1 ≤ n) (h4 : n ≤ 12) : (c : Nat) → (q : Nat) → (d : Dc) → (k : Ks) → DOk d → Len k n → c < q → c ≤ 40 → m12_6 K q d k (c : Int) = some (true, ()) := by
  intro c
  induction c with
  | zero =>
    intro q d k hd hk hq hc
    obtain ⟨q, rfl⟩ : ∃ j, q = j + 1 := ⟨q - 1, by omega⟩
    have hs := hk.short (by omega)
    rw [m12_6_eq]
    obtain ⟨i, d1, hr, _, _, hd1⟩ := c19_ok K hd (n := 3) (by decide) (by decide)
    rw [if_neg (by decide), hr]
    simp only [Option.bind_some]
    refine (back_gen (y := mv k i 0 1) hK hs (by rw [c52_eq, c104_ok hs hK]; first | done | rfl) (fun k' => c55 K k' i) (fun h => by
      rw [c55_eq, c104_ok (mv_short hs ..) hK, mv_back (by decide) h]; first | done | rfl) _).trans ?_
    refine (back_gen (y := mv k i 1 2) hK hs (by rw [c53_eq, c104_ok hs hK]; first | done | rfl) (fun k' => c54 K k' i) (fun h => by
      rw [c54_eq, c104_ok (mv_short hs ..) hK, mv_back (by decide) h]; first | done | rfl) _).trans ?_
    refine (back_gen (y := tn k true) hK hs (by rw [c56_eq, c105_ok hs hK]; first | done | rfl) (fun k' => c57 K k') (fun h => by
      rw [c57_eq, c105_ok (tn_short hs ..) hK, tn_back h]; first | done | rfl) _).trans ?_
    rw [c46_ok hK]
    first | done | rfl
  | succ c ih =>
    intro q d k hd hk hq hc
    obtain ⟨q, rfl⟩ : ∃ j, q = j + 1 := ⟨q - 1, by omega⟩
    have hs := hk.short (by omega)
    have e2 : IntKind.i64.wrap (((c + 1 : Nat) : Int) - 1) = (c : Int) := by rw [wrap_id (by omega) (by omega)]; omega
    rw [m12_6_eq, e2, if_pos (by simp)]
    obtain ⟨w, d1, hr, _, hd1⟩ := c35_ok K hd (l := [0, 0, 1, 1, 4, 2, 3, 5]) (by decide) (by decide)
    rw [hr]
    simp only [Option.bind_some]
    obtain ⟨i, d2, hr2, _, _, hd2⟩ := c19_ok K hd1 (n := 3) (by decide) (by decide)
    rw [hr2]
    simp only [Option.bind_some]
    rw [c49_ok hs hK]
    simp only [Option.bind_some]
    exact ih q d2 _ hd2 (stp_len hk w i) (by omega) (by omega)

theorem back_start : ∀ n : Nat, 1 ≤ n → n ≤ 3 → roadsOk (List.take n [1, 4, 6]) = true := by
  intro n h1 h2
  have : n = 1 ∨ n = 2 ∨ n = 3 := by omega
  rcases this with rfl | rfl | rfl <;> decide
theorem keysBack_true {K : Nat} (hK : 1000 ≤ K) (l : List Int) : c12 K l = some (true, ()) := by
  rw [c12_eq, c13_eq]
  simp only [Option.bind_some]
  by_cases h : (l.length : Int) ≤ 400
  · have hd : DOk (l, 0, ()) := ⟨show l.length ≤ 400 by omega, by simp, by simp⟩
    obtain ⟨r, d1, hr, hr0, hr1, hd1⟩ := c19_ok K hd (n := 3) (by decide) (by decide)
    rw [c15_eq]
    simp only [h, decide_true, Bool.not_true, Bool.false_eq_true, if_false, Option.bind_some]
    rw [hr]
    simp only [Option.bind_some]
    have e : IntKind.i64.wrap (1 + r) = ((r.toNat + 1 : Nat) : Int) := by rw [wrap_id (by omega) (by omega)]; omega
    rw [e, Int.toNat_natCast]
    have hro := back_start (r.toNat + 1) (by omega) (by omega)
    have hlen : (List.take (r.toNat + 1) ([1, 4, 6] : List Int)).length = r.toNat + 1 := by simp; omega
    obtain ⟨x, d2, hx, hx0, hx1, hd2⟩ := c19_ok K hd1 (n := 12) (by decide) (by decide)
    rw [if_pos (by simp; omega), c47_ok hK (by omega)]
    simp only [Option.bind_some]
    rw [hx]
    simp only [Option.bind_some]
    have hk := start_len hro
    rw [hlen] at hk
    have := back_loop hK (n := r.toNat + 1) (by omega) (by omega) x.toNat K d2 _ hd2 hk (by omega) (by omega)
    rwa [Int.toNat_of_nonneg hx0] at this
  · simp only [h, decide_false, Bool.not_false, if_true]
    rw [c46_ok hK]
    rfl

end Fs
