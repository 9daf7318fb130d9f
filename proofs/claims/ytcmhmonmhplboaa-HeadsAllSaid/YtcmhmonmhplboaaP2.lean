/- The law in plain Lean: it answers true. No condition. -/
import Derived.Test.YtcmhmonmhplboaaP1
set_option linter.all false
set_option linter.unusedVariables false
set_option linter.unusedSimpArgs false
set_option linter.unnecessarySimpa false
set_option autoImplicit true
set_option relaxedAutoImplicit true
/- Head counts: the program and the reference. -/
open Go Go.Ev
namespace Fs

theorem c93_ok (K : Nat) (n a b : Int) : c93 K n a b = some (decide (a ≤ n) && decide (n ≤ b), ()) := by
  rw [c93_eq]; grind

/-- The first place of a row where p holds. -/
theorem c139_ok {K : Nat} {l : List Int} (hl : l.length < 1000) (hK : 1000 ≤ K) {g : Int × Unit → Option (Bool × Unit)} {p : Int → Bool} (hg : ∀ x, g (x, ()) = some (p x, ())) :
    c139 K l g = some (match (List.range l.length).find? (fun i => p (l.getD i 0)) with | some i => (i : Int) | none => -1, ()) := by
  rw [c139_eq]
  have h := scanN (L := fun k i => m139_2 K k l g (l.length : Int) (i : Int)) (len := l.length) (ex := fun i => if p (l.getD i 0) then some ((i : Int), ()) else none) (T := some (-1, ())) (fun k i hi' => by
    rw [m139_2_eq]
    have e2 : IntKind.i64.wrap ((i : Int) + 1) = ((i + 1 : Nat) : Int) := by rw [wrap_id (by omega) (by omega)]; omega
    rw [e2, Int.toNat_natCast, hg]
    grind) (fun k => by rw [m139_2_eq]; simp) l.length 0 K (by omega) (by omega)
  refine h.trans ?_
  rw [← List.range_eq_range']
  generalize List.range l.length = r
  induction r with
  | nil => rfl
  | cons i r ih =>
    rw [List.findSome?_cons, List.find?_cons]
    cases p (l.getD i 0) with
    | true => rfl
    | false => simpa using ih
theorem any_range (l : List Int) (p : Int → Bool) : ((List.range l.length).find? (fun i => p (l.getD i 0))).isSome = l.any p := by
  rw [Bool.eq_iff_iff, List.find?_isSome]
  simp only [List.any_eq_true, List.mem_range]
  constructor
  · rintro ⟨i, hi, h⟩
    exact ⟨l[i], List.getElem_mem hi, by rwa [getD_get hi] at h⟩
  · rintro ⟨x, hx, h⟩
    obtain ⟨i, hi, rfl⟩ := List.mem_iff_getElem.1 hx
    exact ⟨i, hi, by rwa [getD_get hi]⟩
theorem c107_ok {K : Nat} {l : List Int} (hl : l.length < 1000) (hK : 1000 ≤ K) {g : Int × Unit → Option (Bool × Unit)} {p : Int → Bool} (hg : ∀ x, g (x, ()) = some (p x, ())) : c107 K l g = some (l.any p, ()) := by
  rw [c107_eq, c139_ok hl hK hg, ← any_range]
  cases (List.range l.length).find? (fun i => p (l.getD i 0)) with
  | none => rfl
  | some i => simp


/-- The numbers below n for which p holds. -/
def pickN (n : Nat) (p : Nat → Bool) : List Int := ((List.range n).filter p).map fun (i : Nat) => (i : Int)
theorem pickN_zero (p : Nat → Bool) : pickN 0 p = [] := rfl
theorem pickN_succ (n : Nat) (p : Nat → Bool) : pickN (n + 1) p = pickN n p ++ if p n = true then [(n : Int)] else [] := by
  simp only [pickN, List.range_succ, List.filter_append, List.map_append]
  congr 1
  cases h : p n <;> simp [h]
theorem pickN_len (n : Nat) (p : Nat → Bool) : (pickN n p).length ≤ n := by
  simp only [pickN, List.length_map]
  have := List.length_filter_le p (List.range n)
  simpa using this
theorem pickN_mem {n : Nat} {p : Nat → Bool} {x : Int} : x ∈ pickN n p ↔ 0 ≤ x ∧ x < (n : Int) ∧ p x.toNat = true := by
  simp only [pickN, List.mem_map, List.mem_filter, List.mem_range]
  constructor
  · rintro ⟨i, ⟨h1, h2⟩, rfl⟩
    exact ⟨by omega, by omega, by simpa using h2⟩
  · rintro ⟨h1, h2, h3⟩
    exact ⟨x.toNat, ⟨by omega, h3⟩, by omega⟩
theorem pickN_congr {n : Nat} {p q : Nat → Bool} (h : ∀ i, i < n → p i = q i) : pickN n p = pickN n q := by
  simp only [pickN]
  congr 1
  exact List.filter_congr fun i hi => h i (List.mem_range.1 hi)

theorem c67_loop {K n : Nat} (hn : n < 1000) {f : Int × Unit → Option (Bool × Unit)} {p : Nat → Bool} (hf : ∀ i, i < n → f ((i : Int), ()) = some (p i, ())) : (d i q : Nat) → i + d = n → d < q → m67_3 K q f (pickN i p) (n : Int) (i : Int) = some (pickN n p, ())
  | 0, i, q, h, hq => by
    obtain ⟨q, rfl⟩ : ∃ j, q = j + 1 := ⟨q - 1, by omega⟩
    have e : i = n := by omega
    rw [m67_3_eq, if_neg (by simp; omega), e]
  | d + 1, i, q, h, hq => by
    obtain ⟨q, rfl⟩ : ∃ j, q = j + 1 := ⟨q - 1, by omega⟩
    have hl := pickN_len i p
    have rec_ := c67_loop (K := K) hn hf d (i + 1) q (by omega) (by omega)
    rw [pickN_succ] at rec_
    rw [m67_3_eq, wsucc (by omega), if_pos (by simp; omega), hf i (by omega)]
    simp only [Option.bind_some]
    cases hp : p i
    · rw [hp] at rec_
      simpa using rec_
    · rw [hp] at rec_
      rw [if_pos rfl, if_pos (lt8 (by simp; omega))]
      simpa using rec_
theorem c67_ok {K n : Nat} (hK : 1000 ≤ K) (hn : n < 1000) {f : Int × Unit → Option (Bool × Unit)} {p : Nat → Bool} (hf : ∀ i, i < n → f ((i : Int), ()) = some (p i, ())) : c67 K (n : Int) f = some (pickN n p, ()) := by
  rw [c67_eq]
  exact c67_loop hn hf n 0 K (by omega) (by omega)

/-- The places that are possible. -/
def poss (w : Ag45) (t : Int) : List Int := pickN w.2.1.length fun i => decide (w.2.1.getD i 0 ≤ t)
theorem poss_len (w : Ag45) (t : Int) : (poss w t).length ≤ w.2.1.length := pickN_len _ _
theorem c121_ok {K : Nat} (hK : 1000 ≤ K) {w : Ag45} (h : w.2.1.length < 1000) (t : Int) : c121 K w t = some (poss w t, ()) := by
  rw [c121_eq, c67_ok hK h (p := fun i => decide (w.2.1.getD i 0 ≤ t)) (fun i hi => by
    simp only
    rw [c152_eq, if_pos (inb hi), Int.toNat_natCast])]
  rfl
theorem c23_loop {K : Nat} {w : Ag45} (h : w.2.1.length < 1000) (t : Int) : (d i q : Nat) → i + d = w.2.1.length → d < q → m23_3 K q t w (pickN i fun i => decide (w.2.1.getD i 0 ≤ t)) (i : Int) = some (poss w t, ())
  | 0, i, q, hi, hq => by
    obtain ⟨q, rfl⟩ : ∃ j, q = j + 1 := ⟨q - 1, by omega⟩
    have e : i = w.2.1.length := by omega
    rw [m23_3_eq, if_neg (by simp; omega), e]
    rfl
  | d + 1, i, q, hi, hq => by
    obtain ⟨q, rfl⟩ : ∃ j, q = j + 1 := ⟨q - 1, by omega⟩
    have hl := pickN_len i fun i => decide (w.2.1.getD i 0 ≤ t)
    have rec_ := c23_loop (K := K) h t d (i + 1) q (by omega) (by omega)
    rw [pickN_succ] at rec_
    rw [m23_3_eq, wsucc (by omega), Int.toNat_natCast, if_pos (by simp; omega), if_pos (inb (by omega))]
    by_cases hp : decide (w.2.1.getD i 0 ≤ t) = true
    · rw [if_pos hp, if_pos (lt8 (by simp only [List.length_append, List.length_cons, List.length_nil]; omega))]
      rw [if_pos hp] at rec_
      exact rec_
    · rw [if_neg hp]
      rw [if_neg hp, List.append_nil] at rec_
      exact rec_
theorem c23_ok {K : Nat} (hK : 1000 ≤ K) {w : Ag45} (h : w.2.1.length < 1000) (t : Int) : c23 K w t = some (poss w t, ()) := by
  rw [c23_eq]
  exact c23_loop h t w.2.1.length 0 K (by omega) (by omega)

theorem c153_loop {K : Nat} {l : List Int} (hl : l.length < 1000) (x : Int) : (d i q : Nat) → i + d = l.length → d < q → (∃ j : Nat, m153_2 K q l x (l.length : Int) (i : Int) = some ((j : Int), ()) ∧ j < l.length ∧ l.getD j 0 = x) ∨ (m153_2 K q l x (l.length : Int) (i : Int) = some (-1, ()) ∧ ∀ j, i ≤ j → j < l.length → l.getD j 0 ≠ x)
  | 0, i, q, h, hq => by
    obtain ⟨q, rfl⟩ : ∃ j, q = j + 1 := ⟨q - 1, by omega⟩
    right
    refine ⟨?_, fun j h1 h2 => by omega⟩
    rw [m153_2_eq, if_neg (by simp; omega)]
  | d + 1, i, q, h, hq => by
    obtain ⟨q, rfl⟩ : ∃ j, q = j + 1 := ⟨q - 1, by omega⟩
    rw [m153_2_eq, wsucc (by omega), Int.toNat_natCast, if_pos (by simp; omega), if_pos (inb (show i < l.length by omega))]
    by_cases he : l.getD i 0 = x
    · left
      refine ⟨i, ?_, by omega, he⟩
      rw [if_pos (by rw [he]; simp)]
    · rw [if_neg (by simp; exact fun e => he (by rw [e]; simp))]
      rcases c153_loop hl x d (i + 1) q (by omega) (by omega) with h | ⟨h2, h3⟩
      · exact .inl h
      · refine .inr ⟨h2, fun j h4 h5 => ?_⟩
        by_cases e : j = i
        · rw [e]; exact he
        · exact h3 j (by omega) h5
theorem c123_ok {K : Nat} {l : List Int} (hl : l.length < 1000) (hK : 1000 ≤ K) (x : Int) : c123 K l x = some (l.contains x, ()) := by
  rw [c123_eq, c153_eq]
  have hc : l.contains x = true ↔ x ∈ l := by simp
  rcases c153_loop (K := K) hl x l.length 0 K (by omega) (by omega) with ⟨j, h1, h2, h3⟩ | ⟨h1, h2⟩
  · have h1 : m153_2 K K l x (l.length : Int) 0 = _ := h1
    rw [h1]
    have : l.contains x = true := hc.2 (by rw [← h3]; exact mem_getD h2)
    rw [this]
    simp
  · have h1 : m153_2 K K l x (l.length : Int) 0 = _ := h1
    rw [h1]
    have : l.contains x = false := by
      rw [Bool.eq_false_iff]
      intro h
      obtain ⟨j, hj, he⟩ := List.mem_iff_getElem.1 (hc.1 h)
      exact h2 j (by omega) hj (by rw [getD_get hj]; exact he)
    rw [this]
    rfl

/-- Can a person be inside; are they. -/
def can (w : Ag45) (area : List Int) (t : Int) : Bool := (poss w t).any fun p => area.contains p
def is_ (w : Ag45) (area : List Int) (t : Int) : Bool := can w area t && (poss w t).all fun p => area.contains p
theorem any_not (l : List Int) (p : Int → Bool) : (!(l.any fun x => !p x)) = l.all p := by
  induction l with
  | nil => rfl
  | cons x l ih => rw [List.any_cons, List.all_cons, ← ih]; cases p x <;> simp
theorem c65_ok {K : Nat} (hK : 1000 ≤ K) {x : Ag42} {i : Nat} (hi : i < x.2.1.length) (hw : (x.2.1.getD i z45).2.1.length < 1000) {area : List Int} (ha : area.length < 1000) (t : Int) : c65 K x (i : Int) area t = some (is_ (x.2.1.getD i z45) area t, can (x.2.1.getD i z45) area t, ()) := by
  have hp := poss_len (x.2.1.getD i z45) t
  have h1 : ∀ y : Int, (fun x2_ : Int × Unit => c122 K x2_.1 area) (y, ()) = some (area.contains y, ()) := fun y => by
    show c122 K y area = _
    rw [c122_eq, c123_ok ha hK]; rfl
  have h2 : ∀ y : Int, (fun x4_ : Int × Unit => c124 K x4_.1 (fun x2_ : Int × Unit => c122 K x2_.1 area)) (y, ()) = some (!area.contains y, ()) := fun y => by
    show c124 K y _ = _
    rw [c124_eq]
    show ((c122 K y area).bind fun r1 => some (!r1.1, ())) = _
    rw [c122_eq, c123_ok ha hK]; rfl
  rw [c65_eq, if_neg (by simp; omega), if_pos (inb hi), Int.toNat_natCast, c121_ok hK hw]
  generalize hps : poss (x.2.1.getD i z45) t = ps at hp
  have hpl : ps.length < 1000 := by omega
  have e1 := c107_ok (l := ps) hpl hK (g := fun x2_ => c122 K x2_.1 area) (p := fun y => area.contains y) h1
  have e2 := c107_ok (l := ps) hpl hK (g := fun x4_ => c124 K x4_.1 (fun x2_ => c122 K x2_.1 area)) (p := fun y => !area.contains y) h2
  simp only [Option.bind_some]
  rw [e1, e2]
  simp only [Option.bind_some]
  unfold is_ can
  rw [hps]
  have e3 := any_not ps fun p => area.contains p
  cases hc : ps.any fun p => area.contains p with
  | false => rfl
  | true =>
    show some ((!(ps.any fun x => !area.contains x)), true, ()) = some ((true && ps.all fun p => area.contains p), true, ())
    rw [e3]; rfl

/-- What the reference says of a person. -/
def st (w : Ag45) (area : List Int) (t : Int) : Int := if is_ w area t = true then 2 else if can w area t = true then 1 else 0
theorem c66_loop {K : Nat} (hK : 1000 ≤ K) {l area : List Int} (hl : l.length < 1000) (ha : area.length < 1000) : (d i q : Nat) → i + d = l.length → d < q → m66_4 K q area l ((l.take i).any fun p => area.contains p) ((l.take i).all fun p => area.contains p) (i : Int) = some (if ((l.any fun p => area.contains p) && l.all fun p => area.contains p) = true then 2 else if (l.any fun p => area.contains p) = true then 1 else 0, ())
  | 0, i, q, hi, hq => by
    obtain ⟨q, rfl⟩ : ∃ j, q = j + 1 := ⟨q - 1, by omega⟩
    rw [m66_4_eq, if_neg (by simp; omega), List.take_of_length_le (by omega)]
    generalize (l.any fun p => area.contains p) = u
    generalize (l.all fun p => area.contains p) = v
    cases u <;> cases v <;> rfl
  | d + 1, i, q, hi, hq => by
    obtain ⟨q, rfl⟩ : ∃ j, q = j + 1 := ⟨q - 1, by omega⟩
    have hlt : i < l.length := by omega
    have rec_ := c66_loop hK hl ha d (i + 1) q (by omega) (by omega)
    rw [List.take_succ_eq_append_getElem hlt, List.any_append, List.all_append] at rec_
    rw [m66_4_eq, wsucc (by omega), Int.toNat_natCast, if_pos (by simp; omega), if_pos (inb hlt), c21_ok ha hK, getD_get hlt]
    simp only [Option.bind_some]
    cases hc : area.contains l[i] with
    | true =>
      simp only [List.any_cons, List.any_nil, List.all_cons, List.all_nil, hc, Bool.or_false, Bool.or_true, Bool.and_true] at rec_
      rw [if_pos rfl]
      exact rec_
    | false =>
      simp only [List.any_cons, List.any_nil, List.all_cons, List.all_nil, hc, Bool.or_false, Bool.and_true, Bool.and_false] at rec_
      rw [if_neg (by simp)]
      exact rec_
theorem c66_ok {K : Nat} (hK : 1000 ≤ K) {w : Ag45} (hw : w.2.1.length < 1000) {area : List Int} (ha : area.length < 1000) (t : Int) : c66 K w area t = some (st w area t, ()) := by
  have hp := poss_len w t
  rw [c66_eq, c23_ok hK hw]
  simp only [Option.bind_some]
  exact c66_loop hK (by omega) ha (poss w t).length 0 K (by omega) (by omega)
theorem st_two (w : Ag45) (area : List Int) (t : Int) : (st w area t == 2) = is_ w area t := by
  unfold st
  cases is_ w area t <;> cases can w area t <;> rfl
theorem st_pos (w : Ag45) (area : List Int) (t : Int) : decide (st w area t > 0) = can w area t := by
  unfold st is_
  cases can w area t
  · rfl
  · cases (poss w t).all fun p => area.contains p <;> rfl

/-- How many are inside, and can be. -/
def sureN (area : List Int) (t : Int) (x : Ag42) : Nat := x.2.1.countP fun w => is_ w area t
def mayN (area : List Int) (t : Int) (x : Ag42) : Nat := x.2.1.countP fun w => can w area t
/-- The least and the greatest count. -/
structure Cnt (area : List Int) (t : Int) (l : List Ag42) (lo hi : Nat) : Prop where
  lo1 : ∀ x ∈ l, lo ≤ sureN area t x
  lo2 : ∃ x ∈ l, lo = sureN area t x
  hi1 : ∀ x ∈ l, mayN area t x ≤ hi
  hi2 : ∃ x ∈ l, hi = mayN area t x
theorem Cnt.uniq {area : List Int} {t : Int} {l : List Ag42} {lo hi lo' hi' : Nat} (h : Cnt area t l lo hi) (k : Cnt area t l lo' hi') : lo = lo' ∧ hi = hi' := by
  obtain ⟨x, hx, ex⟩ := h.lo2
  obtain ⟨y, hy, ey⟩ := k.lo2
  obtain ⟨z, hz, ez⟩ := h.hi2
  obtain ⟨u, hu, eu⟩ := k.hi2
  have h1 := k.lo1 x hx
  have h2 := h.lo1 y hy
  have h3 := k.hi1 z hz
  have h4 := h.hi1 u hu
  omega
theorem Cnt.one {area : List Int} {t : Int} {x : Ag42} : Cnt area t [x] (sureN area t x) (mayN area t x) := ⟨by simp, ⟨x, by simp, rfl⟩, by simp, ⟨x, by simp, rfl⟩⟩
theorem Cnt.more {area : List Int} {t : Int} {l : List Ag42} {lo hi : Nat} (h : Cnt area t l lo hi) (x : Ag42) : Cnt area t (l ++ [x]) (min (sureN area t x) lo) (max (mayN area t x) hi) := by
  refine ⟨fun y hy => ?_, ?_, fun y hy => ?_, ?_⟩
  · rcases List.mem_append.1 hy with hy | hy
    · have := h.lo1 y hy; omega
    · simp only [List.mem_singleton] at hy; rw [hy]; omega
  · by_cases hc : sureN area t x ≤ lo
    · exact ⟨x, by simp, by omega⟩
    · obtain ⟨y, hy, e⟩ := h.lo2
      exact ⟨y, List.mem_append_left _ hy, by omega⟩
  · rcases List.mem_append.1 hy with hy | hy
    · have := h.hi1 y hy; omega
    · simp only [List.mem_singleton] at hy; rw [hy]; omega
  · by_cases hc : hi ≤ mayN area t x
    · exact ⟨x, by simp, by omega⟩
    · obtain ⟨y, hy, e⟩ := h.hi2
      exact ⟨y, List.mem_append_left _ hy, by omega⟩
theorem countP_take {l : List Ag45} {p : Ag45 → Bool} {i : Nat} (hi : i < l.length) : (l.take (i + 1)).countP p = (l.take i).countP p + if p (l.getD i z45) = true then 1 else 0 := by
  rw [List.take_succ_eq_append_getElem hi, List.countP_append, getD_get hi]
  simp [List.countP_cons]

theorem c24_inner {n : Nat} {T : List Int} {K k1 : Nat} (hK : 1000 ≤ K) (hn : n < 1000) (hT : T.length < 900) {area : List Int} (ha : area.length < 1000) (t : Int) {x : Ag42} (hx : WOk n T x) {x6 x7 : Ag47} {i : Nat} (hi : i < 1000) {x16 : List Ag42} {x17 : Int} :
    (d j q : Nat) → j + d = T.length → d < q →
    m24_7 K k1 q area t x6 x7 (i : Int) x (((x.2.1.take j).countP fun w => is_ w area t : Nat) : Int) (((x.2.1.take j).countP fun w => can w area t : Nat) : Int) x16 x17 (i : Int) ((x.2.1.length : Nat) : Int) (j : Int) =
      m24_3 K k1 area t x6 (if i = 0 then ((sureN area t x : Int), (mayN area t x : Int), ()) else ((if (sureN area t x : Int) < x7.1 then (sureN area t x : Int) else x7.1), (if (mayN area t x : Int) > x7.2.1 then (mayN area t x : Int) else x7.2.1), ())) x16 x17 ((i + 1 : Nat) : Int)
  | 0, j, q, hj, hq => by
    obtain ⟨q, rfl⟩ : ∃ j, q = j + 1 := ⟨q - 1, by omega⟩
    have hxw := hx.w
    rw [m24_7_eq, wsucc (i := i) (by omega), if_neg (by simp; omega), List.take_of_length_le (by omega)]
    show (if ((i : Int) == 0) = true then _ else _) = _
    by_cases h0 : i = 0
    · subst h0
      simp [sureN, mayN]
    · rw [if_neg (by simpa using h0), if_neg h0]
      rfl
  | d + 1, j, q, hj, hq => by
    obtain ⟨q, rfl⟩ : ∃ j, q = j + 1 := ⟨q - 1, by omega⟩
    have hxw := hx.w
    have hlt : j < x.2.1.length := by omega
    have hb := hx.b _ (mem_getD (d := z45) hlt)
    have rec_ := c24_inner (k1 := k1) hK hn hT ha t hx (x6 := x6) (x7 := x7) hi (x16 := x16) (x17 := x17) d (j + 1) q (by omega) (by omega)
    rw [countP_take hlt, countP_take hlt] at rec_
    have hc1 : ((x.2.1.take j).countP fun w => is_ w area t) < 1000 := by have := List.countP_le_length (l := x.2.1.take j) (p := fun w => is_ w area t); rw [List.length_take] at this; omega
    have hc2 : ((x.2.1.take j).countP fun w => can w area t) < 1000 := by have := List.countP_le_length (l := x.2.1.take j) (p := fun w => can w area t); rw [List.length_take] at this; omega
    rw [m24_7_eq, wsucc (i := j) (by omega), if_pos (by simp; omega), c65_ok hK hlt (by rw [hb.len]; exact hn) ha]
    simp only [Option.bind_some]
    rw [wsucc (i := (x.2.1.take j).countP fun w => is_ w area t) (by omega), wsucc (i := (x.2.1.take j).countP fun w => can w area t) (by omega)]
    revert rec_
    cases is_ (x.2.1.getD j z45) area t <;> cases can (x.2.1.getD j z45) area t <;> simp only [if_true, Bool.false_eq_true, if_false, Nat.add_zero] <;> exact fun h => h

theorem c24_loop {n : Nat} {T : List Int} {K : Nat} (hK : 1000 ≤ K) (hn : n < 1000) (hT : T.length < 900) {area : List Int} (ha : area.length < 1000) (t : Int) {b : Ag33} (h : BOk n T b) : (d i q : Nat) → (x7 : Ag47) → i + d = b.1.length → d < q → (0 < i → ∃ lo hi : Nat, x7 = ((lo : Int), (hi : Int), ()) ∧ Cnt area t (b.1.take i) lo hi) →
    ∃ lo hi : Nat, m24_3 K q area t z47 x7 b.1 (b.1.length : Int) (i : Int) = some (((lo : Int), (hi : Int), ()), ()) ∧ Cnt area t b.1 lo hi
  | 0, i, q, x7, hi, hq, hx7 => by
    obtain ⟨q, rfl⟩ : ∃ j, q = j + 1 := ⟨q - 1, by omega⟩
    have hl1 := h.l1
    obtain ⟨lo, hi', e, hc⟩ := hx7 (by omega)
    rw [List.take_of_length_le (by omega)] at hc
    rw [m24_3_eq, if_neg (by simp; omega), e]
    exact ⟨lo, hi', rfl, hc⟩
  | d + 1, i, q, x7, hi, hq, hx7 => by
    obtain ⟨q, rfl⟩ : ∃ j, q = j + 1 := ⟨q - 1, by omega⟩
    have h24 := h.l24
    have hlt : i < b.1.length := by omega
    have hx := h.w _ (mem_getD (d := z42) hlt)
    rw [m24_3_eq, Int.toNat_natCast, if_pos (by simp; omega), if_pos (inb hlt)]
    have e := c24_inner (k1 := q) hK hn hT ha t hx (x6 := z47) (x7 := x7) (i := i) (by omega) (x16 := b.1) (x17 := (b.1.length : Int)) T.length 0 K (by omega) (by omega)
    have e : m24_7 K q K area t z47 x7 (i : Int) (b.1.getD i z42) 0 0 b.1 (b.1.length : Int) (i : Int) (((b.1.getD i z42).2.1.length : Nat) : Int) 0 = _ := e
    rw [e]
    refine c24_loop hK hn hT ha t h d (i + 1) q _ (by omega) (by omega) (fun _ => ?_)
    rw [List.take_succ_eq_append_getElem hlt, ← getD_get (d := z42) hlt]
    by_cases h0 : i = 0
    · subst h0
      exact ⟨_, _, by simp, Cnt.one⟩
    · obtain ⟨lo, hi', e, hc⟩ := hx7 (by omega)
      refine ⟨_, _, ?_, hc.more _⟩
      rw [if_neg h0, e]
      simp only [Prod.mk.injEq, and_true]
      constructor <;> split <;> omega
theorem c24_ok {n : Nat} {T : List Int} {K : Nat} (hK : 1000 ≤ K) (hn : n < 1000) (hT : T.length < 900) {area : List Int} (ha : area.length < 1000) (t : Int) {b : Ag33} (h : BOk n T b) : ∃ lo hi : Nat, c24 K b area t = some (((lo : Int), (hi : Int), ()), ()) ∧ Cnt area t b.1 lo hi := by
  have h24 := h.l24
  rw [c24_eq]
  exact c24_loop hK hn hT ha t h b.1.length 0 K _ (by omega) (by omega) (by omega)
end Fs

/- Head counts: lists. -/
open Go Go.Ev
namespace Fs

theorem c26_inner {n : Nat} {T : List Int} {K k1 : Nat} (hK : 1000 ≤ K) (hn : n < 1000) (hT : T.length < 900) {area : List Int} (ha : area.length < 1000) (t : Int) {b : Ag33} {i : Nat} (hi : i < b.1.length) (hb1 : b.1.length < 1000) {x : Ag42} (hxe : b.1.getD i z42 = x) (hx : WOk n T x) {x6 x7 : Ag47} :
    (d j q : Nat) → j + d = T.length → d < q →
    m26_7 K k1 q area t b x6 x7 (i : Int) (((x.2.1.take j).countP fun w => is_ w area t : Nat) : Int) (((x.2.1.take j).countP fun w => can w area t : Nat) : Int) (j : Int) =
      m26_3 K k1 area t b x6 ((if i = 0 then (sureN area t x : Int) else if (sureN area t x : Int) < x7.1 then (sureN area t x : Int) else x7.1), (if (mayN area t x : Int) > x7.2.1 then (mayN area t x : Int) else x7.2.1), ()) ((i + 1 : Nat) : Int)
  | 0, j, q, hj, hq => by
    obtain ⟨q, rfl⟩ : ∃ j, q = j + 1 := ⟨q - 1, by omega⟩
    have hxw := hx.w
    rw [m26_7_eq, wsucc (i := i) (by omega), if_pos (inb hi), Int.toNat_natCast]
    simp only [hxe]
    rw [if_neg (by simp; omega), List.take_of_length_le (by omega)]
    show (if (if ((i : Int) == 0) = true then true else decide ((sureN area t x : Int) < x7.1)) = true then _ else _) = _
    by_cases h0 : i = 0
    · subst h0
      simp [sureN, mayN]
    · have e : ((i : Int) == 0) = false := by simpa using h0
      rw [e, if_neg h0]
      simp only [Bool.false_eq_true, if_false]
      by_cases h1 : (sureN area t x : Int) < x7.1
      · rw [if_pos (by simpa using h1), if_pos h1]; rfl
      · rw [if_neg (by simpa using h1), if_neg h1]; rfl
  | d + 1, j, q, hj, hq => by
    obtain ⟨q, rfl⟩ : ∃ j, q = j + 1 := ⟨q - 1, by omega⟩
    have hxw := hx.w
    have rec_ := c26_inner (k1 := k1) hK hn hT ha t hi hb1 hxe hx (x6 := x6) (x7 := x7) d (j + 1) q (by omega) (by omega)
    rw [m26_7_eq, wsucc (i := j) (by omega), if_pos (inb hi)]
    simp only [Int.toNat_natCast]
    simp only [hxe]
    have hlt : j < x.2.1.length := by omega
    have hb := hx.b _ (mem_getD (d := z45) hlt)
    rw [countP_take hlt, countP_take hlt] at rec_
    have hc1 : ((x.2.1.take j).countP fun w => is_ w area t) < 1000 := by have := List.countP_le_length (l := x.2.1.take j) (p := fun w => is_ w area t); rw [List.length_take] at this; omega
    have hc2 : ((x.2.1.take j).countP fun w => can w area t) < 1000 := by have := List.countP_le_length (l := x.2.1.take j) (p := fun w => can w area t); rw [List.length_take] at this; omega
    rw [if_pos (by simp; omega), if_pos (inb hi), if_pos (inb hlt), c66_ok hK (by rw [hb.len]; exact hn) ha]
    simp only [Option.bind_some, st_two, st_pos]
    rw [wsucc (i := (x.2.1.take j).countP fun w => is_ w area t) (by omega), wsucc (i := (x.2.1.take j).countP fun w => can w area t) (by omega)]
    revert rec_
    cases is_ (x.2.1.getD j z45) area t <;> cases can (x.2.1.getD j z45) area t <;> simp only [if_true, Bool.false_eq_true, if_false, Nat.add_zero] <;> exact fun h => h

theorem c26_loop {n : Nat} {T : List Int} {K : Nat} (hK : 1000 ≤ K) (hn : n < 1000) (hT : T.length < 900) {area : List Int} (ha : area.length < 1000) (t : Int) {b : Ag33} (h : BOk n T b) : (d i q : Nat) → (x7 : Ag47) → i + d = b.1.length → d < q → (i = 0 → x7 = (0, 0, ())) → (0 < i → ∃ lo hi : Nat, x7 = ((lo : Int), (hi : Int), ()) ∧ Cnt area t (b.1.take i) lo hi) →
    ∃ lo hi : Nat, m26_3 K q area t b z47 x7 (i : Int) = some (((lo : Int), (hi : Int), ()), ()) ∧ Cnt area t b.1 lo hi
  | 0, i, q, x7, hi, hq, h0, hx7 => by
    obtain ⟨q, rfl⟩ : ∃ j, q = j + 1 := ⟨q - 1, by omega⟩
    have hl1 := h.l1
    obtain ⟨lo, hi', e, hc⟩ := hx7 (by omega)
    rw [List.take_of_length_le (by omega)] at hc
    rw [m26_3_eq, if_neg (by simp; omega), e]
    exact ⟨lo, hi', rfl, hc⟩
  | d + 1, i, q, x7, hi, hq, h0, hx7 => by
    obtain ⟨q, rfl⟩ : ∃ j, q = j + 1 := ⟨q - 1, by omega⟩
    have h24 := h.l24
    have hlt : i < b.1.length := by omega
    have hx := h.w _ (mem_getD (d := z42) hlt)
    rw [m26_3_eq, if_pos (by simp; omega)]
    have e := c26_inner (k1 := q) hK hn hT ha t hlt (by omega) rfl hx (x6 := z47) (x7 := x7) T.length 0 K (by omega) (by omega)
    have e : m26_7 K q K area t b z47 x7 (i : Int) 0 0 0 = _ := e
    rw [e]
    refine c26_loop hK hn hT ha t h d (i + 1) q _ (by omega) (by omega) (by omega) (fun _ => ?_)
    rw [List.take_succ_eq_append_getElem hlt, ← getD_get (d := z42) hlt]
    by_cases hi0 : i = 0
    · rw [h0 hi0]
      subst hi0
      refine ⟨_, _, ?_, Cnt.one⟩
      simp only [if_true, Prod.mk.injEq, and_true, true_and]
      split <;> omega
    · obtain ⟨lo, hi', e, hc⟩ := hx7 (by omega)
      refine ⟨_, _, ?_, hc.more _⟩
      rw [if_neg hi0, e]
      simp only [Prod.mk.injEq, and_true]
      constructor <;> split <;> omega
theorem c26_ok {n : Nat} {T : List Int} {K : Nat} (hK : 1000 ≤ K) (hn : n < 1000) (hT : T.length < 900) {area : List Int} (ha : area.length < 1000) (t : Int) {b : Ag33} (h : BOk n T b) : c26 K b area t = c24 K b area t := by
  have h24 := h.l24
  obtain ⟨lo, hi, e1, h1⟩ := c24_ok hK hn hT ha t h
  obtain ⟨lo', hi', e2, h2⟩ := c26_loop hK hn hT ha t h b.1.length 0 K (0, 0, ()) (by omega) (by omega) (fun _ => rfl) (by omega)
  rw [c26_eq]
  have e2 : m26_3 K K area t b z47 z47 0 = _ := e2
  obtain ⟨rfl, rfl⟩ := h1.uniq h2
  rw [e1]; exact e2

/-- Some world does. -/
theorem c125_loop {K : Nat} {l : List Ag42} (hl : l.length < 1000) {g : Ag42 × Unit → Option (Bool × Unit)} {p : Ag42 → Bool} (hg : ∀ x ∈ l, g (x, ()) = some (p x, ())) : (d i q : Nat) → i + d = l.length → d < q →
    ∃ j : Int, m125_2 K q l g (l.length : Int) (i : Int) = some (j, ()) ∧ decide (j ≥ 0) = (l.drop i).any p
  | 0, i, q, h, hq => by
    obtain ⟨q, rfl⟩ : ∃ j, q = j + 1 := ⟨q - 1, by omega⟩
    rw [m125_2_eq, if_neg (by simp; omega), List.drop_of_length_le (by omega)]
    exact ⟨-1, rfl, rfl⟩
  | d + 1, i, q, h, hq => by
    obtain ⟨q, rfl⟩ : ∃ j, q = j + 1 := ⟨q - 1, by omega⟩
    have hlt : i < l.length := by omega
    rw [m125_2_eq, wsucc (by omega), Int.toNat_natCast, if_pos (by simp; omega), if_pos (inb hlt), hg _ (mem_getD hlt), List.drop_eq_getElem_cons hlt, List.any_cons, getD_get hlt]
    simp only [Option.bind_some]
    cases hp : p l[i] with
    | true => exact ⟨(i : Int), by simp, by simp⟩
    | false =>
      simp only [Bool.false_eq_true, if_false, Bool.false_or]
      exact c125_loop hl hg d (i + 1) q (by omega) (by omega)
theorem c70_ok {K : Nat} (hK : 1000 ≤ K) {l : List Ag42} (hl : l.length < 1000) {g : Ag42 × Unit → Option (Bool × Unit)} {p : Ag42 → Bool} (hg : ∀ x ∈ l, g (x, ()) = some (p x, ())) : c70 K l g = some (l.any p, ()) := by
  obtain ⟨j, h1, h2⟩ := c125_loop (K := K) hl hg l.length 0 K (by omega) (by omega)
  have h1 : m125_2 K K l g (l.length : Int) 0 = _ := h1
  rw [c70_eq, c125_eq, h1]
  simp only [Option.bind_some]
  rw [h2, List.drop_zero]
theorem any_notW (l : List Ag42) (p : Ag42 → Bool) : (!(l.any fun x => !p x)) = l.all p := by
  induction l with
  | nil => rfl
  | cons x l ih => rw [List.any_cons, List.all_cons, ← ih]; cases p x <;> simp
theorem c68_ok {n : Nat} {T : List Int} {K : Nat} {b : Ag33} (h : BOk n T b) : c68 K b = some ((T.length : Int), ()) := by
  have h1 := h.l1
  have hx := h.w _ (mem_getD (d := z42) (show (0 : Int).toNat < b.1.length by simp; omega))
  have hne : ((b.1.length : Int) == 0) = false := by
    rw [Bool.eq_false_iff]; intro e; have := eq_of_beq e; omega
  rw [c68_eq, hne, if_neg (by simp), if_pos (by simp; omega), hx.w]
theorem c72_ok {n : Nat} {T : List Int} {K : Nat} {b : Ag33} (h : BOk n T b) : c72 K b = some ((T.length : Int), ()) := by
  have h1 := h.l1
  have hx := h.w _ (mem_getD (d := z42) (show (0 : Int).toNat < b.1.length by simp; omega))
  have hne : ((b.1.length : Int) == 0) = false := by
    rw [Bool.eq_false_iff]; intro e; have := eq_of_beq e; omega
  rw [c72_eq, hne, if_neg (by simp), if_pos (by simp; omega), hx.w]

/-- Person k is inside in all worlds; can be in some. -/
def sureP (b : Ag33) (area : List Int) (t : Int) (k : Nat) : Bool := b.1.all fun x => is_ (x.2.1.getD k z45) area t
def mayP (b : Ag33) (area : List Int) (t : Int) (k : Nat) : Bool := b.1.any fun x => can (x.2.1.getD k z45) area t
theorem c28_ok {n : Nat} {T : List Int} {K : Nat} (hK : 1000 ≤ K) (hn : n < 1000) (hT : T.length < 900) {area : List Int} (ha : area.length < 1000) (t : Int) {b : Ag33} (h : BOk n T b) : c28 K b area t = some (pickN T.length (sureP b area t), ()) := by
  have h24 := h.l24
  rw [c28_eq, c68_ok h]
  simp only [Option.bind_some]
  rw [c67_ok hK (by omega) (p := sureP b area t) (fun k hk => by
    show c69 K (k : Int) b area t = _
    rw [c69_eq, c70_ok hK (by omega) (g := fun x1_ => c71 K x1_.1 (k : Int) area t) (p := fun x => !is_ (x.2.1.getD k z45) area t) (fun x hx => by
      have hw := h.w x hx
      have hk' : k < x.2.1.length := by rw [hw.w]; exact hk
      show c71 K x (k : Int) area t = _
      rw [c71_eq, c65_ok hK hk' (by rw [(hw.b _ (mem_getD hk')).len]; exact hn) ha]
      rfl)]
    simp only [Option.bind_some]
    rw [any_notW]; rfl)]
  rfl
theorem c30_ok {n : Nat} {T : List Int} {K : Nat} (hK : 1000 ≤ K) (hn : n < 1000) (hT : T.length < 900) {area : List Int} (ha : area.length < 1000) (t : Int) {b : Ag33} (h : BOk n T b) : c30 K b area t = some (pickN T.length (mayP b area t), ()) := by
  have h24 := h.l24
  rw [c30_eq, c68_ok h]
  simp only [Option.bind_some]
  rw [c67_ok hK (by omega) (p := mayP b area t) (fun k hk => by
    show c73 K (k : Int) b area t = _
    rw [c73_eq, c70_ok hK (by omega) (g := fun x1_ => c74 K x1_.1 (k : Int) area t) (p := fun x => can (x.2.1.getD k z45) area t) (fun x hx => by
      have hw := h.w x hx
      have hk' : k < x.2.1.length := by rw [hw.w]; exact hk
      show c74 K x (k : Int) area t = _
      rw [c74_eq, c65_ok hK hk' (by rw [(hw.b _ (mem_getD hk')).len]; exact hn) ha]
      rfl)]
    rfl)]
  rfl

theorem c29_inner {n : Nat} {T : List Int} {K k1 : Nat} (hK : 1000 ≤ K) (hn : n < 1000) {area : List Int} (ha : area.length < 1000) (t : Int) {b : Ag33} (h : BOk n T b) {k : Nat} (hk : k < T.length) (hk2 : k < 1000) {out : List Int} (ho : out.length < 1000) : (d j q : Nat) → j + d = b.1.length → d < q →
    m29_7 K k1 q area t b out (k : Int) ((b.1.take j).all fun x => is_ (x.2.1.getD k z45) area t) (j : Int) = m29_3 K k1 area t b (if sureP b area t k = true then out ++ [(k : Int)] else out) ((k + 1 : Nat) : Int)
  | 0, j, q, hj, hq => by
    obtain ⟨q, rfl⟩ : ∃ j, q = j + 1 := ⟨q - 1, by omega⟩
    rw [m29_7_eq, wsucc (i := k) (by omega), if_neg (by simp; omega), List.take_of_length_le (by omega)]
    show (if sureP b area t k = true then _ else _) = _
    cases sureP b area t k
    · rfl
    · rw [if_pos rfl, if_pos rfl, if_pos (lt8 (by simp; omega))]
  | d + 1, j, q, hj, hq => by
    obtain ⟨q, rfl⟩ : ∃ j, q = j + 1 := ⟨q - 1, by omega⟩
    have h24 := h.l24
    have hlt : j < b.1.length := by omega
    have hw := h.w _ (mem_getD (d := z42) hlt)
    have hk' : k < (b.1.getD j z42).2.1.length := by rw [hw.w]; exact hk
    have hb := hw.b _ (mem_getD (d := z45) hk')
    have rec_ := c29_inner (k1 := k1) hK hn ha t h hk hk2 ho d (j + 1) q (by omega) (by omega)
    rw [List.take_succ_eq_append_getElem hlt, List.all_append, ← getD_get (d := z42) hlt] at rec_
    rw [m29_7_eq, wsucc (i := j) (by omega), if_pos (by simp; omega), inb hlt, if_pos (by simp)]
    simp only [Int.toNat_natCast]
    rw [inb hk', if_pos (by simp), c66_ok hK (by rw [hb.len]; exact hn) ha]
    revert rec_
    generalize ((b.1.take j).all fun x => is_ (x.2.1.getD k z45) area t) = u
    simp only [List.all_cons, List.all_nil, Bool.and_true]
    cases u
    · exact fun h => h
    · simp only [if_true, Option.bind_some, st_two, Bool.true_and]; exact fun h => h
theorem c29_loop {n : Nat} {T : List Int} {K : Nat} (hK : 1000 ≤ K) (hn : n < 1000) (hT : T.length < 900) {area : List Int} (ha : area.length < 1000) (t : Int) {b : Ag33} (h : BOk n T b) : (d k q : Nat) → k + d = T.length → d < q → m29_3 K q area t b (pickN k (sureP b area t)) (k : Int) = some (pickN T.length (sureP b area t), ())
  | 0, k, q, hk, hq => by
    obtain ⟨q, rfl⟩ : ∃ j, q = j + 1 := ⟨q - 1, by omega⟩
    have e : k = T.length := by omega
    rw [m29_3_eq, c72_ok h]
    simp only [Option.bind_some]
    rw [if_neg (by simp; omega), e]
  | d + 1, k, q, hk, hq => by
    obtain ⟨q, rfl⟩ : ∃ j, q = j + 1 := ⟨q - 1, by omega⟩
    have h24 := h.l24
    have hl := pickN_len k (sureP b area t)
    have rec_ := c29_loop hK hn hT ha t h d (k + 1) q (by omega) (by omega)
    rw [pickN_succ] at rec_
    rw [m29_3_eq, c72_ok h]
    simp only [Option.bind_some]
    rw [if_pos (by simp; omega)]
    have e := c29_inner (k1 := q) hK hn ha t h (k := k) (by omega) (by omega) (out := pickN k (sureP b area t)) (by omega) b.1.length 0 K (by omega) (by omega)
    have e : m29_7 K q K area t b (pickN k (sureP b area t)) (k : Int) true 0 = _ := e
    rw [e]
    revert rec_
    cases sureP b area t k
    · simp only [Bool.false_eq_true, if_false, List.append_nil]; exact fun h => h
    · exact fun h => h
theorem c29_ok {n : Nat} {T : List Int} {K : Nat} (hK : 1000 ≤ K) (hn : n < 1000) (hT : T.length < 900) {area : List Int} (ha : area.length < 1000) (t : Int) {b : Ag33} (h : BOk n T b) : c29 K b area t = some (pickN T.length (sureP b area t), ()) := by
  rw [c29_eq]
  exact c29_loop hK hn hT ha t h T.length 0 K (by omega) (by omega)

theorem c31_inner {n : Nat} {T : List Int} {K k1 : Nat} (hK : 1000 ≤ K) (hn : n < 1000) {area : List Int} (ha : area.length < 1000) (t : Int) {b : Ag33} (h : BOk n T b) {k : Nat} (hk : k < T.length) (hk2 : k < 1000) {out : List Int} (ho : out.length < 1000) : (d j q : Nat) → j + d = b.1.length → d < q →
    m31_7 K k1 q area t b out (k : Int) ((b.1.take j).any fun x => can (x.2.1.getD k z45) area t) (j : Int) = m31_3 K k1 area t b (if mayP b area t k = true then out ++ [(k : Int)] else out) ((k + 1 : Nat) : Int)
  | 0, j, q, hj, hq => by
    obtain ⟨q, rfl⟩ : ∃ j, q = j + 1 := ⟨q - 1, by omega⟩
    rw [m31_7_eq, wsucc (i := k) (by omega), if_neg (by simp; omega), List.take_of_length_le (by omega)]
    show (if mayP b area t k = true then _ else _) = _
    cases mayP b area t k
    · rfl
    · rw [if_pos rfl, if_pos rfl, if_pos (lt8 (by simp; omega))]
  | d + 1, j, q, hj, hq => by
    obtain ⟨q, rfl⟩ : ∃ j, q = j + 1 := ⟨q - 1, by omega⟩
    have h24 := h.l24
    have hlt : j < b.1.length := by omega
    have hw := h.w _ (mem_getD (d := z42) hlt)
    have hk' : k < (b.1.getD j z42).2.1.length := by rw [hw.w]; exact hk
    have hb := hw.b _ (mem_getD (d := z45) hk')
    have rec_ := c31_inner (k1 := k1) hK hn ha t h hk hk2 ho d (j + 1) q (by omega) (by omega)
    rw [List.take_succ_eq_append_getElem hlt, List.any_append, ← getD_get (d := z42) hlt] at rec_
    rw [m31_7_eq, wsucc (i := j) (by omega), if_pos (by simp; omega), inb hlt, if_pos (by simp)]
    simp only [Int.toNat_natCast]
    rw [inb hk', if_pos (by simp), c66_ok hK (by rw [hb.len]; exact hn) ha]
    revert rec_
    generalize ((b.1.take j).any fun x => can (x.2.1.getD k z45) area t) = u
    simp only [List.any_cons, List.any_nil, Bool.or_false]
    cases u
    · simp only [Bool.not_false, if_true, Option.bind_some, Bool.false_eq_true, if_false, st_pos, Bool.false_or]; exact fun h => h
    · exact fun h => h
theorem c31_loop {n : Nat} {T : List Int} {K : Nat} (hK : 1000 ≤ K) (hn : n < 1000) (hT : T.length < 900) {area : List Int} (ha : area.length < 1000) (t : Int) {b : Ag33} (h : BOk n T b) : (d k q : Nat) → k + d = T.length → d < q → m31_3 K q area t b (pickN k (mayP b area t)) (k : Int) = some (pickN T.length (mayP b area t), ())
  | 0, k, q, hk, hq => by
    obtain ⟨q, rfl⟩ : ∃ j, q = j + 1 := ⟨q - 1, by omega⟩
    have e : k = T.length := by omega
    rw [m31_3_eq, c72_ok h]
    simp only [Option.bind_some]
    rw [if_neg (by simp; omega), e]
  | d + 1, k, q, hk, hq => by
    obtain ⟨q, rfl⟩ : ∃ j, q = j + 1 := ⟨q - 1, by omega⟩
    have h24 := h.l24
    have hl := pickN_len k (mayP b area t)
    have rec_ := c31_loop hK hn hT ha t h d (k + 1) q (by omega) (by omega)
    rw [pickN_succ] at rec_
    rw [m31_3_eq, c72_ok h]
    simp only [Option.bind_some]
    rw [if_pos (by simp; omega)]
    have e := c31_inner (k1 := q) hK hn ha t h (k := k) (by omega) (by omega) (out := pickN k (mayP b area t)) (by omega) b.1.length 0 K (by omega) (by omega)
    have e : m31_7 K q K area t b (pickN k (mayP b area t)) (k : Int) false 0 = _ := e
    rw [e]
    revert rec_
    cases mayP b area t k
    · simp only [Bool.false_eq_true, if_false, List.append_nil]; exact fun h => h
    · exact fun h => h
theorem c31_ok {n : Nat} {T : List Int} {K : Nat} (hK : 1000 ≤ K) (hn : n < 1000) (hT : T.length < 900) {area : List Int} (ha : area.length < 1000) (t : Int) {b : Ag33} (h : BOk n T b) : c31 K b area t = some (pickN T.length (mayP b area t), ()) := by
  rw [c31_eq]
  exact c31_loop hK hn hT ha t h T.length 0 K (by omega) (by omega)
end Fs

/- Head counts: who is missing. -/
open Go Go.Ev
namespace Fs

/-- A place is possible for a person in some world. -/
def possP (b : Ag33) (t : Int) (k p : Nat) : Bool := b.1.any fun x => decide (p < (x.2.1.getD k z45).2.1.length) && decide ((x.2.1.getD k z45).2.1.getD p 0 ≤ t)

theorem c127_ok {n : Nat} {T : List Int} {K : Nat} (hK : 1000 ≤ K) (hT : T.length < 900) {x : Ag42} (hx : WOk n T x) {k : Nat} (hk : k < T.length) (p : Nat) (t : Int) : c127 K x (k : Int) (p : Int) t = some (decide (p < (x.2.1.getD k z45).2.1.length) && decide ((x.2.1.getD k z45).2.1.getD p 0 ≤ t), ()) := by
  have hw := hx.w
  have hk' : k < x.2.1.length := by omega
  have w : IntKind.i64.wrap ((x.2.1.length : Int) - 1) = (x.2.1.length : Int) - 1 := wrap_id (by omega) (by omega)
  have e1 : (decide ((0 : Int) ≤ (k : Int)) && decide ((k : Int) ≤ (x.2.1.length : Int) - 1)) = true := by simp; omega
  rw [c127_eq, w, c93_ok, e1]
  simp only [Option.bind_some, Int.toNat_natCast, Bool.not_true, Bool.false_or, if_true]
  rw [if_pos (inb hk'), inb hk', Bool.or_true, if_pos rfl]
  by_cases hp : p < (x.2.1.getD k z45).2.1.length
  · have e2 : (p : Int) < (((x.2.1.getD k z45).2.1.length : Nat) : Int) := by omega
    rw [inb hp, Bool.or_true, if_pos rfl]
    simp only [e2, hp, decide_true, if_true, Bool.true_and]
  · have e2 : ¬ (p : Int) < (((x.2.1.getD k z45).2.1.length : Nat) : Int) := by omega
    simp only [e2, hp, decide_false, Bool.not_false, Bool.true_or, if_true, Bool.false_eq_true, if_false, Bool.false_and]
theorem c76_ok {n : Nat} {T : List Int} {K : Nat} (hK : 1000 ≤ K) (hT : T.length < 900) {b : Ag33} (h : BOk n T b) {k : Nat} (hk : k < T.length) (t : Int) : c76 K b (k : Int) t = some (pickN 64 (possP b t k), ()) := by
  have h24 := h.l24
  rw [c76_eq]
  have e := c67_ok (K := K) (n := 64) hK (by omega) (f := fun x1_ => c126 K x1_.1 b (k : Int) t) (p := possP b t k) (fun p hp => by
    show c126 K (p : Int) b (k : Int) t = _
    rw [c126_eq, c70_ok hK (by omega) (g := fun x1_ => c127 K x1_.1 (k : Int) (p : Int) t) (p := fun x => decide (p < (x.2.1.getD k z45).2.1.length) && decide ((x.2.1.getD k z45).2.1.getD p 0 ≤ t)) (fun x hx => c127_ok hK hT (h.w x hx) hk p t)]
    rfl)
  have e : c67 K 64 (fun x1_ => c126 K x1_.1 b (k : Int) t) = _ := e
  rw [e]; rfl

theorem poss_contains (w : Ag45) (t : Int) (p : Nat) : (poss w t).contains (p : Int) = (decide (p < w.2.1.length) && decide (w.2.1.getD p 0 ≤ t)) := by
  rw [Bool.eq_iff_iff, List.contains_iff_mem]
  simp only [poss, pickN_mem, Bool.and_eq_true, decide_eq_true_eq, Int.toNat_natCast]
  constructor
  · rintro ⟨_, h1, h2⟩; exact ⟨by omega, h2⟩
  · rintro ⟨h1, h2⟩; exact ⟨by omega, by omega, h2⟩

theorem c77_inner {n : Nat} {T : List Int} {K k1 : Nat} (hK : 1000 ≤ K) (hn : n < 1000) {b : Ag33} (h : BOk n T b) {k : Nat} (hk : k < T.length) (t : Int) {p : Nat} (hp : p < 1000) {out : List Int} (ho : out.length < 1000) : (d j q : Nat) → j + d = b.1.length → d < q →
    m77_6 K k1 q (k : Int) t b out (p : Int) (j : Int) = m77_3 K k1 (k : Int) t b (if ((b.1.drop j).any fun x => decide (p < (x.2.1.getD k z45).2.1.length) && decide ((x.2.1.getD k z45).2.1.getD p 0 ≤ t)) = true then out ++ [(p : Int)] else out) ((p + 1 : Nat) : Int)
  | 0, j, q, hj, hq => by
    obtain ⟨q, rfl⟩ : ∃ j, q = j + 1 := ⟨q - 1, by omega⟩
    rw [m77_6_eq, wsucc (i := p) (by omega), if_neg (by simp; omega), List.drop_of_length_le (by omega)]
    rfl
  | d + 1, j, q, hj, hq => by
    obtain ⟨q, rfl⟩ : ∃ j, q = j + 1 := ⟨q - 1, by omega⟩
    have h24 := h.l24
    have hlt : j < b.1.length := by omega
    have hw := h.w _ (mem_getD (d := z42) hlt)
    have hk' : k < (b.1.getD j z42).2.1.length := by rw [hw.w]; exact hk
    have hb := hw.b _ (mem_getD (d := z45) hk')
    have rec_ := c77_inner (k1 := k1) hK hn h hk t hp ho d (j + 1) q (by omega) (by omega)
    have e0 : (k : Int) ≥ 0 := by omega
    have e1 : (k : Int) < (((b.1.getD j z42).2.1.length : Nat) : Int) := by omega
    have hpl := poss_len ((b.1.getD j z42).2.1.getD k z45) t
    have hbl := hb.len
    rw [m77_6_eq, wsucc (i := j) (by omega), wsucc (i := p) (by omega), if_pos (by simp; omega), inb hlt, List.drop_eq_getElem_cons hlt, List.any_cons, ← getD_get (d := z42) hlt]
    simp only [Int.toNat_natCast, e0, decide_true, if_true, Bool.or_true]
    simp only [e1, decide_true, Bool.and_true, Bool.not_true, Bool.false_or, if_true]
    have e2 : (decide ((0 : Int) ≤ (k : Int)) && decide ((k : Int) < (((b.1.getD j z42).2.1.length : Nat) : Int))) = true := inb hk'
    simp only [inb hk', if_true, c23_ok hK (show ((b.1.getD j z42).2.1.getD k z45).2.1.length < 1000 by omega)]
    simp only [Option.bind_some, Int.natCast_nonneg, decide_true, if_true]
    rw [c21_ok (by omega) hK, poss_contains]
    simp only [Option.bind_some]
    revert rec_
    cases (decide (p < ((b.1.getD j z42).2.1.getD k z45).2.1.length) && decide (((b.1.getD j z42).2.1.getD k z45).2.1.getD p 0 ≤ t))
    · simp only [Bool.false_eq_true, if_false, Bool.false_or]; exact fun h => h
    · intro _
      simp only [if_true, Bool.true_or]
      rw [if_pos (lt8 (by simp only [List.length_cons, List.length_nil]; omega))]
theorem c77_loop {n : Nat} {T : List Int} {K : Nat} (hK : 1000 ≤ K) (hn : n < 1000) {b : Ag33} (h : BOk n T b) {k : Nat} (hk : k < T.length) (t : Int) : (d p q : Nat) → p + d = 64 → d < q → m77_3 K q (k : Int) t b (pickN p (possP b t k)) (p : Int) = some (pickN 64 (possP b t k), ())
  | 0, p, q, hp, hq => by
    obtain ⟨q, rfl⟩ : ∃ j, q = j + 1 := ⟨q - 1, by omega⟩
    have e : p = 64 := by omega
    subst e
    rw [m77_3_eq, if_neg (by simp)]
  | d + 1, p, q, hp, hq => by
    obtain ⟨q, rfl⟩ : ∃ j, q = j + 1 := ⟨q - 1, by omega⟩
    have h24 := h.l24
    have hl := pickN_len p (possP b t k)
    have rec_ := c77_loop hK hn h hk t d (p + 1) q (by omega) (by omega)
    rw [pickN_succ] at rec_
    rw [m77_3_eq, if_pos (by simp; omega)]
    have e := c77_inner (k1 := q) hK hn h hk t (p := p) (by omega) (out := pickN p (possP b t k)) (by omega) b.1.length 0 K (by omega) (by omega)
    rw [List.drop_zero] at e
    have e : m77_6 K q K (k : Int) t b (pickN p (possP b t k)) (p : Int) 0 = m77_3 K q (k : Int) t b (if possP b t k p = true then pickN p (possP b t k) ++ [(p : Int)] else pickN p (possP b t k)) ((p + 1 : Nat) : Int) := e
    rw [e]
    revert rec_
    cases possP b t k p
    · simp only [Bool.false_eq_true, if_false, List.append_nil]; exact fun h => h
    · exact fun h => h
theorem c77_ok {n : Nat} {T : List Int} {K : Nat} (hK : 1000 ≤ K) (hn : n < 1000) {b : Ag33} (h : BOk n T b) {k : Nat} (hk : k < T.length) (t : Int) : c77 K b (k : Int) t = some (pickN 64 (possP b t k), ()) := by
  rw [c77_eq]
  exact c77_loop hK hn h hk t 64 0 K (by omega) (by omega)

def missP (b : Ag33) (t most : Int) (k : Nat) : Bool := decide (((pickN 64 (possP b t k)).length : Int) > most)
theorem c32_ok {n : Nat} {T : List Int} {K : Nat} (hK : 1000 ≤ K) (hT : T.length < 900) {b : Ag33} (h : BOk n T b) (t most : Int) : c32 K b t most = some (pickN T.length (missP b t most), ()) := by
  rw [c32_eq, c68_ok h]
  simp only [Option.bind_some]
  rw [c67_ok hK (by omega) (f := fun x2_ => c75 K x2_.1 b t most) (p := missP b t most) (fun k hk => by
    show c75 K (k : Int) b t most = _
    rw [c75_eq, c76_ok hK hT h hk]
    rfl)]
  rfl
theorem c33_loop {n : Nat} {T : List Int} {K : Nat} (hK : 1000 ≤ K) (hn : n < 1000) (hT : T.length < 900) {b : Ag33} (h : BOk n T b) (t most : Int) : (d k q : Nat) → k + d = T.length → d < q → m33_3 K q t most b (pickN k (missP b t most)) (k : Int) = some (pickN T.length (missP b t most), ())
  | 0, k, q, hk, hq => by
    obtain ⟨q, rfl⟩ : ∃ j, q = j + 1 := ⟨q - 1, by omega⟩
    have e : k = T.length := by omega
    rw [m33_3_eq, c72_ok h]
    simp only [Option.bind_some]
    rw [if_neg (by simp; omega), e]
  | d + 1, k, q, hk, hq => by
    obtain ⟨q, rfl⟩ : ∃ j, q = j + 1 := ⟨q - 1, by omega⟩
    have hl := pickN_len k (missP b t most)
    have rec_ := c33_loop hK hn hT h t most d (k + 1) q (by omega) (by omega)
    rw [pickN_succ] at rec_
    rw [m33_3_eq, c72_ok h]
    simp only [Option.bind_some]
    rw [if_pos (by simp; omega), c77_ok hK hn h (by omega), wsucc (by omega)]
    simp only [Option.bind_some]
    show (if missP b t most k = true then _ else _) = _
    revert rec_
    cases missP b t most k
    · simp only [Bool.false_eq_true, if_false, List.append_nil]; exact fun h => h
    · simp only [if_true]
      rw [if_pos (lt8 (by simp; omega))]
      exact fun h => h
theorem c33_ok {n : Nat} {T : List Int} {K : Nat} (hK : 1000 ≤ K) (hn : n < 1000) (hT : T.length < 900) {b : Ag33} (h : BOk n T b) (t most : Int) : c33 K b t most = some (pickN T.length (missP b t most), ()) := by
  rw [c33_eq]
  exact c33_loop hK hn hT h t most T.length 0 K (by omega) (by omega)

/-- The chapter's example. -/
abbrev bA : Ag33 := ([([1, 2], [(0, [0, 1099511627776], ()), (0, [0, 0], ())], ())], ())
theorem bA_ok : BOk 2 [1, 2] bA := ⟨by decide, by decide, fun x hx => by
  simp only [List.mem_singleton] at hx
  rw [hx]
  refine ⟨List.Perm.refl _, rfl, fun y hy => ?_⟩
  simp only [List.mem_cons, List.not_mem_nil, or_false] at hy
  rcases hy with rfl | rfl
  · exact ⟨rfl, by decide⟩
  · exact ⟨rfl, by decide⟩⟩
theorem sureA : sureN [0] 5 ([1, 2], [(0, [0, 1099511627776], ()), (0, [0, 0], ())], ()) = 1 := by decide
theorem mayA : mayN [0] 5 ([1, 2], [(0, [0, 1099511627776], ()), (0, [0, 0], ())], ()) = 2 := by decide
theorem sureLA : (pickN 2 (sureP bA [0] 5)).length = 1 := by decide
theorem missLA : (pickN 2 (missP bA 5 1)).length = 1 := by kernel_rfl
theorem c14_ok {K : Nat} (hK : 1000 ≤ K) : c14 K = some (true, ()) := by
  obtain ⟨lo, hi, e, h⟩ := c24_ok (K := K) hK (by omega) (by decide) (area := [0]) (by decide) 5 bA_ok
  obtain ⟨x, hx, h1⟩ := h.lo2
  obtain ⟨y, hy, h2⟩ := h.hi2
  simp only [List.mem_singleton] at hx hy
  rw [hx, sureA] at h1
  rw [hy, mayA] at h2
  subst h1; subst h2
  have e2 := c28_ok (K := K) hK (by omega) (by decide) (area := [0]) (by decide) 5 bA_ok
  have e3 := c32_ok (K := K) hK (by decide) bA_ok 5 1
  have e2 : c28 K bA [0] 5 = some (pickN 2 (sureP bA [0] 5), ()) := e2
  have e3 : c32 K bA 5 1 = some (pickN 2 (missP bA 5 1), ()) := e3
  rw [c14_eq, e, e2, e3]
  simp only [Option.bind_some, sureLA, missLA]
  rfl
theorem c13_ok (K : Nat) (l : List Int) : c13 K l = some (decide ((l.length : Int) ≤ 400), ()) := c13_eq K l
theorem c15_ok (K : Nat) (l : List Int) : c15 K l = some ((l, 0, ()), ()) := c15_eq K l
theorem eqD47 (a : Ag47) : eqD t47 a a = true := by
  obtain ⟨x, y, u⟩ := a
  simp [eqD, eqDL, t47]

/-- What all laws of the layer begin with. -/
theorem begin27 {K : Nat} (hK : KK ≤ K) {l : List Int} (hl : (l.length : Int) ≤ 400) : ∃ m d n b d' t, c16 K (l, 0, ()) = some (m, d, ()) ∧ MOk m ∧ c17 K d m = some (b, d', ()) ∧ DOk d' ∧ 1 ≤ n ∧ n ≤ 3 ∧ BOk m.1.length (Tn n) b ∧ c18 K b = some (t, ()) := by
  have hK' : 17592186044416 ≤ K := hK
  have hd : DOk (l, 0, ()) := ⟨show l.length ≤ 400 by omega, by simp, by simp⟩
  obtain ⟨m, d, e1, hd1, hm⟩ := c16_ok (K := K) (by omega) hd
  obtain ⟨n, b, d', e2, hd2, h1, h3, hb⟩ := c17_ok hK hm hd1
  obtain ⟨t, e3⟩ := c18_ok (K := K) (by omega) (by rw [Tn_len]; omega) hb
  exact ⟨m, d, n, b, d', t, e1, hm, e2, hd2, h1, h3, hb, e3⟩
end Fs

/- Head counts: the laws. -/
open Go Go.Ev
namespace Fs

theorem h5_step {n : Nat} {T : List Int} {K k1 q : Nat} (hK : 1000 ≤ K) (hn : n < 1000) (hT : T.length < 900) {b : Ag33} (h : BOk n T b) {area : List Int} (ha : area.length < 1000) {a2 : List Int} {at_ : Int} {L : List (List Int)} {x45 x46 u v : Int} {j : Nat} (hj : j < 2) :
    m5_11 K k1 (q + 1) a2 b at_ area L x45 x46 [u, v] ([u, v].length : Int) (j : Int) = m5_11 K k1 q a2 b at_ area L x45 x46 [u, v] ([u, v].length : Int) ((j + 1 : Nat) : Int) := by
  have hl : ∀ p, (pickN T.length p).length < 1000 := fun p => by have := pickN_len T.length p; omega
  rw [m5_11_eq, wsucc (by omega), if_pos (by simp; omega), if_pos (inb (by simpa using hj))]
  generalize [u, v].getD ((j : Int)).toNat 0 = s
  obtain ⟨lo, hi, e, _⟩ := c24_ok hK hn hT ha s h
  rw [c26_ok hK hn hT ha s h, c28_ok hK hn hT ha s h, c29_ok hK hn hT ha s h, c30_ok hK hn hT ha s h, c31_ok hK hn hT ha s h, e]
  simp only [Option.bind_some, eqD47, Bool.not_true, Bool.not_false, if_true, c27_ok (hl _) hK, decide_true, Bool.false_eq_true, if_false]

theorem h5_area {n : Nat} {T : List Int} {K k1 : Nat} (hK : 1000 ≤ K) (hn : n < 1000) (hT : T.length < 900) {b : Ag33} (h : BOk n T b) {area : List Int} (ha : area.length < 1000) {a2 : List Int} {at_ : Int} {L : List (List Int)} {x45 u v : Int} {i : Nat} (hi : i < 1000) :
    m5_11 K k1 K a2 b at_ area L x45 (i : Int) [u, v] ([u, v].length : Int) 0 = m5_8 K k1 a2 b at_ L x45 ((i + 1 : Nat) : Int) := by
  obtain ⟨k, rfl⟩ : ∃ k, K = k + 3 := ⟨K - 3, by omega⟩
  have e1 := h5_step (k1 := k1) (q := k + 2) hK hn hT h ha (a2 := a2) (at_ := at_) (L := L) (x45 := x45) (x46 := (i : Int)) (u := u) (v := v) (j := 0) (by omega)
  have e2 := h5_step (k1 := k1) (q := k + 1) hK hn hT h ha (a2 := a2) (at_ := at_) (L := L) (x45 := x45) (x46 := (i : Int)) (u := u) (v := v) (j := 1) (by omega)
  have e1 : m5_11 (k + 3) k1 (k + 3) a2 b at_ area L x45 (i : Int) [u, v] ([u, v].length : Int) 0 = _ := e1
  rw [e1, e2, m5_11_eq, if_neg (by simp), wsucc (by omega)]

theorem headsAll_true {K : Nat} (hK : KK ≤ K) (l raw a2 : List Int) : c5 K l raw a2 = some (true, ()) := by
  have hK' : 17592186044416 ≤ K := hK
  have ha := c14_ok (K := K) (by omega)
  rw [c5_eq, c13_ok, c15_ok, ha]
  simp only [Option.bind_some]
  by_cases hl : (l.length : Int) ≤ 400
  · by_cases hr : (raw.length : Int) > 100
    · simp [hl, hr]
    · obtain ⟨m, d, n, b, d', t, e1, hm, e2, hd, h1, h3, hb, e3⟩ := begin27 hK hl
      have hp7 := hm.p7
      have hT := Tn_len n
      simp only [hl, hr, decide_true, decide_false, Bool.not_true, Bool.false_eq_true, if_false, e1, Option.bind_some, e2, e3]
      rw [if_pos (by simp), c25_ok K (by decide)]
      simp only [Option.bind_some]
      obtain ⟨r8, d8, e8, hd8, hl8, hx8⟩ := c20_ok (K := K) (n := m.1.length) (by omega) (by omega) hd
      rw [e8]
      simp only [Option.bind_some]
      generalize (IntKind.i64.wrap (IntKind.i64.wrap (t + md (a2.getD (0 : Int).toNat 0) 200) - 20)) = at_
      obtain ⟨k, rfl⟩ : ∃ k, K = k + 4 := ⟨K - 4, by omega⟩
      have area : ∀ (q i : Nat) (A : List Int), i < 3 → A.length < 1000 → [raw, r8, []].getD i [] = A → m5_8 (k + 4) (q + 1) a2 b at_ [raw, r8, []] ([raw, r8, []].length : Int) (i : Int) = m5_8 (k + 4) q a2 b at_ [raw, r8, []] ([raw, r8, []].length : Int) ((i + 1 : Nat) : Int) := by
        intro q i A hi hA he
        rw [m5_8_eq, Int.toNat_natCast, if_pos (by simp; omega), if_pos (inb (by simpa using hi)), if_pos (by simp), he]
        exact h5_area (k1 := q) (by omega) (by omega) (by omega) hb hA (by omega)
      have a0 := area (k + 3) 0 raw (by omega) (by omega) rfl
      have a1 := area (k + 2) 1 r8 (by omega) (by omega) rfl
      have a2' := area (k + 1) 2 [] (by omega) (by simp) rfl
      have a0 : m5_8 (k + 4) (k + 4) a2 b at_ [raw, r8, []] ([raw, r8, []].length : Int) 0 = _ := a0
      have hlm : ∀ p, (pickN (Tn n).length p).length < 1000 := fun p => by have := pickN_len (Tn n).length p; omega
      rw [a0, a1, a2', m5_8_eq, if_neg (by simp), ha]
      simp only [Option.bind_some, Bool.not_true, Bool.false_or, if_true]
      rw [if_pos (by simp), c25_ok _ (by decide)]
      simp only [Option.bind_some, c32_ok (K := k + 4) (by omega) (show (Tn n).length < 900 by omega) hb, c33_ok (K := k + 4) (by omega) (show m.1.length < 1000 by omega) (show (Tn n).length < 900 by omega) hb, c27_ok (K := k + 4) (hlm _) (by omega), decide_true, Bool.not_true, Bool.false_or, if_true, if_pos (show (decide (0 ≤ 1) && decide (1 < 2)) = true by decide), if_pos (show (decide (0 ≤ 0) && decide (0 < 2)) = true by decide)]
  · simp [hl]

theorem is_mem {w : Ag45} {area : List Int} {t : Int} (h : is_ w area t = true) {p : Int} (hp : p ∈ poss w t) : area.contains p = true := by
  simp only [is_, Bool.and_eq_true, List.all_eq_true] at h
  exact h.2 p hp
theorem can_mem {w : Ag45} {area : List Int} {t : Int} {p : Int} (hp : p ∈ poss w t) (h : area.contains p = true) : can w area t = true := by
  simp only [can, List.any_eq_true]
  exact ⟨p, hp, h⟩

theorem h6_loop {K : Nat} (hK : KK ≤ K) {n : Nat} (hn : n < 1000) {T : List Int} (hT : T.length < 900) {b : Ag33} (h : BOk n T b) {area : List Int} (ha : area.length < 1000) (t : Int) {w : Ag42} (hw : w ∈ b.1) :
    (d i q : Nat) → (dc : Dc) → (c : Nat) → i + d = T.length → d < q → DOk dc → (w.2.1.take i).countP (fun w => is_ w area t) ≤ c → c ≤ (w.2.1.take i).countP (fun w => can w area t) → m6_11 K q dc b t area w (c : Int) (i : Int) = some (true, ())
  | 0, i, q, dc, c, hi, hq, hd, h1, h2 => by
    obtain ⟨q, rfl⟩ : ∃ j, q = j + 1 := ⟨q - 1, by omega⟩
    have hK' : 17592186044416 ≤ K := hK
    have hx := h.w w hw
    have hxw := hx.w
    rw [List.take_of_length_le (by omega)] at h1 h2
    obtain ⟨lo, hi', e, hc⟩ := c24_ok (K := K) (by omega) hn hT ha t h
    have h3 := hc.lo1 w hw
    have h4 := hc.hi1 w hw
    have h3 : lo ≤ w.2.1.countP (fun w => is_ w area t) := h3
    have h4 : w.2.1.countP (fun w => can w area t) ≤ hi' := h4
    rw [m6_11_eq, if_neg (by simp; omega), e, c14_ok (by omega)]
    have e1 : (lo : Int) ≤ (c : Int) := by omega
    have e2 : (c : Int) ≤ (hi' : Int) := by omega
    simp [e1, e2]
  | d + 1, i, q, dc, c, hi, hq, hd, h1, h2 => by
    obtain ⟨q, rfl⟩ : ∃ j, q = j + 1 := ⟨q - 1, by omega⟩
    have hK' : 17592186044416 ≤ K := hK
    have hx := h.w w hw
    have hxw := hx.w
    have hlt : i < w.2.1.length := by omega
    have hb := hx.b _ (mem_getD (d := z45) hlt)
    have hpl := poss_len (w.2.1.getD i z45) t
    have hbl := hb.len
    have hc2 : ((w.2.1.take i).countP fun w => can w area t) < 1000 := by have := List.countP_le_length (l := w.2.1.take i) (p := fun w => can w area t); rw [List.length_take] at this; omega
    rw [m6_11_eq, wsucc (i := i) (by omega), wsucc (i := c) (by omega), if_pos (by simp; omega), if_pos (inb hlt), Int.toNat_natCast, c23_ok (by omega) (by omega)]
    simp only [Option.bind_some]
    by_cases he : (((poss (w.2.1.getD i z45) t).length : Int) == 0) = true
    · rw [if_pos he, c14_ok (by omega)]; rfl
    · rw [if_neg he]
      have hpos : 0 < (poss (w.2.1.getD i z45) t).length := by
        have : ¬ ((poss (w.2.1.getD i z45) t).length : Int) = 0 := fun e => he (by rw [e]; rfl)
        omega
      obtain ⟨r3, d3, e3, b3, b3', hd3⟩ := c19_ok K hd (n := ((poss (w.2.1.getD i z45) t).length : Int)) (by omega) (by omega)
      rw [e3]
      simp only [Option.bind_some]
      have e4 : (decide (0 ≤ r3) && decide (r3 < ((poss (w.2.1.getD i z45) t).length : Int))) = true := by rw [decide_eq_true b3, decide_eq_true b3']; rfl
      rw [if_pos e4, c21_ok ha (by omega), c28_ok (by omega) hn hT ha t h, c30_ok (by omega) hn hT ha t h]
      simp only [Option.bind_some]
      have hmem : (poss (w.2.1.getD i z45) t).getD r3.toNat 0 ∈ poss (w.2.1.getD i z45) t := mem_getD (by omega)
      generalize (poss (w.2.1.getD i z45) t).getD r3.toNat 0 = p at hmem
      have hl : ∀ p, (pickN T.length p).length < 1000 := fun p => by have := pickN_len T.length p; omega
      have c21a := fun p x => c21_ok (K := K) (hl p) (by omega) x
      have rec_ := fun c' => h6_loop hK hn hT h ha t hw d (i + 1) q d3 c' (by omega) (by omega) hd3
      have ct1 := countP_take (p := fun w => is_ w area t) hlt
      have ct2 := countP_take (p := fun w => can w area t) hlt
      cases hc : area.contains p with
      | false =>
        have hns : is_ (w.2.1.getD i z45) area t = false := by
          rw [Bool.eq_false_iff]; intro hh; rw [is_mem hh hmem] at hc; cases hc
        have hnot : (pickN T.length (sureP b area t)).contains (i : Int) = false := by
          rw [Bool.eq_false_iff]
          intro hh
          rw [List.contains_iff_mem, pickN_mem] at hh
          have := hh.2.2
          simp only [sureP, List.all_eq_true, Int.toNat_natCast] at this
          rw [this w hw] at hns; cases hns
        simp only [Bool.not_false, c21a, hnot, if_true, Option.bind_some, Bool.false_eq_true, if_false, Bool.and_false]
        refine rec_ c ?_ ?_
        · rw [ct1, hns]; simpa using h1
        · rw [ct2]; exact Nat.le_trans h2 (Nat.le_add_right _ _)
      | true =>
        have hcan := can_mem hmem hc
        have hin : (pickN T.length (mayP b area t)).contains (i : Int) = true := by
          rw [List.contains_iff_mem, pickN_mem]
          refine ⟨by omega, by omega, ?_⟩
          simp only [mayP, List.any_eq_true, Int.toNat_natCast]
          exact ⟨w, hw, hcan⟩
        simp only [c21a, hin, Bool.not_true, Bool.false_eq_true, if_false, Option.bind_some, Bool.not_false, Bool.and_self, if_true]
        refine rec_ (c + 1) ?_ ?_
        · rw [ct1]
          have : (if is_ (w.2.1.getD i z45) area t = true then 1 else 0) ≤ 1 := by split <;> omega
          omega
        · rw [ct2, hcan, if_pos rfl]; omega

theorem headsTrue_true {K : Nat} (hK : KK ≤ K) (l : List Int) : c6 K l = some (true, ()) := by
  have hK' : 17592186044416 ≤ K := hK
  have ha := c14_ok (K := K) (by omega)
  rw [c6_eq, c13_ok, c15_ok, ha]
  simp only [Option.bind_some]
  by_cases hl : (l.length : Int) ≤ 400
  · obtain ⟨m, d, n, b, d', t, e1, hm, e2, hd, h1, h3, hb, e3⟩ := begin27 hK hl
    have hp7 := hm.p7
    have hT := Tn_len n
    have hb1 := hb.l1
    have hb24 := hb.l24
    simp only [hl, decide_true, Bool.not_true, Bool.false_eq_true, if_false, e1, Option.bind_some, e2, e3]
    obtain ⟨r7, d7, e7, b7, b7', hd7⟩ := c19_ok K hd (n := 100) (by decide) (by decide)
    rw [e7]
    simp only [Option.bind_some]
    obtain ⟨r8, d8, e8, hd8, hl8, hx8⟩ := c20_ok (K := K) (n := m.1.length) (by omega) (by omega) hd7
    rw [e8]
    simp only [Option.bind_some]
    obtain ⟨r9, d9, e9, b9, b9', hd9⟩ := c19_ok K hd8 (n := (b.1.length : Int)) (by omega) (by omega)
    rw [e9]
    simp only [Option.bind_some]
    rw [if_pos (by simp; omega)]
    exact h6_loop hK (n := m.1.length) (by omega) (T := Tn n) (by omega) hb (area := r8) (by omega) _ (mem_getD (by omega)) (Tn n).length 0 K d9 0 (by omega) (by omega) hd9 (by simp) (by simp)
  · simp [hl]
end Fs

/- Head counts: more places, split areas. -/
open Go Go.Ev
namespace Fs

theorem can_mono {w : Ag45} {a a' : List Int} {t : Int} (h : ∀ x ∈ poss w t, x ∈ a → x ∈ a') (hc : can w a t = true) : can w a' t = true := by
  simp only [can, List.any_eq_true, List.contains_iff_mem] at hc ⊢
  obtain ⟨x, hx, hxa⟩ := hc
  exact ⟨x, hx, h x hx hxa⟩
theorem is_mono {w : Ag45} {a a' : List Int} {t : Int} (h : ∀ x ∈ poss w t, x ∈ a → x ∈ a') (hc : is_ w a t = true) : is_ w a' t = true := by
  simp only [is_, Bool.and_eq_true, List.all_eq_true, List.contains_iff_mem] at hc ⊢
  exact ⟨can_mono h hc.1, fun x hx => h x hx (hc.2 x hx)⟩
theorem is_can {w : Ag45} {a : List Int} {t : Int} (h : is_ w a t = true) : can w a t = true := by
  simp only [is_, Bool.and_eq_true] at h
  exact h.1
theorem poss_range {w : Ag45} {t x : Int} (h : x ∈ poss w t) : 0 ≤ x ∧ x < (w.2.1.length : Int) := by
  have := pickN_mem.1 h
  exact ⟨this.1, this.2.1⟩
theorem sure_may (a : List Int) (t : Int) (x : Ag42) : sureN a t x ≤ mayN a t x := List.countP_mono_left fun w _ h => is_can h

/-- All places of a mine. -/
theorem m3_10_loop {K : Nat} (hK : 1000 ≤ K) {m : Ag29} (hm : MOk m) {b : Ag33} {t : Int} {area : List Int} (ha : area.length < 1000) {R : Option (Bool × Unit)} (hfin : ∀ more : List Int, more.length < 1000 → (∀ x ∈ area, 0 ≤ x → x < (m.1.length : Int) → x ∈ more) → m3_16 K K b t area (pickN m.1.length fun _ => true) more 0 = R) :
    (d i q : Nat) → (dc : Dc) → (more : List Int) → i + d = m.1.length → d < q → DOk dc → more.length ≤ i → (∀ x ∈ area, 0 ≤ x → x < (i : Int) → x ∈ more) → m3_10 K q dc m b t area (pickN i fun _ => true) more (i : Int) = R
  | 0, i, q, dc, more, hi, hq, hd, hl, hx => by
    obtain ⟨q, rfl⟩ : ∃ j, q = j + 1 := ⟨q - 1, by omega⟩
    have hp7 := hm.p7
    have e : i = m.1.length := by omega
    subst e
    rw [m3_10_eq, if_neg (by simp)]
    exact hfin more (by omega) hx
  | d + 1, i, q, dc, more, hi, hq, hd, hl, hx => by
    obtain ⟨q, rfl⟩ : ∃ j, q = j + 1 := ⟨q - 1, by omega⟩
    have hp7 := hm.p7
    have hpl := pickN_len i fun _ => true
    have hs : pickN (i + 1) (fun _ => true) = pickN i (fun _ => true) ++ [(i : Int)] := by rw [pickN_succ]; rfl
    have lim : ∀ l : List Int, l.length ≤ i → decide (l.length + [(i : Int)].length < LIM 8) = true := fun l h => lt8 (by simp; omega)
    rw [m3_10_eq, wsucc (by omega), if_pos (by simp; omega), if_pos (lim _ hpl), c21_ok ha hK, ← hs]
    simp only [Option.bind_some]
    have yes : ∀ dc, DOk dc → m3_10 K q dc m b t area (pickN (i + 1) fun _ => true) (more ++ [(i : Int)]) ((i + 1 : Nat) : Int) = R := fun dc hd => m3_10_loop hK hm ha hfin d (i + 1) q dc _ (by omega) (by omega) hd (by simp; omega) (fun x hx' h0 h1 => by
      by_cases e : x = (i : Int)
      · rw [e]; simp
      · exact List.mem_append_left _ (hx x hx' h0 (by omega)))
    cases hc : area.contains (i : Int) with
    | true =>
      simp only [Bool.not_true, Bool.false_eq_true, if_false, Option.bind_some, if_true]
      rw [if_pos (lim _ hl)]
      exact yes dc hd
    | false =>
      obtain ⟨r2, d2, e2, hd2⟩ := c22_ok K hd (n := 2) (by decide) (by decide)
      simp only [Bool.not_false, if_true, e2, Option.bind_some, Bool.false_eq_true, if_false]
      cases r2 with
      | true =>
        rw [if_pos rfl, if_pos (lim _ hl)]
        exact yes d2 hd2
      | false =>
        rw [if_neg (by simp)]
        refine m3_10_loop hK hm ha hfin d (i + 1) q d2 more (by omega) (by omega) hd2 (by omega) (fun x hx' h0 h1 => ?_)
        by_cases e : x = (i : Int)
        · subst e
          have := List.contains_iff_mem.2 hx'
          rw [this] at hc; cases hc
        · exact hx x hx' h0 (by omega)

theorem m3_19_loop {n : Nat} {T : List Int} {K k1 : Nat} (hK : 1000 ≤ K) (hn : n < 1000) (hT : T.length < 900) {b : Ag33} (h : BOk n T b) {t : Int} {area all more : List Int} {i : Nat} (hi : i < b.1.length) {x : Ag42} (hxe : b.1.getD i z42 = x) : (d j q : Nat) → j + d = T.length → d < q →
    m3_19 K k1 q b t area all more (i : Int) (j : Int) = some (true, ()) ∨ (m3_19 K k1 q b t area all more (i : Int) (j : Int) = m3_16 K k1 b t area all more ((i + 1 : Nat) : Int) ∧ ∀ y ∈ x.2.1.drop j, 0 < (poss y t).length)
  | 0, j, q, hj, hq => by
    obtain ⟨q, rfl⟩ : ∃ j, q = j + 1 := ⟨q - 1, by omega⟩
    have hx := h.w _ (mem_getD (d := z42) hi)
    rw [hxe] at hx
    have hw := hx.w
    have h24 := h.l24
    right
    refine ⟨?_, fun y hy => by rw [List.drop_of_length_le (by omega)] at hy; cases hy⟩
    rw [m3_19_eq, if_pos (inb hi), Int.toNat_natCast, wsucc (i := i) (by omega)]
    simp only [hxe]
    rw [if_neg (by simp; omega)]
  | d + 1, j, q, hj, hq => by
    obtain ⟨q, rfl⟩ : ∃ j, q = j + 1 := ⟨q - 1, by omega⟩
    have hx := h.w _ (mem_getD (d := z42) hi)
    rw [hxe] at hx
    have hw := hx.w
    have hlt : j < x.2.1.length := by omega
    have hb := hx.b _ (mem_getD (d := z45) hlt)
    have hbl := hb.len
    rw [m3_19_eq, if_pos (inb hi), Int.toNat_natCast, wsucc (i := j) (by omega)]
    simp only [hxe, Int.toNat_natCast]
    rw [if_pos (by simp; omega), if_pos (inb hi), if_pos (inb hlt), c23_ok hK (by omega)]
    simp only [Option.bind_some]
    by_cases he : (((poss (x.2.1.getD j z45) t).length : Int) == 0) = true
    · rw [if_pos he, c14_ok hK]; exact .inl rfl
    · rw [if_neg he]
      have hpos : 0 < (poss (x.2.1.getD j z45) t).length := by
        have : ¬ ((poss (x.2.1.getD j z45) t).length : Int) = 0 := fun e => he (by rw [e]; rfl)
        omega
      refine (m3_19_loop hK hn hT h hi hxe d (j + 1) q (by omega) (by omega)).imp id (fun ⟨h1, h2⟩ => ⟨h1, fun y hy => ?_⟩)
      rw [List.drop_eq_getElem_cons hlt, List.mem_cons] at hy
      rcases hy with hy | hy
      · rw [hy, ← getD_get (d := z45) hlt]; exact hpos
      · exact h2 y hy

/-- With everybody somewhere. -/
theorem m3_16_loop {n : Nat} {T : List Int} {K : Nat} (hK : 1000 ≤ K) (hn : n < 1000) (hT : T.length < 900) {b : Ag33} (h : BOk n T b) {t : Int} {area more : List Int} (ha : area.length < 1000) (hmo : more.length < 1000) (hsub : ∀ x ∈ area, 0 ≤ x → x < (n : Int) → x ∈ more) : (d i q : Nat) → i + d = b.1.length → d < q → (∀ x ∈ b.1.take i, ∀ y ∈ x.2.1, 0 < (poss y t).length) →
    m3_16 K q b t area (pickN n fun _ => true) more (i : Int) = some (true, ())
  | 0, i, q, hi, hq, hp => by
    obtain ⟨q, rfl⟩ : ∃ j, q = j + 1 := ⟨q - 1, by omega⟩
    have h1 := h.l1
    rw [List.take_of_length_le (by omega)] at hp
    have hal := pickN_len n fun _ => true
    obtain ⟨lo1, hi1, e1, c1⟩ := c24_ok (K := K) hK hn hT ha t h
    obtain ⟨lo2, hi2, e2, c2⟩ := c24_ok (K := K) hK hn hT hmo t h
    obtain ⟨lo3, hi3, e3, c3⟩ := c24_ok (K := K) hK hn hT (show (pickN n fun _ => true).length < 1000 by omega) t h
    rw [m3_16_eq, if_neg (by simp; omega), e1, e2, e3, c14_ok hK]
    simp only [Option.bind_some]
    rw [if_pos (by simp; omega)]
    have hx0 := h.w _ (mem_getD (d := z42) (show (0 : Int).toNat < b.1.length by simp; omega))
    rw [hx0.len]
    -- more places
    have sub : ∀ x ∈ b.1, ∀ w ∈ x.2.1, ∀ p ∈ poss w t, p ∈ area → p ∈ more := fun x hx w hw p hp' hpa => by
      have := poss_range hp'
      rw [((h.w x hx).b w hw).len] at this
      exact hsub p hpa this.1 this.2
    have hs : ∀ x ∈ b.1, sureN area t x ≤ sureN more t x := fun x hx => List.countP_mono_left fun w hw hh => is_mono (sub x hx w hw) hh
    have hm : ∀ x ∈ b.1, mayN area t x ≤ mayN more t x := fun x hx => List.countP_mono_left fun w hw hh => can_mono (sub x hx w hw) hh
    have l12 : lo1 ≤ lo2 := by
      obtain ⟨x, hx, e⟩ := c2.lo2
      have := c1.lo1 x hx
      have := hs x hx
      omega
    have h12 : hi1 ≤ hi2 := by
      obtain ⟨x, hx, e⟩ := c1.hi2
      have := c2.hi1 x hx
      have := hm x hx
      omega
    -- the whole mine
    have whole : ∀ x ∈ b.1, sureN (pickN n fun _ => true) t x = T.length := fun x hx => by
      rw [← (h.w x hx).w]
      unfold sureN
      rw [List.countP_eq_length]
      intro w hw
      have hin : ∀ p ∈ poss w t, (pickN n fun _ => true).contains p = true := fun p hp' => by
        have := poss_range hp'
        rw [((h.w x hx).b w hw).len] at this
        rw [List.contains_iff_mem, pickN_mem]
        exact ⟨this.1, this.2, rfl⟩
      have hpos := hp x hx w hw
      simp only [is_, Bool.and_eq_true, List.all_eq_true]
      exact ⟨can_mem (List.getElem_mem hpos) (hin _ (List.getElem_mem hpos)), hin⟩
    have wholem : ∀ x ∈ b.1, mayN (pickN n fun _ => true) t x = T.length := fun x hx => by
      have h1 := sure_may (pickN n fun _ => true) t x
      rw [whole x hx] at h1
      have h2 : mayN (pickN n fun _ => true) t x ≤ x.2.1.length := List.countP_le_length
      rw [(h.w x hx).w] at h2
      omega
    have l3 : lo3 = T.length := by
      obtain ⟨x, hx, e⟩ := c3.lo2
      rw [e, whole x hx]
    have h3 : hi3 = T.length := by
      obtain ⟨x, hx, e⟩ := c3.hi2
      rw [e, wholem x hx]
    have i1 : (lo1 : Int) ≤ (lo2 : Int) := by omega
    have i2 : (hi1 : Int) ≤ (hi2 : Int) := by omega
    subst l3
    rw [h3]
    simp [i1, i2]
  | d + 1, i, q, hi, hq, hp => by
    obtain ⟨q, rfl⟩ : ∃ j, q = j + 1 := ⟨q - 1, by omega⟩
    have hlt : i < b.1.length := by omega
    rw [m3_16_eq, if_pos (by simp; omega)]
    have h19 := m3_19_loop (k1 := q) (area := area) (all := pickN n fun _ => true) (more := more) (t := t) hK hn hT h hlt rfl T.length 0 K (by omega) (by omega)
    rcases h19 with e | ⟨e, hne⟩
    · exact e
    · have e : m3_19 K q K b t area (pickN n fun _ => true) more (i : Int) 0 = _ := e
      rw [e]
      refine m3_16_loop hK hn hT h ha hmo hsub d (i + 1) q (by omega) (by omega) (fun x hx => ?_)
      rw [List.take_succ_eq_append_getElem hlt, List.mem_append] at hx
      rcases hx with hx | hx
      · exact hp x hx
      · simp only [List.mem_singleton] at hx
        rw [hx, ← getD_get (d := z42) hlt]
        rw [List.drop_zero] at hne
        exact hne

theorem headsMore_true {K : Nat} (hK : KK ≤ K) (l : List Int) : c3 K l = some (true, ()) := by
  have hK' : 17592186044416 ≤ K := hK
  have ha := c14_ok (K := K) (by omega)
  rw [c3_eq, c13_ok, c15_ok, ha]
  simp only [Option.bind_some]
  by_cases hl : (l.length : Int) ≤ 400
  · obtain ⟨m, d, n, b, d', t, e1, hm, e2, hd, h1, h3, hb, e3⟩ := begin27 hK hl
    have hp7 := hm.p7
    have hT := Tn_len n
    simp only [hl, decide_true, Bool.not_true, Bool.false_eq_true, if_false, e1, Option.bind_some, e2, e3]
    obtain ⟨r7, d7, e7, b7, b7', hd7⟩ := c19_ok K hd (n := 100) (by decide) (by decide)
    rw [e7]
    simp only [Option.bind_some]
    obtain ⟨r8, d8, e8, hd8, hl8, hx8⟩ := c20_ok (K := K) (n := m.1.length) (by omega) (by omega) hd7
    rw [e8]
    simp only [Option.bind_some]
    exact m3_10_loop (K := K) (by omega) hm (area := r8) (by omega) (fun more hmo hsub => m3_16_loop (K := K) (by omega) (by omega) (by omega) hb (by omega) hmo hsub b.1.length 0 K (by omega) (by have := hb.l24; omega) (by simp)) m.1.length 0 K d8 [] (by omega) (by omega) hd8 (by simp) (fun x hx h0 h1 => by omega)
  · simp [hl]

/-- Of two areas. -/
theorem split_end {n : Nat} {T : List Int} {K : Nat} (hK : 1000 ≤ K) (hn : n < 1000) (hT : T.length < 900) {b : Ag33} (h : BOk n T b) (t : Int) {l k all : List Int} (hl : l.length < 1000) (hk : k.length < 1000) (hal : all.length < 1000)
    (h1 : ∀ x ∈ l, x ∈ all) (h2 : ∀ x ∈ k, x ∈ all) (h3 : ∀ x ∈ all, x ∈ l ∨ x ∈ k) (h4 : ∀ x ∈ l, x ∉ k) :
    ((c24 K b l t).bind fun r2 => (c24 K b k t).bind fun r3 => (c24 K b all t).bind fun r4 => (c14 K).bind fun r5 => some ((if (if (if r5.1 = true then decide (r4.1.1 ≥ IntKind.i64.wrap (r2.1.1 + r3.1.1)) else false) = true then decide (r4.1.2.1 ≤ IntKind.i64.wrap (r2.1.2.1 + r3.1.2.1)) else false) = true then decide (r4.1.1 ≤ r4.1.2.1) else false), ())) = some (true, ()) := by
  obtain ⟨lo1, hi1, e1, c1⟩ := c24_ok (K := K) hK hn hT hl t h
  obtain ⟨lo2, hi2, e2, c2⟩ := c24_ok (K := K) hK hn hT hk t h
  obtain ⟨lo3, hi3, e3, c3⟩ := c24_ok (K := K) hK hn hT hal t h
  rw [e1, e2, e3, c14_ok hK]
  simp only [Option.bind_some]
  have bound : ∀ (a : List Int) x, x ∈ b.1 → sureN a t x ≤ T.length ∧ mayN a t x ≤ T.length := fun a x hx => by
    rw [← (h.w x hx).w]
    exact ⟨List.countP_le_length, List.countP_le_length⟩
  have hs : ∀ x, sureN l t x + sureN k t x ≤ sureN all t x := fun x => by
    unfold sureN
    generalize x.2.1 = ws
    induction ws with
    | nil => simp
    | cons w ws ih =>
      have a1 : is_ w l t = true → is_ w all t = true := is_mono fun y _ => h1 y
      have a2 : is_ w k t = true → is_ w all t = true := is_mono fun y _ => h2 y
      have a3 : is_ w l t = true → is_ w k t = true → False := fun x1 x2 => by
        have hc := is_can x1
        simp only [can, List.any_eq_true] at hc
        obtain ⟨p, hp, hpl⟩ := hc
        exact h4 p (List.contains_iff_mem.1 (is_mem x1 hp)) (List.contains_iff_mem.1 (is_mem x2 hp))
      simp only [List.countP_cons]
      cases hx1 : is_ w l t <;> cases hx2 : is_ w k t <;> simp only [if_true, Bool.false_eq_true, if_false]
      · split <;> omega
      · rw [a2 hx2]; simp only [if_true]; omega
      · rw [a1 hx1]; simp only [if_true]; omega
      · exact absurd hx2 (fun h => a3 hx1 h)
  have hm : ∀ x, mayN all t x ≤ mayN l t x + mayN k t x := fun x => by
    unfold mayN
    generalize x.2.1 = ws
    induction ws with
    | nil => simp
    | cons w ws ih =>
      have a1 : can w all t = true → can w l t = true ∨ can w k t = true := fun hc => by
        simp only [can, List.any_eq_true, List.contains_iff_mem] at hc ⊢
        obtain ⟨p, hp, hpa⟩ := hc
        exact (h3 p hpa).imp (fun hh => ⟨p, hp, hh⟩) (fun hh => ⟨p, hp, hh⟩)
      simp only [List.countP_cons]
      cases hx : can w all t
      · simp only [Bool.false_eq_true, if_false]; omega
      · rcases a1 hx with h | h
        · rw [h]; simp only [if_true]; omega
        · rw [h]; simp only [if_true]; omega
  have g1 : lo1 + lo2 ≤ lo3 := by
    obtain ⟨x, hx, e⟩ := c3.lo2
    have := c1.lo1 x hx
    have := c2.lo1 x hx
    have := hs x
    omega
  have g2 : hi3 ≤ hi1 + hi2 := by
    obtain ⟨x, hx, e⟩ := c3.hi2
    have := c1.hi1 x hx
    have := c2.hi1 x hx
    have := hm x
    omega
  have g3 : lo3 ≤ hi3 := by
    obtain ⟨x, hx, e⟩ := c3.lo2
    have := c3.hi1 x hx
    have := sure_may all t x
    omega
  have b1 : lo1 ≤ T.length := by obtain ⟨x, hx, e⟩ := c1.lo2; rw [e]; exact (bound l x hx).1
  have b2 : lo2 ≤ T.length := by obtain ⟨x, hx, e⟩ := c2.lo2; rw [e]; exact (bound k x hx).1
  have b3 : hi1 ≤ T.length := by obtain ⟨x, hx, e⟩ := c1.hi2; rw [e]; exact (bound l x hx).2
  have b4 : hi2 ≤ T.length := by obtain ⟨x, hx, e⟩ := c2.hi2; rw [e]; exact (bound k x hx).2
  have w1 : IntKind.i64.wrap ((lo1 : Int) + (lo2 : Int)) = (lo1 : Int) + (lo2 : Int) := wrap_id (by omega) (by omega)
  have w2 : IntKind.i64.wrap ((hi1 : Int) + (hi2 : Int)) = (hi1 : Int) + (hi2 : Int) := wrap_id (by omega) (by omega)
  rw [w1, w2]
  have i1 : (lo3 : Int) ≥ (lo1 : Int) + (lo2 : Int) := by omega
  have i2 : (hi3 : Int) ≤ (hi1 : Int) + (hi2 : Int) := by omega
  have i3 : (lo3 : Int) ≤ (hi3 : Int) := by omega
  simp only [i1, i2, i3, decide_true, if_true]

theorem m4_9_loop {n : Nat} {T : List Int} {K : Nat} (hK : 1000 ≤ K) (hn : n < 1000) (hT : T.length < 900) {b : Ag33} (h : BOk n T b) {t : Int} {m : Ag29} (hm : m.1.length < 900) : (d i q : Nat) → (dc : Dc) → (l k all : List Int) → i + d = m.1.length → d < q → DOk dc → l.length ≤ i → k.length ≤ i → all.length ≤ i → (∀ x ∈ all, x < (i : Int)) →
    (∀ x ∈ l, x ∈ all) → (∀ x ∈ k, x ∈ all) → (∀ x ∈ all, x ∈ l ∨ x ∈ k) → (∀ x ∈ l, x ∉ k) → m4_9 K q dc m b t l k all (i : Int) = some (true, ())
  | 0, i, q, dc, l, k, all, hi, hq, hd, l1, l2, l3, lt, h1, h2, h3, h4 => by
    obtain ⟨q, rfl⟩ : ∃ j, q = j + 1 := ⟨q - 1, by omega⟩
    rw [m4_9_eq, if_neg (by simp; omega)]
    exact split_end hK hn hT h t (by omega) (by omega) (by omega) h1 h2 h3 h4
  | d + 1, i, q, dc, l, k, all, hi, hq, hd, l1, l2, l3, lt, h1, h2, h3, h4 => by
    obtain ⟨q, rfl⟩ : ∃ j, q = j + 1 := ⟨q - 1, by omega⟩
    have lim : ∀ l : List Int, l.length ≤ i → decide (l.length + [(i : Int)].length < LIM 8) = true := fun l h => lt8 (by simp; omega)
    rw [m4_9_eq, wsucc (by omega), if_pos (by simp; omega)]
    obtain ⟨r1, d1, e1, b1, b1', hd1⟩ := c19_ok K hd (n := 3) (by decide) (by decide)
    rw [e1]
    simp only [Option.bind_some]
    have hni : (i : Int) ∉ all := fun hh => by have := lt _ hh; omega
    split
    · rw [if_pos (lim _ l1), if_pos (lim _ l3)]
      refine m4_9_loop hK hn hT h hm d (i + 1) q d1 _ _ _ (by omega) (by omega) hd1 (by simp; omega) (by omega) (by simp; omega) (fun x hx => ?_) (fun x hx => ?_) (fun x hx => List.mem_append_left _ (h2 x hx)) (fun x hx => ?_) (fun x hx => ?_)
      · rcases List.mem_append.1 hx with hx | hx
        · have := lt x hx; omega
        · simp only [List.mem_singleton] at hx; omega
      · rcases List.mem_append.1 hx with hx | hx
        · exact List.mem_append_left _ (h1 x hx)
        · exact List.mem_append_right _ hx
      · rcases List.mem_append.1 hx with hx | hx
        · exact (h3 x hx).imp (List.mem_append_left _) id
        · exact .inl (List.mem_append_right _ hx)
      · rcases List.mem_append.1 hx with hx | hx
        · exact h4 x hx
        · simp only [List.mem_singleton] at hx
          rw [hx]; exact fun hh => hni (h2 _ hh)
    · split
      · rw [if_pos (lim _ l2), if_pos (lim _ l3)]
        refine m4_9_loop hK hn hT h hm d (i + 1) q d1 _ _ _ (by omega) (by omega) hd1 (by omega) (by simp; omega) (by simp; omega) (fun x hx => ?_) (fun x hx => List.mem_append_left _ (h1 x hx)) (fun x hx => ?_) (fun x hx => ?_) (fun x hx => ?_)
        · rcases List.mem_append.1 hx with hx | hx
          · have := lt x hx; omega
          · simp only [List.mem_singleton] at hx; omega
        · rcases List.mem_append.1 hx with hx | hx
          · exact List.mem_append_left _ (h2 x hx)
          · exact List.mem_append_right _ hx
        · rcases List.mem_append.1 hx with hx | hx
          · exact (h3 x hx).imp id (List.mem_append_left _)
          · exact .inr (List.mem_append_right _ hx)
        · intro hh
          rcases List.mem_append.1 hh with hh | hh
          · exact h4 x hx hh
          · simp only [List.mem_singleton] at hh
            rw [hh] at hx; exact hni (h1 _ hx)
      · exact m4_9_loop hK hn hT h hm d (i + 1) q d1 _ _ _ (by omega) (by omega) hd1 (by omega) (by omega) (by omega) (fun x hx => by have := lt x hx; omega) h1 h2 h3 h4

theorem headsSplit_true {K : Nat} (hK : KK ≤ K) (l : List Int) : c4 K l = some (true, ()) := by
  have hK' : 17592186044416 ≤ K := hK
  have ha := c14_ok (K := K) (by omega)
  rw [c4_eq, c13_ok, c15_ok, ha]
  simp only [Option.bind_some]
  by_cases hl : (l.length : Int) ≤ 400
  · obtain ⟨m, d, n, b, d', t, e1, hm, e2, hd, h1, h3, hb, e3⟩ := begin27 hK hl
    have hp7 := hm.p7
    have hT := Tn_len n
    simp only [hl, decide_true, Bool.not_true, Bool.false_eq_true, if_false, e1, Option.bind_some, e2, e3]
    obtain ⟨r7, d7, e7, b7, b7', hd7⟩ := c19_ok K hd (n := 100) (by decide) (by decide)
    rw [e7]
    simp only [Option.bind_some]
    exact m4_9_loop (K := K) (by omega) (by omega) (by omega) hb (by omega) m.1.length 0 K d7 [] [] [] (by omega) (by omega) hd7 (by simp) (by simp) (by simp) (by simp) (by simp) (by simp) (by simp) (by simp)
  · simp [hl]
end Fs
