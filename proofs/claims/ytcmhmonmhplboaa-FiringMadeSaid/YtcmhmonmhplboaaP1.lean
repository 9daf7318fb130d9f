/- The law in plain Lean: it answers true. No condition. -/
import Derived.Test.YtcmhmonmhplboaaC3
import Derived.KernelRfl
set_option linter.all false
set_option linter.unusedVariables false
set_option linter.unusedSimpArgs false
set_option linter.unnecessarySimpa false
set_option autoImplicit true
set_option relaxedAutoImplicit true
/- Plain lemmas for the shallow functions: loops, integers, rows. -/
open Go Go.Ev
namespace Fs

theorem wrap_id {x : Int} (h : -9223372036854775808 ≤ x) (h' : x ≤ 9223372036854775807) : IntKind.i64.wrap x = x := by
  simp only [IntKind.wrap, IntKind.signed, IntKind.bits, Bool.true_and]
  by_cases hx : x % 2 ^ 64 ≥ 2 ^ (64 - 1)
  · rw [if_pos (by simpa using hx)]; omega
  · rw [if_neg (by simpa using hx)]; omega
theorem LIM8 : LIM 8 = 17592186044416 := rfl

/-- A loop that looks at one place after the other. -/
theorem scanN {α : Type} {L : Nat → Nat → Option α} {len : Nat} {ex : Nat → Option α} {T : Option α}
    (hstep : ∀ k i, i < len → L (k + 1) i = match ex i with | some r => some r | none => L k (i + 1)) (hend : ∀ k, L (k + 1) len = T) :
    ∀ d i k, i + d = len → d < k → L k i = ((List.range' i d).findSome? ex).or T := by
  intro d
  induction d with
  | zero =>
    intro i k hi hk
    obtain ⟨k, rfl⟩ : ∃ j, k = j + 1 := ⟨k - 1, by omega⟩
    have : i = len := by omega
    subst this
    rw [hend]; rfl
  | succ d ih =>
    intro i k hi hk
    obtain ⟨k, rfl⟩ : ∃ j, k = j + 1 := ⟨k - 1, by omega⟩
    rw [hstep k i (by omega), List.range'_succ, List.findSome?_cons]
    cases ex i with
    | some r => rfl
    | none => exact ih (i + 1) k (by omega) (by omega)

/-- All places hold: a loop that ends with false at the first that does not. -/
theorem scanAll {L : Nat → Nat → Option (Bool × Unit)} {len : Nat} {bad : Nat → Bool}
    (hstep : ∀ k i, i < len → L (k + 1) i = if bad i = true then some (false, ()) else L k (i + 1)) (hend : ∀ k, L (k + 1) len = some (true, ())) (k : Nat) (hk : len < k) :
    L k 0 = some ((List.range len).all fun i => !bad i, ()) := by
  have h := scanN (L := L) (len := len) (ex := fun i => if bad i = true then some (false, ()) else none) (T := some (true, ())) (fun k i hi => by
    rw [hstep k i hi]; cases bad i <;> rfl) hend len 0 k (by omega) hk
  rw [h, ← List.range_eq_range']
  generalize List.range len = r
  induction r with
  | nil => rfl
  | cons i r ih =>
    rw [List.findSome?_cons, List.all_cons]
    cases bad i with
    | true => rfl
    | false => simpa using ih

theorem getD_get {α : Type} {l : List α} {i : Nat} {d : α} (h : i < l.length) : l.getD i d = l[i] := by
  simp [List.getD, h]

/-- Dice: the numbers, and how many are used. -/
abbrev Dc := (List Int) × Int × Unit
def md (n m : Int) : Int := if m < 1 then 0 else if Int.tmod n m < 0 then Int.tmod n m + m else Int.tmod n m
theorem md_range {n m : Int} (h : 1 ≤ m) : 0 ≤ md n m ∧ md n m < m := by
  unfold md
  have h1 := Int.tmod_lt_of_pos n (show 0 < m by omega)
  have h2 : -m < Int.tmod n m := by
    have := Int.lt_tmod_of_pos n (show 0 < m by omega)
    omega
  rw [if_neg (by omega)]
  split <;> omega
theorem c25_ok (K : Nat) {n m : Int} (h : m < 9223372036854775807) : c25 K n m = some (md n m, ()) := by
  rw [c25_eq]
  unfold md
  by_cases h1 : m < 1
  · simp [h1]
  · have hm : ¬ m = 0 := by omega
    have h2 := Int.tmod_lt_of_pos n (show 0 < m by omega)
    have h3 : -m < Int.tmod n m := by
      have := Int.lt_tmod_of_pos n (show 0 < m by omega)
      omega
    have e : (m != 0) = true := by simpa using hm
    by_cases h4 : Int.tmod n m < 0
    · rw [wrap_id (by omega) (by omega)]
      simp [h1, e, h4]
    · simp [h1, e, h4]
/-- A roll of the dice. -/
def DOk (d : Dc) : Prop := d.1.length ≤ 400 ∧ 0 ≤ d.2.1 ∧ d.2.1 ≤ 400
theorem c19_ok (K : Nat) {d : Dc} (hd : DOk d) {n : Int} (h1 : 1 ≤ n) (h2 : n < 9223372036854775807) : ∃ r d', c19 K d n = some (r, d', ()) ∧ 0 ≤ r ∧ r < n ∧ DOk d' := by
  obtain ⟨l, a, u⟩ := d
  obtain ⟨ha, hb, hc⟩ := hd
  simp only at ha hb hc
  rw [c19_eq]
  simp only
  by_cases hlt : a < (l.length : Int)
  · have e1 : IntKind.i64.wrap (a + 1) = a + 1 := wrap_id (by omega) (by omega)
    have e2 : IntKind.i64.wrap (a + 1 - 1) = a := by rw [wrap_id (by omega) (by omega)]; omega
    rw [e1, e2, c25_ok K h2]
    have hge : ¬ a ≥ (l.length : Int) := by omega
    have hr := md_range (n := l.getD a.toNat 0) h1
    refine ⟨md (l.getD a.toNat 0) n, (l, a + 1, ()), ?_, hr.1, hr.2, ha, ?_, ?_⟩
    · simp [hge, hb, hlt]
    · show 0 ≤ a + 1; omega
    · show a + 1 ≤ 400; omega
  · refine ⟨0, (l, a, ()), ?_, by omega, by omega, ha, hb, hc⟩
    have hge : a ≥ (l.length : Int) := by omega
    simp [hge]
theorem c35_ok (K : Nat) {d : Dc} (hd : DOk d) {l : List Int} (h1 : 0 < l.length) (h2 : l.length < 1000) : ∃ r d', c35 K d l = some (r, d', ()) ∧ r ∈ l ∧ DOk d' := by
  rw [c35_eq]
  obtain ⟨r, d', h, h3, h4, h5⟩ := c19_ok K hd (n := (l.length : Int)) (by omega) (by omega)
  rw [h]
  refine ⟨l.getD r.toNat 0, d', ?_, ?_, h5⟩
  · simp [h3, h4]
  · rw [getD_get (by omega)]
    exact List.getElem_mem _

theorem c27_ok {K : Nat} {a b : List Int} (ha : a.length < 1000) (hK : 1000 ≤ K) : c27 K a b = some (decide (a = b), ()) := by
  rw [c27_eq]
  by_cases hl : a.length = b.length
  · have e : (((a.length : Int)) != (b.length : Int)) = false := by simp [hl]
    rw [e]
    have h := scanAll (L := fun q i => m27_4 K q a b (i : Int)) (len := a.length) (bad := fun i => !(a.getD i 0 == b.getD i 0)) (fun q i hi' => by
      rw [m27_4_eq]
      have e2 : IntKind.i64.wrap ((i : Int) + 1) = ((i + 1 : Nat) : Int) := by rw [wrap_id (by omega) (by omega)]; omega
      rw [e2, Int.toNat_natCast]
      generalize a.getD i 0 = x
      generalize b.getD i 0 = y
      grind) (fun q => by rw [m27_4_eq]; simp) K (by omega)
    simp only [Bool.not_not] at h
    have h' : m27_4 K K a b 0 = _ := h
    rw [if_neg (by simp), h']
    congr 2
    rw [Bool.eq_iff_iff]
    simp only [List.all_eq_true, List.mem_range, beq_iff_eq, decide_eq_true_eq]
    constructor
    · intro h
      apply List.ext_getElem hl
      intro i h1 h2
      have := h i h1
      rwa [getD_get h1, getD_get h2] at this
    · rintro rfl i _
      rfl
  · have e : (((a.length : Int)) != (b.length : Int)) = true := by simp; omega
    rw [e, if_pos rfl]
    have : ¬ a = b := fun h => hl (by rw [h])
    simp [this]

theorem wsucc {i : Nat} (h : i < 1000000) : IntKind.i64.wrap ((i : Int) + 1) = ((i + 1 : Nat) : Int) := by rw [wrap_id (by omega) (by omega)]; omega
theorem wpred {i : Nat} (h : i < 1000000) : IntKind.i64.wrap (((i + 1 : Nat) : Int) - 1) = (i : Int) := by rw [wrap_id (by omega) (by omega)]; omega
theorem inb {i n : Nat} (h : i < n) : (decide (0 ≤ (i : Int)) && decide ((i : Int) < (n : Int))) = true := by simp; omega
theorem lt8 {n : Nat} (h : n < 1000000) : decide (n < LIM 8) = true := by rw [LIM8]; simp; omega
theorem LIM16 : LIM 16 = 8796093022208 := rfl
theorem LIM32 : LIM 32 = 4398046511104 := rfl
theorem LIM48 : LIM 48 = 2932031007402 := rfl
theorem LIM80 : LIM 80 = 1759218604441 := rfl

/-- A loop comes to an end where a measure falls. -/
theorem loopT {σ α : Type} {L : Nat → σ → Option α} (I : σ → Prop) (μ : σ → Nat) (Q : α → Prop)
    (step : ∀ q s, I s → (∃ r, L (q + 1) s = some r ∧ Q r) ∨ ∃ s', I s' ∧ μ s' < μ s ∧ L (q + 1) s = L q s') : ∀ n s q, μ s ≤ n → I s → n < q → ∃ r, L q s = some r ∧ Q r := by
  intro n
  induction n with
  | zero =>
    intro s q hm hI hq
    obtain ⟨q, rfl⟩ : ∃ j, q = j + 1 := ⟨q - 1, by omega⟩
    rcases step q s hI with h | ⟨s', _, h, _⟩
    · exact h
    · omega
  | succ n ih =>
    intro s q hm hI hq
    obtain ⟨q, rfl⟩ : ∃ j, q = j + 1 := ⟨q - 1, by omega⟩
    rcases step q s hI with h | ⟨s', h1, h2, h3⟩
    · exact h
    · rw [h3]; exact ih s' q (by omega) h1 (by omega)

theorem find_or {α : Type} (l : List Nat) (p : Nat → Bool) (a b : α) : (l.findSome? (fun i => if p i = true then some a else none)).or (some b) = some (if l.any p = true then a else b) := by
  induction l with
  | nil => rfl
  | cons i l ih =>
    rw [List.findSome?_cons, List.any_cons]
    cases h : p i with
    | true => simp
    | false => simpa using ih
theorem any_range_mem (l : List Int) (x : Int) : ((List.range l.length).any fun i => l.getD i 0 == x) = l.contains x := by
  rw [Bool.eq_iff_iff]
  simp only [List.any_eq_true, List.mem_range, beq_iff_eq, List.contains_iff_mem]
  constructor
  · rintro ⟨i, hi, h⟩
    rw [getD_get hi] at h
    rw [← h]; exact List.getElem_mem hi
  · intro h
    obtain ⟨i, hi, h⟩ := List.mem_iff_getElem.1 h
    exact ⟨i, hi, by rw [getD_get hi, h]⟩

theorem c21_ok {K : Nat} {l : List Int} (hl : l.length < 1000) (hK : 1000 ≤ K) (x : Int) : c21 K l x = some (l.contains x, ()) := by
  rw [c21_eq]
  have h := scanN (L := fun k i => m21_2 K k l x (i : Int)) (len := l.length) (ex := fun i => if (l.getD i 0 == x) = true then some (true, ()) else none) (T := some (false, ())) (fun k i hi => by
    rw [m21_2_eq, wsucc (by omega), Int.toNat_natCast]
    have h1 : (i : Int) < (l.length : Int) := by omega
    rw [if_pos (decide_eq_true h1), if_pos (inb hi)]
    cases l.getD i 0 == x <;> rfl) (fun k => by rw [m21_2_eq]; simp) l.length 0 K (by omega) (by omega)
  refine h.trans ?_
  rw [find_or, ← List.range_eq_range', any_range_mem]
  cases l.contains x <;> rfl

theorem c118_loop {K : Nat} {l : List Int} (hl : l.length < 1000) (x : Int) : (d i q : Nat) → i + d = l.length → d < q → (∃ j : Nat, m118_2 K q l x (i : Int) = some ((j : Int), ()) ∧ j < l.length ∧ l.getD j 0 = x) ∨ (m118_2 K q l x (i : Int) = some (-1, ()) ∧ ∀ j, i ≤ j → j < l.length → l.getD j 0 ≠ x)
  | 0, i, q, h, hq => by
    obtain ⟨q, rfl⟩ : ∃ j, q = j + 1 := ⟨q - 1, by omega⟩
    right
    refine ⟨?_, fun j h1 h2 => by omega⟩
    rw [m118_2_eq]
    have h1 : ¬ (i : Int) < (l.length : Int) := by omega
    simp [h1]
  | d + 1, i, q, h, hq => by
    obtain ⟨q, rfl⟩ : ∃ j, q = j + 1 := ⟨q - 1, by omega⟩
    have h1 : (i : Int) < (l.length : Int) := by omega
    rw [m118_2_eq, wsucc (by omega), Int.toNat_natCast, if_pos (decide_eq_true h1), if_pos (inb (show i < l.length by omega))]
    by_cases he : l.getD i 0 = x
    · left
      refine ⟨i, ?_, by omega, he⟩
      rw [if_pos (by simpa using he)]
    · rw [if_neg (by simpa using he)]
      rcases c118_loop hl x d (i + 1) q (by omega) (by omega) with h | ⟨h2, h3⟩
      · exact .inl h
      · refine .inr ⟨h2, fun j h4 h5 => ?_⟩
        by_cases e : j = i
        · rw [e]; exact he
        · exact h3 j (by omega) h5
theorem c118_ok {K : Nat} {l : List Int} (hl : l.length < 1000) (hK : 1000 ≤ K) (x : Int) : ∃ r, c118 K l x = some (r, ()) ∧ (x ∈ l → 0 ≤ r) ∧ r < (l.length : Int) := by
  rw [c118_eq]
  rcases c118_loop (K := K) hl x l.length 0 K (by omega) (by omega) with ⟨j, h1, h2, h3⟩ | ⟨h1, h2⟩
  · exact ⟨j, h1, fun _ => by omega, by omega⟩
  · refine ⟨-1, h1, fun h => ?_, by omega⟩
    obtain ⟨j, hj, he⟩ := List.mem_iff_getElem.1 h
    exact absurd (by rw [getD_get hj]; exact he) (h2 j (by omega) hj)

theorem c111_ok {K : Nat} {l : List Int} (hl : l.length < 1000) (hK : 1000 ≤ K) : ∃ r, c111 K l = some (r, ()) := by
  rw [c111_eq]
  have h := loopT (L := fun q (i : Nat) => m111_2 K q l (i : Int)) (fun i => i ≤ l.length) (fun i => l.length - i) (fun _ => True) (fun q i hi => by
    rw [m111_2_eq]
    by_cases h1 : i < l.length
    · have h2 : (i : Int) < (l.length : Int) := by omega
      have h3 : (i : Int) ≤ (l.length : Int) := by omega
      obtain ⟨r, hr, _⟩ := c118_ok (K := K) (l := l.take i) (by rw [List.length_take]; omega) hK (l.getD i 0)
      have h4 : (decide ((0 : Int) ≤ (i : Int)) && decide ((i : Int) ≤ (l.length : Int))) = true := by simp [h3]
      rw [wsucc (by omega), Int.toNat_natCast, hr, if_pos (decide_eq_true h2), inb h1, h4]
      simp only [Bool.or_true, if_true]
      by_cases hc : (if decide (l.getD i 0 < 1) = true then true else decide (l.getD i 0 > 65535)) = true
      · left; refine ⟨(false, ()), ?_, trivial⟩
        rw [hc]; rfl
      · rw [Bool.not_eq_true] at hc
        rw [hc]
        simp only [Bool.not_false, if_true, Option.bind_some, Bool.false_eq_true, if_false]
        by_cases h5 : r ≥ 0
        · left; exact ⟨(false, ()), by simp [h5], trivial⟩
        · right; exact ⟨i + 1, by omega, by omega, by simp [h5]⟩
    · left; have h2 : ¬ (i : Int) < (l.length : Int) := by omega
      exact ⟨(true, ()), by simp [h2], trivial⟩) l.length 0 K (by omega) (by omega) (by omega)
  obtain ⟨r, hr, _⟩ := h
  exact ⟨r.1, hr⟩

theorem c145_loop {K n : Nat} (hn : n < 1000) : (d i q : Nat) → i + d = n → d < q → m145_3 K q (n : Int) (List.replicate i 1099511627776) (i : Int) = some (List.replicate n 1099511627776, ())
  | 0, i, q, h, hq => by
    obtain ⟨q, rfl⟩ : ∃ j, q = j + 1 := ⟨q - 1, by omega⟩
    rw [m145_3_eq]
    have h1 : ¬ (i : Int) < (n : Int) := by omega
    have : i = n := by omega
    simp [h1, this]
  | d + 1, i, q, h, hq => by
    obtain ⟨q, rfl⟩ : ∃ j, q = j + 1 := ⟨q - 1, by omega⟩
    rw [m145_3_eq, wsucc (by omega)]
    have h1 : (i : Int) < (n : Int) := by omega
    rw [if_pos (by simp [h1]), if_pos (lt8 (by simp; omega))]
    have := c145_loop (K := K) hn d (i + 1) q (by omega) (by omega)
    rw [List.replicate_succ'] at this
    exact this
theorem c145_ok {K n : Nat} (hn : n < 1000) (hK : 1000 ≤ K) : c145 K (n : Int) = some (List.replicate n 1099511627776, ()) := by
  rw [c145_eq]
  exact c145_loop hn n 0 K (by omega) (by omega)
theorem c144_ok (K : Nat) (t : Int) : c144 K t = some (decide (t ≥ 0) && decide (t ≤ 2147483648), ()) := by
  rw [c144_eq]
  cases decide (t ≥ 0) <;> rfl

theorem c22_ok (K : Nat) {d : Dc} (hd : DOk d) {n : Int} (h1 : 1 ≤ n) (h2 : n < 9223372036854775807) : ∃ r d', c22 K d n = some (r, d', ()) ∧ DOk d' := by
  rw [c22_eq]
  obtain ⟨r, d', h, _, _, hd'⟩ := c19_ok K hd h1 h2
  rw [h]
  exact ⟨_, _, rfl, hd'⟩

/-- Some of the first n numbers. -/
theorem c20_loop {K n : Nat} (hn : n < 1000) : (k i q : Nat) → (d : Dc) → (l : List Int) → i + k = n → k < q → DOk d → l.length ≤ i → (∀ x ∈ l, 0 ≤ x ∧ x < (n : Int)) →
    ∃ l' d', m20_3 K q d (n : Int) l (i : Int) = some (l', d', ()) ∧ DOk d' ∧ l'.length ≤ n ∧ ∀ x ∈ l', 0 ≤ x ∧ x < (n : Int)
  | 0, i, q, d, l, h, hq, hd, hl, hx => by
    obtain ⟨q, rfl⟩ : ∃ j, q = j + 1 := ⟨q - 1, by omega⟩
    rw [m20_3_eq]
    have h1 : ¬ (i : Int) < (n : Int) := by omega
    exact ⟨l, d, by simp [h1], hd, by omega, hx⟩
  | k + 1, i, q, d, l, h, hq, hd, hl, hx => by
    obtain ⟨q, rfl⟩ : ∃ j, q = j + 1 := ⟨q - 1, by omega⟩
    rw [m20_3_eq, wsucc (by omega)]
    have h1 : (i : Int) < (n : Int) := by omega
    obtain ⟨r, d1, hr, _, _, hd1⟩ := c19_ok K hd (n := 3) (by decide) (by decide)
    rw [if_pos (by simp [h1]), hr]
    simp only [Option.bind_some]
    by_cases hz : ((r : Int) == 0) = true
    · rw [if_pos hz, if_pos (lt8 (by simp; omega))]
      exact c20_loop hn k (i + 1) q d1 (l ++ [(i : Int)]) (by omega) (by omega) hd1 (by simp; omega) (by
        intro x hx'
        rcases List.mem_append.1 hx' with hx' | hx'
        · exact hx x hx'
        · simp only [List.mem_singleton] at hx'; omega)
    · rw [if_neg hz]
      exact c20_loop hn k (i + 1) q d1 l (by omega) (by omega) hd1 (by omega) hx
theorem c20_ok {K n : Nat} (hn : n < 1000) (hK : 1000 ≤ K) {d : Dc} (hd : DOk d) : ∃ l d', c20 K d (n : Int) = some (l, d', ()) ∧ DOk d' ∧ l.length ≤ n ∧ ∀ x ∈ l, 0 ≤ x ∧ x < (n : Int) := by
  rw [c20_eq]
  exact c20_loop hn n 0 K d [] (by omega) (by omega) hd (by simp) (by simp)
end Fs

/- Mines. -/
open Go Go.Ev
namespace Fs

def RdOk (n : Nat) (x : Ag92) : Prop := 0 ≤ x.1 ∧ x.1 < (n : Int) ∧ 0 ≤ x.2.1 ∧ x.2.1 < (n : Int) ∧ x.1 ≠ x.2.1 ∧ 1 ≤ x.2.2.1 ∧ x.2.2.1 ≤ 100000 ∧ 1 ≤ x.2.2.2.1 ∧ x.2.2.2.1 ≤ 1000 ∧ x.2.2.2.2.2.2.1 = (1, 1, ()) ∧ x.2.2.2.2.2.2.2.1 = (0, 0, ())
structure MOk (m : Ag29) : Prop where
  p2 : 2 ≤ m.1.length
  p7 : m.1.length ≤ 7
  r10 : m.2.1.length ≤ 10
  h : ∀ x ∈ m.1, -10000 ≤ x.1 ∧ x.1 ≤ 10000
  r : ∀ x ∈ m.2.1, RdOk m.1.length x

theorem mem_getD {α : Type} {l : List α} {i : Nat} {d : α} (h : i < l.length) : l.getD i d ∈ l := by rw [getD_get h]; exact List.getElem_mem h

theorem c110_roads {K : Nat} {m : Ag29} (hm : MOk m) : (d i q : Nat) → i + d = m.2.1.length → d < q → m110_10 K q m (i : Int) = some (0, ())
  | 0, i, q, h, hq => by
    obtain ⟨q, rfl⟩ : ∃ j, q = j + 1 := ⟨q - 1, by omega⟩
    rw [m110_10_eq, if_neg (by simp; omega)]
  | d + 1, i, q, h, hq => by
    obtain ⟨q, rfl⟩ : ∃ j, q = j + 1 := ⟨q - 1, by omega⟩
    have hr10 := hm.r10
    have h1 : i < m.2.1.length := by omega
    have hg := hm.r _ (mem_getD (d := z92) h1)
    rw [m110_10_eq, wsucc (by omega), Int.toNat_natCast, if_pos (by simp; omega), if_pos (inb h1), c143_eq, c143_eq, c110_roads hm d (i + 1) q (by omega) (by omega)]
    generalize m.2.1.getD i z92 = g at hg
    obtain ⟨a1, a2, a3, a4, a5, a6, a7, a8, a9, a10, a11⟩ := hg
    rw [a10, a11]
    have e1 : ¬ g.1 < 0 := by omega
    have e2 : ¬ g.1 ≥ (m.1.length : Int) := by omega
    have e3 : ¬ g.2.1 < 0 := by omega
    have e4 : ¬ g.2.1 ≥ (m.1.length : Int) := by omega
    have e5 : ¬ g.2.2.1 < 1 := by omega
    have e6 : ¬ g.2.2.1 > 100000 := by omega
    have e7 : ¬ g.2.2.2.1 < 1 := by omega
    have e8 : ¬ g.2.2.2.1 > 1000 := by omega
    have e9 : (g.1 == g.2.1) = false := by simpa using a5
    simp only [e1, e2, e3, e4, e5, e6, e7, e8, e9, decide_false, Bool.false_eq_true, if_false]
    rfl
theorem c110_places {K : Nat} (hK : 1000 ≤ K) {m : Ag29} (hm : MOk m) : (d i q : Nat) → i + d = m.1.length → d < q → m110_4 K q m (i : Int) = some (0, ())
  | 0, i, q, h, hq => by
    obtain ⟨q, rfl⟩ : ∃ j, q = j + 1 := ⟨q - 1, by omega⟩
    have hr10 := hm.r10
    rw [m110_4_eq, if_neg (by simp; omega)]
    exact c110_roads hm m.2.1.length 0 K (by omega) (by omega)
  | d + 1, i, q, h, hq => by
    obtain ⟨q, rfl⟩ : ∃ j, q = j + 1 := ⟨q - 1, by omega⟩
    have hp7 := hm.p7
    have h1 : i < m.1.length := by omega
    have hg := hm.h _ (mem_getD (d := z90) h1)
    rw [m110_4_eq, wsucc (by omega), Int.toNat_natCast, if_pos (by simp; omega), if_pos (inb h1), c110_places hK hm d (i + 1) q (by omega) (by omega)]
    generalize m.1.getD i z90 = g at hg
    have e1 : ¬ g.1 < -10000 := by omega
    have e2 : ¬ g.1 > 10000 := by omega
    simp only [e1, e2, decide_false, Bool.false_eq_true, if_false]
theorem c110_ok {K : Nat} (hK : 1000 ≤ K) {m : Ag29} (hm : MOk m) : c110 K m = some (0, ()) := by
  have hp7 := hm.p7
  have hr10 := hm.r10
  rw [c110_eq, if_neg]
  · exact c110_places hK hm m.1.length 0 K (by omega) (by omega)
  · have e1 : ¬ (m.1.length : Int) > 64 := by omega
    have e2 : ¬ (m.2.1.length : Int) > 128 := by omega
    simp [e1, e2]

/-- A mine under way: places. -/
structure MP (n : Nat) (m : Ag29) : Prop where
  len : m.1.length = n
  h : ∀ x ∈ m.1, -10000 ≤ x.1 ∧ x.1 ≤ 10000
  r10 : m.2.1.length ≤ 10
  r : ∀ x ∈ m.2.1, RdOk n x
abbrev road0 : Ag92 := (0, 0, 12, 10, true, false, (1, 1, ()), (0, 0, ()), ())
theorem MP.ok {n : Nat} {m : Ag29} (h : MP n m) (h2 : 2 ≤ n) (h7 : n ≤ 7) : MOk m := ⟨by rw [h.len]; exact h2, by rw [h.len]; exact h7, h.r10, h.h, by rw [h.len]; exact h.r⟩
theorem MP.add {n : Nat} {m : Ag29} (h : MP n m) (hr : m.2.1.length < 10) {x : Ag92} (hx : RdOk n x) : MP n (m.1, m.2.1 ++ [x], ()) := ⟨h.len, h.h, by simp; omega, fun y hy => by
  rcases List.mem_append.1 hy with hy | hy
  · exact h.r y hy
  · simp only [List.mem_singleton] at hy; rw [hy]; exact hx⟩

theorem c16_17 {K n : Nat} (h2 : 2 ≤ n) (h7 : n ≤ 7) : (k q : Nat) → (d : Dc) → (x2 m : Ag29) → k < q → k ≤ 10 → DOk d → MP n m → ∃ m' d', m16_17 K q d x2 m (n : Int) road0 (k : Int) = some (m', d', ()) ∧ DOk d' ∧ MOk m'
  | 0, q, d, x2, m, hq, hk, hd, hm => by
    obtain ⟨q, rfl⟩ : ∃ j, q = j + 1 := ⟨q - 1, by omega⟩
    rw [m16_17_eq, if_neg (by simp)]
    exact ⟨m, d, rfl, hd, hm.ok h2 h7⟩
  | k + 1, q, d, x2, m, hq, hk, hd, hm => by
    obtain ⟨q, rfl⟩ : ∃ j, q = j + 1 := ⟨q - 1, by omega⟩
    rw [m16_17_eq, wpred (by omega)]
    by_cases hr : m.2.1.length < 10
    · have hc : (if decide (((k + 1 : Nat) : Int) > 0) = true then decide ((m.2.1.length : Int) < 10) else false) = true := by
        have : (m.2.1.length : Int) < 10 := by omega
        have e : ((k + 1 : Nat) : Int) > 0 := by omega
        simp only [this, e, decide_true, if_true]
      rw [if_pos hc]
      obtain ⟨r1, d1, e1, b1, b1', hd1⟩ := c19_ok K hd (n := (n : Int)) (by omega) (by omega)
      rw [e1]; simp only [Option.bind_some]
      obtain ⟨r2, d2, e2, b2, b2', hd2⟩ := c19_ok K hd1 (n := (n : Int)) (by omega) (by omega)
      rw [e2]; simp only [Option.bind_some]
      obtain ⟨r3, d3, e3, b3, hd3⟩ := c35_ok K hd2 (l := [11, 59, 199]) (by decide) (by decide)
      rw [e3]; simp only [Option.bind_some]
      obtain ⟨r4, d4, e4, b4, hd4⟩ := c35_ok K hd3 (l := [9, 3]) (by decide) (by decide)
      rw [e4]; simp only [Option.bind_some]
      obtain ⟨r5, d5, e5, b5, b5', hd5⟩ := c19_ok K hd4 (n := 5) (by decide) (by decide)
      rw [e5]; simp only [Option.bind_some]
      obtain ⟨r6, d6, e6, hd6⟩ := c22_ok K hd5 (n := 6) (by decide) (by decide)
      rw [e6]; simp only [Option.bind_some]
      simp only [List.mem_cons, List.not_mem_nil, or_false] at b3 b4
      by_cases hne : (r1 != r2) = true
      · rw [if_pos hne]
        rw [if_pos (by rw [LIM80]; simp; omega)]
        refine c16_17 h2 h7 k q d6 x2 _ (by omega) (by omega) hd6 (hm.add hr ?_)
        have w3 : IntKind.i64.wrap (1 + r3) = 1 + r3 := wrap_id (by omega) (by omega)
        have w4 : IntKind.i64.wrap (1 + r4) = 1 + r4 := wrap_id (by omega) (by omega)
        rw [w3, w4]
        exact ⟨b1, b1', b2, b2', by simpa using hne, by show 1 ≤ 1 + r3; omega, by show 1 + r3 ≤ 100000; omega, by show 1 ≤ 1 + r4; omega, by show 1 + r4 ≤ 1000; omega, rfl, rfl⟩
      · rw [if_neg hne]
        exact c16_17 h2 h7 k q d6 x2 _ (by omega) (by omega) hd6 hm
    · rw [if_neg]
      · exact ⟨m, d, rfl, hd, hm.ok h2 h7⟩
      · have : ¬ (m.2.1.length : Int) < 10 := by omega
        simp [this]

theorem c16_11 {K n : Nat} (hK : 1000 ≤ K) (h2 : 2 ≤ n) (h7 : n ≤ 7) : (k i q : Nat) → (d : Dc) → (x2 m : Ag29) → i + k = n → 1 ≤ i → k < q → DOk d → MP n m → m.2.1.length < i → ∃ m' d', m16_11 K q d x2 m (n : Int) road0 (i : Int) = some (m', d', ()) ∧ DOk d' ∧ MOk m'
  | 0, i, q, d, x2, m, hi, h1, hq, hd, hm, hl => by
    obtain ⟨q, rfl⟩ : ∃ j, q = j + 1 := ⟨q - 1, by omega⟩
    rw [m16_11_eq, if_neg (by simp; omega)]
    obtain ⟨r4, d4, e4, b4, b4', hd4⟩ := c19_ok K hd (n := 4) (by decide) (by decide)
    rw [e4]; simp only [Option.bind_some]
    have := c16_17 (K := K) h2 h7 r4.toNat K d4 x2 m (by omega) (by omega) hd4 hm
    rw [Int.toNat_of_nonneg b4] at this
    exact this
  | k + 1, i, q, d, x2, m, hi, h1, hq, hd, hm, hl => by
    obtain ⟨q, rfl⟩ : ∃ j, q = j + 1 := ⟨q - 1, by omega⟩
    rw [m16_11_eq, wsucc (by omega), if_pos (by simp; omega)]
    obtain ⟨r1, d1, e1, b1, b1', hd1⟩ := c19_ok K hd (n := if (2 : Int) < (i : Int) then 2 else (i : Int)) (by split <;> omega) (by split <;> omega)
    rw [e1]; simp only [Option.bind_some]
    obtain ⟨r2, d2, e2, b2, hd2⟩ := c35_ok K hd1 (l := [11, 59, 119, 4]) (by decide) (by decide)
    rw [e2]; simp only [Option.bind_some]
    obtain ⟨r3, d3, e3, b3, hd3⟩ := c35_ok K hd2 (l := [9, 3, 19]) (by decide) (by decide)
    rw [e3]; simp only [Option.bind_some]
    simp only [List.mem_cons, List.not_mem_nil, or_false] at b2 b3
    have hmr := hm.r10
    rw [if_pos (by rw [LIM80]; simp; omega)]
    have b1'' : r1 < 2 ∧ r1 < (i : Int) := by split at b1' <;> omega
    have w1 : IntKind.i64.wrap ((i : Int) - 1) = (i : Int) - 1 := wrap_id (by omega) (by omega)
    have w2 : IntKind.i64.wrap ((i : Int) - 1 - r1) = (i : Int) - 1 - r1 := wrap_id (by omega) (by omega)
    have w3 : IntKind.i64.wrap (1 + r2) = 1 + r2 := wrap_id (by omega) (by omega)
    have w4 : IntKind.i64.wrap (1 + r3) = 1 + r3 := wrap_id (by omega) (by omega)
    rw [w1, w2, w3, w4]
    refine c16_11 hK h2 h7 k (i + 1) q d3 x2 _ (by omega) (by omega) (by omega) hd3 (hm.add (by omega) ?_) (by simp; omega)
    exact ⟨by show 0 ≤ (i : Int) - 1 - r1; omega, by show (i : Int) - 1 - r1 < n; omega, by show 0 ≤ (i : Int); omega, by show (i : Int) < n; omega, by show (i : Int) - 1 - r1 ≠ i; omega, by show 1 ≤ 1 + r2; omega, by show 1 + r2 ≤ 100000; omega, by show 1 ≤ 1 + r3; omega, by show 1 + r3 ≤ 1000; omega, rfl, rfl⟩

theorem c16_6 {K n : Nat} (hK : 1000 ≤ K) (h2 : 2 ≤ n) (h7 : n ≤ 7) : (k i q : Nat) → (d : Dc) → (x2 : Ag29) → (l : List Ag90) → i + k = n → k < q → DOk d → MP i (l, [], ()) → ∃ m' d', m16_6 K q d x2 (l, [], ()) (n : Int) (i : Int) = some (m', d', ()) ∧ DOk d' ∧ MOk m'
  | 0, i, q, d, x2, l, hi, hq, hd, hm => by
    obtain ⟨q, rfl⟩ : ∃ j, q = j + 1 := ⟨q - 1, by omega⟩
    rw [m16_6_eq, if_neg (by simp; omega)]
    have e : i = n := by omega
    rw [e] at hm
    exact c16_11 hK h2 h7 (n - 1) 1 K d x2 _ (by omega) (by omega) (by omega) hd hm (by simp)
  | k + 1, i, q, d, x2, l, hi, hq, hd, hm => by
    obtain ⟨q, rfl⟩ : ∃ j, q = j + 1 := ⟨q - 1, by omega⟩
    rw [m16_6_eq, wsucc (by omega), if_pos (by simp; omega)]
    obtain ⟨r1, d1, e1, b1, b1', hd1⟩ := c19_ok K hd (n := 4) (by decide) (by decide)
    rw [e1]; simp only [Option.bind_some]
    have w1 : IntKind.i64.wrap ((-10) * r1) = (-10) * r1 := wrap_id (by omega) (by omega)
    have hll : l.length = i := hm.len
    have next : ∀ (d : Dc) (b : Bool), DOk d → ∃ m' d', (if decide (l.length + [(((-10) * r1, b, ()) : Ag90)].length < LIM 16) = true then m16_6 K q d x2 ((l ++ [((-10) * r1, b, ())]), [], ()) (n : Int) ((i + 1 : Nat) : Int) else none) = some (m', d', ()) ∧ DOk d' ∧ MOk m' := by
      intro d b hd
      rw [if_pos (by rw [LIM16]; simp; omega)]
      refine c16_6 hK h2 h7 k (i + 1) q d x2 _ (by omega) (by omega) hd ⟨by simp [hll], fun y hy => ?_, by simp, by simp⟩
      rcases List.mem_append.1 hy with hy | hy
      · exact hm.h y hy
      · simp only [List.mem_singleton] at hy; rw [hy]; exact ⟨by show -10000 ≤ (-10) * r1; omega, by show (-10) * r1 ≤ 10000; omega⟩
    rw [w1]
    by_cases h0 : ((i : Int) == 0) = true
    · rw [h0]
      exact next d1 true hd1
    · rw [Bool.not_eq_true] at h0
      rw [h0]
      obtain ⟨r2, d2, e2, hd2⟩ := c22_ok K hd1 (n := 6) (by decide) (by decide)
      simp only [Bool.not_false, if_true, e2, Option.bind_some, Bool.false_eq_true, if_false]
      exact next d2 r2 hd2

theorem c16_ok {K : Nat} (hK : 1000 ≤ K) {d : Dc} (hd : DOk d) : ∃ m d', c16 K d = some (m, d', ()) ∧ DOk d' ∧ MOk m := by
  rw [c16_eq]
  obtain ⟨r1, d1, e1, b1, b1', hd1⟩ := c19_ok K hd (n := 6) (by decide) (by decide)
  rw [e1]; simp only [Option.bind_some]
  split
  · exact c16_6 (n := 4) hK (by omega) (by omega) 4 0 K d1 _ [] (by omega) (by omega) hd1 ⟨rfl, by simp, by simp, by simp⟩
  · have w : IntKind.i64.wrap (2 + r1) = ((2 + r1.toNat : Nat) : Int) := by rw [wrap_id (by omega) (by omega)]; omega
    rw [w]
    exact c16_6 (n := 2 + r1.toNat) hK (by omega) (by omega) (2 + r1.toNat) 0 K d1 _ [] (by omega) (by omega) hd1 ⟨rfl, by simp, by simp, by simp⟩
end Fs

/- The least times: the loop comes to an end. -/
open Go Go.Ev
namespace Fs

/-- Times of n places. -/
structure Box (n : Nat) (l : List Int) : Prop where
  len : l.length = n
  in_ : ∀ x ∈ l, 0 ≤ x ∧ x ≤ 1099511627776
def sumN : List Int → Nat
  | [] => 0
  | x :: l => x.toNat + sumN l
theorem sumN_le (l : List Int) (h : ∀ x ∈ l, 0 ≤ x ∧ x ≤ 1099511627776) : sumN l ≤ l.length * 1099511627776 := by
  induction l with
  | nil => simp [sumN]
  | cons x l ih =>
    have h1 := h x List.mem_cons_self
    have h2 := ih fun y hy => h y (List.mem_cons_of_mem _ hy)
    simp only [sumN, List.length_cons]
    omega
theorem sumN_set : (l : List Int) → (i : Nat) → (x : Int) → i < l.length → 0 ≤ x → x < l.getD i 0 → sumN (l.set i x) < sumN l
  | [], i, x, hi, _, _ => by simp at hi
  | y :: l, 0, x, hi, h0, h => by
    simp only [List.getD_cons_zero] at h
    simp only [List.set_cons_zero, sumN]; omega
  | y :: l, i + 1, x, hi, h0, h => by
    simp only [List.getD_cons_succ] at h
    have := sumN_set l i x (by simpa using hi) h0 h
    simp only [List.set_cons_succ, sumN]; omega
theorem Box.set {n : Nat} {l : List Int} (h : Box n l) {i : Nat} {x : Int} (h0 : 0 ≤ x) (h1 : x ≤ 1099511627776) : Box n (l.set i x) := ⟨by rw [List.length_set]; exact h.len, fun y hy => by
  rcases List.mem_or_eq_of_mem_set hy with hy | hy
  · exact h.in_ y hy
  · rw [hy]; exact ⟨h0, h1⟩⟩
theorem Box.get {n : Nat} {l : List Int} (h : Box n l) {i : Nat} (hi : i < n) : 0 ≤ l.getD i 0 ∧ l.getD i 0 ≤ 1099511627776 := h.in_ _ (mem_getD (by rw [h.len]; exact hi))

theorem c170_ok (K : Nat) {n : Nat} {x : Ag92} (h : RdOk n x) (b : Bool) : ∃ p q, c170 K x b = some (p, q, ()) ∧ 0 ≤ p ∧ p < (n : Int) ∧ 0 ≤ q ∧ q < (n : Int) := by
  rw [c170_eq]
  obtain ⟨a1, a2, a3, a4, _⟩ := h
  cases b
  · exact ⟨_, _, rfl, a1, a2, a3, a4⟩
  · exact ⟨_, _, rfl, a3, a4, a1, a2⟩
/-- The time of a road. -/
theorem c154_ok {K : Nat} (hK : 1000 ≤ K) {m : Ag29} (hm : MOk m) {i : Nat} (hi : i < m.2.1.length) (b : Bool) {a3 a4 a5 : Int} (h3 : 1 ≤ a3 ∧ a3 ≤ 100) (h4 : 1 ≤ a4 ∧ a4 ≤ 100) (h5 : 1 ≤ a5 ∧ a5 ≤ 100) : ∃ r, c154 K m (i : Int) b a3 a4 a5 = some (r, ()) ∧ -1 ≤ r ∧ r ≤ 10000000 := by
  have hr10 := hm.r10
  have hr := hm.r _ (mem_getD (d := z92) hi)
  rw [c154_eq, c110_ok hK hm, Int.toNat_natCast]
  generalize m.2.1.getD i z92 = g at hr
  obtain ⟨p, q, e, b1, b2, b3, b4⟩ := c170_ok K hr b
  have c1 : ¬ (i : Int) < 0 := by omega
  have c2 : ¬ (i : Int) ≥ (m.2.1.length : Int) := by omega
  simp only [Option.bind_some, inb hi, Bool.or_true, if_true, c1, c2, decide_false, bne_self_eq_false, Bool.false_eq_true, if_false]
  by_cases h1 : (if (g.2.2.2.2.2.1) = true then true else (!g.2.2.2.2.1)) = true
  · rw [if_pos h1]; exact ⟨-1, rfl, by omega, by omega⟩
  · rw [if_neg h1, e]
    simp only [Option.bind_some, b1, b2, b3, b4, decide_true, Bool.and_self, if_true]
    obtain ⟨_, _, _, _, _, g1, g2, _⟩ := hr
    have fin : ∀ s : Int, 1 ≤ s → s ≤ 100 → ∃ r, (if (s != 0) = true then some ((IntKind.i64.wrap (Int.tdiv (IntKind.i64.wrap (IntKind.i64.wrap (IntKind.i64.wrap (10 * g.2.2.1) + s) - 1)) s)), ()) else none) = some (r, ()) ∧ -1 ≤ r ∧ r ≤ 10000000 := by
      intro s s1 s2
      have hs : (s != 0) = true := by simp; omega
      rw [if_pos hs]
      have w1 : IntKind.i64.wrap (10 * g.2.2.1) = 10 * g.2.2.1 := wrap_id (by omega) (by omega)
      have w2 : IntKind.i64.wrap (10 * g.2.2.1 + s) = 10 * g.2.2.1 + s := wrap_id (by omega) (by omega)
      have w3 : IntKind.i64.wrap (10 * g.2.2.1 + s - 1) = 10 * g.2.2.1 + s - 1 := wrap_id (by omega) (by omega)
      rw [w1, w2, w3]
      have d1 : 0 ≤ Int.tdiv (10 * g.2.2.1 + s - 1) s := Int.tdiv_nonneg (by omega) (by omega)
      have d2 : Int.tdiv (10 * g.2.2.1 + s - 1) s ≤ 10 * g.2.2.1 + s - 1 := Int.tdiv_le_self _ (by omega)
      rw [wrap_id (by omega) (by omega)]
      exact ⟨_, rfl, by omega, by omega⟩
    generalize decide (IntKind.i64.wrap (-10 * IntKind.i64.wrap ((m.1.getD q.toNat z90).1 - (m.1.getD p.toNat z90).1)) > g.2.2.1) = y1
    generalize decide (IntKind.i64.wrap (10 * IntKind.i64.wrap ((m.1.getD q.toNat z90).1 - (m.1.getD p.toNat z90).1)) > g.2.2.1) = y2
    cases y1 <;> cases y2 <;> simp only [if_true, Bool.false_eq_true, if_false]
    · exact fin a5 h5.1 h5.2
    · exact fin a3 h3.1 h3.2
    · exact fin a4 h4.1 h4.2
    · exact fin a4 h4.1 h4.2
theorem c128_ok {K : Nat} (hK : 1000 ≤ K) {m : Ag29} (hm : MOk m) {i : Nat} (hi : i < m.2.1.length) (b : Bool) : ∃ r, c128 K m (i : Int) b = some (r, ()) ∧ -1 ≤ r ∧ r ≤ 10000000 := by
  rw [c128_eq]
  obtain ⟨r, h, h1, h2⟩ := c154_ok hK hm hi b (a3 := 6) (a4 := 9) (a5 := 12) (by decide) (by decide) (by decide)
  rw [h]
  exact ⟨r, rfl, h1, h2⟩

/-- One road is gone. -/
theorem c169_ok (K : Nat) {n : Nat} {l : List Int} (h : Box n l) {p q : Int} (hp : 0 ≤ p ∧ p < (n : Int)) (hq : 0 ≤ q ∧ q < (n : Int)) {r : Int} (hr : -1 ≤ r ∧ r ≤ 10000000) (t : Int) :
    ∃ c l', c169 K l p q r t = some (c, l', ()) ∧ Box n l' ∧ sumN l' ≤ sumN l ∧ (c = true → sumN l' < sumN l) := by
  rw [c169_eq]
  have hlen := h.len
  have hgp := h.get (i := p.toNat) (by omega)
  have hgq := h.get (i := q.toNat) (by omega)
  have e1 : (decide (0 ≤ p) && decide (p < (l.length : Int))) = true := by simp; omega
  have e2 : (decide (0 ≤ q) && decide (q < (l.length : Int))) = true := by simp; omega
  simp only [e1, e2, Bool.or_true, if_true]
  by_cases h1 : (if decide (r < 0) = true then true else decide (l.getD p.toNat 0 ≥ 1099511627776)) = true
  · rw [if_pos h1]; exact ⟨false, l, rfl, h, Nat.le_refl _, fun h => by cases h⟩
  · rw [if_neg h1]
    have hr0 : 0 ≤ r := by
      by_cases hx : r < 0
      · exfalso; apply h1; simp [hx]
      · omega
    have w : IntKind.i64.wrap (l.getD p.toNat 0 + r) = l.getD p.toNat 0 + r := wrap_id (by omega) (by omega)
    rw [w]
    generalize hx : (if l.getD p.toNat 0 + r > t then l.getD p.toNat 0 + r else t) = x
    have hx0 : 0 ≤ x := by rw [← hx]; split <;> omega
    by_cases h2 : (if decide (x > 2147483648) = true then true else decide (x ≥ l.getD q.toNat 0)) = true
    · rw [if_pos h2]; exact ⟨false, l, rfl, h, Nat.le_refl _, fun h => by cases h⟩
    · rw [if_neg h2]
      have h3 : ¬ x > 2147483648 := fun hh => h2 (by simp [hh])
      have h4 : ¬ x ≥ l.getD q.toNat 0 := fun hh => h2 (by simp [h3]; simpa using hh)
      have hs := sumN_set l q.toNat x (by omega) hx0 (by omega)
      exact ⟨true, _, rfl, h.set hx0 (by omega), by omega, fun _ => hs⟩

theorem close_nil {K k1 : Nat} (hK : 1000 ≤ K) {m : Ag29} (hm : MOk m) (t : Int) (x3 : List Int) : (d i q : Nat) → (l : List Int) → (b : Bool) → i + d = m.2.1.length → d < q → Box m.1.length l →
    ∃ l' b', m100151_6 K k1 q t x3 m l b (i : Int) = m100151_3 K k1 t x3 m l' b' ∧ Box m.1.length l' ∧ sumN l' ≤ sumN l ∧ (b' = true → b = true ∨ sumN l' < sumN l)
  | 0, i, q, l, b, h, hq, hl => by
    obtain ⟨q, rfl⟩ : ∃ j, q = j + 1 := ⟨q - 1, by omega⟩
    rw [m100151_6_eq, if_neg (by simp; omega)]
    exact ⟨l, b, rfl, hl, Nat.le_refl _, .inl⟩
  | d + 1, i, q, l, b, h, hq, hl => by
    obtain ⟨q, rfl⟩ : ∃ j, q = j + 1 := ⟨q - 1, by omega⟩
    have hr10 := hm.r10
    have hi : i < m.2.1.length := by omega
    have hr := hm.r _ (mem_getD (d := z92) hi)
    rw [m100151_6_eq, wsucc (by omega), Int.toNat_natCast, if_pos (by simp; omega), if_pos (inb hi)]
    obtain ⟨a1, a2, a3, a4, _⟩ := hr
    obtain ⟨r1, e1, b1⟩ := c128_ok hK hm hi false
    rw [e1]; simp only [Option.bind_some]
    obtain ⟨c2, l2, e2, hl2, s2, s2'⟩ := c169_ok K hl ⟨a1, a2⟩ ⟨a3, a4⟩ b1 t
    rw [e2]; simp only [Option.bind_some]
    obtain ⟨r3, e3, b3⟩ := c128_ok hK hm hi true
    rw [e3]; simp only [Option.bind_some]
    obtain ⟨c4, l4, e4, hl4, s4, s4'⟩ := c169_ok K hl2 ⟨a3, a4⟩ ⟨a1, a2⟩ b3 t
    rw [e4]; simp only [Option.bind_some]
    have rec_ := fun b => close_nil (k1 := k1) hK hm t x3 d (i + 1) q l4 b (by omega) (by omega) hl4
    cases hc4 : c4 with
    | true =>
      obtain ⟨l', b', e, f1, f2, f3⟩ := rec_ true
      have := s4' hc4
      cases c2 <;> (simp only [if_true, Bool.false_eq_true, if_false]; exact ⟨l', b', e, f1, by omega, fun _ => .inr (by omega)⟩)
    | false =>
      cases hc2 : c2 with
      | true =>
        obtain ⟨l', b', e, f1, f2, f3⟩ := rec_ true
        have := s2' hc2
        simp only [if_true, Bool.false_eq_true, if_false]
        exact ⟨l', b', e, f1, by omega, fun _ => .inr (by omega)⟩
      | false =>
        obtain ⟨l', b', e, f1, f2, f3⟩ := rec_ b
        simp only [Bool.false_eq_true, if_false]
        exact ⟨l', b', e, f1, by omega, fun hb => (f3 hb).imp id (by omega)⟩

theorem close_some {K k1 : Nat} (hK : 1000 ≤ K) {m : Ag29} (hm : MOk m) (t : Int) {x3 : List Int} (h3 : 0 < x3.length) (h3' : x3.length < 1000) : (d i q : Nat) → (l : List Int) → (b : Bool) → i + d = m.2.1.length → d < q → Box m.1.length l →
    ∃ l' b', m151_6 K k1 q t x3 m l b (i : Int) = m151_3 K k1 t x3 m l' b' ∧ Box m.1.length l' ∧ sumN l' ≤ sumN l ∧ (b' = true → b = true ∨ sumN l' < sumN l)
  | 0, i, q, l, b, h, hq, hl => by
    obtain ⟨q, rfl⟩ : ∃ j, q = j + 1 := ⟨q - 1, by omega⟩
    rw [m151_6_eq, if_neg (by simp; omega)]
    exact ⟨l, b, rfl, hl, Nat.le_refl _, .inl⟩
  | d + 1, i, q, l, b, h, hq, hl => by
    obtain ⟨q, rfl⟩ : ∃ j, q = j + 1 := ⟨q - 1, by omega⟩
    have hr10 := hm.r10
    have hi : i < m.2.1.length := by omega
    have hr := hm.r _ (mem_getD (d := z92) hi)
    have hx3 : decide (0 < (x3.length : Int)) = true := by simp; omega
    rw [m151_6_eq, wsucc (by omega), Int.toNat_natCast, if_pos (by simp; omega), if_pos (inb hi), if_pos hx3, c21_ok h3' hK]
    obtain ⟨a1, a2, a3, a4, _⟩ := hr
    simp only [Option.bind_some, hx3, if_true, c21_ok h3' hK]
    obtain ⟨r1, e1, b1⟩ := c128_ok hK hm hi false
    obtain ⟨r3, e3, b3⟩ := c128_ok hK hm hi true
    generalize x3.contains (m.2.1.getD i z92).2.1 = u1
    generalize x3.contains (m.2.1.getD i z92).1 = u2
    -- the second half
    have half : ∀ (l2 : List Int) (bb : Bool), Box m.1.length l2 → ∃ l' b', ((if u2 = true then c128 K m (i : Int) true else some (0, ())).bind fun r5 => (if u2 = true then c169 K l2 (m.2.1.getD i z92).2.1 (m.2.1.getD i z92).1 r5.1 t else some (false, [], ())).bind fun r6 =>
        if (if u2 = true then r6.1 else false) = true then m151_6 K k1 q t x3 m (if u2 = true then r6.2.1 else l2) true ((i + 1 : Nat) : Int) else m151_6 K k1 q t x3 m (if u2 = true then r6.2.1 else l2) bb ((i + 1 : Nat) : Int)) = m151_3 K k1 t x3 m l' b' ∧ Box m.1.length l' ∧ sumN l' ≤ sumN l2 ∧ (b' = true → bb = true ∨ sumN l' < sumN l2) := by
      intro l2 bb hl2
      cases u2 with
      | false =>
        simp only [Bool.false_eq_true, if_false, Option.bind_some]
        exact close_some (k1 := k1) hK hm t h3 h3' d (i + 1) q l2 bb (by omega) (by omega) hl2
      | true =>
        simp only [if_true, e3, Option.bind_some]
        obtain ⟨c4, l4, e4, hl4, s4, s4'⟩ := c169_ok K hl2 ⟨a3, a4⟩ ⟨a1, a2⟩ b3 t
        rw [e4]; simp only [Option.bind_some]
        cases hc4 : c4 with
        | true =>
          obtain ⟨l', b', e, f1, f2, f3⟩ := close_some (k1 := k1) hK hm t h3 h3' d (i + 1) q l4 true (by omega) (by omega) hl4
          have := s4' hc4
          simp only [if_true]
          exact ⟨l', b', e, f1, by omega, fun _ => .inr (by omega)⟩
        | false =>
          obtain ⟨l', b', e, f1, f2, f3⟩ := close_some (k1 := k1) hK hm t h3 h3' d (i + 1) q l4 bb (by omega) (by omega) hl4
          simp only [Bool.false_eq_true, if_false]
          exact ⟨l', b', e, f1, by omega, fun hb => (f3 hb).imp id (by omega)⟩
    cases u1 with
    | false =>
      simp only [Bool.false_eq_true, if_false, Option.bind_some]
      exact half l b hl
    | true =>
      simp only [if_true, e1, Option.bind_some]
      obtain ⟨c2, l2, e2, hl2, s2, s2'⟩ := c169_ok K hl ⟨a1, a2⟩ ⟨a3, a4⟩ b1 t
      rw [e2]; simp only [Option.bind_some]
      cases hc2 : c2 with
      | true =>
        obtain ⟨l', b', e, f1, f2, f3⟩ := half l2 true hl2
        have := s2' hc2
        simp only [if_true]
        exact ⟨l', b', e, f1, by omega, fun _ => .inr (by omega)⟩
      | false =>
        obtain ⟨l', b', e, f1, f2, f3⟩ := half l2 b hl2
        simp only [Bool.false_eq_true, if_false]
        exact ⟨l', b', e, f1, by omega, fun hb => (f3 hb).imp id (by omega)⟩

theorem close_nil_all {K : Nat} (hK : 1000 ≤ K) {m : Ag29} (hm : MOk m) (t : Int) (x3 : List Int) : (s q : Nat) → (l : List Int) → (b : Bool) → sumN l ≤ s → s + 1 < q → Box m.1.length l → ∃ l', m100151_3 K q t x3 m l b = some (l', ()) ∧ Box m.1.length l' := by
  intro s
  induction s using Nat.strongRecOn with
  | _ s ih =>
    intro q l b hs hq hl
    obtain ⟨q, rfl⟩ : ∃ j, q = j + 1 := ⟨q - 1, by omega⟩
    have hr10 := hm.r10
    rw [m100151_3_eq]
    cases b with
    | false => exact ⟨l, by simp, hl⟩
    | true =>
      rw [if_pos rfl]
      obtain ⟨l', b', e, f1, f2, f3⟩ := close_nil (k1 := q) hK hm t x3 m.2.1.length 0 K l false (by omega) (by omega) hl
      have e : m100151_6 K q K t x3 m l false 0 = _ := e
      rw [e]
      cases b' with
      | false =>
        obtain ⟨q, rfl⟩ : ∃ j, q = j + 1 := ⟨q - 1, by omega⟩
        rw [m100151_3_eq]
        exact ⟨l', by simp, f1⟩
      | true =>
        have hlt : sumN l' < sumN l := (f3 rfl).resolve_left (by simp)
        exact ih (sumN l') (by omega) q l' true (Nat.le_refl _) (by omega) f1
theorem close_some_all {K : Nat} (hK : 1000 ≤ K) {m : Ag29} (hm : MOk m) (t : Int) {x3 : List Int} (h3 : 0 < x3.length) (h3' : x3.length < 1000) : (s q : Nat) → (l : List Int) → (b : Bool) → sumN l ≤ s → s + 1 < q → Box m.1.length l → ∃ l', m151_3 K q t x3 m l b = some (l', ()) ∧ Box m.1.length l' := by
  intro s
  induction s using Nat.strongRecOn with
  | _ s ih =>
    intro q l b hs hq hl
    obtain ⟨q, rfl⟩ : ∃ j, q = j + 1 := ⟨q - 1, by omega⟩
    have hr10 := hm.r10
    rw [m151_3_eq]
    cases b with
    | false => exact ⟨l, by simp, hl⟩
    | true =>
      rw [if_pos rfl]
      obtain ⟨l', b', e, f1, f2, f3⟩ := close_some (k1 := q) hK hm t h3 h3' m.2.1.length 0 K l false (by omega) (by omega) hl
      have e : m151_6 K q K t x3 m l false 0 = _ := e
      rw [e]
      cases b' with
      | false =>
        obtain ⟨q, rfl⟩ : ∃ j, q = j + 1 := ⟨q - 1, by omega⟩
        rw [m151_3_eq]
        exact ⟨l', by simp, f1⟩
      | true =>
        have hlt : sumN l' < sumN l := (f3 rfl).resolve_left (by simp)
        exact ih (sumN l') (by omega) q l' true (Nat.le_refl _) (by omega) f1

/-- Rounds enough. -/
abbrev KK : Nat := 17592186044416
theorem box_sum {m : Ag29} (hm : MOk m) {l : List Int} (h : Box m.1.length l) : sumN l ≤ 7 * 1099511627776 := by
  have h1 := sumN_le l h.in_
  have h2 := hm.p7
  have h3 := h.len
  exact Nat.le_trans h1 (Nat.mul_le_mul_right _ (by omega))
theorem c146_ok {K : Nat} (hK : KK ≤ K) {m : Ag29} (hm : MOk m) {l : List Int} (h : Box m.1.length l) (t : Int) : ∃ l', c146 K m l t = some (l', ()) ∧ Box m.1.length l' := by
  have hp7 := hm.p7
  have hlen := h.len
  have hs := box_sum hm h
  have hK' : 17592186044416 ≤ K := hK
  rw [c146_eq, c100151_eq, if_pos (lt8 (by simp; omega)), List.nil_append]
  obtain ⟨l', e, f⟩ := close_nil_all (K := K) (by omega) hm t [] _ K l true hs (by omega) h
  rw [e]
  exact ⟨l', rfl, f⟩
theorem c151_ok {K : Nat} (hK : KK ≤ K) {m : Ag29} (hm : MOk m) {l : List Int} (h : Box m.1.length l) (t : Int) {x3 : List Int} (h3 : 0 < x3.length) (h3' : x3.length < 1000) : ∃ l', c151 K m l t x3 = some (l', ()) ∧ Box m.1.length l' := by
  have hp7 := hm.p7
  have hlen := h.len
  have hs := box_sum hm h
  have hK' : 17592186044416 ≤ K := hK
  rw [c151_eq, if_pos (lt8 (by simp; omega)), List.nil_append]
  exact close_some_all (K := K) (by omega) hm t h3 h3' _ K l true hs (by omega) h
end Fs

/- Whereabouts. -/
open Go Go.Ev
namespace Fs

theorem c135_ok (K : Nat) {w : Ag45} (h : w.2.1.length < 1000) : c135 K w = some (w, ()) := by
  rw [c135_eq, if_pos (lt8 (by simp; omega)), List.nil_append]

theorem c168_ok {K : Nat} (hK : 1000 ≤ K) {w : Ag45} (h : w.2.1.length < 1000) (n : Int) : ∃ r, c168 K w n = some (r, ()) := by
  rw [c168_eq]
  simp only [Bool.if_true_left, Bool.if_false_right, Bool.decide_eq_true]
  split
  · exact ⟨_, rfl⟩
  · have h := loopT (L := fun q (i : Nat) => m168_4 K q w (i : Int)) (fun i => i ≤ w.2.1.length) (fun i => w.2.1.length - i) (fun _ => True) (fun q i hi => by
      rw [m168_4_eq]
      by_cases h1 : i < w.2.1.length
      · rw [wsucc (by omega), Int.toNat_natCast, if_pos (by simp; omega), if_pos (inb h1), inb h1, if_pos (by simp), if_pos (by simp)]
        simp only [Bool.if_true_left, Bool.if_false_right, Bool.decide_eq_true]
        split
        · exact .inl ⟨(false, ()), rfl, trivial⟩
        · exact .inr ⟨i + 1, by omega, by omega, rfl⟩
      · rw [if_neg (by simp; omega)]
        exact .inl ⟨(true, ()), rfl, trivial⟩) w.2.1.length 0 K (by omega) (by omega) (by omega)
    obtain ⟨r, hr, _⟩ := h
    exact ⟨r.1, hr⟩

theorem c148_ok {K : Nat} (hK : KK ≤ K) {m : Ag29} (hm : MOk m) {w : Ag45} (h : Box m.1.length w.2.1) : ∃ r, c148 K m w = some (r, ()) := by
  have hK' : 17592186044416 ≤ K := hK
  have hp7 := hm.p7
  have hl := h.len
  rw [c148_eq, c110_ok (by omega) hm]
  obtain ⟨r, hr⟩ := c168_ok (K := K) (by omega) (w := w) (by omega) (m.1.length : Int)
  obtain ⟨l', e, hl'⟩ := c146_ok hK hm h w.1
  have h27 := c27_ok (K := K) (a := l') (b := w.2.1) (by rw [hl'.len]; omega) (by omega)
  simp only [Option.bind_some, beq_self_eq_true, if_true, hr, e]
  cases r
  · exact ⟨_, rfl⟩
  · simp only [if_true, Option.bind_some, h27]
    exact ⟨_, rfl⟩

theorem c136_tot {K : Nat} {l : List Int} (hl : l.length < 1000) (hK : 1000 ≤ K) (n : Int) : ∃ r, c136 K l n = some (r, ()) := by
  rw [c136_eq]
  have h := loopT (L := fun q (i : Nat) => m136_2 K q l n (i : Int)) (fun i => i ≤ l.length) (fun i => l.length - i) (fun _ => True) (fun q i hi => by
    rw [m136_2_eq]
    by_cases h1 : i < l.length
    · rw [wsucc (by omega), Int.toNat_natCast, if_pos (by simp; omega), if_pos (inb h1), inb h1, if_pos (by simp), if_pos (by simp)]
      rw [if_pos]
      · simp only [Bool.if_true_left, Bool.if_false_right, Bool.decide_eq_true]
        split
        · exact .inl ⟨(false, ()), rfl, trivial⟩
        · exact .inr ⟨i + 1, by omega, by omega, rfl⟩
      · by_cases h0 : i = 0
        · subst h0; simp
        · have w : IntKind.i64.wrap ((i : Int) - 1) = ((i - 1 : Nat) : Int) := by rw [wrap_id (by omega) (by omega)]; omega
          rw [w, inb (show i - 1 < l.length by omega), Bool.or_true]
    · rw [if_neg (by simp; omega)]
      exact .inl ⟨(true, ()), rfl, trivial⟩) l.length 0 K (by omega) (by omega) (by omega)
  obtain ⟨r, hr, _⟩ := h
  exact ⟨r.1, hr⟩

theorem c150_ok {K : Nat} (hK : KK ≤ K) {m : Ag29} (hm : MOk m) {w : Ag45} (h : Box m.1.length w.2.1) {l : List Int} (hl : l.length < 1000) (a b : Int) : ∃ r, c150 K m w l a b = some (r, ()) ∧ (r = 0 → 0 < l.length) := by
  have hK' : 17592186044416 ≤ K := hK
  obtain ⟨r, hr⟩ := c148_ok hK hm h
  obtain ⟨s, hs⟩ := c136_tot (K := K) hl (by omega) (m.1.length : Int)
  rw [c150_eq, hr, c144_ok, c144_ok, hs]
  simp only [Option.bind_some]
  cases r
  · exact ⟨6, rfl, fun h => absurd h (by decide)⟩
  · by_cases h0 : ((l.length : Int) == 0) = true
    · rw [h0]; exact ⟨6, rfl, fun h => absurd h (by decide)⟩
    · have hpos : 0 < l.length := by
        have : ¬ (l.length : Int) = 0 := fun e => h0 (by rw [e]; rfl)
        omega
      rw [Bool.not_eq_true] at h0
      rw [h0]
      simp only [Bool.not_true, Bool.false_eq_true, if_false, Bool.not_false, if_true, Option.bind_some]
      cases s
      · exact ⟨6, rfl, fun h => absurd h (by decide)⟩
      · simp only [Bool.not_true, Bool.false_eq_true, if_false]
        generalize (decide (a ≥ 0) && decide (a ≤ 2147483648)) = u
        generalize (decide (b ≥ 0) && decide (b ≤ 2147483648)) = v
        cases u <;> cases v <;> simp only [Bool.not_true, Bool.not_false, if_true, Option.bind_some, Bool.false_eq_true, if_false]
        · exact ⟨8, rfl, fun h => absurd h (by decide)⟩
        · exact ⟨8, rfl, fun h => absurd h (by decide)⟩
        · exact ⟨8, rfl, fun h => absurd h (by decide)⟩
        · split
          · exact ⟨8, rfl, fun h => absurd h (by decide)⟩
          · exact ⟨0, rfl, fun _ => hpos⟩

theorem box_never (n : Nat) : Box n (List.replicate n 1099511627776) := ⟨by simp, fun x hx => by rw [List.eq_of_mem_replicate hx]; decide⟩

/-- A sight. -/
theorem c119_ok {K : Nat} (hK : KK ≤ K) {m : Ag29} (hm : MOk m) {w : Ag45} (h : Box m.1.length w.2.1) {l : List Int} (hl : l.length < 1000) (hx : ∀ x ∈ l, 0 ≤ x ∧ x < (m.1.length : Int)) (a b : Int) :
    ∃ w' e, c119 K m w l a b = some (w', e, ()) ∧ Box m.1.length w'.2.1 := by
  have hK' : 17592186044416 ≤ K := hK
  have hp7 := hm.p7
  have hlen := h.len
  obtain ⟨r, hr, _⟩ := c150_ok hK hm h hl a b
  have hc := c135_ok K (w := w) (by omega)
  rw [c119_eq, hr, hc]
  simp only [Option.bind_some]
  split
  · exact ⟨w, _, rfl, h⟩
  · split
    · exact ⟨w, _, rfl, h⟩
    · rw [c145_ok (by omega) (by omega)]
      simp only [Option.bind_some]
      have h := loopT (L := fun q (s : Nat × List Int × Bool) => m119_9 K q l a b m w z45 s.2.1 s.2.2 (s.1 : Int)) (fun s => s.1 ≤ l.length ∧ Box m.1.length s.2.1) (fun s => l.length - s.1) (fun r => Box m.1.length r.1.2.1) (fun q s hi => by
        obtain ⟨i, x, some_⟩ := s
        obtain ⟨hi, hbx⟩ := hi
        simp only at hi hbx ⊢
        rw [m119_9_eq]
        by_cases h1 : i < l.length
        · have hp := hx _ (mem_getD (d := 0) h1)
          rw [wsucc (by omega), Int.toNat_natCast, if_pos (by simp; omega), if_pos (inb h1)]
          generalize l.getD i 0 = p at hp
          have e1 : (decide (0 ≤ p) && decide (p < (w.2.1.length : Int))) = true := by simp; omega
          have e2 : (decide (0 ≤ p) && decide (p < (x.length : Int))) = true := by rw [hbx.len]; simp; omega
          rw [e1, e2, if_pos rfl, if_pos rfl, if_pos rfl]
          have hg := h.get (i := p.toNat) (by omega)
          split
          · exact .inr ⟨(i + 1, _, true), ⟨by show i + 1 ≤ l.length; omega, hbx.set hg.1 hg.2⟩, by show l.length - (i + 1) < l.length - i; omega, rfl⟩
          · exact .inr ⟨(i + 1, x, some_), ⟨by show i + 1 ≤ l.length; omega, hbx⟩, by show l.length - (i + 1) < l.length - i; omega, rfl⟩
        · left
          rw [if_neg (by simp; omega), hc]
          split
          · exact ⟨(w, 43, ()), rfl, h⟩
          · obtain ⟨l', e, f⟩ := c146_ok hK hm hbx a
            rw [e]
            exact ⟨((b, l', ()), 0, ()), rfl, f⟩) l.length (0, List.replicate m.1.length 1099511627776, false) K (by show l.length - 0 ≤ l.length; omega) ⟨by show 0 ≤ l.length; omega, box_never _⟩ (by omega)
      obtain ⟨r, hr, hb⟩ := h
      exact ⟨r.1, r.2.1, hr, hb⟩

/-- An absence. -/
theorem c120_ok {K : Nat} (hK : KK ≤ K) {m : Ag29} (hm : MOk m) {w : Ag45} (h : Box m.1.length w.2.1) {l : List Int} (hl : l.length < 1000) (hx : ∀ x ∈ l, 0 ≤ x ∧ x < (m.1.length : Int)) (a b t : Int) :
    ∃ w' e, c120 K m w l a b t = some (w', e, ()) ∧ Box m.1.length w'.2.1 := by
  have hK' : 17592186044416 ≤ K := hK
  have hp7 := hm.p7
  have hlen := h.len
  obtain ⟨r, hr, hpos⟩ := c150_ok hK hm h hl a b
  have hc := c135_ok K (w := w) (by omega)
  rw [c120_eq, hr, hc, c144_ok]
  simp only [Option.bind_some]
  generalize (IntKind.i64.wrap (b - if w.1 > a then w.1 else a)) = bw
  split
  · exact ⟨w, _, rfl, h⟩
  · rename_i hr0
    have hpos := hpos (by simpa using hr0)
    split
    · exact ⟨w, _, rfl, h⟩
    · split
      · exact ⟨w, _, rfl, h⟩
      · split
        · exact ⟨w, _, rfl, h⟩
        · rw [if_pos (lt8 (by simp; omega)), List.nil_append]
          have h := loopT (L := fun q (s : Nat × List Int) => m120_12 K q l b t m z45 s.2 (s.1 : Int)) (fun s => s.1 ≤ l.length ∧ Box m.1.length s.2) (fun s => l.length - s.1) (fun r => Box m.1.length r.1.2.1) (fun q s hi => by
            obtain ⟨i, x⟩ := s
            obtain ⟨hi, hbx⟩ := hi
            simp only at hi hbx ⊢
            rw [m120_12_eq]
            by_cases h1 : i < l.length
            · have hp := hx _ (mem_getD (d := 0) h1)
              rw [wsucc (by omega), Int.toNat_natCast, if_pos (by simp; omega), if_pos (inb h1)]
              generalize l.getD i 0 = p at hp
              have e2 : (decide (0 ≤ p) && decide (p < (x.length : Int))) = true := by rw [hbx.len]; simp; omega
              rw [e2, if_pos rfl]
              exact .inr ⟨(i + 1, _), ⟨by show i + 1 ≤ l.length; omega, hbx.set (by decide) (by decide)⟩, by show l.length - (i + 1) < l.length - i; omega, rfl⟩
            · left
              rw [if_neg (by simp; omega)]
              obtain ⟨l1, e1, f1⟩ := c151_ok hK hm hbx (IntKind.i64.wrap (b - t)) hpos hl
              rw [e1]; simp only [Option.bind_some]
              obtain ⟨l', e, f⟩ := c146_ok hK hm f1 b
              rw [e]
              exact ⟨((b, l', ()), 0, ()), rfl, f⟩) l.length (0, w.2.1) K (by show l.length - 0 ≤ l.length; omega) ⟨by show 0 ≤ l.length; omega, h⟩ (by omega)
          obtain ⟨r, hr, hb⟩ := h
          exact ⟨r.1, r.2.1, hr, hb⟩

theorem c115_ok {K : Nat} {n : Nat} (hn : n < 1000) {w : Ag45} (h : Box n w.2.1) (t : Int) : ∃ w' e, c115 K w t = some (w', e, ()) ∧ Box n w'.2.1 := by
  have hlen := h.len
  rw [c115_eq, c135_ok K (by omega)]
  simp only [Option.bind_some, Bool.if_true_left, Bool.decide_eq_true]
  split
  · exact ⟨_, _, rfl, h⟩
  · exact ⟨_, _, rfl, h⟩

theorem c149_ok {K : Nat} (hK : 1000 ≤ K) {n : Nat} (hn : n < 1000) {a b : Ag45} (ha : Box n a.2.1) (hb : Box n b.2.1) : ∃ w' e, c149 K a b = some (w', e, ()) ∧ Box n w'.2.1 := by
  have hla := ha.len
  have hlb := hb.len
  rw [c149_eq, if_neg (by simp; omega)]
  have h := loopT (L := fun q (s : Nat × Ag45) => m149_5 K q a b z45 s.2 (s.1 : Int)) (fun s => s.1 ≤ n ∧ s.2.2.1.length = s.1 ∧ ∀ x ∈ s.2.2.1, 0 ≤ x ∧ x ≤ 1099511627776) (fun s => n - s.1) (fun r => Box n r.1.2.1) (fun q s hi => by
    obtain ⟨i, x⟩ := s
    obtain ⟨hi, hlx, hbx⟩ := hi
    simp only at hi hlx hbx ⊢
    rw [m149_5_eq]
    by_cases h1 : i < n
    · have hga := ha.get h1
      have hgb := hb.get h1
      rw [wsucc (by omega), Int.toNat_natCast, if_pos (by simp; omega), if_pos (inb (by omega)), if_pos (inb (by omega)), if_pos (lt8 (by simp; omega))]
      refine .inr ⟨(i + 1, _), ⟨by show i + 1 ≤ n; omega, by simp [hlx], fun y hy => ?_⟩, by show n - (i + 1) < n - i; omega, rfl⟩
      rcases List.mem_append.1 hy with hy | hy
      · exact hbx y hy
      · simp only [List.mem_singleton] at hy; rw [hy]; split <;> omega
    · left
      rw [if_neg (by simp; omega)]
      exact ⟨(x, 0, ()), rfl, by show x.2.1.length = n; omega, hbx⟩) n (0, ((if (a.1 : Int) > b.1 then a.1 else b.1), [], ())) K (by show n - 0 ≤ n; omega) ⟨by show 0 ≤ n; omega, rfl, by simp⟩ (by omega)
  obtain ⟨r, hr, hb⟩ := h
  refine ⟨r.1, r.2.1, ?_, hb⟩
  rw [← hr]
  simp only
  congr 2
  split <;> split <;> first | rfl | omega

theorem c114_ok {K : Nat} (hK : 1000 ≤ K) {n : Nat} (hn : n < 1000) {a b : Ag45} (ha : Box n a.2.1) (hb : Box n b.2.1) (t : Int) : ∃ r, c114 K a b t = some (r, ()) := by
  have hla := ha.len
  have hlb := hb.len
  rw [c114_eq]
  have h := loopT (L := fun q (i : Nat) => m114_2 K q t a b (i : Int)) (fun i => i ≤ n) (fun i => n - i) (fun _ => True) (fun q i hi => by
    rw [m114_2_eq]
    by_cases h1 : i < n
    · have e1 : (i : Int) < (a.2.1.length : Int) := by omega
      have e2 : (i : Int) < (b.2.1.length : Int) := by omega
      rw [wsucc (by omega), Int.toNat_natCast, if_pos (by simp [e1, e2]), if_pos (inb (by omega)), inb (show i < b.2.1.length by omega), if_pos (by simp)]
      simp only [Bool.if_true_left, Bool.if_false_right, Bool.decide_eq_true]
      split
      · exact .inl ⟨(true, ()), rfl, trivial⟩
      · exact .inr ⟨i + 1, by omega, by omega, rfl⟩
    · have e1 : ¬ (i : Int) < (a.2.1.length : Int) := by omega
      rw [if_neg (by simp [e1])]
      exact .inl ⟨(false, ()), rfl, trivial⟩) n 0 K (by omega) (by omega) (by omega)
  obtain ⟨r, hr, _⟩ := h
  exact ⟨r.1, hr⟩

/-- The beginning. -/
theorem c112_ok {K : Nat} (hK : KK ≤ K) {m : Ag29} (hm : MOk m) {p t : Int} (hp : 0 ≤ p ∧ p < (m.1.length : Int)) (ht : 0 ≤ t ∧ t ≤ 2147483648) : ∃ l, c112 K m p t = some ((t, l, ()), 0, ()) ∧ Box m.1.length l := by
  have hK' : 17592186044416 ≤ K := hK
  have hp7 := hm.p7
  have e1 : ¬ p < 0 := by omega
  have e2 : ¬ p ≥ (m.1.length : Int) := by omega
  have e3 : t ≥ 0 := ht.1
  have e4 : t ≤ 2147483648 := ht.2
  rw [c112_eq, c110_ok (by omega) hm, c144_ok, c145_ok (by omega) (by omega)]
  simp only [Option.bind_some, bne_self_eq_false, Bool.false_eq_true, if_false, e1, e2, e3, e4, decide_true, decide_false, Bool.and_self, Bool.not_true, List.length_replicate]
  rw [if_pos (by simp; omega)]
  obtain ⟨l', e, f⟩ := c146_ok hK hm ((box_never m.1.length).set (i := p.toNat) (x := t) ht.1 (by omega)) t
  rw [e]
  exact ⟨l', rfl, f⟩
end Fs

/- Worlds. -/
open Go Go.Ev
namespace Fs

/-- A world of n places, with the tags T. -/
structure WOk (n : Nat) (T : List Int) (x : Ag42) : Prop where
  t : x.1.Perm T
  w : x.2.1.length = T.length
  b : ∀ y ∈ x.2.1, Box n y.2.1
structure BOk (n : Nat) (T : List Int) (b : Ag33) : Prop where
  l1 : 1 ≤ b.1.length
  l24 : b.1.length ≤ 24
  w : ∀ x ∈ b.1, WOk n T x
theorem WOk.len {n : Nat} {T : List Int} {x : Ag42} (h : WOk n T x) : x.1.length = T.length := h.t.length_eq

theorem c89_loop {K : Nat} {x : Ag42} (hx : x.2.1.length < 1000) (hw : ∀ y ∈ x.2.1, y.2.1.length < 1000) : (d i q : Nat) → i + d = x.2.1.length → d < q → m89_3 K q x z42 (x.1, x.2.1.take i, ()) (i : Int) = some (x, ())
  | 0, i, q, h, hq => by
    obtain ⟨q, rfl⟩ : ∃ j, q = j + 1 := ⟨q - 1, by omega⟩
    rw [m89_3_eq, if_neg (by simp; omega), List.take_of_length_le (by omega)]
  | d + 1, i, q, h, hq => by
    obtain ⟨q, rfl⟩ : ∃ j, q = j + 1 := ⟨q - 1, by omega⟩
    have hi : i < x.2.1.length := by omega
    rw [m89_3_eq, wsucc (by omega), Int.toNat_natCast, if_pos (by simp; omega), if_pos (inb hi), c135_ok K (hw _ (mem_getD hi))]
    simp only [Option.bind_some]
    rw [if_pos (by rw [LIM32]; simp; omega)]
    have e : x.2.1.take i ++ [x.2.1.getD i z45] = x.2.1.take (i + 1) := by rw [getD_get hi, List.take_append_getElem hi]
    rw [e]
    exact c89_loop hx hw d (i + 1) q (by omega) (by omega)
theorem c89_ok {K : Nat} (hK : 1000 ≤ K) {x : Ag42} (h1 : x.1.length < 1000) (hx : x.2.1.length < 1000) (hw : ∀ y ∈ x.2.1, y.2.1.length < 1000) : c89 K x = some (x, ()) := by
  rw [c89_eq, if_pos (lt8 (by simp; omega)), List.nil_append]
  exact c89_loop hx hw x.2.1.length 0 K (by omega) (by omega)
theorem WOk.copy {K : Nat} (hK : 1000 ≤ K) {n : Nat} (hn : n < 1000) {T : List Int} (hT : T.length < 1000) {x : Ag42} (h : WOk n T x) : c89 K x = some (x, ()) :=
  c89_ok hK (by rw [h.len]; omega) (by rw [h.w]; omega) (fun y hy => by rw [(h.b y hy).len]; omega)

theorem c40_loop {K : Nat} (hK : 1000 ≤ K) {n : Nat} (hn : n < 1000) {T : List Int} (hT : T.length < 1000) {b : Ag33} (hb : b.1.length < 1000) (h : ∀ x ∈ b.1, WOk n T x) : (d i q : Nat) → i + d = b.1.length → d < q → m40_3 K q b z33 (b.1.take i, ()) (i : Int) = some (b, ())
  | 0, i, q, hi, hq => by
    obtain ⟨q, rfl⟩ : ∃ j, q = j + 1 := ⟨q - 1, by omega⟩
    rw [m40_3_eq, if_neg (by simp; omega), List.take_of_length_le (by omega)]
  | d + 1, i, q, hi, hq => by
    obtain ⟨q, rfl⟩ : ∃ j, q = j + 1 := ⟨q - 1, by omega⟩
    have hi' : i < b.1.length := by omega
    rw [m40_3_eq, wsucc (by omega), Int.toNat_natCast, if_pos (by simp; omega), if_pos (inb hi'), (h _ (mem_getD hi')).copy hK hn hT]
    simp only [Option.bind_some]
    rw [if_pos (by rw [LIM48]; simp; omega)]
    have e : b.1.take i ++ [b.1.getD i z42] = b.1.take (i + 1) := by rw [getD_get hi', List.take_append_getElem hi']
    rw [e]
    exact c40_loop hK hn hT hb h d (i + 1) q (by omega) (by omega)
theorem c40_ok {K : Nat} (hK : 1000 ≤ K) {n : Nat} (hn : n < 1000) {T : List Int} (hT : T.length < 1000) {b : Ag33} (hb : b.1.length < 1000) (h : ∀ x ∈ b.1, WOk n T x) : c40 K b = some (b, ()) := by
  rw [c40_eq]
  exact c40_loop hK hn hT hb h b.1.length 0 K (by omega) (by omega)

theorem c147_ok {K : Nat} (hK : 1000 ≤ K) {a b : List Int} (ha : a.length < 1000) (hb : b.length < 1000) : ∃ r, c147 K a b = some (r, ()) := by
  rw [c147_eq]
  have h := loopT (L := fun q (i : Nat) => m147_2 K q a b (i : Int)) (fun i => i ≤ a.length) (fun i => a.length - i) (fun _ => True) (fun q i hi => by
    rw [m147_2_eq]
    by_cases h1 : i < a.length ∧ i < b.length
    · have e1 : (i : Int) < (a.length : Int) := by omega
      have e2 : (i : Int) < (b.length : Int) := by omega
      rw [wsucc (by omega), Int.toNat_natCast, if_pos (by simp [e1, e2]), if_pos (inb h1.1), if_pos (inb h1.2), if_pos (inb h1.1), if_pos (inb h1.2)]
      split
      · exact .inl ⟨(_, ()), rfl, trivial⟩
      · exact .inr ⟨i + 1, by omega, by omega, rfl⟩
    · rw [if_neg]
      · exact .inl ⟨(_, ()), rfl, trivial⟩
      · simp only [Bool.if_false_right, Bool.decide_eq_true, Bool.and_eq_true, decide_eq_true_eq]
        omega) a.length 0 K (by omega) (by omega) (by omega)
  obtain ⟨r, hr, _⟩ := h
  exact ⟨r.1, hr⟩

theorem c113_13 {K k1 : Nat} (hK : KK ≤ K) {m : Ag29} (hm : MOk m) {T : List Int} (hT : T.length < 1000) {x3 : Ag33} {x5 : List Int} (h5 : x5.length < 1000) (i : Int) {x : Ag42} (hx : WOk m.1.length T x) :
    m113_13 K k1 K m x3 x5 i x 0 = some (false, ()) ∨ m113_13 K k1 K m x3 x5 i x 0 = m113_7 K k1 m x3 x5 (IntKind.i64.wrap (i + 1)) := by
  have hK' : 17592186044416 ≤ K := hK
  have hl := hx.len
  have hw := hx.w
  have h := loopT (L := fun q (j : Nat) => some (m113_13 K k1 q m x3 x5 i x (j : Int))) (fun j => j ≤ T.length) (fun j => T.length - j) (fun r => r = some (false, ()) ∨ r = m113_7 K k1 m x3 x5 (IntKind.i64.wrap (i + 1))) (fun q j hj => by
    rw [m113_13_eq]
    by_cases h1 : j < T.length
    · obtain ⟨r, hr, _⟩ := c118_ok (K := K) h5 (by omega) (x.1.getD j 0)
      obtain ⟨s, hs⟩ := c148_ok hK hm (hx.b _ (mem_getD (d := z45) (show j < x.2.1.length by omega)))
      rw [wsucc (by omega), Int.toNat_natCast, if_pos (by simp; omega), if_pos (inb (by omega)), hr, inb (show j < x.2.1.length by omega), hs]
      simp only [Option.bind_some, Bool.or_true, if_true]
      by_cases hr0 : r < 0
      · exact .inl ⟨_, rfl, .inl (by simp [hr0])⟩
      · cases s
        · exact .inl ⟨_, rfl, .inl (by simp [hr0])⟩
        · exact .inr ⟨j + 1, by omega, by omega, by simp [hr0]⟩
    · rw [if_neg (by simp; omega)]
      exact .inl ⟨_, rfl, .inr rfl⟩) T.length 0 K (by omega) (by omega) (by omega)
  obtain ⟨r, hr, h⟩ := h
  simp only [Option.some.injEq] at hr
  rw [← hr] at h
  exact h

theorem c113_7 {K : Nat} (hK : KK ≤ K) {m : Ag29} (hm : MOk m) {T : List Int} (hT : T.length < 1000) {b : Ag33} (hb : b.1.length < 1000) (h : ∀ x ∈ b.1, WOk m.1.length T x) {x5 : List Int} (h5 : x5.length < 1000) : ∃ r, m113_7 K K m b x5 0 = some (r, ()) := by
  have hK' : 17592186044416 ≤ K := hK
  have h := loopT (L := fun q (i : Nat) => m113_7 K q m b x5 (i : Int)) (fun i => i ≤ b.1.length) (fun i => b.1.length - i) (fun _ => True) (fun q i hi => by
    rw [m113_7_eq]
    by_cases h1 : i < b.1.length
    · have hx := h _ (mem_getD (d := z42) h1)
      have hl := hx.len
      obtain ⟨r, hr⟩ := c111_ok (K := K) (l := (b.1.getD i z42).1) (by omega) (by omega)
      rw [Int.toNat_natCast, if_pos (by simp; omega), if_pos (inb h1), hr]
      generalize hu : (if (((b.1.getD i z42).1.length : Int) != (x5.length : Int)) = true then true else (((b.1.getD i z42).2.1.length : Int) != (x5.length : Int))) = u
      have step : ∀ r1 : Bool, (∃ r2, (if (!(!(if u = true then true else !r1) && decide ((i : Int) > 0)) || (decide (0 ≤ IntKind.i64.wrap ((i : Int) - 1)) && decide (IntKind.i64.wrap ((i : Int) - 1) < (b.1.length : Int)))) = true then
          ((if (!(if u = true then true else !r1) && decide ((i : Int) > 0)) = true then c147 K (b.1.getD (IntKind.i64.wrap ((i : Int) - 1)).toNat z42).1 (b.1.getD i z42).1 else some (false, ())).bind fun r2 =>
            if (if (if u = true then true else !r1) = true then true else if decide ((i : Int) > 0) = true then !r2.1 else false) = true then some (false, ()) else m113_13 K q K m b x5 (i : Int) (b.1.getD i z42) 0) else none) = some r2) ∨
          (if (!(!(if u = true then true else !r1) && decide ((i : Int) > 0)) || (decide (0 ≤ IntKind.i64.wrap ((i : Int) - 1)) && decide (IntKind.i64.wrap ((i : Int) - 1) < (b.1.length : Int)))) = true then
          ((if (!(if u = true then true else !r1) && decide ((i : Int) > 0)) = true then c147 K (b.1.getD (IntKind.i64.wrap ((i : Int) - 1)).toNat z42).1 (b.1.getD i z42).1 else some (false, ())).bind fun r2 =>
            if (if (if u = true then true else !r1) = true then true else if decide ((i : Int) > 0) = true then !r2.1 else false) = true then some (false, ()) else m113_13 K q K m b x5 (i : Int) (b.1.getD i z42) 0) else none) = m113_7 K q m b x5 ((i + 1 : Nat) : Int) := by
        intro r1
        have h13 := c113_13 (k1 := q) (x3 := b) hK hm hT h5 (i : Int) hx
        rw [wsucc (by omega)] at h13
        by_cases h0 : i = 0
        · subst h0
          simp only [Int.natCast_zero] at h13 ⊢
          generalize (if u = true then true else !r1) = v
          cases v
          · simp only [Bool.not_false, Bool.true_and, Int.lt_irrefl, gt_iff_lt, decide_false, Bool.true_or, if_true, Bool.false_eq_true, if_false, Option.bind_some]
            exact h13.imp (fun e => ⟨_, e⟩) id
          · simp
        · have w : IntKind.i64.wrap ((i : Int) - 1) = ((i - 1 : Nat) : Int) := by rw [wrap_id (by omega) (by omega)]; omega
          have hi1 : i - 1 < b.1.length := by omega
          have hgt : decide ((i : Int) > 0) = true := by simp; omega
          obtain ⟨s, hs⟩ := c147_ok (K := K) (by omega) (a := (b.1.getD (i - 1) z42).1) (b := (b.1.getD i z42).1) (by rw [(h _ (mem_getD hi1)).len]; omega) (by omega)
          rw [w, Int.toNat_natCast, hgt, inb hi1, hs]
          generalize (if u = true then true else !r1) = v
          cases v
          · simp only [Bool.not_false, Bool.and_self, Bool.or_true, if_true, Option.bind_some, Bool.false_eq_true, if_false]
            cases s
            · exact .inl ⟨(false, ()), by simp⟩
            · simp only [Bool.not_true, Bool.false_eq_true, if_false]
              exact h13.imp (fun e => ⟨_, e⟩) id
          · simp
      cases hu' : u
      · simp only [Bool.not_false, if_true, Option.bind_some]
        rw [hu'] at step
        rcases step r with ⟨r2, e⟩ | e
        · exact .inl ⟨r2, e, trivial⟩
        · exact .inr ⟨i + 1, by omega, by omega, e⟩
      · simp only [Bool.not_true, Bool.false_eq_true, if_false, Option.bind_some]
        rw [hu'] at step
        rcases step false with ⟨r2, e⟩ | e
        · exact .inl ⟨r2, e, trivial⟩
        · exact .inr ⟨i + 1, by omega, by omega, e⟩
    · rw [if_neg (by simp; omega)]
      exact .inl ⟨(true, ()), rfl, trivial⟩) b.1.length 0 K (by omega) (by omega) (by omega)
  obtain ⟨r, hr, _⟩ := h
  exact ⟨r.1, hr⟩

theorem c113_ok {K : Nat} (hK : KK ≤ K) {m : Ag29} (hm : MOk m) {T : List Int} (hT : T.length < 1000) {b : Ag33} (h : BOk m.1.length T b) : ∃ r, c113 K m b = some (r, ()) := by
  have hK' : 17592186044416 ≤ K := hK
  have h1 := h.l1
  have h24 := h.l24
  have e1 : ¬ (b.1.length : Int) < 1 := by omega
  have e2 : ¬ (b.1.length : Int) > 24 := by omega
  rw [c113_eq, c110_ok (by omega) hm]
  simp only [e1, e2, decide_false, Bool.false_eq_true, if_false, Bool.not_false, if_true, Option.bind_some, bne_self_eq_false]
  rw [if_pos (by simp; omega)]
  simp only [Bool.if_true_left, Bool.decide_eq_true]
  split
  · exact ⟨_, rfl⟩
  · have hx := (h.w _ (mem_getD (d := z42) (show (0 : Int).toNat < b.1.length by simp; omega))).len
    exact c113_7 hK hm hT (by omega) h.w (by omega)
end Fs

/- Worlds are tidied, exchanged. -/
open Go Go.Ev
namespace Fs

theorem tidy10 {K q : Nat} (hK : 1000 ≤ K) {n : Nat} (hn : n < 1000) {T : List Int} (hT : T.length < 1000) {l : List Ag42} (hl : l.length < 1000) {i : Nat} (hi : i < l.length) (hx : ∀ x ∈ l, WOk n T x) {k : Nat} :
    (d j k2 : Nat) → (out : List Ag42) → j + d = T.length → d < k2 → k < out.length → out.length < 1000 → (∀ x ∈ out, WOk n T x) →
    ∃ out', m116_10 K q k2 l out (i : Int) (k : Int) (j : Int) = m116_3 K q l out' ((i + 1 : Nat) : Int) ∧ out'.length = out.length ∧ ∀ x ∈ out', WOk n T x
  | 0, j, k2, out, hj, hk2, hk, ho, hox => by
    obtain ⟨k2, rfl⟩ : ∃ j, k2 = j + 1 := ⟨k2 - 1, by omega⟩
    have h1 := hox _ (mem_getD (d := z42) hk)
    have e1 : ¬ (j : Int) < ((out.getD k z42).2.1.length : Int) := by rw [h1.w]; omega
    rw [m116_10_eq, wsucc (i := i) (by omega), Int.toNat_natCast, if_pos (inb hk)]
    simp only [e1, decide_false, Bool.not_false, Bool.true_or, if_true, Bool.false_eq_true, if_false]
    exact ⟨out, rfl, rfl, hox⟩
  | d + 1, j, k2, out, hj, hk2, hk, ho, hox => by
    obtain ⟨k2, rfl⟩ : ∃ j, k2 = j + 1 := ⟨k2 - 1, by omega⟩
    have h1 := hox _ (mem_getD (d := z42) hk)
    have h2 := hx _ (mem_getD (d := z42) hi)
    have hj1 : j < (out.getD k z42).2.1.length := by rw [h1.w]; omega
    have hj2 : j < (l.getD i z42).2.1.length := by rw [h2.w]; omega
    have e1 : (j : Int) < ((out.getD k z42).2.1.length : Int) := by omega
    have e2 : (j : Int) < ((l.getD i z42).2.1.length : Int) := by omega
    obtain ⟨w', e, hw, hb⟩ := c149_ok (K := K) hK hn (h1.b _ (mem_getD (d := z45) hj1)) (h2.b _ (mem_getD (d := z45) hj2))
    rw [m116_10_eq, wsucc (i := j) (by omega)]
    simp only [Int.toNat_natCast]
    rw [if_pos (inb hk), inb hi, Bool.or_true, if_pos rfl]
    simp only [e1, e2, decide_true, if_true]
    rw [if_pos (inb hk), if_pos (inb hk), if_pos (by simp), if_pos (by simp), hw]
    simp only [Option.bind_some]
    rw [if_pos (by simp)]
    obtain ⟨out', e', f1, f2⟩ := tidy10 (q := q) hK hn hT hl hi hx (k := k) d (j + 1) k2 (List.set out k ((out.getD k z42).1, List.set (out.getD k z42).2.1 j w', ())) (by omega) (by omega) (by rw [List.length_set]; exact hk) (by rw [List.length_set]; exact ho) (fun x hx' => by
      rcases List.mem_or_eq_of_mem_set hx' with hx' | hx'
      · exact hox x hx'
      · rw [hx']
        refine ⟨h1.t, by simpa using h1.w, fun y hy => ?_⟩
        rcases List.mem_or_eq_of_mem_set hy with hy | hy
        · exact h1.b y hy
        · rw [hy]; exact hb)
    exact ⟨out', e', by rw [f1, List.length_set], f2⟩

theorem tidy6 {K q : Nat} (hK : 1000 ≤ K) {n : Nat} (hn : n < 1000) {T : List Int} (hT : T.length < 900) {l : List Ag42} (hl : l.length < 1000) {i : Nat} (hi : i < l.length) (hx : ∀ x ∈ l, WOk n T x) :
    (d k k2 : Nat) → (out : List Ag42) → k + d = out.length → d < k2 → out.length < 900 → (∀ x ∈ out, WOk n T x) →
    ∃ out', m116_6 K q k2 l out (i : Int) (k : Int) = m116_3 K q l out' ((i + 1 : Nat) : Int) ∧ out'.length ≤ out.length + 1 ∧ 1 ≤ out'.length ∧ ∀ x ∈ out', WOk n T x := by
  have hxi := hx _ (mem_getD (d := z42) hi)
  have hcp := hxi.copy (K := K) hK hn (by omega)
  have ins : ∀ (out : List Ag42) (k : Nat), k ≤ out.length → out.length < 900 → (∀ x ∈ out, WOk n T x) →
      ∃ out', (if (decide ((0 : Int) ≤ (k : Int)) && decide ((k : Int) ≤ (out.length : Int))) = true then if decide (k < LIM 48) = true then if (decide (0 ≤ (i : Int)) && decide ((i : Int) < (l.length : Int))) = true then (c89 K (l.getD i z42)).bind fun r3 =>
        if decide (k + ([] : List Ag42).length + [r3.1].length < LIM 48) = true then if (decide ((0 : Int) ≤ (k : Int)) && decide ((k : Int) ≤ (out.length : Int))) = true then if ((k : Nat) == k && (out.length : Nat) == out.length && decide (out.length + (([] ++ [r3.1]) : List Ag42).length < LIM 48)) = true then m116_3 K q l (List.take k out ++ ([] ++ [r3.1]) ++ List.drop k out) ((i + 1 : Nat) : Int) else none else none else none else none else none else none) = m116_3 K q l out' ((i + 1 : Nat) : Int) ∧ out'.length ≤ out.length + 1 ∧ 1 ≤ out'.length ∧ ∀ x ∈ out', WOk n T x := by
    intro out k hk ho hox
    have e1 : (decide ((0 : Int) ≤ (k : Int)) && decide ((k : Int) ≤ (out.length : Int))) = true := by simp; omega
    rw [if_pos e1, if_pos (by rw [LIM48]; simp; omega), if_pos (inb hi), hcp]
    simp only [Option.bind_some]
    rw [if_pos (by rw [LIM48]; simp; omega), if_pos e1, if_pos (by rw [LIM48]; simp; omega)]
    refine ⟨_, rfl, ?_, ?_, fun x hx' => ?_⟩
    · simp only [List.nil_append, List.length_append, List.length_take, List.length_drop, List.length_cons, List.length_nil]; omega
    · simp only [List.nil_append, List.length_append, List.length_take, List.length_drop, List.length_cons, List.length_nil]; omega
    · simp only [List.nil_append, List.mem_append, List.mem_singleton] at hx'
      rcases hx' with (hx' | hx') | hx'
      · exact hox x (List.mem_of_mem_take hx')
      · rw [hx']; exact hxi
      · exact hox x (List.mem_of_mem_drop hx')
  intro d
  induction d with
  | zero =>
    intro k k2 out hk hk2 ho hox
    obtain ⟨k2, rfl⟩ : ∃ j, k2 = j + 1 := ⟨k2 - 1, by omega⟩
    have e1 : ¬ (k : Int) < (out.length : Int) := by omega
    rw [m116_6_eq, wsucc (i := i) (by omega)]
    simp only [Int.toNat_natCast, e1, decide_false, Bool.not_false, Bool.true_or, if_true, Bool.false_eq_true, if_false, Option.bind_some]
    exact ins out k (by omega) ho hox
  | succ d ih =>
    intro k k2 out hk hk2 ho hox
    obtain ⟨k2, rfl⟩ : ∃ j, k2 = j + 1 := ⟨k2 - 1, by omega⟩
    have hk' : k < out.length := by omega
    have e1 : (k : Int) < (out.length : Int) := by omega
    have hxk := hox _ (mem_getD (d := z42) hk')
    obtain ⟨r, hr⟩ := c147_ok (K := K) hK (a := (out.getD k z42).1) (b := (l.getD i z42).1) (by rw [hxk.len]; omega) (by rw [hxi.len]; omega)
    have h27 := c27_ok (K := K) (a := (out.getD k z42).1) (b := (l.getD i z42).1) (by rw [hxk.len]; omega) hK
    rw [m116_6_eq, wsucc (i := i) (by omega), wsucc (i := k) (by omega)]
    simp only [Int.toNat_natCast, inb hk', inb hi, Bool.or_true, if_true, e1, decide_true, hr, h27, Option.bind_some]
    cases r
    · simp only [Bool.false_eq_true, if_false]
      by_cases hab : decide ((out.getD k z42).1 = (l.getD i z42).1) = true
      · rw [if_pos hab]
        obtain ⟨out', e, f1, f2⟩ := tidy10 (q := q) hK hn (by omega) hl hi hx (k := k) T.length 0 K out (by omega) (by omega) hk' (by omega) hox
        exact ⟨out', e, by omega, by omega, f2⟩
      · rw [if_neg hab]
        have := ins out k (by omega) ho hox
        simp only [inb hi, if_true] at this
        exact this
    · simp only [if_true]
      exact ih (k + 1) k2 out (by omega) (by omega) ho hox

theorem tidy3 {K : Nat} (hK : 1000 ≤ K) {n : Nat} (hn : n < 1000) {T : List Int} (hT : T.length < 900) {l : List Ag42} (hl : l.length < 200) (hx : ∀ x ∈ l, WOk n T x) :
    (d i q : Nat) → (out : List Ag42) → i + d = l.length → d < q → out.length ≤ i → (∀ x ∈ out, WOk n T x) → (0 < i → 1 ≤ out.length) →
    ∃ out', m116_3 K q l out (i : Int) = some (out', ()) ∧ out'.length ≤ l.length ∧ (0 < l.length → 1 ≤ out'.length) ∧ ∀ x ∈ out', WOk n T x
  | 0, i, q, out, hi, hq, ho, hox, h1 => by
    obtain ⟨q, rfl⟩ : ∃ j, q = j + 1 := ⟨q - 1, by omega⟩
    rw [m116_3_eq, if_neg (by simp; omega)]
    exact ⟨out, rfl, by omega, fun h => h1 (by omega), hox⟩
  | d + 1, i, q, out, hi, hq, ho, hox, h1 => by
    obtain ⟨q, rfl⟩ : ∃ j, q = j + 1 := ⟨q - 1, by omega⟩
    rw [m116_3_eq, if_pos (by simp; omega)]
    obtain ⟨out', e, f1, f2, f3⟩ := tidy6 (q := q) hK hn hT (by omega) (show i < l.length by omega) hx out.length 0 K out (by omega) (by omega) (by omega) hox
    have e : m116_6 K q K l out (i : Int) 0 = _ := e
    rw [e]
    exact tidy3 hK hn hT hl hx d (i + 1) q out' (by omega) (by omega) (by omega) f3 (fun _ => f2)
theorem c116_ok {K : Nat} (hK : 1000 ≤ K) {n : Nat} (hn : n < 1000) {T : List Int} (hT : T.length < 900) {l : List Ag42} (hl : l.length < 200) (hx : ∀ x ∈ l, WOk n T x) :
    ∃ out', c116 K l = some (out', ()) ∧ out'.length ≤ l.length ∧ (0 < l.length → 1 ≤ out'.length) ∧ ∀ x ∈ out', WOk n T x := by
  rw [c116_eq]
  exact tidy3 hK hn hT hl hx l.length 0 K [] (by omega) (by omega) (by simp) (by simp) (by omega)

theorem swap_perm {l T : List Int} (h : l.Perm T) {i j : Nat} (hi : i < l.length) (hj : j < l.length) : ((l.set i (l.getD j 0)).set j (l.getD i 0)).Perm T := by
  rw [getD_get hi, getD_get hj]
  exact (List.set_set_perm hi hj).trans h

/-- An exchange. -/
theorem c62_ok {K : Nat} (hK : KK ≤ K) {m : Ag29} (hm : MOk m) {T : List Int} (hT : T.length < 900) {b : Ag33} (h : BOk m.1.length T b) (p q t : Int) : ∃ b' e, c62 K m b p q t = some (b', e, ()) ∧ BOk m.1.length T b' := by
  have hK' : 17592186044416 ≤ K := hK
  have hp7 := hm.p7
  have h1 := h.l1
  have h24 := h.l24
  have hcp := c40_ok (K := K) (by omega) (n := m.1.length) (by omega) (T := T) (by omega) (b := b) (by omega) h.w
  obtain ⟨r, hr⟩ := c113_ok hK hm (by omega) h
  have hx0 := h.w _ (mem_getD (d := z42) (show (0 : Int).toNat < b.1.length by simp; omega))
  rw [c62_eq, hcp]
  simp only [Option.bind_some, hr, hcp]
  cases r
  · exact ⟨b, 6, rfl, h⟩
  · simp only [Bool.not_true, Bool.false_eq_true, if_false]
    rw [if_pos (by simp; omega)]
    simp only [Bool.if_true_left, Bool.decide_eq_true]
    split
    · exact ⟨b, _, rfl, h⟩
    · rename_i hpq
      simp only [Bool.or_eq_true, decide_eq_true_eq, beq_iff_eq, not_or] at hpq
      rw [hx0.len] at hpq
      split
      · exact ⟨b, _, rfl, h⟩
      · have hp : 0 ≤ p ∧ p.toNat < T.length := by omega
        have hq : 0 ≤ q ∧ q.toNat < T.length := by omega
        obtain ⟨r, hr, hb⟩ := loopT (L := fun k (s : Nat × List Ag42) => m62_11 K k p q t b z33 s.2 (s.1 : Int)) (fun s => s.1 ≤ b.1.length ∧ s.2.length ≤ b.1.length + s.1 ∧ b.1.length ≤ s.2.length ∧ ∀ x ∈ s.2, WOk m.1.length T x) (fun s => b.1.length - s.1) (fun r => BOk m.1.length T r.1) (fun k s hs => by
          obtain ⟨i, out⟩ := s
          obtain ⟨hi, ho, ho2, hox⟩ := hs
          simp only at hi ho ho2 hox ⊢
          rw [m62_11_eq]
          by_cases hlt : i < b.1.length
          · have hxi := h.w _ (mem_getD (d := z42) hlt)
            have hxc := hxi.copy (K := K) (by omega) (by omega) (by omega)
            rw [wsucc (by omega), Int.toNat_natCast, if_pos (by simp; omega), if_pos (inb hlt), hxc]
            simp only [Option.bind_some]
            generalize b.1.getD i z42 = x at hxi
            have hpw : p.toNat < x.2.1.length := by rw [hxi.w]; exact hp.2
            have hqw : q.toNat < x.2.1.length := by rw [hxi.w]; exact hq.2
            have hpt : p.toNat < x.1.length := by rw [hxi.len]; exact hp.2
            have hqt : q.toNat < x.1.length := by rw [hxi.len]; exact hq.2
            have ep : (decide (0 ≤ p) && decide (p < (x.2.1.length : Int))) = true := by simp; omega
            have eq : (decide (0 ≤ q) && decide (q < (x.2.1.length : Int))) = true := by simp; omega
            have ept : (decide (0 ≤ p) && decide (p < (x.1.length : Int))) = true := by simp; omega
            have eqt : (decide (0 ≤ q) && decide (q < (x.1.length : Int))) = true := by simp; omega
            have hbp := hxi.b _ (mem_getD (d := z45) hpw)
            have hbq := hxi.b _ (mem_getD (d := z45) hqw)
            obtain ⟨r2, hr2⟩ := c114_ok (K := K) (by omega) (by omega) hbp hbq t
            rw [if_pos ep, if_pos eq, hr2]
            simp only [Option.bind_some]
            cases r2
            · exact .inr ⟨(i + 1, out), ⟨by show i + 1 ≤ b.1.length; omega, by show out.length ≤ b.1.length + (i + 1); omega, ho2, hox⟩, by show b.1.length - (i + 1) < b.1.length - i; omega, rfl⟩
            · simp only [Bool.not_true, Bool.false_eq_true, if_false, List.length_set]
              rw [if_pos eqt, if_pos ept, if_pos ept, if_pos eqt, if_pos ep]
              obtain ⟨w1, e1, hw1, hb1⟩ := c115_ok (K := K) (by omega) hbp t
              rw [hw1]
              simp only [Option.bind_some]
              rw [if_pos ep, if_pos eq]
              have hb2' : Box m.1.length ((List.set x.2.1 p.toNat w1).getD q.toNat z45).2.1 := by
                have hmem : (List.set x.2.1 p.toNat w1).getD q.toNat z45 ∈ List.set x.2.1 p.toNat w1 := mem_getD (by rw [List.length_set]; exact hqw)
                rcases List.mem_or_eq_of_mem_set hmem with hy | hy
                · exact hxi.b _ hy
                · rw [hy]; exact hb1
              obtain ⟨w2, e2, hw2, hb2⟩ := c115_ok (K := K) (by omega) hb2' t
              rw [hw2]
              simp only [Option.bind_some]
              rw [if_pos eq, if_pos (by rw [LIM48]; simp; omega)]
              refine .inr ⟨(i + 1, _), ⟨by show i + 1 ≤ b.1.length; omega, by simp; omega, by simp; omega, fun y hy => ?_⟩, by show b.1.length - (i + 1) < b.1.length - i; omega, rfl⟩
              rcases List.mem_append.1 hy with hy | hy
              · exact hox y hy
              · simp only [List.mem_singleton] at hy
                rw [hy]
                refine ⟨swap_perm hxi.t hpt hqt, by simpa using hxi.w, fun z hz => ?_⟩
                rcases List.mem_or_eq_of_mem_set hz with hz | hz
                · rcases List.mem_or_eq_of_mem_set hz with hz | hz
                  · exact hxi.b z hz
                  · rw [hz]; exact hb1
                · rw [hz]; exact hb2
          · left
            rw [if_neg (by simp; omega)]
            obtain ⟨out', e, f1, f2, f3⟩ := c116_ok (K := K) (by omega) (by omega) hT (l := out) (by omega) hox
            rw [e]
            simp only [Option.bind_some]
            split
            · exact ⟨(b, 44, ()), rfl, h⟩
            · rename_i hle
              simp only [decide_eq_true_eq] at hle
              exact ⟨((out', ()), 0, ()), rfl, f2 (by omega), by show out'.length ≤ 24; omega, f3⟩) b.1.length (0, b.1) K (by show b.1.length - 0 ≤ b.1.length; omega) ⟨by show 0 ≤ b.1.length; omega, by show b.1.length ≤ b.1.length + 0; omega, Nat.le_refl _, h.w⟩ (by omega)
        exact ⟨r.1, r.2.1, hr, hb⟩
end Fs

/- Beliefs. -/
open Go Go.Ev
namespace Fs

theorem c117_ok {K : Nat} (hK : KK ≤ K) {m : Ag29} (hm : MOk m) {T : List Int} (hT : T.length < 900) {b : Ag33} (h : BOk m.1.length T b) (tag : Int) : ∃ r, c117 K m b tag = some (r, ()) := by
  have hK' : 17592186044416 ≤ K := hK
  have h1 := h.l1
  obtain ⟨r, hr⟩ := c113_ok hK hm (by omega) h
  have hx0 := h.w _ (mem_getD (d := z42) (show (0 : Int).toNat < b.1.length by simp; omega))
  rw [c117_eq, hr]
  simp only [Option.bind_some]
  cases r
  · exact ⟨6, rfl⟩
  · simp only [Bool.not_true, Bool.false_eq_true, if_false]
    rw [if_pos (by simp; omega)]
    obtain ⟨s, hs, _⟩ := c118_ok (K := K) (l := (b.1.getD (0 : Int).toNat z42).1) (by rw [hx0.len]; omega) (by omega) tag
    rw [hs]
    simp only [Option.bind_some]
    split
    · exact ⟨_, rfl⟩
    · exact ⟨_, rfl⟩

/-- A tag is seen. -/
theorem c63_ok {K : Nat} (hK : KK ≤ K) {m : Ag29} (hm : MOk m) {T : List Int} (hT : T.length < 900) {b : Ag33} (h : BOk m.1.length T b) {tag : Int} (ht : tag ∈ T) {l : List Int} (hl : l.length < 1000) (hx : ∀ x ∈ l, 0 ≤ x ∧ x < (m.1.length : Int)) (p q : Int) :
    ∃ b' e, c63 K m b tag l p q = some (b', e, ()) ∧ BOk m.1.length T b' := by
  have hK' : 17592186044416 ≤ K := hK
  have hp7 := hm.p7
  have h1 := h.l1
  have h24 := h.l24
  have hcp := c40_ok (K := K) (by omega) (n := m.1.length) (by omega) (T := T) (by omega) (b := b) (by omega) h.w
  obtain ⟨r, hr⟩ := c117_ok hK hm hT h tag
  rw [c63_eq, hcp]
  simp only [Option.bind_some, hr]
  split
  · exact ⟨b, _, rfl, h⟩
  · obtain ⟨r, hr, hb⟩ := loopT (L := fun k (s : Nat × List Ag42) => m63_7 K k tag l p q m b z33 (s.2, ()) (s.1 : Int)) (fun s => s.1 ≤ b.1.length ∧ s.2.length ≤ s.1 ∧ ∀ x ∈ s.2, WOk m.1.length T x) (fun s => b.1.length - s.1) (fun r => BOk m.1.length T r.1) (fun k s hs => by
      obtain ⟨i, out⟩ := s
      obtain ⟨hi, ho, hox⟩ := hs
      simp only at hi ho hox ⊢
      rw [m63_7_eq]
      by_cases hlt : i < b.1.length
      · have hxi := h.w _ (mem_getD (d := z42) hlt)
        have hxc := hxi.copy (K := K) (by omega) (by omega) (by omega)
        rw [wsucc (by omega), Int.toNat_natCast, if_pos (by simp; omega), if_pos (inb hlt), hxc]
        simp only [Option.bind_some]
        generalize b.1.getD i z42 = x at hxi
        obtain ⟨j, hj, hj0, hj1⟩ := c118_ok (K := K) (l := x.1) (by rw [hxi.len]; omega) (by omega) tag
        have hj0 := hj0 (hxi.t.mem_iff.2 ht)
        rw [hxi.len] at hj1
        have ej : (decide (0 ≤ j) && decide (j < (x.2.1.length : Int))) = true := by rw [hxi.w]; simp; omega
        rw [hj]
        simp only [Option.bind_some]
        obtain ⟨w', e, hw, hwb⟩ := c119_ok hK hm (hxi.b _ (mem_getD (d := z45) (show j.toNat < x.2.1.length by rw [hxi.w]; omega))) hl hx p q
        rw [if_pos ej, hw]
        simp only [Option.bind_some]
        have go : ∀ y, WOk m.1.length T y → (∃ r, (if decide (out.length + [y].length < LIM 48) = true then m63_7 K k tag l p q m b z33 (out ++ [y], ()) ((i + 1 : Nat) : Int) else none) = some r ∧ BOk m.1.length T r.1) ∨ ∃ s' : Nat × List Ag42, (s'.1 ≤ b.1.length ∧ s'.2.length ≤ s'.1 ∧ ∀ x ∈ s'.2, WOk m.1.length T x) ∧ b.1.length - s'.1 < b.1.length - i ∧ (if decide (out.length + [y].length < LIM 48) = true then m63_7 K k tag l p q m b z33 (out ++ [y], ()) ((i + 1 : Nat) : Int) else none) = m63_7 K k tag l p q m b z33 (s'.2, ()) (s'.1 : Int) := by
          intro y hy
          rw [if_pos (by rw [LIM48]; simp; omega)]
          refine .inr ⟨(i + 1, out ++ [y]), ⟨by show i + 1 ≤ b.1.length; omega, by simp; omega, fun z hz => ?_⟩, by show b.1.length - (i + 1) < b.1.length - i; omega, rfl⟩
          rcases List.mem_append.1 hz with hz | hz
          · exact hox z hz
          · simp only [List.mem_singleton] at hz; rw [hz]; exact hy
        have body : ∀ u : Bool, (∃ r, (if u = true then some (b, e, ()) else if (e == 43) = true then m63_7 K k tag l p q m b z33 (out, ()) ((i + 1 : Nat) : Int) else if (e == 0) = true then if decide (out.length + [((x.1, List.set x.2.1 j.toNat w', ()) : Ag42)].length < LIM 48) = true then m63_7 K k tag l p q m b z33 (out ++ [(x.1, List.set x.2.1 j.toNat w', ())], ()) ((i + 1 : Nat) : Int) else none else if decide (out.length + [x].length < LIM 48) = true then m63_7 K k tag l p q m b z33 (out ++ [x], ()) ((i + 1 : Nat) : Int) else none) = some r ∧ BOk m.1.length T r.1) ∨
            ∃ s' : Nat × List Ag42, (s'.1 ≤ b.1.length ∧ s'.2.length ≤ s'.1 ∧ ∀ x ∈ s'.2, WOk m.1.length T x) ∧ b.1.length - s'.1 < b.1.length - i ∧ (if u = true then some (b, e, ()) else if (e == 43) = true then m63_7 K k tag l p q m b z33 (out, ()) ((i + 1 : Nat) : Int) else if (e == 0) = true then if decide (out.length + [((x.1, List.set x.2.1 j.toNat w', ()) : Ag42)].length < LIM 48) = true then m63_7 K k tag l p q m b z33 (out ++ [(x.1, List.set x.2.1 j.toNat w', ())], ()) ((i + 1 : Nat) : Int) else none else if decide (out.length + [x].length < LIM 48) = true then m63_7 K k tag l p q m b z33 (out ++ [x], ()) ((i + 1 : Nat) : Int) else none) = m63_7 K k tag l p q m b z33 (s'.2, ()) (s'.1 : Int) := by
          intro u
          cases u
          · simp only [Bool.false_eq_true, if_false]
            split
            · exact .inr ⟨(i + 1, out), ⟨by show i + 1 ≤ b.1.length; omega, by show out.length ≤ i + 1; omega, hox⟩, by show b.1.length - (i + 1) < b.1.length - i; omega, rfl⟩
            · split
              · refine go _ ⟨hxi.t, by simpa using hxi.w, fun y hy => ?_⟩
                rcases List.mem_or_eq_of_mem_set hy with hy | hy
                · exact hxi.b y hy
                · rw [hy]; exact hwb
              · exact go _ hxi
          · exact .inl ⟨(b, e, ()), rfl, h⟩
        split
        · exact .inl ⟨(b, e, ()), rfl, h⟩
        · exact body _
      · left
        rw [if_neg (by simp; omega)]
        split
        · exact ⟨(b, 43, ()), rfl, h⟩
        · rename_i hne
          have : ¬ (out.length : Int) = 0 := fun e => hne (by rw [e]; rfl)
          exact ⟨((out, ()), 0, ()), rfl, by show 1 ≤ out.length; omega, by show out.length ≤ 24; omega, hox⟩) b.1.length (0, []) K (by show b.1.length - 0 ≤ b.1.length; omega) ⟨by show 0 ≤ b.1.length; omega, by simp, by simp⟩ (by omega)
    exact ⟨r.1, r.2.1, hr, hb⟩

/-- A tag is absent. -/
theorem c64_ok {K : Nat} (hK : KK ≤ K) {m : Ag29} (hm : MOk m) {T : List Int} (hT : T.length < 900) {b : Ag33} (h : BOk m.1.length T b) {tag : Int} (ht : tag ∈ T) {l : List Int} (hl : l.length < 1000) (hx : ∀ x ∈ l, 0 ≤ x ∧ x < (m.1.length : Int)) (p q t : Int) :
    ∃ b' e, c64 K m b tag l p q t = some (b', e, ()) ∧ BOk m.1.length T b' := by
  have hK' : 17592186044416 ≤ K := hK
  have hp7 := hm.p7
  have h1 := h.l1
  have h24 := h.l24
  have hcp := c40_ok (K := K) (by omega) (n := m.1.length) (by omega) (T := T) (by omega) (b := b) (by omega) h.w
  obtain ⟨r, hr⟩ := c117_ok hK hm hT h tag
  rw [c64_eq, hcp]
  simp only [Option.bind_some, hr]
  split
  · exact ⟨b, _, rfl, h⟩
  · obtain ⟨r, hr, hb⟩ := loopT (L := fun k (s : Nat × List Ag42) => m64_7 K k tag l p q t m b z33 (s.2, ()) (s.1 : Int)) (fun s => s.1 ≤ b.1.length ∧ s.2.length = s.1 ∧ ∀ x ∈ s.2, WOk m.1.length T x) (fun s => b.1.length - s.1) (fun r => BOk m.1.length T r.1) (fun k s hs => by
      obtain ⟨i, out⟩ := s
      obtain ⟨hi, ho, hox⟩ := hs
      simp only at hi ho hox ⊢
      rw [m64_7_eq]
      by_cases hlt : i < b.1.length
      · have hxi := h.w _ (mem_getD (d := z42) hlt)
        have hxc := hxi.copy (K := K) (by omega) (by omega) (by omega)
        rw [wsucc (by omega), Int.toNat_natCast, if_pos (by simp; omega), if_pos (inb hlt), hxc]
        simp only [Option.bind_some]
        generalize b.1.getD i z42 = x at hxi
        obtain ⟨j, hj, hj0, hj1⟩ := c118_ok (K := K) (l := x.1) (by rw [hxi.len]; omega) (by omega) tag
        have hj0 := hj0 (hxi.t.mem_iff.2 ht)
        rw [hxi.len] at hj1
        have ej : (decide (0 ≤ j) && decide (j < (x.2.1.length : Int))) = true := by rw [hxi.w]; simp; omega
        rw [hj]
        simp only [Option.bind_some]
        obtain ⟨w', e, hw, hwb⟩ := c120_ok hK hm (hxi.b _ (mem_getD (d := z45) (show j.toNat < x.2.1.length by rw [hxi.w]; omega))) hl hx p q t
        rw [if_pos ej, hw]
        simp only [Option.bind_some, Bool.if_true_left, Bool.decide_eq_true]
        have go : ∀ y, WOk m.1.length T y → (∃ r, (if decide (out.length + [y].length < LIM 48) = true then m64_7 K k tag l p q t m b z33 (out ++ [y], ()) ((i + 1 : Nat) : Int) else none) = some r ∧ BOk m.1.length T r.1) ∨ ∃ s' : Nat × List Ag42, (s'.1 ≤ b.1.length ∧ s'.2.length = s'.1 ∧ ∀ x ∈ s'.2, WOk m.1.length T x) ∧ b.1.length - s'.1 < b.1.length - i ∧ (if decide (out.length + [y].length < LIM 48) = true then m64_7 K k tag l p q t m b z33 (out ++ [y], ()) ((i + 1 : Nat) : Int) else none) = m64_7 K k tag l p q t m b z33 (s'.2, ()) (s'.1 : Int) := by
          intro y hy
          rw [if_pos (by rw [LIM48]; simp; omega)]
          refine .inr ⟨(i + 1, out ++ [y]), ⟨by show i + 1 ≤ b.1.length; omega, by simp; omega, fun z hz => ?_⟩, by show b.1.length - (i + 1) < b.1.length - i; omega, rfl⟩
          rcases List.mem_append.1 hz with hz | hz
          · exact hox z hz
          · simp only [List.mem_singleton] at hz; rw [hz]; exact hy
        split
        · exact .inl ⟨(b, e, ()), rfl, h⟩
        · split
          · refine go _ ⟨hxi.t, by simpa using hxi.w, fun y hy => ?_⟩
            rcases List.mem_or_eq_of_mem_set hy with hy | hy
            · exact hxi.b y hy
            · rw [hy]; exact hwb
          · exact go _ hxi
      · left
        rw [if_neg (by simp; omega)]
        exact ⟨((out, ()), 0, ()), rfl, by show 1 ≤ out.length; omega, by show out.length ≤ 24; omega, hox⟩) b.1.length (0, []) K (by show b.1.length - 0 ≤ b.1.length; omega) ⟨by show 0 ≤ b.1.length; omega, by simp, by simp⟩ (by omega)
    exact ⟨r.1, r.2.1, hr, hb⟩

/-- The tags of n persons. -/
def Tn (n : Nat) : List Int := (List.range n).map fun (i : Nat) => 3 + 2 * (i : Int)
theorem Tn_len (n : Nat) : (Tn n).length = n := by simp [Tn]
theorem Tn_succ (n : Nat) : Tn (n + 1) = Tn n ++ [3 + 2 * (n : Int)] := by simp [Tn, List.range_succ]
theorem Tn_mem {n : Nat} {r : Int} (h : 0 ≤ r ∧ r < (n : Int)) : 3 + 2 * r ∈ Tn n := by
  simp only [Tn, List.mem_map, List.mem_range]
  exact ⟨r.toNat, by omega, by omega⟩
theorem p1 (k : Nat) : c111 (k + 100) (Tn 1) = some (true, ()) := by kernel_rfl
theorem p2 (k : Nat) : c111 (k + 100) (Tn 2) = some (true, ()) := by kernel_rfl
theorem p3 (k : Nat) : c111 (k + 100) (Tn 3) = some (true, ()) := by kernel_rfl
theorem proper_ok {K : Nat} (hK : 1000 ≤ K) {n : Nat} (h1 : 1 ≤ n) (h3 : n ≤ 3) : c111 K (Tn n) = some (true, ()) := by
  obtain ⟨k, rfl⟩ : ∃ k, K = k + 100 := ⟨K - 100, by omega⟩
  have : n = 1 ∨ n = 2 ∨ n = 3 := by omega
  rcases this with rfl | rfl | rfl
  · exact p1 k
  · exact p2 k
  · exact p3 k

theorem c61_ok {K : Nat} (hK : KK ≤ K) {m : Ag29} (hm : MOk m) {n : Nat} (h1 : 1 ≤ n) (h3 : n ≤ 3) {s : List Int} (hs : s.length = n) (hx : ∀ x ∈ s, 0 ≤ x ∧ x < (m.1.length : Int)) {t : Int} (ht : 0 ≤ t ∧ t ≤ 2147483648) :
    ∃ b, c61 K m (Tn n) s t = some (b, 0, ()) ∧ BOk m.1.length (Tn n) b := by
  have hK' : 17592186044416 ≤ K := hK
  have hl := Tn_len n
  have e1 : (((Tn n).length : Int) != (s.length : Int)) = false := by rw [hl, hs]; simp
  have e2 : ¬ ((Tn n).length : Int) < 1 := by omega
  have e3 : ¬ ((Tn n).length : Int) > 12 := by omega
  rw [c61_eq, c110_ok (by omega) hm, proper_ok (by omega) h1 h3]
  simp only [Option.bind_some, bne_self_eq_false, e1, e2, e3, decide_false, Bool.false_eq_true, if_false, Bool.not_true]
  rw [if_pos (lt8 (by simp; omega)), List.nil_append]
  obtain ⟨r, hr, hb⟩ := loopT (L := fun k (z : Nat × List Ag45) => m61_7 K k (Tn n) s t m z33 (Tn n, z.2, ()) (z.1 : Int)) (fun z => z.1 ≤ n ∧ z.2.length = z.1 ∧ ∀ y ∈ z.2, Box m.1.length y.2.1) (fun z => n - z.1) (fun r => r.2.1 = 0 ∧ BOk m.1.length (Tn n) r.1) (fun k z hz => by
    obtain ⟨i, out⟩ := z
    obtain ⟨hi, ho, hox⟩ := hz
    simp only at hi ho hox ⊢
    rw [m61_7_eq]
    by_cases hlt : i < n
    · obtain ⟨l, e, hb⟩ := c112_ok hK hm (hx _ (mem_getD (d := 0) (show i < s.length by omega))) ht
      rw [wsucc (by omega), Int.toNat_natCast, if_pos (by simp; omega), if_pos (inb (by omega)), e]
      simp only [Option.bind_some, bne_self_eq_false, Bool.false_eq_true, if_false]
      rw [if_pos (by rw [LIM32]; simp; omega)]
      refine .inr ⟨(i + 1, _), ⟨by show i + 1 ≤ n; omega, by simp [ho], fun y hy => ?_⟩, by show n - (i + 1) < n - i; omega, rfl⟩
      rcases List.mem_append.1 hy with hy | hy
      · exact hox y hy
      · simp only [List.mem_singleton] at hy; rw [hy]; exact hb
    · left
      rw [if_neg (by simp; omega)]
      refine ⟨(([(Tn n, out, ())], ()), 0, ()), rfl, rfl, by simp, by simp, fun x hx => ?_⟩
      simp only [List.mem_singleton] at hx
      rw [hx]
      exact ⟨List.Perm.refl _, by show out.length = _; omega, hox⟩) n (0, []) K (by show n - 0 ≤ n; omega) ⟨by show 0 ≤ n; omega, by simp, by simp⟩ (by omega)
  obtain ⟨rb, re, ru⟩ := r
  obtain ⟨h0, hb⟩ := hb
  have h0 : re = 0 := h0
  subst h0
  exact ⟨rb, hr, hb⟩

theorem c17_10 {K : Nat} (hK : KK ≤ K) {m : Ag29} (hm : MOk m) {n : Nat} (h1 : 1 ≤ n) (h3 : n ≤ 3) {x4 : Ag33} : (k q : Nat) → (d : Dc) → (b : Ag33) → (t : Int) → k < q → k ≤ 10 → DOk d → BOk m.1.length (Tn n) b → ∃ b' d', m17_10 K q d m x4 (n : Int) b t (k : Int) = some (b', d', ()) ∧ DOk d' ∧ BOk m.1.length (Tn n) b'
  | 0, q, d, b, t, hq, hk, hd, hb => by
    obtain ⟨q, rfl⟩ : ∃ j, q = j + 1 := ⟨q - 1, by omega⟩
    rw [m17_10_eq, if_neg (by simp)]
    exact ⟨b, d, rfl, hd, hb⟩
  | k + 1, q, d, b, t, hq, hk, hd, hb => by
    obtain ⟨q, rfl⟩ : ∃ j, q = j + 1 := ⟨q - 1, by omega⟩
    have hK' : 17592186044416 ≤ K := hK
    have hp7 := hm.p7
    have hl := Tn_len n
    rw [m17_10_eq, wpred (by omega), if_pos (by simp)]
    obtain ⟨r1, d1, e1, b1, b1', hd1⟩ := c19_ok K hd (n := 60) (by decide) (by decide)
    rw [e1]; simp only [Option.bind_some]
    obtain ⟨r2, d2, e2, b2, b2', hd2⟩ := c19_ok K hd1 (n := 3) (by decide) (by decide)
    rw [e2]; simp only [Option.bind_some]
    have rec_ := fun d b t (hd : DOk d) hb => c17_10 hK hm h1 h3 (x4 := x4) k q d b t (by omega) (by omega) hd hb
    split
    · obtain ⟨r3, d3, e3, b3, b3', hd3⟩ := c19_ok K hd2 (n := (n : Int)) (by omega) (by omega)
      rw [e3]; simp only [Option.bind_some]
      obtain ⟨r4, d4, e4, b4, b4', hd4⟩ := c19_ok K hd3 (n := (n : Int)) (by omega) (by omega)
      rw [e4]; simp only [Option.bind_some]
      obtain ⟨b', e, h5, hb'⟩ := c62_ok hK hm (by omega) hb r3 r4 (IntKind.i64.wrap (t + r1))
      rw [h5]; simp only [Option.bind_some]
      split
      · exact rec_ _ _ _ hd4 hb'
      · exact rec_ _ _ _ hd4 hb
    · split
      · obtain ⟨r6, d6, e6, b6, b6', hd6⟩ := c19_ok K hd2 (n := (n : Int)) (by omega) (by omega)
        rw [e6]; simp only [Option.bind_some]
        obtain ⟨l7, d7, e7, hd7, hl7, hx7⟩ := c20_ok (K := K) (n := m.1.length) (by omega) (by omega) hd6
        rw [e7]; simp only [Option.bind_some]
        obtain ⟨r8, d8, e8, b8, b8', hd8⟩ := c19_ok K hd7 (n := 9) (by decide) (by decide)
        rw [e8]; simp only [Option.bind_some]
        have w1 : IntKind.i64.wrap (2 * r6) = 2 * r6 := wrap_id (by omega) (by omega)
        have w2 : IntKind.i64.wrap (3 + 2 * r6) = 3 + 2 * r6 := wrap_id (by omega) (by omega)
        rw [w1, w2]
        obtain ⟨b', e, h5, hb'⟩ := c63_ok hK hm (by omega) hb (Tn_mem ⟨b6, b6'⟩) (l := l7) (by omega) hx7 (IntKind.i64.wrap (t + r1)) (IntKind.i64.wrap (IntKind.i64.wrap (t + r1) + r8))
        rw [h5]; simp only [Option.bind_some]
        split
        · exact rec_ _ _ _ hd8 hb'
        · exact rec_ _ _ _ hd8 hb
      · obtain ⟨r6, d6, e6, b6, b6', hd6⟩ := c19_ok K hd2 (n := (n : Int)) (by omega) (by omega)
        rw [e6]; simp only [Option.bind_some]
        obtain ⟨l7, d7, e7, hd7, hl7, hx7⟩ := c20_ok (K := K) (n := m.1.length) (by omega) (by omega) hd6
        rw [e7]; simp only [Option.bind_some]
        obtain ⟨r8, d8, e8, b8, b8', hd8⟩ := c19_ok K hd7 (n := 40) (by decide) (by decide)
        rw [e8]; simp only [Option.bind_some]
        have w1 : IntKind.i64.wrap (2 * r6) = 2 * r6 := wrap_id (by omega) (by omega)
        have w2 : IntKind.i64.wrap (3 + 2 * r6) = 3 + 2 * r6 := wrap_id (by omega) (by omega)
        rw [w1, w2]
        obtain ⟨b', e, h5, hb'⟩ := c64_ok hK hm (by omega) hb (Tn_mem ⟨b6, b6'⟩) (l := l7) (by omega) hx7 (IntKind.i64.wrap (t + r1)) (IntKind.i64.wrap (IntKind.i64.wrap (t + r1) + 50)) r8
        rw [h5]; simp only [Option.bind_some]
        split
        · exact rec_ _ _ _ hd8 hb'
        · exact rec_ _ _ _ hd8 hb

theorem c17_4 {K : Nat} (hK : KK ≤ K) {m : Ag29} (hm : MOk m) {n : Nat} (h1 : 1 ≤ n) (h3 : n ≤ 3) {x4 : Ag33} : (k i q : Nat) → (d : Dc) → (s : List Int) → i + k = n → k < q → DOk d → s.length = i → (∀ x ∈ s, 0 ≤ x ∧ x < (m.1.length : Int)) → ∃ b' d', m17_4 K q d m x4 (n : Int) (Tn i) s (i : Int) = some (b', d', ()) ∧ DOk d' ∧ BOk m.1.length (Tn n) b'
  | 0, i, q, d, s, hi, hq, hd, hs, hx => by
    obtain ⟨q, rfl⟩ : ∃ j, q = j + 1 := ⟨q - 1, by omega⟩
    have hK' : 17592186044416 ≤ K := hK
    have e : i = n := by omega
    subst e
    rw [m17_4_eq, if_neg (by simp)]
    obtain ⟨r2, d2, e2, b2, b2', hd2⟩ := c19_ok K hd (n := 100) (by decide) (by decide)
    rw [e2]; simp only [Option.bind_some]
    obtain ⟨b, e, hb⟩ := c61_ok hK hm h1 h3 hs hx (t := r2) ⟨b2, by omega⟩
    rw [e]; simp only [Option.bind_some]
    obtain ⟨r4, d4, e4, b4, b4', hd4⟩ := c19_ok K hd2 (n := 5) (by decide) (by decide)
    rw [e4]; simp only [Option.bind_some]
    have := c17_10 hK hm h1 h3 (x4 := x4) r4.toNat K d4 b 100 (by omega) (by omega) hd4 hb
    rw [Int.toNat_of_nonneg b4] at this
    exact this
  | k + 1, i, q, d, s, hi, hq, hd, hs, hx => by
    obtain ⟨q, rfl⟩ : ∃ j, q = j + 1 := ⟨q - 1, by omega⟩
    have hp2 := hm.p2
    have hp7 := hm.p7
    have hl := Tn_len i
    rw [m17_4_eq, wsucc (by omega), if_pos (by simp; omega), if_pos (lt8 (by simp; omega))]
    obtain ⟨r1, d1, e1, b1, b1', hd1⟩ := c19_ok K hd (n := (m.1.length : Int)) (by omega) (by omega)
    rw [e1]; simp only [Option.bind_some]
    rw [if_pos (lt8 (by simp; omega))]
    have w1 : IntKind.i64.wrap ((i : Int) * 2) = (i : Int) * 2 := wrap_id (by omega) (by omega)
    have w2 : IntKind.i64.wrap (3 + (i : Int) * 2) = 3 + 2 * (i : Int) := by rw [wrap_id (by omega) (by omega)]; omega
    rw [w1, w2, ← Tn_succ]
    exact c17_4 hK hm h1 h3 k (i + 1) q d1 (s ++ [r1]) (by omega) (by omega) hd1 (by simp [hs]) (fun x hx' => by
      rcases List.mem_append.1 hx' with hx' | hx'
      · exact hx x hx'
      · simp only [List.mem_singleton] at hx'; rw [hx']; exact ⟨b1, b1'⟩)

/-- A made belief. -/
theorem c17_ok {K : Nat} (hK : KK ≤ K) {m : Ag29} (hm : MOk m) {d : Dc} (hd : DOk d) : ∃ n b d', c17 K d m = some (b, d', ()) ∧ DOk d' ∧ 1 ≤ n ∧ n ≤ 3 ∧ BOk m.1.length (Tn n) b := by
  have hK' : 17592186044416 ≤ K := hK
  rw [c17_eq]
  obtain ⟨r1, d1, e1, b1, b1', hd1⟩ := c19_ok K hd (n := 3) (by decide) (by decide)
  rw [e1]; simp only [Option.bind_some]
  have w : IntKind.i64.wrap (1 + r1) = ((1 + r1.toNat : Nat) : Int) := by rw [wrap_id (by omega) (by omega)]; omega
  rw [w]
  obtain ⟨b, d', h1, h2, h3⟩ := c17_4 hK hm (n := 1 + r1.toNat) (by omega) (by omega) (x4 := z33) (1 + r1.toNat) 0 K d1 [] (by omega) (by omega) hd1 rfl (by simp)
  exact ⟨1 + r1.toNat, b, d', h1, h2, by omega, by omega, h3⟩

/-- The greatest time. -/
theorem c18_ok {K : Nat} (hK : 1000 ≤ K) {n : Nat} {T : List Int} (hT : T.length < 900) {b : Ag33} (h : BOk n T b) : ∃ t, c18 K b = some (t, ()) := by
  have h24 := h.l24
  rw [c18_eq]
  have inner : ∀ (i : Nat), i < b.1.length → ∀ (q : Nat) (t : Int), ∃ t', m18_6 K q K b t (i : Int) 0 = m18_3 K q b t' ((i + 1 : Nat) : Int) := by
    intro i hi q t
    have hx := h.w _ (mem_getD (d := z42) hi)
    obtain ⟨r, hr, t', ht⟩ := loopT (L := fun k (s : Nat × Int) => some (m18_6 K q k b s.2 (i : Int) (s.1 : Int))) (fun s => s.1 ≤ T.length) (fun s => T.length - s.1) (fun r => ∃ t', r = m18_3 K q b t' ((i + 1 : Nat) : Int)) (fun k s hs => by
      obtain ⟨j, t⟩ := s
      simp only at hs ⊢
      rw [m18_6_eq, if_pos (inb hi), Int.toNat_natCast]
      by_cases hj : j < T.length
      · have e : (j : Int) < (((b.1.getD i z42).2.1.length : Nat) : Int) := by rw [hx.w]; omega
        rw [wsucc (i := j) (by omega), if_pos (by simpa using e), if_pos (inb hi), if_pos (inb (by rw [hx.w]; exact hj))]
        exact .inr ⟨(j + 1, _), by show j + 1 ≤ T.length; omega, by show T.length - (j + 1) < T.length - j; omega, rfl⟩
      · have e : ¬ (j : Int) < (((b.1.getD i z42).2.1.length : Nat) : Int) := by rw [hx.w]; omega
        rw [if_neg (by simpa using e), wsucc (i := i) (by omega)]
        exact .inl ⟨_, rfl, t, rfl⟩) T.length (0, t) K (by show T.length - 0 ≤ T.length; omega) (by show 0 ≤ T.length; omega) (by omega)
    simp only [Option.some.injEq] at hr
    exact ⟨t', hr.trans ht⟩
  have h := loopT (L := fun k (s : Nat × Int) => m18_3 K k b s.2 (s.1 : Int)) (fun s => s.1 ≤ b.1.length) (fun s => b.1.length - s.1) (fun _ => True) (fun k s hs => by
    obtain ⟨i, t⟩ := s
    simp only at hs ⊢
    rw [m18_3_eq]
    by_cases hi : i < b.1.length
    · rw [if_pos (by simp; omega)]
      obtain ⟨t', ht⟩ := inner i hi k t
      exact .inr ⟨(i + 1, t'), by show i + 1 ≤ b.1.length; omega, by show b.1.length - (i + 1) < b.1.length - i; omega, ht⟩
    · rw [if_neg (by simp; omega)]
      exact .inl ⟨(t, ()), rfl, trivial⟩) b.1.length (0, 0) K (by show b.1.length - 0 ≤ b.1.length; omega) (by show 0 ≤ b.1.length; omega) (by omega)
  obtain ⟨r, hr, _⟩ := h
  exact ⟨r.1, hr⟩
end Fs
