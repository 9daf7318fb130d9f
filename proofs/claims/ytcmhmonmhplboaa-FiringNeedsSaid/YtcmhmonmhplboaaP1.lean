/- The law in plain Lean: it answers true. No condition. -/
import Derived.Test.YtcmhmonmhplboaaC3
set_option linter.all false
set_option linter.unusedVariables false
set_option linter.unusedSimpArgs false
set_option linter.unnecessarySimpa false
set_option autoImplicit true
set_option relaxedAutoImplicit true
/- Plain lemmas for the shallow functions: loops, integers, rows. -/
open Go Go.Ev
namespace Fs

theorem wrap_id {x : Int} (h : -9223372036854775808 ≤ x) (h' : x ≤ 9223372036854775807) : IntKind.i64.wrap x = x := by
  simp only [IntKind.wrap, IntKind.signed, IntKind.bits, Bool.true_and]
  by_cases hx : x % 2 ^ 64 ≥ 2 ^ (64 - 1)
  · rw [if_pos (by simpa using hx)]; omega
  · rw [if_neg (by simpa using hx)]; omega
theorem LIM8 : LIM 8 = 17592186044416 := rfl

/-- A loop that looks at one place after the other. -/
theorem scanN {α : Type} {L : Nat → Nat → Option α} {len : Nat} {ex : Nat → Option α} {T : Option α}
    (hstep : ∀ k i, i < len → L (k + 1) i = match ex i with | some r => some r | none => L k (i + 1)) (hend : ∀ k, L (k + 1) len = T) :
    ∀ d i k, i + d = len → d < k → L k i = ((List.range' i d).findSome? ex).or T := by
  intro d
  induction d with
  | zero =>
    intro i k hi hk
    obtain ⟨k, rfl⟩ : ∃ j, k = j + 1 := ⟨k - 1, by omega⟩
    have : i = len := by omega
    subst this
    rw [hend]; rfl
  | succ d ih =>
    intro i k hi hk
    obtain ⟨k, rfl⟩ : ∃ j, k = j + 1 := ⟨k - 1, by omega⟩
    rw [hstep k i (by omega), List.range'_succ, List.findSome?_cons]
    cases ex i with
    | some r => rfl
    | none => exact ih (i + 1) k (by omega) (by omega)

/-- All places hold: a loop that ends with false at the first that does not. -/
theorem scanAll {L : Nat → Nat → Option (Bool × Unit)} {len : Nat} {bad : Nat → Bool}
    (hstep : ∀ k i, i < len → L (k + 1) i = if bad i = true then some (false, ()) else L k (i + 1)) (hend : ∀ k, L (k + 1) len = some (true, ())) (k : Nat) (hk : len < k) :
    L k 0 = some ((List.range len).all fun i => !bad i, ()) := by
  have h := scanN (L := L) (len := len) (ex := fun i => if bad i = true then some (false, ()) else none) (T := some (true, ())) (fun k i hi => by
    rw [hstep k i hi]; cases bad i <;> rfl) hend len 0 k (by omega) hk
  rw [h, ← List.range_eq_range']
  generalize List.range len = r
  induction r with
  | nil => rfl
  | cons i r ih =>
    rw [List.findSome?_cons, List.all_cons]
    cases bad i with
    | true => rfl
    | false => simpa using ih

theorem getD_get {α : Type} {l : List α} {i : Nat} {d : α} (h : i < l.length) : l.getD i d = l[i] := by
  simp [List.getD, h]

end Fs

/- Layer 33 in plain Lean. -/
open Go Go.Ev
namespace Fs

/-- Strictly ascending, between lo and hi. -/
def risingAt (l : List Int) (lo hi : Int) (j : Nat) : Bool := decide (lo ≤ l.getD j 0) && (decide (l.getD j 0 ≤ hi) && (j == 0 || decide (l.getD (j - 1) 0 < l.getD j 0)))
def rising (l : List Int) (lo hi : Int) : Bool := (List.range l.length).all (risingAt l lo hi)

theorem c92_ok {K : Nat} {l : List Int} (hl : l.length < 1000) (hK : 1000 ≤ K) (lo hi : Int) : c92 K l lo hi = some (rising l lo hi, ()) := by
  rw [c92_eq]
  have h := scanAll (L := fun k i => m92_2 K k l lo hi l (l.length : Int) (i : Int)) (len := l.length) (bad := fun i => !risingAt l lo hi i) (fun k i hi' => by
    rw [m92_2_eq]
    have e1 : IntKind.i64.wrap ((i : Int) - 1) = (i : Int) - 1 := wrap_id (by omega) (by omega)
    have e2 : IntKind.i64.wrap ((i : Int) + 1) = ((i + 1 : Nat) : Int) := by rw [wrap_id (by omega) (by omega)]; omega
    rw [e1, e2]
    have e3 : ((i : Int) - 1).toNat = i - 1 := by omega
    rw [e3, Int.toNat_natCast]
    unfold risingAt
    generalize l.getD i 0 = a
    generalize l.getD (i - 1) 0 = b
    grind) (fun k => by
    rw [m92_2_eq]; simp) K (by omega)
  simp only [Bool.not_not] at h
  exact h

theorem c93_ok (K : Nat) (n a b : Int) : c93 K n a b = some (decide (a ≤ n) && decide (n ≤ b), ()) := by
  rw [c93_eq]; grind

/-- The first place of a row where p holds. -/
theorem c139_ok {K : Nat} {l : List Int} (hl : l.length < 1000) (hK : 1000 ≤ K) {g : Int × Unit → Option (Bool × Unit)} {p : Int → Bool} (hg : ∀ x, g (x, ()) = some (p x, ())) :
    c139 K l g = some (match (List.range l.length).find? (fun i => p (l.getD i 0)) with | some i => (i : Int) | none => -1, ()) := by
  rw [c139_eq]
  have h := scanN (L := fun k i => m139_2 K k l g (l.length : Int) (i : Int)) (len := l.length) (ex := fun i => if p (l.getD i 0) then some ((i : Int), ()) else none) (T := some (-1, ())) (fun k i hi' => by
    rw [m139_2_eq]
    have e2 : IntKind.i64.wrap ((i : Int) + 1) = ((i + 1 : Nat) : Int) := by rw [wrap_id (by omega) (by omega)]; omega
    rw [e2, Int.toNat_natCast, hg]
    grind) (fun k => by rw [m139_2_eq]; simp) l.length 0 K (by omega) (by omega)
  refine h.trans ?_
  rw [← List.range_eq_range']
  generalize List.range l.length = r
  induction r with
  | nil => rfl
  | cons i r ih =>
    rw [List.findSome?_cons, List.find?_cons]
    cases p (l.getD i 0) with
    | true => rfl
    | false => simpa using ih
theorem any_range (l : List Int) (p : Int → Bool) : ((List.range l.length).find? (fun i => p (l.getD i 0))).isSome = l.any p := by
  rw [Bool.eq_iff_iff, List.find?_isSome]
  simp only [List.any_eq_true, List.mem_range]
  constructor
  · rintro ⟨i, hi, h⟩
    exact ⟨l[i], List.getElem_mem hi, by rwa [getD_get hi] at h⟩
  · rintro ⟨x, hx, h⟩
    obtain ⟨i, hi, rfl⟩ := List.mem_iff_getElem.1 hx
    exact ⟨i, hi, by rwa [getD_get hi]⟩
theorem c107_ok {K : Nat} {l : List Int} (hl : l.length < 1000) (hK : 1000 ≤ K) {g : Int × Unit → Option (Bool × Unit)} {p : Int → Bool} (hg : ∀ x, g (x, ()) = some (p x, ())) : c107 K l g = some (l.any p, ()) := by
  rw [c107_eq, c139_ok hl hK hg, ← any_range]
  cases (List.range l.length).find? (fun i => p (l.getD i 0)) with
  | none => rfl
  | some i => simp

abbrev Ks := (List Int) × (List Int) × Bool × Unit
def boxed (k : Ks) : Bool := k.2.1.all (· == 2)
def roadsOk (l : List Int) : Bool := decide (1 ≤ l.length) && (decide (l.length ≤ 12) && rising l 0 127)
def valid (k : Ks) : Bool := roadsOk k.1 && (k.2.1.length == k.1.length && (k.2.1.all (fun n => decide (0 ≤ n) && decide (n ≤ 2)) && (!k.2.2.1 || boxed k)))
/-- The lists are not too long. -/
def Short (k : Ks) : Prop := k.1.length < 1000 ∧ k.2.1.length < 1000

theorem c102_ok {K : Nat} {l : List Int} (hl : l.length < 1000) (hK : 1000 ≤ K) : c102 K l = some (roadsOk l, ()) := by
  rw [c102_eq, c93_ok, c92_ok hl hK]
  unfold roadsOk
  generalize rising l 0 127 = b
  have e1 : ((1 : Int) ≤ (l.length : Int)) ↔ 1 ≤ l.length := by omega
  have e2 : ((l.length : Int) ≤ 12) ↔ l.length ≤ 12 := by omega
  simp only [e1, e2, Option.bind_some]
  generalize decide (1 ≤ l.length) = x
  generalize decide (l.length ≤ 12) = y
  cases x <;> cases y <;> cases b <;> rfl
theorem c108_ok {K : Nat} {k : Ks} (hk : Short k) (hK : 1000 ≤ K) : c108 K k = some (boxed k, ()) := by
  rw [c108_eq, c107_ok (p := fun n => n != 2) hk.2 hK (fun x => by rw [c140_eq])]
  have : (!k.2.1.any fun n => n != 2) = boxed k := by
    unfold boxed
    rw [List.not_any_eq_all_not]
    congr 1
    funext n
    simp [bne]
  simp [this]
theorem c58_ok {K : Nat} {k : Ks} (hk : Short k) (hK : 1000 ≤ K) : c58 K k = some (valid k, ()) := by
  rw [c58_eq, c102_ok hk.1 hK]
  simp only [Option.bind_some]
  rw [c107_ok (p := fun n => !(decide (0 ≤ n) && decide (n ≤ 2))) hk.2 hK (fun x => by rw [c106_eq, c93_ok]; rfl), c108_ok hk hK]
  have h := List.not_any_eq_all_not (l := k.2.1) (p := fun n => !(decide ((0 : Int) ≤ n) && decide (n ≤ 2)))
  simp only [Bool.not_not] at h
  unfold valid
  rw [← h]
  have hlen : (((k.2.1.length : Int)) == (k.1.length : Int)) = (k.2.1.length == k.1.length) := by rw [Bool.eq_iff_iff]; simp; omega
  rw [hlen]
  generalize k.2.1.any _ = x
  generalize (k.2.1.length == k.1.length) = y
  generalize k.2.2.1 = z
  generalize boxed k = u
  generalize roadsOk k.1 = v
  cases x <;> cases y <;> cases z <;> cases u <;> cases v <;> rfl

end Fs

/- Layer 33 in plain Lean: the steps. -/
open Go Go.Ev
namespace Fs

theorem c136_ok {K : Nat} {l : List Int} (hl : l.length < 1000) (hK : 1000 ≤ K) (n : Int) : c136 K l n = some (rising l 0 (n - 1), ()) := by
  rw [c136_eq]
  have h := scanAll (L := fun k i => m136_2 K k l n (i : Int)) (len := l.length) (bad := fun i => !risingAt l 0 (n - 1) i) (fun k i hi' => by
    rw [m136_2_eq]
    have e1 : IntKind.i64.wrap ((i : Int) - 1) = (i : Int) - 1 := wrap_id (by omega) (by omega)
    have e2 : IntKind.i64.wrap ((i : Int) + 1) = ((i + 1 : Nat) : Int) := by rw [wrap_id (by omega) (by omega)]; omega
    rw [e1, e2]
    have e3 : ((i : Int) - 1).toNat = i - 1 := by omega
    rw [e3, Int.toNat_natCast]
    unfold risingAt
    generalize l.getD i 0 = a
    generalize l.getD (i - 1) 0 = b
    grind) (fun k => by
    rw [m136_2_eq]; simp) K (by omega)
  simp only [Bool.not_not] at h
  exact h

theorem all_range (l : List Int) (p : Int → Bool) : ((List.range l.length).all (fun i => p (l.getD i 0))) = l.all p := by
  rw [Bool.eq_iff_iff]
  simp only [List.all_eq_true, List.mem_range]
  constructor
  · intro h x hx
    obtain ⟨i, hi, rfl⟩ := List.mem_iff_getElem.1 hx
    have := h i hi
    rwa [getD_get hi] at this
  · intro h i hi
    rw [getD_get hi]
    exact h _ (List.getElem_mem hi)

theorem c94_ok {K : Nat} {k : Ks} (hk : Short k) (hK : 1000 ≤ K) : c94 K k = some (valid k, ()) := by
  rw [c94_eq, c136_ok hk.1 hK]
  have h := scanAll (L := fun q i => m94_4 K q k (i : Int)) (len := k.2.1.length) (bad := fun i => !((decide (0 ≤ k.2.1.getD i 0) && decide (k.2.1.getD i 0 ≤ 2)) && (!k.2.2.1 || k.2.1.getD i 0 == 2))) (fun q i hi' => by
    rw [m94_4_eq]
    have hl := hk.2
    have e2 : IntKind.i64.wrap ((i : Int) + 1) = ((i + 1 : Nat) : Int) := by rw [wrap_id (by omega) (by omega)]; omega
    rw [e2, Int.toNat_natCast]
    generalize k.2.1.getD i 0 = a
    generalize k.2.2.1 = z
    grind) (fun q => by rw [m94_4_eq]; simp) K (by have := hk.2; omega)
  simp only [Bool.not_not] at h
  rw [all_range k.2.1 (fun n => (decide (0 ≤ n) && decide (n ≤ 2)) && (!k.2.2.1 || n == 2))] at h
  have h' : m94_4 K K k 0 = _ := h
  rw [h']
  have hall : (k.2.1.all fun n => (decide (0 ≤ n) && decide (n ≤ 2)) && (!k.2.2.1 || n == 2)) = (k.2.1.all (fun n => decide (0 ≤ n) && decide (n ≤ 2)) && (!k.2.2.1 || boxed k)) := by
    unfold boxed
    generalize k.2.1 = l
    generalize k.2.2.1 = z
    induction l with
    | nil => simp
    | cons a l ih =>
      simp only [List.all_cons, ih]
      cases z <;> simp
      grind
  rw [hall]
  unfold valid roadsOk
  have e1 : ((k.1.length : Int) < 1) ↔ ¬ 1 ≤ k.1.length := by omega
  have e2 : ((k.1.length : Int) > 12) ↔ ¬ k.1.length ≤ 12 := by omega
  have hlen : (((k.2.1.length : Int)) != (k.1.length : Int)) = !(k.2.1.length == k.1.length) := by rw [Bool.eq_iff_iff]; simp; omega
  rw [hlen]
  simp only [e1, e2]
  generalize k.2.1.all (fun n => decide (0 ≤ n) && decide (n ≤ 2)) = x
  generalize (k.2.1.length == k.1.length) = y
  generalize k.2.2.1 = z
  generalize boxed k = u
  have : (128 : Int) - 1 = 127 := rfl
  rw [this]
  generalize rising k.1 0 127 = v
  by_cases h1 : 1 ≤ k.1.length <;> by_cases h2 : k.1.length ≤ 12 <;> simp only [h1, h2] <;> cases x <;> cases y <;> cases z <;> cases u <;> cases v <;> rfl

theorem c103_ok {K : Nat} {l : List Int} (h0 : 0 < l.length) (hl : l.length < 1000) : c103 K l = some (l, ()) := by
  rw [c103_eq, LIM8]
  have h1 : (0 : Int) < (l.length : Int) := by omega
  have h2 : l.length < 17592186044416 := by omega
  simp [h1, h2, h0]
theorem c50_ok {K : Nat} {k : Ks} (hk : Short k) : c50 K k = some (k, ()) := by
  rw [c50_eq, LIM8]
  have h1 := hk.1
  have h2 := hk.2
  have h3 : k.1.length < 17592186044416 := by omega
  have h4 : k.2.1.length < 17592186044416 := by omega
  simp [h3, h4]
theorem valid_len {k : Ks} (h : valid k = true) : 0 < k.1.length ∧ 0 < k.2.1.length ∧ k.2.1.length = k.1.length := by
  unfold valid roadsOk at h
  simp only [Bool.and_eq_true, decide_eq_true_eq, beq_iff_eq] at h
  omega
theorem c138_ok {K : Nat} {k : Ks} (hk : Short k) (hv : valid k = true) : c138 K k = some (k, ()) := by
  have h := valid_len hv
  rw [c138_eq, c103_ok h.1 hk.1]
  simp only [Option.bind_some]
  rw [c103_ok h.2.1 hk.2]
  rfl

/-- A key is moved. -/
def mv (k : Ks) (i a b : Int) : Ks × Int :=
  if valid k then
    if i < 0 ∨ (k.2.1.length : Int) ≤ i then (k, 47)
    else if k.2.1.getD i.toNat 0 ≠ a ∨ k.2.2.1 = true then (k, 48)
    else ((k.1, k.2.1.set i.toNat b, k.2.2.1, ()), 0)
  else (k, 6)
theorem c104_ok {K : Nat} {k : Ks} (hk : Short k) (hK : 1000 ≤ K) (i a b : Int) : c104 K k i a b = some ((mv k i a b).1, (mv k i a b).2, ()) := by
  rw [c104_eq, c58_ok hk hK]
  unfold mv
  cases hv : valid k with
  | false => simp
  | true =>
    simp only [Option.bind_some]
    rw [c93_ok, c138_ok hk hv]
    have h2 := hk.2
    have e : IntKind.i64.wrap ((k.2.1.length : Int) - 1) = (k.2.1.length : Int) - 1 := wrap_id (by omega) (by omega)
    rw [e]
    generalize k.2.1.getD i.toNat 0 = x
    grind
theorem c137_ok {K : Nat} {k : Ks} (hk : Short k) (hK : 1000 ≤ K) (i a b : Int) (free : Bool) (hf : valid k = true → k.2.1.getD i.toNat 0 = a → 0 ≤ i → i < (k.2.1.length : Int) → free = !k.2.2.1) : c137 K k i a b free = some ((mv k i a b).1, (mv k i a b).2, ()) := by
  rw [c137_eq, c50_ok hk]
  simp only [Option.bind_some]
  rw [c94_ok hk hK]
  unfold mv
  cases hv : valid k with
  | false => simp
  | true =>
    have hf := hf hv
    revert hf
    generalize k.2.1.getD i.toNat 0 = x
    generalize k.2.2.1 = z
    intro hf
    cases z <;> cases free <;> grind

/-- The firing key. -/
def tn (k : Ks) (o : Bool) : Ks × Int :=
  if valid k then (if k.2.2.1 = o ∨ (o = true ∧ boxed k = false) then (k, 48) else ((k.1, k.2.1, o, ()), 0)) else (k, 6)
theorem c105_ok {K : Nat} {k : Ks} (hk : Short k) (hK : 1000 ≤ K) (o : Bool) : c105 K k o = some ((tn k o).1, (tn k o).2, ()) := by
  rw [c105_eq, c58_ok hk hK]
  unfold tn
  cases hv : valid k with
  | false => simp
  | true =>
    rw [c108_ok hk hK]
    simp only [Option.bind_some]
    rw [c138_ok hk hv]
    generalize boxed k = u
    obtain ⟨r, q, z, w⟩ := k
    cases z <;> cases o <;> cases u <;> rfl

end Fs

/- Layer 33 in plain Lean: all steps; equality. -/
open Go Go.Ev
namespace Fs

theorem c100_ok {K : Nat} {k : Ks} (hk : Short k) (hK : 1000 ≤ K) : c100 K k = some ((tn k true).1, (tn k true).2, ()) := by
  rw [c100_eq, c50_ok hk]
  simp only [Option.bind_some]
  rw [c94_ok hk hK]
  simp only [Option.bind_some]
  have hl := hk.2
  have h := scanN (L := fun q i => m100_5 K q k ([], [], false, ()) (i : Int)) (len := k.2.1.length) (ex := fun i => if k.2.1.getD i 0 ≠ 2 then some (k, 48, ()) else none)
    (T := if k.2.2.1 = true then some (k, 48, ()) else some ((k.1, k.2.1, true, ()), 0, ())) (fun q i hi' => by
    rw [m100_5_eq]
    have e2 : IntKind.i64.wrap ((i : Int) + 1) = ((i + 1 : Nat) : Int) := by rw [wrap_id (by omega) (by omega)]; omega
    rw [e2, Int.toNat_natCast]
    generalize k.2.1.getD i 0 = a
    grind) (fun q => by rw [m100_5_eq]; simp) k.2.1.length 0 K (by omega) (by omega)
  have h' : m100_5 K K k ([], [], false, ()) 0 = _ := h
  rw [h']
  have hb : ((List.range' 0 k.2.1.length).findSome? (fun i => if k.2.1.getD i 0 ≠ 2 then some (k, (48 : Int), ()) else none)).or (if k.2.2.1 = true then some (k, 48, ()) else some ((k.1, k.2.1, true, ()), 0, ())) =
      if boxed k = true then (if k.2.2.1 = true then some (k, 48, ()) else some ((k.1, k.2.1, true, ()), 0, ())) else some (k, 48, ()) := by
    have hbx : boxed k = (List.range' 0 k.2.1.length).all (fun i => k.2.1.getD i 0 == 2) := by
      unfold boxed
      rw [← List.range_eq_range', all_range k.2.1 (fun n => n == 2)]
    rw [hbx]
    generalize List.range' 0 k.2.1.length = r
    induction r with
    | nil => rfl
    | cons i r ih =>
      rw [List.findSome?_cons, List.all_cons]
      by_cases hi : k.2.1.getD i 0 = 2
      · have hi2 : (k.2.1.getD i 0 == 2) = true := by simpa using hi
        rw [if_neg (by simpa using hi), hi2, Bool.true_and]
        exact ih
      · have hi2 : (k.2.1.getD i 0 == 2) = false := by simpa using hi
        rw [if_pos hi, hi2]
        rfl
  rw [hb]
  unfold tn
  cases hv : valid k with
  | false => rfl
  | true =>
    generalize boxed k = u
    obtain ⟨r, q, z, w⟩ := k
    cases z <;> cases u <;> rfl
theorem c101_ok {K : Nat} {k : Ks} (hk : Short k) (hK : 1000 ≤ K) : c101 K k = some ((tn k false).1, (tn k false).2, ()) := by
  rw [c101_eq, c50_ok hk]
  simp only [Option.bind_some]
  rw [c94_ok hk hK]
  unfold tn
  cases hv : valid k with
  | false => rfl
  | true =>
    obtain ⟨r, q, z, w⟩ := k
    cases z <;> rfl

/-- Each step, by its number. -/
def stp (k : Ks) (w i : Int) : Ks × Int :=
  if w = 0 then mv k i 0 1 else if w = 1 then mv k i 1 2 else if w = 2 then mv k i 2 1 else if w = 3 then mv k i 1 0 else if w = 4 then tn k true else tn k false
theorem valid_out {k : Ks} (h : valid k = true) (ho : k.2.2.1 = true) : ∀ i, i < k.2.1.length → k.2.1.getD i 0 = 2 := by
  unfold valid boxed at h
  simp only [Bool.and_eq_true, Bool.or_eq_true, ho, Bool.not_true, Bool.false_eq_true, false_or, List.all_eq_true, beq_iff_eq] at h
  intro i hi
  rw [getD_get hi]
  exact h.2.2.2 _ (List.getElem_mem hi)
theorem c49_ok {K : Nat} {k : Ks} (hk : Short k) (hK : 1000 ≤ K) (w i : Int) : c49 K k w i = some ((stp k w i).1, (stp k w i).2, (stp k w i).1, (stp k w i).2, ()) := by
  have free : ∀ a, a ≠ 2 → valid k = true → k.2.1.getD i.toNat 0 = a → 0 ≤ i → i < (k.2.1.length : Int) → true = !k.2.2.1 := by
    intro a ha hv hx h0 h1
    cases ho : k.2.2.1 with
    | false => rfl
    | true => exact absurd ((valid_out hv ho i.toNat (by omega)).symm.trans hx).symm ha
  rw [c49_eq, c52_eq, c53_eq, c54_eq, c55_eq, c56_eq, c57_eq, c96_eq, c97_eq, c98_eq, c99_eq]
  simp only [c104_ok hk hK, c105_ok hk hK, c100_ok hk hK, c101_ok hk hK, Option.bind_some]
  rw [c137_ok hk hK i 0 1 true (free 0 (by decide)), c137_ok hk hK i 1 2 true (free 1 (by decide)), c137_ok hk hK i 2 1 _ (fun _ _ _ _ => rfl), c137_ok hk hK i 1 0 true (free 1 (by decide))]
  unfold stp
  simp only [beq_iff_eq, Option.bind_some]
  split
  · rfl
  · split
    · rfl
    · split
      · rfl
      · split
        · rfl
        · split <;> rfl

theorem c27_ok {K : Nat} {a b : List Int} (ha : a.length < 1000) (hK : 1000 ≤ K) : c27 K a b = some (decide (a = b), ()) := by
  rw [c27_eq]
  by_cases hl : a.length = b.length
  · have e : (((a.length : Int)) != (b.length : Int)) = false := by simp [hl]
    rw [e]
    have h := scanAll (L := fun q i => m27_4 K q a b (i : Int)) (len := a.length) (bad := fun i => !(a.getD i 0 == b.getD i 0)) (fun q i hi' => by
      rw [m27_4_eq]
      have e2 : IntKind.i64.wrap ((i : Int) + 1) = ((i + 1 : Nat) : Int) := by rw [wrap_id (by omega) (by omega)]; omega
      rw [e2, Int.toNat_natCast]
      generalize a.getD i 0 = x
      generalize b.getD i 0 = y
      grind) (fun q => by rw [m27_4_eq]; simp) K (by omega)
    simp only [Bool.not_not] at h
    have h' : m27_4 K K a b 0 = _ := h
    rw [if_neg (by simp), h']
    congr 2
    rw [Bool.eq_iff_iff]
    simp only [List.all_eq_true, List.mem_range, beq_iff_eq, decide_eq_true_eq]
    constructor
    · intro h
      apply List.ext_getElem hl
      intro i h1 h2
      have := h i h1
      rwa [getD_get h1, getD_get h2] at this
    · rintro rfl i _
      rfl
  · have e : (((a.length : Int)) != (b.length : Int)) = true := by simp; omega
    rw [e, if_pos rfl]
    have : ¬ a = b := fun h => hl (by rw [h])
    simp [this]
theorem c60_ok {K : Nat} {a b : Ks} (ha : Short a) (hK : 1000 ≤ K) : c60 K a b = some (decide (a = b), ()) := by
  rw [c60_eq, c27_ok ha.1 hK]
  simp only [Option.bind_some]
  rw [c27_ok ha.2 hK]
  obtain ⟨r, q, z, w⟩ := a
  obtain ⟨r2, q2, z2, w2⟩ := b
  by_cases h1 : r = r2 <;> by_cases h2 : q = q2 <;> cases z <;> cases z2 <;> simp [h1, h2]

/-- An element is put in behind all that are not greater, from the end on. -/
def insAt (l : List Int) (x : Int) : Nat → Nat
  | 0 => 0
  | n + 1 => if l.getD n 0 > x then insAt l x n else n + 1
def ins (l : List Int) (x : Int) : List Int := l.take (insAt l x l.length) ++ [x] ++ l.drop (insAt l x l.length)
def isort (l : List Int) : List Int := l.foldl ins []
theorem insAt_le (l : List Int) (x : Int) (n : Nat) : insAt l x n ≤ n := by
  induction n with
  | zero => exact Nat.le_refl _
  | succ n ih =>
    unfold insAt
    split
    · omega
    · exact Nat.le_refl _
theorem ins_length (l : List Int) (x : Int) : (ins l x).length = l.length + 1 := by
  have := insAt_le l x l.length
  simp [ins]
  omega
theorem foldl_ins_length (l : List Int) : (a : List Int) → (l.foldl ins a).length = a.length + l.length := by
  induction l with
  | nil => intro a; simp
  | cons x l ih => intro a; rw [List.foldl_cons, ih, ins_length, List.length_cons]; omega
theorem isort_length (l : List Int) : (isort l).length = l.length := by
  rw [isort, foldl_ins_length]; simp

end Fs

/- Layer 33 in plain Lean: sorting. -/
open Go Go.Ev
namespace Fs

theorem c163_ok (K : Nat) (a b : Int) : c163 K a b = some (decide (a < b), ()) := by
  rw [c163_eq, c176_eq, c176_eq]
  simp
theorem swap_rows (a d : List Int) (x y : Int) : ((a ++ [y] ++ [x] ++ d).set (a.length + 1) y).set a.length x = a ++ [x] ++ [y] ++ d := by
  simp [List.set_append]
theorem getD_mid (a d : List Int) (x : Int) : (a ++ [x] ++ d).getD a.length 0 = x := by
  simp [List.getD]
theorem split_at {P : List Int} {j : Nat} (h : j < P.length) : P.take (j + 1) = P.take j ++ [P.getD j 0] ∧ P.drop j = P.getD j 0 :: P.drop (j + 1) := by
  rw [getD_get h]
  exact ⟨List.take_succ_eq_append_getElem h, List.drop_eq_getElem_cons h⟩

theorem inner_ok {K k1 : Nat} {P R : List Int} {x : Int} {n : Int} (hn : P.length + 1 + R.length < 1000) : (j k2 : Nat) → j ≤ P.length → j < k2 →
    m157_4 K k1 k2 (P.take j ++ [x] ++ (P.drop j ++ R)) 0 n (P.length : Int) (j : Int) = m157_1 K k1 (P.take (insAt P x j) ++ [x] ++ (P.drop (insAt P x j) ++ R)) 0 n ((P.length + 1 : Nat) : Int) := by
  intro j
  have ei : IntKind.i64.wrap ((P.length : Int) + 1) = ((P.length + 1 : Nat) : Int) := by rw [wrap_id (by omega) (by omega)]; omega
  induction j with
  | zero =>
    intro k2 hj hk
    obtain ⟨k2, rfl⟩ : ∃ q, k2 = q + 1 := ⟨k2 - 1, by omega⟩
    rw [m157_4_eq, ei]
    simp [insAt]
  | succ j ih =>
    intro k2 hj hk
    obtain ⟨k2, rfl⟩ : ∃ q, k2 = q + 1 := ⟨k2 - 1, by omega⟩
    have ih := ih k2 (by omega) (by omega)
    have hs := split_at (P := P) (j := j) (by omega)
    have e1 : IntKind.i64.wrap (((j + 1 : Nat) : Int) - 1) = (j : Int) := by rw [wrap_id (by omega) (by omega)]; omega
    have hlen : (P.take (j + 1) ++ [x] ++ (P.drop (j + 1) ++ R)).length = P.length + 1 + R.length := by simp; omega
    have hx : (P.take (j + 1) ++ [x] ++ (P.drop (j + 1) ++ R)).getD (j + 1) 0 = x := by
      have := getD_mid (P.take (j + 1)) (P.drop (j + 1) ++ R) x
      rwa [List.length_take, Nat.min_eq_left hj] at this
    have hy : (P.take (j + 1) ++ [x] ++ (P.drop (j + 1) ++ R)).getD j 0 = P.getD j 0 := by
      rw [hs.1]
      have := getD_mid (P.take j) ([x] ++ (P.drop (j + 1) ++ R)) (P.getD j 0)
      rw [List.length_take, Nat.min_eq_left (by omega)] at this
      simpa using this
    have hset : ((P.take (j + 1) ++ [x] ++ (P.drop (j + 1) ++ R)).set (j + 1) (P.getD j 0)).set j x = P.take j ++ [x] ++ (P.drop j ++ R) := by
      rw [hs.1, hs.2]
      have := swap_rows (P.take j) (P.drop (j + 1) ++ R) x (P.getD j 0)
      rw [List.length_take, Nat.min_eq_left (by omega)] at this
      rw [this]; simp
    rw [m157_4_eq, e1, ei]
    simp only [Int.toNat_natCast, c163_ok, hx, hy, hset, List.length_set, hlen]
    have hp1 : ((j + 1 : Nat) : Int) > 0 := by omega
    have hp2 : (0 : Int) ≤ ((j + 1 : Nat) : Int) := by omega
    have hp3 : ((j + 1 : Nat) : Int) < ((P.length + 1 + R.length : Nat) : Int) := by omega
    have hp4 : (0 : Int) ≤ (j : Int) := by omega
    have hp5 : (j : Int) < ((P.length + 1 + R.length : Nat) : Int) := by omega
    simp only [hp1, hp2, hp3, hp4, hp5, decide_true, Bool.and_self, Bool.not_true, Bool.or_true, if_true, Option.bind_some]
    by_cases hc : x < P.getD j 0
    · have : insAt P x (j + 1) = insAt P x j := by simp only [insAt]; rw [if_pos hc]
      simp only [hc, decide_true, if_true, this]
      exact ih
    · have : insAt P x (j + 1) = j + 1 := by simp only [insAt]; rw [if_neg hc]
      simp only [hc, decide_false, Bool.false_eq_true, if_false, this]

theorem outer_ok {K : Nat} (hK : 1000 ≤ K) : (l P : List Int) → (k1 : Nat) → l.length < k1 → P.length + l.length < 1000 → m157_1 K k1 (P ++ l) 0 ((P.length + l.length : Nat) : Int) (P.length : Int) = some (l.foldl ins P, ()) := by
  intro l
  induction l with
  | nil =>
    intro P k1 hk hl
    obtain ⟨k1, rfl⟩ : ∃ q, k1 = q + 1 := ⟨k1 - 1, by omega⟩
    rw [m157_1_eq]
    simp
  | cons x l ih =>
    intro P k1 hk hl
    obtain ⟨k1, rfl⟩ : ∃ q, k1 = q + 1 := ⟨k1 - 1, by omega⟩
    simp only [List.length_cons] at hk hl ⊢
    rw [m157_1_eq]
    have h1 : (P.length : Int) < ((P.length + (l.length + 1) : Nat) : Int) := by omega
    simp only [h1, decide_true, if_true]
    have h := inner_ok (K := K) (k1 := k1) (P := P) (R := l) (x := x) (n := ((P.length + (l.length + 1) : Nat) : Int)) (by omega) P.length K (Nat.le_refl _) (by omega)
    simp only [List.take_length, List.drop_length, List.nil_append] at h
    have hP : P ++ x :: l = P ++ [x] ++ l := by simp
    rw [hP, h]
    have h2 := ih (ins P x) k1 (by omega) (by rw [ins_length]; omega)
    rw [ins_length] at h2
    have e : P.take (insAt P x P.length) ++ [x] ++ (P.drop (insAt P x P.length) ++ l) = ins P x ++ l := by simp [ins]
    have e3 : ((P.length + (l.length + 1) : Nat) : Int) = ((P.length + 1 + l.length : Nat) : Int) := by omega
    rw [e, e3, h2, List.foldl_cons]

theorem c157_ok {K : Nat} (hK : 1000 ≤ K) {l : List Int} (hl : l.length < 1000) : c157 K l 0 (l.length : Int) = some (isort l, ()) := by
  rw [c157_eq]
  have e : IntKind.i64.wrap ((0 : Int) + 1) = 1 := rfl
  rw [e]
  cases l with
  | nil =>
    obtain ⟨k, rfl⟩ : ∃ q, K = q + 1 := ⟨K - 1, by omega⟩
    rw [m157_1_eq]; rfl
  | cons x l =>
    have h := outer_ok hK l [x] K (by simp at hl; omega) (by simp at hl ⊢; omega)
    have e2 : (([x] : List Int).length + l.length : Nat) = (x :: l).length := by simp; omega
    rw [e2] at h
    exact h
theorem len_small (K : Nat) : (List.range 13).all (fun n => (c167 K (n : Nat)).isSome) = true := by kernel_rfl
theorem c109_ok {K : Nat} (hK : 1000 ≤ K) {l : List Int} (hl : l.length ≤ 12) : c109 K l = some (isort l, ()) := by
  rw [c109_eq, c142_eq]
  have e : IntKind.u64.wrap (l.length : Int) = (l.length : Int) := by
    simp only [IntKind.wrap, IntKind.signed, IntKind.bits, Bool.false_and, Bool.false_eq_true, if_false]
    omega
  rw [e]
  have h := List.all_eq_true.1 (len_small K) l.length (List.mem_range.2 (by omega))
  obtain ⟨r, hr⟩ := Option.isSome_iff_exists.1 h
  rw [hr]
  simp only [Option.bind_some]
  rw [c141_eq]
  obtain ⟨q, hq⟩ : ∃ q, K = q + 1 := ⟨K - 1, by omega⟩
  have h1 : m141_1000001 K K l 0 (l.length : Int) r.1 true true = some (isort l, ()) := by
    have h2 := m141_1000001_eq K q l 0 (l.length : Int) r.1 true true
    rw [← hq] at h2
    rw [h2]
    have e2 : IntKind.i64.wrap ((l.length : Int) - 0) = (l.length : Int) := by rw [wrap_id (by omega) (by omega)]; omega
    have h3 : (l.length : Int) ≤ 12 := by omega
    rw [e2, c157_ok hK (by omega)]
    simp [h3]
  rw [h1]
  rfl

end Fs

/- Layer 33 in plain Lean: what is locked; agreement. -/
open Go Go.Ev
namespace Fs

/-- The roads whose keys are not in their barriers. -/
def lockedR : List Int → List Int → List Int
  | r :: rs, q :: qs => if q ≠ 0 then r :: lockedR rs qs else lockedR rs qs
  | _, _ => []
theorem lockedR_nil (r : List Int) : lockedR r [] = [] := by cases r <;> rfl
theorem lockedR_length : (r q : List Int) → (lockedR r q).length ≤ r.length := by
  intro r
  induction r with
  | nil => intro q; simp [lockedR]
  | cons a r ih =>
    intro q
    cases q with
    | nil => simp [lockedR]
    | cons b q =>
      have := ih q
      simp only [lockedR]
      split
      · simp; omega
      · simp; omega
theorem drop_get {l : List Int} {i : Nat} (h : i < l.length) : l.drop i = l.getD i 0 :: l.drop (i + 1) := by
  rw [getD_get h]; exact List.drop_eq_getElem_cons h

theorem c59_loop {K : Nat} (hK : 1000 ≤ K) {k : Ks} (hk : k.1.length ≤ 12) (h2 : k.2.1.length < 1000) : (d i : Nat) → (out : List Int) → (q : Nat) → i + d = k.1.length → d < q → out.length ≤ i →
    m59_3 K q k out k.1 (k.1.length : Int) (i : Int) = some (isort (out ++ lockedR (k.1.drop i) (k.2.1.drop i)), ()) := by
  intro d
  induction d with
  | zero =>
    intro i out q hi hq ho
    obtain ⟨q, rfl⟩ : ∃ j, q = j + 1 := ⟨q - 1, by omega⟩
    rw [m59_3_eq]
    have e : k.1.drop i = [] := List.drop_eq_nil_of_le (by omega)
    have hlt : ¬ (i : Int) < (k.1.length : Int) := by omega
    rw [e, c109_ok hK (by omega)]
    simp [hlt, lockedR]
  | succ d ih =>
    intro i out q hi hq ho
    obtain ⟨q, rfl⟩ : ∃ j, q = j + 1 := ⟨q - 1, by omega⟩
    have e2 : IntKind.i64.wrap ((i : Int) + 1) = ((i + 1 : Nat) : Int) := by rw [wrap_id (by omega) (by omega)]; omega
    have h1 : (i : Int) < (k.1.length : Int) := by omega
    have h0 : (0 : Int) ≤ (i : Int) := by omega
    have hlim : out.length + 1 < 17592186044416 := by omega
    rw [m59_3_eq, e2, LIM8, Int.toNat_natCast, drop_get (l := k.1) (by omega)]
    have iha := ih (i + 1) (out ++ [k.1.getD i 0]) q (by omega) (by omega) (by simp; omega)
    have ihb := ih (i + 1) out q (by omega) (by omega) (by omega)
    by_cases hq : i < k.2.1.length
    · have hq' : (i : Int) < (k.2.1.length : Int) := by omega
      rw [drop_get (l := k.2.1) hq]
      by_cases hz : k.2.1.getD i 0 = 0
      · have hz2 : (k.2.1.getD i 0 != 0) = false := by simpa using hz
        simp only [h1, h0, hq', hz2, decide_true, Bool.and_self, Bool.not_true, Bool.false_or, Bool.false_eq_true, if_true, if_false, lockedR, hz, ne_eq, not_true_eq_false]
        exact ihb
      · have hz2 : (k.2.1.getD i 0 != 0) = true := by simpa using hz
        simp only [h1, h0, hq', hz2, decide_true, Bool.and_self, Bool.not_true, Bool.false_or, if_true, lockedR, hz, ne_eq, not_false_eq_true, List.length_singleton, hlim]
        rw [iha]; simp
    · have hq' : ¬ (i : Int) < (k.2.1.length : Int) := by omega
      have hz : k.2.1.drop i = [] := List.drop_eq_nil_of_le (by omega)
      have hz3 : k.2.1.drop (i + 1) = [] := List.drop_eq_nil_of_le (by omega)
      rw [hz3, lockedR_nil] at ihb
      rw [hz]
      simp only [h1, h0, hq', decide_true, decide_false, Bool.and_self, Bool.not_false, Bool.true_or, Bool.false_eq_true, if_true, if_false, lockedR]
      exact ihb
theorem c59_ok {K : Nat} (hK : 1000 ≤ K) {k : Ks} (hk : k.1.length ≤ 12) (h2 : k.2.1.length < 1000) : c59 K k = some (isort (lockedR k.1 k.2.1), ()) := by
  rw [c59_eq]
  exact c59_loop hK hk h2 k.1.length 0 [] K (by omega) (by omega) (Nat.le_refl _)

theorem c95_inner {K q1 : Nat} {k : Ks} {out : List Int} {i : Nat} (hi : i < k.1.length) (h1 : k.1.length < 1000) (ho : out.length < 1000) : (j q2 : Nat) → j ≤ out.length → j < q2 →
    m95_7 K q1 q2 k out (i : Int) (j : Int) = m95_3 K q1 k (out.take (insAt out (k.1.getD i 0) j) ++ [k.1.getD i 0] ++ out.drop (insAt out (k.1.getD i 0) j)) ((i + 1 : Nat) : Int) := by
  intro j
  have e2 : IntKind.i64.wrap ((i : Int) + 1) = ((i + 1 : Nat) : Int) := by rw [wrap_id (by omega) (by omega)]; omega
  have hi1 : (i : Int) < (k.1.length : Int) := by omega
  have hi0 : (0 : Int) ≤ (i : Int) := by omega
  have stop : ∀ n : Nat, n ≤ out.length → (if (decide ((0 : Int) ≤ (n : Int)) && decide ((n : Int) ≤ (out.length : Int))) = true then (if decide (([] : List Int).length + (List.take n out).length < LIM 8) = true then (if (decide (0 ≤ (i : Int)) && decide ((i : Int) < (k.1.length : Int))) = true then (if decide ((([] ++ (List.take n out)) : List Int).length + [(List.getD k.1 i 0)].length < LIM 8) = true then (if (decide ((0 : Int) ≤ (n : Int)) && decide ((n : Int) ≤ (out.length : Int))) = true then (if decide (((([] ++ (List.take n out)) ++ [(List.getD k.1 i 0)]) : List Int).length + (List.drop n out).length < LIM 8) = true then m95_3 K q1 k ((([] ++ (List.take n out)) ++ [(List.getD k.1 i 0)]) ++ (List.drop n out)) ((i + 1 : Nat) : Int) else none) else none) else none) else none) else none) else none) = m95_3 K q1 k (out.take n ++ [k.1.getD i 0] ++ out.drop n) ((i + 1 : Nat) : Int) := by
    intro n hn
    rw [LIM8]
    have a1 : (0 : Int) ≤ (n : Int) := by omega
    have a2 : (n : Int) ≤ (out.length : Int) := by omega
    have a3 : ([] : List Int).length + (List.take n out).length < 17592186044416 := by simp; omega
    have a4 : (List.take n out).length + [(List.getD k.1 i 0)].length < 17592186044416 := by simp; omega
    have a5 : (List.take n out ++ [(List.getD k.1 i 0)]).length + (List.drop n out).length < 17592186044416 := by simp; omega
    simp only [a1, a2, a3, a4, a5, hi0, hi1, decide_true, Bool.and_self, if_true, List.nil_append]
  induction j with
  | zero =>
    intro q2 hj hk
    obtain ⟨q2, rfl⟩ : ∃ q, q2 = q + 1 := ⟨q2 - 1, by omega⟩
    rw [m95_7_eq, e2]
    have := stop 0 (Nat.zero_le _)
    simp only [Int.toNat_natCast]
    simp only [insAt]
    rw [← this]
    simp
  | succ j ih =>
    intro q2 hj hk
    obtain ⟨q2, rfl⟩ : ∃ q, q2 = q + 1 := ⟨q2 - 1, by omega⟩
    have e1 : IntKind.i64.wrap (((j + 1 : Nat) : Int) - 1) = (j : Int) := by rw [wrap_id (by omega) (by omega)]; omega
    rw [m95_7_eq, e2, e1]
    simp only [Int.toNat_natCast]
    rw [stop (j + 1) hj]
    have hp1 : ((j + 1 : Nat) : Int) > 0 := by omega
    have hp2 : (0 : Int) ≤ (j : Int) := by omega
    have hp3 : (j : Int) < (out.length : Int) := by omega
    simp only [hp1, hp2, hp3, hi0, hi1, decide_true, Bool.and_self, Bool.not_true, Bool.or_true, if_true, decide_eq_true_eq, insAt]
    split
    · exact ih q2 (by omega) (by omega)
    · rfl

theorem c95_loop {K : Nat} (hK : 1000 ≤ K) {k : Ks} (h1 : k.1.length < 1000) (h2 : k.2.1.length < 1000) : (d i : Nat) → (out : List Int) → (q : Nat) → i + d = k.1.length → d < q → out.length ≤ i →
    m95_3 K q k out (i : Int) = some ((lockedR (k.1.drop i) (k.2.1.drop i)).foldl ins out, ()) := by
  intro d
  induction d with
  | zero =>
    intro i out q hi hq ho
    obtain ⟨q, rfl⟩ : ∃ j, q = j + 1 := ⟨q - 1, by omega⟩
    rw [m95_3_eq]
    have e : k.1.drop i = [] := List.drop_eq_nil_of_le (by omega)
    have hlt : ¬ (i : Int) < (k.1.length : Int) := by omega
    rw [e]
    simp [hlt, lockedR]
  | succ d ih =>
    intro i out q hi hq ho
    obtain ⟨q, rfl⟩ : ∃ j, q = j + 1 := ⟨q - 1, by omega⟩
    have e2 : IntKind.i64.wrap ((i : Int) + 1) = ((i + 1 : Nat) : Int) := by rw [wrap_id (by omega) (by omega)]; omega
    have hi1 : (i : Int) < (k.1.length : Int) := by omega
    have h0 : (0 : Int) ≤ (i : Int) := by omega
    rw [m95_3_eq, e2, Int.toNat_natCast, drop_get (l := k.1) (by omega)]
    have iha := ih (i + 1) (ins out (k.1.getD i 0)) q (by omega) (by omega) (by rw [ins_length]; omega)
    have ihb := ih (i + 1) out q (by omega) (by omega) (by omega)
    by_cases hq : i < k.2.1.length
    · have hq' : (i : Int) < (k.2.1.length : Int) := by omega
      rw [drop_get (l := k.2.1) hq]
      have hin := c95_inner (K := K) (q1 := q) (k := k) (out := out) (i := i) (by omega) h1 (by omega) out.length K (Nat.le_refl _) (by omega)
      rw [hin]
      by_cases hz : k.2.1.getD i 0 = 0
      · have hz2 : (k.2.1.getD i 0 == 0) = true := by simpa using hz
        simp only [hi1, h0, hq', hz2, decide_true, Bool.and_self, if_true, lockedR, hz, ne_eq, not_true_eq_false, if_false]
        exact ihb
      · have hz2 : (k.2.1.getD i 0 == 0) = false := by simpa using hz
        simp only [hi1, h0, hq', hz2, decide_true, Bool.and_self, if_true, lockedR, hz, ne_eq, not_false_eq_true, Bool.false_eq_true, if_false, List.foldl_cons]
        exact iha
    · have hq' : ¬ (i : Int) < (k.2.1.length : Int) := by omega
      have hz : k.2.1.drop i = [] := List.drop_eq_nil_of_le (by omega)
      rw [hz]
      simp [hi1, hq', lockedR]
theorem c95_ok {K : Nat} (hK : 1000 ≤ K) {k : Ks} (h1 : k.1.length < 1000) (h2 : k.2.1.length < 1000) : c95 K k = some (isort (lockedR k.1 k.2.1), ()) := by
  rw [c95_eq]
  exact c95_loop hK h1 h2 k.1.length 0 [] K (by omega) (by omega) (Nat.le_refl _)

end Fs

/- Layer 33 in plain Lean: agreement; dice. -/
open Go Go.Ev
namespace Fs

theorem mv_short {k : Ks} (hk : Short k) (i a b : Int) : Short (mv k i a b).1 := by
  unfold mv
  split
  · split
    · exact hk
    · split
      · exact hk
      · exact ⟨hk.1, by simpa using hk.2⟩
  · exact hk
theorem tn_short {k : Ks} (hk : Short k) (o : Bool) : Short (tn k o).1 := by
  unfold tn
  split
  · split
    · exact hk
    · exact ⟨hk.1, hk.2⟩
  · exact hk
theorem stp_short {k : Ks} (hk : Short k) (w i : Int) : Short (stp k w i).1 := by
  unfold stp
  split
  · exact mv_short hk ..
  · split
    · exact mv_short hk ..
    · split
      · exact mv_short hk ..
      · split
        · exact mv_short hk ..
        · split
          · exact tn_short hk ..
          · exact tn_short hk ..

theorem c48_last {K : Nat} (hK : 1000 ≤ K) {k : Ks} (hk : Short k) (l : List Int) (hl : l.length < 1000) : m48_9 K K k l l 0 = some (true, ()) := by
  have h := scanN (L := fun q i => m48_9 K q k l l (i : Int)) (len := l.length) (ex := fun _ => none) (T := some (true, ())) (fun q i hi => by
    rw [m48_9_eq]
    have e2 : IntKind.i64.wrap ((i : Int) + 1) = ((i + 1 : Nat) : Int) := by rw [wrap_id (by omega) (by omega)]; omega
    have h1 : (i : Int) < (l.length : Int) := by omega
    have h0 : (0 : Int) ≤ (i : Int) := by omega
    rw [e2]
    simp [h1]) (fun q => by
    rw [m48_9_eq, c58_ok hk hK, c94_ok hk hK]
    simp) l.length 0 K (by omega) (by omega)
  refine h.trans ?_
  generalize List.range' 0 l.length = r
  induction r with
  | nil => rfl
  | cons i r ih => rw [List.findSome?_cons]; exact ih
theorem c48_ok {K : Nat} (hK : 1000 ≤ K) {k : Ks} (hk : Short k) (h12 : k.1.length ≤ 12) (i : Int) : c48 K k i = some (true, ()) := by
  rw [c48_eq]
  have h := scanN (L := fun q j => m48_2 K q i k (j : Int)) (len := 6) (ex := fun _ => none) (T := some (true, ())) (fun q j hj => by
    rw [m48_2_eq, c49_ok hk hK]
    have e2 : IntKind.i64.wrap ((j : Int) + 1) = ((j + 1 : Nat) : Int) := by rw [wrap_id (by omega) (by omega)]; omega
    have h1 : (j : Int) < 6 := by omega
    rw [e2]
    simp only [Option.bind_some]
    rw [c60_ok (stp_short hk _ _) hK]
    simp [h1]) (fun q => by
    rw [m48_2_eq, c59_ok hK h12 hk.2, c95_ok hK hk.1 hk.2]
    simp only [Option.bind_some]
    rw [c48_last hK hk _ (by
      rw [isort_length]
      have := lockedR_length k.1 k.2.1
      omega)]
    simp) 6 0 K (by omega) (by omega)
  exact h.trans rfl

/-- Dice: the numbers, and how many are used. -/
abbrev Dc := (List Int) × Int × Unit
def md (n m : Int) : Int := if m < 1 then 0 else if Int.tmod n m < 0 then Int.tmod n m + m else Int.tmod n m
theorem md_range {n m : Int} (h : 1 ≤ m) : 0 ≤ md n m ∧ md n m < m := by
  unfold md
  have h1 := Int.tmod_lt_of_pos n (show 0 < m by omega)
  have h2 : -m < Int.tmod n m := by
    have := Int.lt_tmod_of_pos n (show 0 < m by omega)
    omega
  rw [if_neg (by omega)]
  split <;> omega
theorem c25_ok (K : Nat) {n m : Int} (h : m < 9223372036854775807) : c25 K n m = some (md n m, ()) := by
  rw [c25_eq]
  unfold md
  by_cases h1 : m < 1
  · simp [h1]
  · have hm : ¬ m = 0 := by omega
    have h2 := Int.tmod_lt_of_pos n (show 0 < m by omega)
    have h3 : -m < Int.tmod n m := by
      have := Int.lt_tmod_of_pos n (show 0 < m by omega)
      omega
    have e : (m != 0) = true := by simpa using hm
    by_cases h4 : Int.tmod n m < 0
    · rw [wrap_id (by omega) (by omega)]
      simp [h1, e, h4]
    · simp [h1, e, h4]
/-- A roll of the dice. -/
def DOk (d : Dc) : Prop := d.1.length ≤ 400 ∧ 0 ≤ d.2.1 ∧ d.2.1 ≤ 400
theorem c19_ok (K : Nat) {d : Dc} (hd : DOk d) {n : Int} (h1 : 1 ≤ n) (h2 : n < 9223372036854775807) : ∃ r d', c19 K d n = some (r, d', ()) ∧ 0 ≤ r ∧ r < n ∧ DOk d' := by
  obtain ⟨l, a, u⟩ := d
  obtain ⟨ha, hb, hc⟩ := hd
  simp only at ha hb hc
  rw [c19_eq]
  simp only
  by_cases hlt : a < (l.length : Int)
  · have e1 : IntKind.i64.wrap (a + 1) = a + 1 := wrap_id (by omega) (by omega)
    have e2 : IntKind.i64.wrap (a + 1 - 1) = a := by rw [wrap_id (by omega) (by omega)]; omega
    rw [e1, e2, c25_ok K h2]
    have hge : ¬ a ≥ (l.length : Int) := by omega
    have hr := md_range (n := l.getD a.toNat 0) h1
    refine ⟨md (l.getD a.toNat 0) n, (l, a + 1, ()), ?_, hr.1, hr.2, ha, ?_, ?_⟩
    · simp [hge, hb, hlt]
    · show 0 ≤ a + 1; omega
    · show a + 1 ≤ 400; omega
  · refine ⟨0, (l, a, ()), ?_, by omega, by omega, ha, hb, hc⟩
    have hge : a ≥ (l.length : Int) := by omega
    simp [hge]
theorem c35_ok (K : Nat) {d : Dc} (hd : DOk d) {l : List Int} (h1 : 0 < l.length) (h2 : l.length < 1000) : ∃ r d', c35 K d l = some (r, d', ()) ∧ r ∈ l ∧ DOk d' := by
  rw [c35_eq]
  obtain ⟨r, d', h, h3, h4, h5⟩ := c19_ok K hd (n := (l.length : Int)) (by omega) (by omega)
  rw [h]
  refine ⟨l.getD r.toNat 0, d', ?_, ?_, h5⟩
  · simp [h3, h4]
  · rw [getD_get (by omega)]
    exact List.getElem_mem _

end Fs

/- Layer 33 in plain Lean: the first law. -/
open Go Go.Ev
namespace Fs

def start (l : List Int) : Ks × Int := if roadsOk l then ((l, List.replicate l.length 0, false, ()), 0) else (([], [], false, ()), 6)
theorem roadsOk_len {l : List Int} (h : roadsOk l = true) : 1 ≤ l.length ∧ l.length ≤ 12 := by
  unfold roadsOk at h
  simp only [Bool.and_eq_true, decide_eq_true_eq] at h
  exact ⟨h.1, h.2.1⟩
theorem c51_ok {K : Nat} (hK : 1000 ≤ K) {l : List Int} (hl : l.length < 1000) : c51 K l = some ((start l).1, (start l).2, ()) := by
  rw [c51_eq, c102_ok hl hK]
  unfold start
  cases h : roadsOk l with
  | false => simp
  | true =>
    simp only [Option.bind_some]
    rw [c103_ok (by have := roadsOk_len h; omega) hl, LIM8]
    have h1 : (l.length : Int) < 17592186044416 := by omega
    simp [h1]
theorem all_rep (n : Nat) : ((List.replicate n (0 : Int)).all fun n => decide (0 ≤ n) && decide (n ≤ 2)) = true := by
  simp
theorem valid_start (l : List Int) : valid (l, List.replicate l.length 0, false, ()) = roadsOk l := by
  unfold valid
  rw [all_rep]
  simp
theorem c47_ok {K : Nat} (hK : 1000 ≤ K) {l : List Int} (hl : l.length < 1000) : c47 K l = some ((start l).1, (start l).2, ()) := by
  rw [c47_eq, LIM8]
  have h1 : (l.length : Int) < ((17592186044416 : Nat) : Int) := by omega
  have h2 : ([] : List Int).length + l.length < 17592186044416 := by simp; omega
  have h0 : (0 : Int) ≤ (l.length : Int) := by omega
  simp only [h0, h1, h2, decide_true, Bool.and_self, if_true, List.nil_append, Int.toNat_natCast]
  rw [c94_ok (k := (l, List.replicate l.length 0, false, ())) ⟨hl, by simpa using hl⟩ hK, valid_start]
  unfold start
  cases h : roadsOk l with
  | false => rfl
  | true => rfl
theorem c46_ok {K : Nat} (hK : 1000 ≤ K) : c46 K = some (true, ()) := by
  rw [c46_eq, c51_ok hK (by decide)]
  have e : start [3, 7] = (([3, 7], [0, 0], false, ()), 0) := by decide
  rw [e]
  simp only [Option.bind_some]
  rw [c52_eq, c104_ok ⟨by decide, by decide⟩ hK]
  have e : mv ([3, 7], [0, 0], false, ()) 0 0 1 = (([3, 7], [1, 0], false, ()), 0) := by decide
  rw [e]
  simp only [Option.bind_some]
  rw [c53_eq, c104_ok ⟨by decide, by decide⟩ hK]
  have e : mv ([3, 7], [1, 0], false, ()) 0 1 2 = (([3, 7], [2, 0], false, ()), 0) := by decide
  rw [e]
  simp only [Option.bind_some]
  rw [c56_eq, c105_ok ⟨by decide, by decide⟩ hK]
  have e : tn ([3, 7], [2, 0], false, ()) true = (([3, 7], [2, 0], false, ()), 48) := by decide
  rw [e]
  simp only [Option.bind_some]
  rw [c59_ok hK (by decide) (by decide), c58_ok ⟨by decide, by decide⟩ hK]
  have e : isort (lockedR [3, 7] [2, 0]) = [3] := by decide
  rw [e]
  have e : valid ([3, 7], [2, 0], false, ()) = true := by decide
  rw [e]
  rfl

/-- The roads 0, 3, 6 .. -/
def rds (n : Nat) : List Int := (List.range n).map fun (i : Nat) => (i : Int) * 3
theorem rds_length (n : Nat) : (rds n).length = n := by simp [rds]
theorem rds_succ (n : Nat) : rds n ++ [(n : Int) * 3] = rds (n + 1) := by simp [rds, List.range_succ]
theorem rds_ok : ∀ n : Nat, 1 ≤ n → n ≤ 4 → roadsOk (rds n) = true := by
  intro n h1 h2
  have : n = 1 ∨ n = 2 ∨ n = 3 ∨ n = 4 := by omega
  rcases this with rfl | rfl | rfl | rfl <;> decide

/-- The lists have n elements. -/
def Len (k : Ks) (n : Nat) : Prop := k.1.length = n ∧ k.2.1.length = n
theorem Len.short {k : Ks} {n : Nat} (h : Len k n) (hn : n < 1000) : Short k := ⟨by rw [h.1]; exact hn, by rw [h.2]; exact hn⟩
theorem mv_len {k : Ks} {n : Nat} (h : Len k n) (i a b : Int) : Len (mv k i a b).1 n := by
  unfold mv
  split
  · split
    · exact h
    · split
      · exact h
      · exact ⟨h.1, by simpa using h.2⟩
  · exact h
theorem tn_len {k : Ks} {n : Nat} (h : Len k n) (o : Bool) : Len (tn k o).1 n := by
  unfold tn
  split
  · split
    · exact h
    · exact ⟨h.1, h.2⟩
  · exact h
theorem stp_len {k : Ks} {n : Nat} (h : Len k n) (w i : Int) : Len (stp k w i).1 n := by
  unfold stp
  split
  · exact mv_len h ..
  · split
    · exact mv_len h ..
    · split
      · exact mv_len h ..
      · split
        · exact mv_len h ..
        · split
          · exact tn_len h ..
          · exact tn_len h ..

theorem odd_ok {K : Nat} (hK : 1000 ≤ K) {k : Ks} (hk : Short k) (h12 : k.1.length ≤ 12) : ((c46 K).bind fun r9 => ((if r9.1 = true then c48 K k 0 else some (false, ()))).bind fun r10 => some ((if r9.1 = true then r10.1 else false), ())) = some (true, ()) := by
  rw [c46_ok hK]
  simp only [Option.bind_some, if_true]
  rw [c48_ok hK hk h12]
  rfl

theorem made_loop {K : Nat} (hK : 1000 ≤ K) {n : Nat} (h1 : 1 ≤ n) (h4 : n ≤ 4) : (c : Nat) → (q : Nat) → (d : Dc) → (k : Ks) → DOk d → Len k n → c < q → c ≤ 25 → m10_11 K q d (rds n) k (c : Int) = some (true, ()) := by
  intro c
  induction c with
  | zero =>
    intro q d k hd hk hq hc
    obtain ⟨q, rfl⟩ : ∃ j, q = j + 1 := ⟨q - 1, by omega⟩
    have hs := hk.short (by omega)
    rw [m10_11_eq, c50_ok hs]
    obtain ⟨r, d1, hr, hr0, hr1, hd1⟩ := c19_ok K hd (n := 4) (by decide) (by decide)
    rw [hr]
    have hz : ¬ (((0 : Nat) : Int) > 0) := by decide
    simp only [hz, decide_false, Bool.false_eq_true, if_false, Option.bind_some]
    have hlen : (0 : Int) < (k.2.1.length : Int) := by rw [hk.2]; omega
    have hlen1 : (1 : Int) ≤ (k.2.1.length : Int) := by rw [hk.2]; omega
    have hlen2 : (1 : Int) ≤ (k.1.length : Int) := by rw [hk.1]; omega
    have h12 : k.1.length ≤ 12 := by rw [hk.1]; omega
    split
    · obtain ⟨x, d2, hx, _, _⟩ := c35_ok K hd1 (l := [-1, 3]) (by decide) (by decide)
      rw [hx]
      simp only [Option.bind_some, hlen, decide_true, Bool.and_self, if_true, Int.le_refl]
      exact odd_ok hK ⟨hs.1, by simpa using hs.2⟩ h12
    · split
      · exact odd_ok hK ⟨hs.1, hs.2⟩ h12
      · split
        · have h01 : (0 : Int) ≤ 1 := by decide
          simp only [hlen1, h01, decide_true, Bool.and_self, if_true]
          exact odd_ok hK ⟨hs.1, by have := hs.2; simp; omega⟩ h12
        · have h01 : (0 : Int) ≤ 1 := by decide
          have hl : ([200] : List Int).length + (List.drop (1 : Int).toNat k.1).length < LIM 8 := by rw [LIM8]; simp; omega
          simp only [hlen2, h01, hl, decide_true, Bool.and_self, if_true]
          exact odd_ok hK ⟨by have := hs.1; simp; omega, hs.2⟩ (by simp; omega)
  | succ c ih =>
    intro q d k hd hk hq hc
    obtain ⟨q, rfl⟩ : ∃ j, q = j + 1 := ⟨q - 1, by omega⟩
    have hs := hk.short (by omega)
    rw [m10_11_eq, rds_length]
    have hp : (((c + 1 : Nat) : Int) > 0) := by omega
    have e : IntKind.i64.wrap ((n : Int) + 1) = (n : Int) + 1 := wrap_id (by omega) (by omega)
    have e2 : IntKind.i64.wrap (((c + 1 : Nat) : Int) - 1) = (c : Int) := by rw [wrap_id (by omega) (by omega)]; omega
    rw [e, e2]
    obtain ⟨r, d1, hr, hr0, hr1, hd1⟩ := c19_ok K hd (n := (n : Int) + 1) (by omega) (by omega)
    rw [hr]
    simp only [hp, decide_true, if_true, Option.bind_some]
    obtain ⟨r2, d2, hr, _, _, hd2⟩ := c19_ok K hd1 (n := 2) (by omega) (by omega)
    rw [hr]
    simp only [Option.bind_some]
    rw [c48_ok hK hs (by rw [hk.1]; omega)]
    obtain ⟨r3, d3, hr, _, _, hd3⟩ := c19_ok K hd2 (n := 6) (by omega) (by omega)
    simp only [Option.bind_some, Bool.not_true, Bool.false_eq_true, if_false]
    rw [hr]
    simp only [Option.bind_some]
    rw [c49_ok hs hK]
    simp only [Option.bind_some]
    exact ih q d3 _ hd3 (stp_len hk _ _) (by omega) (by omega)

theorem start_len {l : List Int} (h : roadsOk l = true) : Len (start l).1 l.length := by
  unfold start
  rw [if_pos h]
  exact ⟨rfl, by simp⟩
theorem made_roads {K : Nat} (hK : 1000 ≤ K) : (c : Nat) → (j q : Nat) → (d : Dc) → DOk d → 1 ≤ j + c → j + c ≤ 4 → c < q → m10_6 K q d (rds j) (c : Int) = some (true, ()) := by
  intro c
  induction c with
  | zero =>
    intro j q d hd h1 h4 hq
    obtain ⟨q, rfl⟩ : ∃ j, q = j + 1 := ⟨q - 1, by omega⟩
    have hr := rds_ok j (by omega) (by omega)
    rw [m10_6_eq, c47_ok hK (by rw [rds_length]; omega)]
    obtain ⟨r, d1, hr2, hr0, hr1, hd1⟩ := c19_ok K hd (n := 25) (by decide) (by decide)
    rw [hr2]
    have hz : ¬ (((0 : Nat) : Int) > 0) := by decide
    simp only [hz, decide_false, Bool.false_eq_true, if_false, Option.bind_some]
    have hk := start_len hr
    rw [rds_length] at hk
    have := made_loop hK (n := j) (by omega) (by omega) r.toNat K d1 _ hd1 hk (by omega) (by omega)
    rwa [Int.toNat_of_nonneg hr0] at this
  | succ c ih =>
    intro j q d hd h1 h4 hq
    obtain ⟨q, rfl⟩ : ∃ j, q = j + 1 := ⟨q - 1, by omega⟩
    have hp : (((c + 1 : Nat) : Int) > 0) := by omega
    have e2 : IntKind.i64.wrap (((c + 1 : Nat) : Int) - 1) = (c : Int) := by rw [wrap_id (by omega) (by omega)]; omega
    have e3 : IntKind.i64.wrap ((j : Int) * 3) = (j : Int) * 3 := wrap_id (by omega) (by omega)
    have hl : (rds j).length + ([(j : Int) * 3] : List Int).length < LIM 8 := by rw [LIM8, rds_length]; simp; omega
    rw [m10_6_eq, e2, rds_length, e3]
    rw [rds_length] at hl
    simp only [hp, hl, decide_true, if_true, rds_succ]
    exact ih (j + 1) q d hd (by omega) (by omega) (by omega)

theorem keysMade_true (l : List Int) : c10 1000 l = some (true, ()) := by
  rw [c10_eq, c13_eq]
  simp only [Option.bind_some]
  by_cases h : (l.length : Int) ≤ 400
  · have hd : DOk (l, 0, ()) := ⟨show l.length ≤ 400 by omega, by simp, by simp⟩
    obtain ⟨r, d1, hr, hr0, hr1, hd1⟩ := c19_ok 1000 hd (n := 4) (by decide) (by decide)
    rw [c15_eq]
    simp only [h, decide_true, Bool.not_true, Bool.false_eq_true, if_false, Option.bind_some]
    rw [hr]
    simp only [Option.bind_some]
    have e : IntKind.i64.wrap (1 + r) = ((r.toNat + 1 : Nat) : Int) := by rw [wrap_id (by omega) (by omega)]; omega
    rw [e]
    exact made_roads (Nat.le_refl _) (r.toNat + 1) 0 1000 d1 hd1 (by omega) (by omega) (by omega)
  · simp only [h, decide_false, Bool.not_false, if_true]
    rw [c46_ok (Nat.le_refl _)]
    rfl

end Fs
