/- The law in plain Lean: it answers true. No condition. -/
import Derived.Test.YtcmhmonmhplboaaP1
set_option linter.all false
set_option linter.unusedVariables false
set_option linter.unusedSimpArgs false
set_option linter.unnecessarySimpa false
set_option autoImplicit true
set_option relaxedAutoImplicit true
/- Keys: the program and the reference. -/
open Go Go.Ev
namespace Fs

/-- Strictly ascending, between lo and hi. -/
def risingAt (l : List Int) (lo hi : Int) (j : Nat) : Bool := decide (lo ≤ l.getD j 0) && (decide (l.getD j 0 ≤ hi) && (j == 0 || decide (l.getD (j - 1) 0 < l.getD j 0)))
def rising (l : List Int) (lo hi : Int) : Bool := (List.range l.length).all (risingAt l lo hi)

theorem c92_ok {K : Nat} {l : List Int} (hl : l.length < 1000) (hK : 1000 ≤ K) (lo hi : Int) : c92 K l lo hi = some (rising l lo hi, ()) := by
  rw [c92_eq]
  have h := scanAll (L := fun k i => m92_2 K k l lo hi l (l.length : Int) (i : Int)) (len := l.length) (bad := fun i => !risingAt l lo hi i) (fun k i hi' => by
    rw [m92_2_eq]
    have e1 : IntKind.i64.wrap ((i : Int) - 1) = (i : Int) - 1 := wrap_id (by omega) (by omega)
    have e2 : IntKind.i64.wrap ((i : Int) + 1) = ((i + 1 : Nat) : Int) := by rw [wrap_id (by omega) (by omega)]; omega
    rw [e1, e2]
    have e3 : ((i : Int) - 1).toNat = i - 1 := by omega
    rw [e3, Int.toNat_natCast]
    unfold risingAt
    generalize l.getD i 0 = a
    generalize l.getD (i - 1) 0 = b
    grind) (fun k => by
    rw [m92_2_eq]; simp) K (by omega)
  simp only [Bool.not_not] at h
  exact h

theorem c93_ok (K : Nat) (n a b : Int) : c93 K n a b = some (decide (a ≤ n) && decide (n ≤ b), ()) := by
  rw [c93_eq]; grind

/-- The first place of a row where p holds. -/
theorem c139_ok {K : Nat} {l : List Int} (hl : l.length < 1000) (hK : 1000 ≤ K) {g : Int × Unit → Option (Bool × Unit)} {p : Int → Bool} (hg : ∀ x, g (x, ()) = some (p x, ())) :
    c139 K l g = some (match (List.range l.length).find? (fun i => p (l.getD i 0)) with | some i => (i : Int) | none => -1, ()) := by
  rw [c139_eq]
  have h := scanN (L := fun k i => m139_2 K k l g (l.length : Int) (i : Int)) (len := l.length) (ex := fun i => if p (l.getD i 0) then some ((i : Int), ()) else none) (T := some (-1, ())) (fun k i hi' => by
    rw [m139_2_eq]
    have e2 : IntKind.i64.wrap ((i : Int) + 1) = ((i + 1 : Nat) : Int) := by rw [wrap_id (by omega) (by omega)]; omega
    rw [e2, Int.toNat_natCast, hg]
    grind) (fun k => by rw [m139_2_eq]; simp) l.length 0 K (by omega) (by omega)
  refine h.trans ?_
  rw [← List.range_eq_range']
  generalize List.range l.length = r
  induction r with
  | nil => rfl
  | cons i r ih =>
    rw [List.findSome?_cons, List.find?_cons]
    cases p (l.getD i 0) with
    | true => rfl
    | false => simpa using ih
theorem any_range (l : List Int) (p : Int → Bool) : ((List.range l.length).find? (fun i => p (l.getD i 0))).isSome = l.any p := by
  rw [Bool.eq_iff_iff, List.find?_isSome]
  simp only [List.any_eq_true, List.mem_range]
  constructor
  · rintro ⟨i, hi, h⟩
    exact ⟨l[i], List.getElem_mem hi, by rwa [getD_get hi] at h⟩
  · rintro ⟨x, hx, h⟩
    obtain ⟨i, hi, rfl⟩ := List.mem_iff_getElem.1 hx
    exact ⟨i, hi, by rwa [getD_get hi]⟩
theorem c107_ok {K : Nat} {l : List Int} (hl : l.length < 1000) (hK : 1000 ≤ K) {g : Int × Unit → Option (Bool × Unit)} {p : Int → Bool} (hg : ∀ x, g (x, ()) = some (p x, ())) : c107 K l g = some (l.any p, ()) := by
  rw [c107_eq, c139_ok hl hK hg, ← any_range]
  cases (List.range l.length).find? (fun i => p (l.getD i 0)) with
  | none => rfl
  | some i => simp

abbrev Ks := (List Int) × (List Int) × Bool × Unit
def boxed (k : Ks) : Bool := k.2.1.all (· == 2)
def roadsOk (l : List Int) : Bool := decide (1 ≤ l.length) && (decide (l.length ≤ 12) && rising l 0 127)
def valid (k : Ks) : Bool := roadsOk k.1 && (k.2.1.length == k.1.length && (k.2.1.all (fun n => decide (0 ≤ n) && decide (n ≤ 2)) && (!k.2.2.1 || boxed k)))
/-- The lists are not too long. -/
def Short (k : Ks) : Prop := k.1.length < 1000 ∧ k.2.1.length < 1000

theorem c102_ok {K : Nat} {l : List Int} (hl : l.length < 1000) (hK : 1000 ≤ K) : c102 K l = some (roadsOk l, ()) := by
  rw [c102_eq, c93_ok, c92_ok hl hK]
  unfold roadsOk
  generalize rising l 0 127 = b
  have e1 : ((1 : Int) ≤ (l.length : Int)) ↔ 1 ≤ l.length := by omega
  have e2 : ((l.length : Int) ≤ 12) ↔ l.length ≤ 12 := by omega
  simp only [e1, e2, Option.bind_some]
  generalize decide (1 ≤ l.length) = x
  generalize decide (l.length ≤ 12) = y
  cases x <;> cases y <;> cases b <;> rfl
theorem c108_ok {K : Nat} {k : Ks} (hk : Short k) (hK : 1000 ≤ K) : c108 K k = some (boxed k, ()) := by
  rw [c108_eq, c107_ok (p := fun n => n != 2) hk.2 hK (fun x => by rw [c140_eq])]
  have : (!k.2.1.any fun n => n != 2) = boxed k := by
    unfold boxed
    rw [List.not_any_eq_all_not]
    congr 1
    funext n
    simp [bne]
  simp [this]
theorem c58_ok {K : Nat} {k : Ks} (hk : Short k) (hK : 1000 ≤ K) : c58 K k = some (valid k, ()) := by
  rw [c58_eq, c102_ok hk.1 hK]
  simp only [Option.bind_some]
  rw [c107_ok (p := fun n => !(decide (0 ≤ n) && decide (n ≤ 2))) hk.2 hK (fun x => by rw [c106_eq, c93_ok]; rfl), c108_ok hk hK]
  have h := List.not_any_eq_all_not (l := k.2.1) (p := fun n => !(decide ((0 : Int) ≤ n) && decide (n ≤ 2)))
  simp only [Bool.not_not] at h
  unfold valid
  rw [← h]
  have hlen : (((k.2.1.length : Int)) == (k.1.length : Int)) = (k.2.1.length == k.1.length) := by rw [Bool.eq_iff_iff]; simp; omega
  rw [hlen]
  generalize k.2.1.any _ = x
  generalize (k.2.1.length == k.1.length) = y
  generalize k.2.2.1 = z
  generalize boxed k = u
  generalize roadsOk k.1 = v
  cases x <;> cases y <;> cases z <;> cases u <;> cases v <;> rfl

theorem c136_ok {K : Nat} {l : List Int} (hl : l.length < 1000) (hK : 1000 ≤ K) (n : Int) : c136 K l n = some (rising l 0 (n - 1), ()) := by
  rw [c136_eq]
  have h := scanAll (L := fun k i => m136_2 K k l n (i : Int)) (len := l.length) (bad := fun i => !risingAt l 0 (n - 1) i) (fun k i hi' => by
    rw [m136_2_eq]
    have e1 : IntKind.i64.wrap ((i : Int) - 1) = (i : Int) - 1 := wrap_id (by omega) (by omega)
    have e2 : IntKind.i64.wrap ((i : Int) + 1) = ((i + 1 : Nat) : Int) := by rw [wrap_id (by omega) (by omega)]; omega
    rw [e1, e2]
    have e3 : ((i : Int) - 1).toNat = i - 1 := by omega
    rw [e3, Int.toNat_natCast]
    unfold risingAt
    generalize l.getD i 0 = a
    generalize l.getD (i - 1) 0 = b
    grind) (fun k => by
    rw [m136_2_eq]; simp) K (by omega)
  simp only [Bool.not_not] at h
  exact h

theorem all_range (l : List Int) (p : Int → Bool) : ((List.range l.length).all (fun i => p (l.getD i 0))) = l.all p := by
  rw [Bool.eq_iff_iff]
  simp only [List.all_eq_true, List.mem_range]
  constructor
  · intro h x hx
    obtain ⟨i, hi, rfl⟩ := List.mem_iff_getElem.1 hx
    have := h i hi
    rwa [getD_get hi] at this
  · intro h i hi
    rw [getD_get hi]
    exact h _ (List.getElem_mem hi)

theorem c94_ok {K : Nat} {k : Ks} (hk : Short k) (hK : 1000 ≤ K) : c94 K k = some (valid k, ()) := by
  rw [c94_eq, c136_ok hk.1 hK]
  have h := scanAll (L := fun q i => m94_4 K q k (i : Int)) (len := k.2.1.length) (bad := fun i => !((decide (0 ≤ k.2.1.getD i 0) && decide (k.2.1.getD i 0 ≤ 2)) && (!k.2.2.1 || k.2.1.getD i 0 == 2))) (fun q i hi' => by
    rw [m94_4_eq]
    have hl := hk.2
    have e2 : IntKind.i64.wrap ((i : Int) + 1) = ((i + 1 : Nat) : Int) := by rw [wrap_id (by omega) (by omega)]; omega
    rw [e2, Int.toNat_natCast]
    generalize k.2.1.getD i 0 = a
    generalize k.2.2.1 = z
    grind) (fun q => by rw [m94_4_eq]; simp) K (by have := hk.2; omega)
  simp only [Bool.not_not] at h
  rw [all_range k.2.1 (fun n => (decide (0 ≤ n) && decide (n ≤ 2)) && (!k.2.2.1 || n == 2))] at h
  have h' : m94_4 K K k 0 = _ := h
  rw [h']
  have hall : (k.2.1.all fun n => (decide (0 ≤ n) && decide (n ≤ 2)) && (!k.2.2.1 || n == 2)) = (k.2.1.all (fun n => decide (0 ≤ n) && decide (n ≤ 2)) && (!k.2.2.1 || boxed k)) := by
    unfold boxed
    generalize k.2.1 = l
    generalize k.2.2.1 = z
    induction l with
    | nil => simp
    | cons a l ih =>
      simp only [List.all_cons, ih]
      cases z <;> simp
      grind
  rw [hall]
  unfold valid roadsOk
  have e1 : ((k.1.length : Int) < 1) ↔ ¬ 1 ≤ k.1.length := by omega
  have e2 : ((k.1.length : Int) > 12) ↔ ¬ k.1.length ≤ 12 := by omega
  have hlen : (((k.2.1.length : Int)) != (k.1.length : Int)) = !(k.2.1.length == k.1.length) := by rw [Bool.eq_iff_iff]; simp; omega
  rw [hlen]
  simp only [e1, e2]
  generalize k.2.1.all (fun n => decide (0 ≤ n) && decide (n ≤ 2)) = x
  generalize (k.2.1.length == k.1.length) = y
  generalize k.2.2.1 = z
  generalize boxed k = u
  have : (128 : Int) - 1 = 127 := rfl
  rw [this]
  generalize rising k.1 0 127 = v
  by_cases h1 : 1 ≤ k.1.length <;> by_cases h2 : k.1.length ≤ 12 <;> simp only [h1, h2] <;> cases x <;> cases y <;> cases z <;> cases u <;> cases v <;> rfl

end Fs

/- Firing: the program and the reference agree. -/
open Go Go.Ev
namespace Fs

/-- A belief whose lists are not too long. -/
structure BSh (b : Ag33) : Prop where
  l : b.1.length < 1000
  w : ∀ x ∈ b.1, x.2.1.length < 1000
  f : ∀ x ∈ b.1, ∀ y ∈ x.2.1, y.2.1.length < 1000

/-- Somebody of these can be in the area. -/
def inW (area : List Int) (w : Ag45) : Bool := area.any fun p => (decide (0 ≤ p) && decide (p ≤ (w.2.1.length : Int) - 1)) && (w.2.1.getD p.toNat 0 != 1099511627776)
theorem inW_eq (area : List Int) (w : Ag45) : ((List.range w.2.1.length).any fun p => area.contains (p : Int) && (w.2.1.getD p 0 != 1099511627776)) = inW area w := by
  rw [Bool.eq_iff_iff]
  simp only [inW, List.any_eq_true, List.mem_range, Bool.and_eq_true, List.contains_iff_mem, decide_eq_true_eq, bne_iff_ne]
  constructor
  · rintro ⟨p, h1, h2, h3⟩
    exact ⟨(p : Int), h2, ⟨⟨by omega, by omega⟩, by simpa using h3⟩⟩
  · rintro ⟨p, h1, ⟨⟨h2, h3⟩, h4⟩⟩
    exact ⟨p.toNat, by omega, by rw [Int.toNat_of_nonneg h2]; exact h1, h4⟩
def clearB (b : Ag33) (area : List Int) : Bool := b.1.all fun x => x.2.1.all fun w => !inW area w

theorem c156_ok (K : Nat) {w : Ag45} (hw : w.2.1.length < 1000) (p : Int) : c156 K p w = some ((decide (0 ≤ p) && decide (p ≤ (w.2.1.length : Int) - 1)) && (w.2.1.getD p.toNat 0 != 1099511627776), ()) := by
  have e : IntKind.i64.wrap ((w.2.1.length : Int) - 1) = (w.2.1.length : Int) - 1 := wrap_id (by omega) (by omega)
  rw [c156_eq, e, c93_ok]
  simp only [Option.bind_some]
  cases h : (decide (0 ≤ p) && decide (p ≤ (w.2.1.length : Int) - 1)) with
  | false => rfl
  | true =>
    simp only [Bool.and_eq_true, decide_eq_true_eq] at h
    rw [if_pos (by simp; omega)]
    rfl
theorem c133_inner {K k1 : Nat} (hK : 1000 ≤ K) {area : List Int} (ha : area.length < 1000) {x10 : List Ag42} {x11 x12 : Int} {l : List Ag45} (hl : l.length < 1000) (hw : ∀ w ∈ l, w.2.1.length < 1000) : (d j q : Nat) → j + d = l.length → d < q →
    m133_5 K k1 q area x10 x11 x12 l (l.length : Int) (j : Int) = if ((l.drop j).all fun w => !inW area w) = true then m133_2 K k1 area x10 x11 (IntKind.i64.wrap (x12 + 1)) else some (false, ())
  | 0, j, q, hj, hq => by
    obtain ⟨q, rfl⟩ : ∃ j, q = j + 1 := ⟨q - 1, by omega⟩
    rw [m133_5_eq, if_neg (by simp; omega), List.drop_of_length_le (by omega)]
    rfl
  | d + 1, j, q, hj, hq => by
    obtain ⟨q, rfl⟩ : ∃ j, q = j + 1 := ⟨q - 1, by omega⟩
    have hlt : j < l.length := by omega
    rw [m133_5_eq, wsucc (by omega), Int.toNat_natCast, if_pos (by simp; omega), if_pos (inb hlt), List.drop_eq_getElem_cons hlt, List.all_cons, ← getD_get (d := z45) hlt]
    have e := c107_ok (l := area) ha hK (g := fun x1_ => c156 K x1_.1 (l.getD j z45)) (p := fun p => (decide (0 ≤ p) && decide (p ≤ ((l.getD j z45).2.1.length : Int) - 1)) && ((l.getD j z45).2.1.getD p.toNat 0 != 1099511627776)) (fun p => c156_ok K (hw _ (mem_getD hlt)) p)
    rw [e]
    simp only [Option.bind_some]
    show (if inW area (l.getD j z45) = true then _ else _) = _
    cases inW area (l.getD j z45)
    · simp only [Bool.false_eq_true, if_false, Bool.not_false, Bool.true_and]
      exact c133_inner hK ha hl hw d (j + 1) q (by omega) (by omega)
    · rfl
theorem c133_loop {K : Nat} (hK : 1000 ≤ K) {area : List Int} (ha : area.length < 1000) {b : Ag33} (h : BSh b) : (d i q : Nat) → i + d = b.1.length → d < q →
    m133_2 K q area b.1 (b.1.length : Int) (i : Int) = some ((b.1.drop i).all fun x => x.2.1.all fun w => !inW area w, ())
  | 0, i, q, hi, hq => by
    obtain ⟨q, rfl⟩ : ∃ j, q = j + 1 := ⟨q - 1, by omega⟩
    rw [m133_2_eq, if_neg (by simp; omega), List.drop_of_length_le (by omega)]
    rfl
  | d + 1, i, q, hi, hq => by
    obtain ⟨q, rfl⟩ : ∃ j, q = j + 1 := ⟨q - 1, by omega⟩
    have hl := h.l
    have hlt : i < b.1.length := by omega
    have hx := mem_getD (d := z42) hlt
    rw [m133_2_eq, Int.toNat_natCast, if_pos (by simp; omega), if_pos (inb hlt), List.drop_eq_getElem_cons hlt, List.all_cons, ← getD_get (d := z42) hlt]
    have e := c133_inner (k1 := q) (x10 := b.1) (x11 := (b.1.length : Int)) (x12 := (i : Int)) hK ha (h.w _ hx) (h.f _ hx) (b.1.getD i z42).2.1.length 0 K (by omega) (by have := h.w _ hx; omega)
    have e : m133_5 K q K area b.1 (b.1.length : Int) (i : Int) (b.1.getD i z42).2.1 ((b.1.getD i z42).2.1.length : Int) 0 = _ := e
    rw [e, List.drop_zero, wsucc (by omega)]
    cases (b.1.getD i z42).2.1.all fun w => !inW area w
    · rfl
    · rw [if_pos rfl, Bool.true_and]
      exact c133_loop hK ha h d (i + 1) q (by omega) (by omega)
theorem c133_ok {K : Nat} (hK : 1000 ≤ K) {area : List Int} (ha : area.length < 1000) {b : Ag33} (h : BSh b) : c133 K b area = some (clearB b area, ()) := by
  have hl := h.l
  have e := c133_loop hK ha h b.1.length 0 K (by omega) (by omega)
  rw [c133_eq]
  exact e

theorem c134_9 {K k1 k2 : Nat} (hK : 1000 ≤ K) {area : List Int} (ha : area.length < 1000) {x2 : Ag33} {x5 x6 : Int} {w : Ag45} (hw : w.2.1.length < 1000) : (d j q : Nat) → j + d = w.2.1.length → d < q →
    m134_9 K k1 k2 q area x2 x5 x6 w.2.1 (j : Int) = if ((List.range' j d).any fun p => area.contains (p : Int) && (w.2.1.getD p 0 != 1099511627776)) = true then some (false, ()) else m134_5 K k1 k2 area x2 x5 (IntKind.i64.wrap (x6 + 1))
  | 0, j, q, hj, hq => by
    obtain ⟨q, rfl⟩ : ∃ j, q = j + 1 := ⟨q - 1, by omega⟩
    rw [m134_9_eq, if_neg (by simp; omega)]
    rfl
  | d + 1, j, q, hj, hq => by
    obtain ⟨q, rfl⟩ : ∃ j, q = j + 1 := ⟨q - 1, by omega⟩
    have hlt : j < w.2.1.length := by omega
    rw [m134_9_eq, wsucc (by omega), Int.toNat_natCast, if_pos (by simp; omega), c21_ok ha hK, List.range'_succ, List.any_cons]
    simp only [Option.bind_some]
    rw [inb hlt, Bool.or_true, if_pos rfl]
    cases area.contains (j : Int)
    · simp only [Bool.false_eq_true, if_false, Bool.false_and, Bool.false_or]
      exact c134_9 hK ha hw d (j + 1) q (by omega) (by omega)
    · simp only [if_true, Bool.true_and]
      cases (w.2.1.getD j 0 != 1099511627776)
      · simp only [Bool.false_eq_true, if_false, Bool.false_or]
        exact c134_9 hK ha hw d (j + 1) q (by omega) (by omega)
      · rfl
theorem c134_5 {K k1 : Nat} (hK : 1000 ≤ K) {area : List Int} (ha : area.length < 1000) {b : Ag33} (h : BSh b) {i : Nat} (hi : i < b.1.length) {x : Ag42} (hxe : b.1.getD i z42 = x) : (d j q : Nat) → j + d = x.2.1.length → d < q →
    m134_5 K k1 q area b (i : Int) (j : Int) = if ((x.2.1.drop j).all fun w => !inW area w) = true then m134_2 K k1 area b ((i + 1 : Nat) : Int) else some (false, ())
  | 0, j, q, hj, hq => by
    obtain ⟨q, rfl⟩ : ∃ j, q = j + 1 := ⟨q - 1, by omega⟩
    have hl := h.l
    rw [m134_5_eq, if_pos (inb hi), Int.toNat_natCast, wsucc (i := i) (by omega)]
    simp only [hxe]
    rw [if_neg (by simp; omega), List.drop_of_length_le (by omega)]
    rfl
  | d + 1, j, q, hj, hq => by
    obtain ⟨q, rfl⟩ : ∃ j, q = j + 1 := ⟨q - 1, by omega⟩
    have hx : x ∈ b.1 := by rw [← hxe]; exact mem_getD hi
    have hlt : j < x.2.1.length := by omega
    have hxl := h.w x hx
    have hwl := h.f x hx _ (mem_getD (d := z45) hlt)
    rw [m134_5_eq, if_pos (inb hi), Int.toNat_natCast]
    simp only [hxe, Int.toNat_natCast]
    rw [if_pos (by simp; omega), if_pos (inb hi), if_pos (inb hlt), List.drop_eq_getElem_cons hlt, List.all_cons, ← getD_get (d := z45) hlt]
    have e := c134_9 (k1 := k1) (k2 := q) hK ha (x2 := b) (x5 := (i : Int)) (x6 := (j : Int)) hwl (x.2.1.getD j z45).2.1.length 0 K (by omega) (by omega)
    have e : m134_9 K k1 q K area b (i : Int) (j : Int) (x.2.1.getD j z45).2.1 0 = _ := e
    rw [e, ← List.range_eq_range', inW_eq, wsucc (by omega)]
    cases inW area (x.2.1.getD j z45)
    · simp only [Bool.false_eq_true, if_false, Bool.not_false, Bool.true_and]
      exact c134_5 hK ha h hi hxe d (j + 1) q (by omega) (by omega)
    · rfl
theorem c134_loop {K : Nat} (hK : 1000 ≤ K) {area : List Int} (ha : area.length < 1000) {b : Ag33} (h : BSh b) : (d i q : Nat) → i + d = b.1.length → d < q →
    m134_2 K q area b (i : Int) = some ((b.1.drop i).all fun x => x.2.1.all fun w => !inW area w, ())
  | 0, i, q, hi, hq => by
    obtain ⟨q, rfl⟩ : ∃ j, q = j + 1 := ⟨q - 1, by omega⟩
    rw [m134_2_eq, if_neg (by simp; omega), List.drop_of_length_le (by omega)]
    rfl
  | d + 1, i, q, hi, hq => by
    obtain ⟨q, rfl⟩ : ∃ j, q = j + 1 := ⟨q - 1, by omega⟩
    have hl := h.l
    have hlt : i < b.1.length := by omega
    have hx := mem_getD (d := z42) hlt
    rw [m134_2_eq, if_pos (by simp; omega), List.drop_eq_getElem_cons hlt, List.all_cons, ← getD_get (d := z42) hlt]
    have e := c134_5 (k1 := q) hK ha h hlt rfl (b.1.getD i z42).2.1.length 0 K (by omega) (by have := h.w _ hx; omega)
    have e : m134_5 K q K area b (i : Int) 0 = _ := e
    rw [e, List.drop_zero]
    cases (b.1.getD i z42).2.1.all fun w => !inW area w
    · rfl
    · rw [if_pos rfl, Bool.true_and]
      exact c134_loop hK ha h d (i + 1) q (by omega) (by omega)
theorem c134_ok {K : Nat} (hK : 1000 ≤ K) {area : List Int} (ha : area.length < 1000) {b : Ag33} (h : BSh b) : c134 K b area = some (clearB b area, ()) := by
  have hl := h.l
  have e := c134_loop hK ha h b.1.length 0 K (by omega) (by omega)
  rw [c134_eq]
  exact e

/-- A blast; a shot. -/
def bOk (x : Ag57) : Bool := decide (0 < x.1.length) && (rising x.1 0 63 && ((decide (1 ≤ x.2.1) && decide (x.2.1 ≤ 100000)) && (decide (1 ≤ x.2.2.1) && decide (x.2.2.1 ≤ 100000))))
def sOk (s : Ag59) : Bool := (decide (0 ≤ s.2.2.2.1) && decide (s.2.2.2.1 ≤ 2147483648)) && (if s.1 = 0 then eqD t59 s (0, 0, 0, 0, ()) else if s.1 = 1 then decide (s.2.1 > 0) && (s.2.2.1 == 0) else if s.1 = 2 ∨ s.1 = 3 ∨ s.1 = 4 then (decide (s.2.1 > 0) && decide (s.2.2.1 > 0)) && (s.2.1 != s.2.2.1) else false)
theorem sOk_zero : sOk (0, 0, 0, 0, ()) = true := by decide

theorem c132_ok {K : Nat} (hK : 1000 ≤ K) {x : Ag57} (hx : x.1.length < 1000) : c132 K x = some (bOk x, ()) := by
  rw [c132_eq, c136_ok hx hK]
  unfold bOk
  show (Option.bind (if decide ((x.1.length : Int) > 0) = true then some (rising x.1 0 63, ()) else some (false, ())) _) = _
  have e : decide ((x.1.length : Int) > 0) = decide (0 < x.1.length) := by simp
  rw [e]
  generalize rising x.1 0 63 = r
  cases decide (0 < x.1.length) <;> cases r <;> cases h1 : decide (1 ≤ x.2.1) <;> cases h2 : decide (x.2.1 ≤ 100000) <;> cases h3 : decide (1 ≤ x.2.2.1) <;> cases h4 : decide (x.2.2.1 ≤ 100000) <;> simp_all
theorem c85_ok {K : Nat} (hK : 1000 ≤ K) {x : Ag57} (hx : x.1.length < 1000) (s : Ag59) : c85 K x s = some (bOk x && sOk s, ()) := by
  rw [c85_eq, c132_ok hK hx]
  simp only [Option.bind_some]
  cases bOk x
  · rfl
  · unfold sOk
    obtain ⟨a, f, g, t, u⟩ := s
    simp only [Bool.not_true, Bool.false_eq_true, if_false, Bool.true_and]
    by_cases h1 : a < 0
    · have e1 : ¬ a = 0 := by omega
      have e2 : ¬ a = 1 := by omega
      have e3 : ¬ (a = 2 ∨ a = 3 ∨ a = 4) := by omega
      simp [h1, e1, e2, e3]
    · by_cases h2 : a > 4
      · have e1 : ¬ a = 0 := by omega
        have e2 : ¬ a = 1 := by omega
        have e3 : ¬ (a = 2 ∨ a = 3 ∨ a = 4) := by omega
        simp [h1, h2, e1, e2, e3]
      · by_cases h3 : t < 0
        · have e1 : ¬ 0 ≤ t := by omega
          simp [h1, h2, h3, e1]
        · by_cases h4 : t > 2147483648
          · have e1 : ¬ t ≤ 2147483648 := by omega
            simp [h1, h2, h3, h4, e1]
          · have e1 : 0 ≤ t := by omega
            have e2 : t ≤ 2147483648 := by omega
            simp only [h1, h2, h3, h4, e1, e2, decide_false, decide_true, Bool.false_eq_true, if_false, Bool.and_self, Bool.true_and]
            by_cases h5 : a = 0
            · simp [h5]
            · by_cases h6 : a = 1
              · simp [h5, h6]
              · have e3 : a = 2 ∨ a = 3 ∨ a = 4 := by omega
                have e5 : (a == 0) = false := by simpa using h5
                have e6 : (a == 1) = false := by simpa using h6
                simp [h5, h6, e3, e5, e6]
theorem c45_ok {K : Nat} (hK : 1000 ≤ K) {x : Ag57} (hx : x.1.length < 1000) (s : Ag59) : c45 K x s = some (bOk x && sOk s, ()) := by
  rw [c45_eq, c92_ok hx hK, c93_ok, c93_ok, c93_ok]
  unfold bOk sOk
  have e0 : ((x.1.length : Int) == 0) = !decide (0 < x.1.length) := by
    by_cases h : 0 < x.1.length
    · have : ((x.1.length : Int) == 0) = false := by rw [Bool.eq_false_iff]; intro e; have := eq_of_beq e; omega
      rw [this, decide_eq_true h]; rfl
    · have h0 : (x.1.length : Int) = 0 := by omega
      have : ((x.1.length : Int) == 0) = true := by rw [h0]; rfl
      rw [this, decide_eq_false h]; rfl
  rw [e0]
  generalize rising x.1 0 63 = r
  generalize decide (0 < x.1.length) = z
  generalize (decide (1 ≤ x.2.1) && decide (x.2.1 ≤ 100000)) = h1
  generalize (decide (1 ≤ x.2.2.1) && decide (x.2.2.1 ≤ 100000)) = h2
  generalize (decide (0 ≤ s.2.2.2.1) && decide (s.2.2.2.1 ≤ 2147483648)) = h3
  cases z <;> cases r <;> cases h1 <;> cases h2 <;> cases h3 <;> simp only [Bool.not_true, Bool.not_false, Bool.false_eq_true, if_true, if_false, Option.bind_some, Bool.true_and, Bool.false_and, Bool.and_false]
  obtain ⟨a, f, g, t, u⟩ := s
  simp only
  by_cases h5 : a = 0
  · simp [h5]
  · by_cases h6 : a = 1
    · simp [h6]
    · have e5 : (a == 0) = false := by simpa using h5
      have e6 : (a == 1) = false := by simpa using h6
      by_cases h7 : a = 2
      · subst h7; simp
      · have e7 : (a == 2) = false := by simpa using h7
        by_cases h8 : a = 3
        · subst h8; simp
        · have e8 : (a == 3) = false := by simpa using h8
          by_cases h9 : a = 4
          · subst h9; simp
          · have e9 : (a == 4) = false := by simpa using h9
            simp [h5, h6, h7, h8, h9, e5, e6, e7, e8, e9]

def safeB (x : Ag57) (k : Ks) (b : Ag33) : Bool := bOk x && (valid k && (k.2.2.1 && (decide ((b.1.length : Int) > 0) && clearB b x.1)))
theorem c86_ok {K : Nat} (hK : 1000 ≤ K) {x : Ag57} (hx : x.1.length < 1000) {k : Ks} (hk : Short k) {b : Ag33} (h : BSh b) : c86 K x k b = some (safeB x k b, ()) := by
  rw [c86_eq, c45_ok hK hx, c58_ok hk hK, c133_ok hK hx h, sOk_zero]
  unfold safeB
  cases bOk x <;> cases valid k <;> cases k.2.2.1 <;> cases decide ((b.1.length : Int) > 0) <;> cases clearB b x.1 <;> rfl
theorem c87_ok {K : Nat} (hK : 1000 ≤ K) {x : Ag57} (hx : x.1.length < 1000) {k : Ks} (hk : Short k) {b : Ag33} (h : BSh b) : c87 K x k b = some (safeB x k b, ()) := by
  rw [c87_eq, c132_ok hK hx, c94_ok hk hK, c134_ok hK hx h]
  unfold safeB
  cases bOk x <;> cases valid k <;> cases k.2.2.1 <;> cases decide ((b.1.length : Int) > 0) <;> cases clearB b x.1 <;> rfl

/-- What a step answers. -/
def stepE (x : Ag57) (s : Ag59) (k : Ks) (b : Ag33) (from_ : Int) (stranger : Bool) (t : Int) : Int :=
  if (bOk x && sOk s) = false then 6 else if s.1 ≠ from_ then 10 else if t < 0 ∨ t > 2147483648 ∨ t < s.2.2.2.1 then 8 else if stranger = true then 19 else if from_ ≠ 0 ∧ IntKind.i64.wrap (t - s.2.2.2.1) > x.2.1 then 10 else if valid k = false ∨ k.2.2.1 = false then 48 else if safeB x k b = false then 49 else 0
theorem c90_ok {K : Nat} (hK : 1000 ≤ K) {x : Ag57} (hx : x.1.length < 1000) (s : Ag59) {k : Ks} (hk : Short k) {b : Ag33} (h : BSh b) (t from_ : Int) (st : Bool) : c90 K (x, s, k, b, t, from_, ()) st = some (stepE x s k b from_ st t, ()) := by
  rw [c90_eq]
  simp only
  rw [c45_ok hK hx, c58_ok hk hK, c86_ok hK hx hk h, c91_eq]
  unfold stepE
  generalize (bOk x && sOk s) = u
  generalize valid k = v
  generalize safeB x k b = z
  simp only [Option.bind_some]
  cases u
  · rfl
  · simp only [Bool.not_true, Bool.false_eq_true, if_false, reduceCtorEq]
    by_cases h1 : s.1 = from_
    · have e1 : (s.1 != from_) = false := by simp [h1]
      have e0 : ¬ (s.1 ≠ from_) := fun h => h h1
      rw [e1, if_neg Bool.false_ne_true, if_neg e0]
      by_cases h2 : t < 0
      · have e2 : (t < 0 ∨ t > 2147483648 ∨ t < s.2.2.2.1) := .inl h2
        rw [if_pos e2]
        simp only [h2, decide_true, Bool.not_true, Bool.false_eq_true, if_false, Option.bind_some, if_true]
      · by_cases h3 : t ≥ s.2.2.2.1
        · by_cases h4 : t ≤ 2147483648
          · have e2 : ¬ (t < 0 ∨ t > 2147483648 ∨ t < s.2.2.2.1) := by omega
            rw [if_neg e2]
            simp only [h2, h3, h4, decide_false, decide_true, Bool.not_false, if_true, Option.bind_some, Bool.false_eq_true, if_false, Bool.not_true]
            cases st
            · simp only [Bool.false_eq_true, if_false]
              by_cases h5 : from_ = 0
              · simp only [h5, bne_self_eq_false, Bool.false_eq_true, if_false, ne_eq, not_true_eq_false, false_and]
                cases v <;> cases k.2.2.1 <;> cases z <;> rfl
              · have e3 : (from_ != 0) = true := by simpa using h5
                simp only [e3, if_true, h5, ne_eq, not_false_eq_true, true_and]
                by_cases h6 : IntKind.i64.wrap (t - s.2.2.2.1) > x.2.1
                · simp [h6]
                · simp only [h6, decide_false, Bool.false_eq_true, if_false]
                  cases v <;> cases k.2.2.1 <;> cases z <;> rfl
            · rfl
          · have e2 : (t < 0 ∨ t > 2147483648 ∨ t < s.2.2.2.1) := by omega
            rw [if_pos e2]
            simp only [h2, h3, h4, decide_false, decide_true, Bool.not_false, if_true, Option.bind_some, Bool.false_eq_true, if_false]
        · have e2 : (t < 0 ∨ t > 2147483648 ∨ t < s.2.2.2.1) := by omega
          rw [if_pos e2]
          simp only [h2, h3, decide_false, Bool.not_false, if_true, Option.bind_some, Bool.false_eq_true, if_false]
    · have e1 : (s.1 != from_) = true := by simpa using h1
      rw [e1, if_pos rfl, if_pos (show s.1 ≠ from_ from h1)]
theorem c131_ok {K : Nat} (hK : 1000 ≤ K) {x : Ag57} (hx : x.1.length < 1000) (s : Ag59) {k : Ks} (hk : Short k) {b : Ag33} (h : BSh b) (st role t : Int) : c131 K x s k b st role t = some (stepE x s k b st (if decide (role ≤ 0) = true then true else if (st == 1) = true then role == s.2.1 else false) t, ()) := by
  rw [c131_eq, c85_ok hK hx, c94_ok hk hK, c87_ok hK hx hk h]
  unfold stepE
  generalize (bOk x && sOk s) = u
  generalize valid k = v
  generalize safeB x k b = z
  generalize (if decide (role ≤ 0) = true then true else if (st == 1) = true then role == s.2.1 else false) = w
  simp only [Option.bind_some]
  cases u
  · rfl
  · simp only [Bool.not_true, Bool.false_eq_true, if_false, reduceCtorEq]
    by_cases h1 : s.1 = st
    · have e1 : (s.1 != st) = false := by simp [h1]
      have e0 : ¬ (s.1 ≠ st) := fun h => h h1
      rw [e1, if_neg Bool.false_ne_true, if_neg e0]
      have e2 : (if (if decide (t < 0) = true then true else decide (t > 2147483648)) = true then true else decide (t < s.2.2.2.1)) = decide (t < 0 ∨ t > 2147483648 ∨ t < s.2.2.2.1) := by
        by_cases a1 : t < 0 <;> by_cases a2 : t > 2147483648 <;> by_cases a3 : t < s.2.2.2.1 <;> simp [a1, a2, a3]
      rw [e2]
      by_cases h2 : (t < 0 ∨ t > 2147483648 ∨ t < s.2.2.2.1)
      · simp only [h2, decide_true, if_true]
      · simp only [h2, decide_false, Bool.false_eq_true, if_false]
        cases w
        · simp only [Bool.false_eq_true, if_false]
          by_cases h5 : st = 0
          · simp only [h5, bne_self_eq_false, Bool.false_eq_true, if_false, ne_eq, not_true_eq_false, false_and]
            cases v <;> cases k.2.2.1 <;> cases z <;> rfl
          · have e3 : (st != 0) = true := by simpa using h5
            simp only [e3, if_true, h5, ne_eq, not_false_eq_true, true_and]
            by_cases h6 : IntKind.i64.wrap (t - s.2.2.2.1) > x.2.1
            · simp [h6]
            · simp only [h6, decide_false, Bool.false_eq_true, if_false]
              cases v <;> cases k.2.2.1 <;> cases z <;> rfl
        · rfl
    · have e1 : (s.1 != st) = true := by simpa using h1
      rw [e1, if_pos rfl, if_pos (show s.1 ≠ st from h1)]

theorem sOk_time {s : Ag59} (h : sOk s = true) : 0 ≤ s.2.2.2.1 := by
  simp only [sOk, Bool.and_eq_true, decide_eq_true_eq] at h
  exact h.1.1
theorem eqD59 (a : Ag59) : eqD t59 a a = true := by
  obtain ⟨x, y, z, u, v⟩ := a
  simp [eqD, eqDL, t59]

/-- All functions agree. -/
theorem c38_ok {K : Nat} (hK : 1000 ≤ K) {x : Ag57} (hx : x.1.length < 1000) (s : Ag59) {k : Ks} (hk : Short k) {b : Ag33} (h : BSh b) (role t : Int) (fails : Bool) : c38 K x s k b role t fails = some (true, ()) := by
  have a1 : ∃ r, c41 K x s k b role t = some r ∧ c81 K x s k b role t = some r := by
    rw [c41_eq, c81_eq, c90_ok hK hx s hk h, c131_ok hK hx s hk h]
    have e : (if decide (role ≤ 0) = true then true else if ((0 : Int) == 1) = true then role == s.2.1 else false) = decide (role ≤ 0) := by cases decide (role ≤ 0) <;> rfl
    rw [e]
    simp only [Option.bind_some]
    generalize stepE x s k b 0 (decide (role ≤ 0)) t = z
    cases (z != 0) <;> exact ⟨_, rfl, rfl⟩
  have a2 : ∃ r, c42 K x s k b role t = some r ∧ c82 K x s k b role t = some r := by
    rw [c42_eq, c82_eq, c90_ok hK hx s hk h, c131_ok hK hx s hk h]
    have e : (if decide (role ≤ 0) = true then true else if ((1 : Int) == 1) = true then role == s.2.1 else false) = (if decide (role ≤ 0) = true then true else (role == s.2.1)) := by cases decide (role ≤ 0) <;> rfl
    rw [e]
    simp only [Option.bind_some]
    generalize stepE x s k b 1 (if decide (role ≤ 0) = true then true else (role == s.2.1)) t = z
    cases (z != 0) <;> exact ⟨_, rfl, rfl⟩
  have a3 : ∃ r, c43 K x s k b t fails = some r ∧ c83 K x s k b t fails = some r := by
    rw [c43_eq, c83_eq, c90_ok hK hx s hk h, c131_ok hK hx s hk h]
    have e : (if decide ((1 : Int) ≤ 0) = true then true else if ((2 : Int) == 1) = true then (1 : Int) == s.2.1 else false) = false := by rfl
    rw [e]
    simp only [Option.bind_some]
    generalize stepE x s k b 2 false t = z
    cases (z != 0) <;> cases fails <;> exact ⟨_, rfl, rfl⟩
  have a4 : ∃ r, c44 K x s t = some r ∧ c84 K x s t = some r := by
    rw [c44_eq, c84_eq, c45_ok hK hx, c85_ok hK hx, c91_eq]
    simp only [Option.bind_some]
    cases hb : (bOk x && sOk s)
    · exact ⟨_, rfl, rfl⟩
    · simp only [Bool.and_eq_true] at hb
      have h0 := sOk_time hb.2
      simp only [Bool.not_true, Bool.false_eq_true, if_false]
      have e2 : (if (if decide (t < 0) = true then true else decide (t > 2147483648)) = true then true else decide (t < s.2.2.2.1)) = !(if decide (t ≥ s.2.2.2.1) = true then decide (t ≤ 2147483648) else false) := by
        by_cases a1 : t < 0 <;> by_cases a2 : t ≤ 2147483648 <;> by_cases a3 : t ≥ s.2.2.2.1
        · omega
        · have b2 : ¬ t > 2147483648 := by omega
          have b3 : t < s.2.2.2.1 := by omega
          simp [a1, a3]
        · omega
        · omega
        · have b2 : ¬ t > 2147483648 := by omega
          have b3 : ¬ t < s.2.2.2.1 := by omega
          simp [a1, a2, a3, b2, b3]
        · have b2 : ¬ t > 2147483648 := by omega
          have b3 : t < s.2.2.2.1 := by omega
          simp [a1, a3, b2, b3]
        · have b2 : t > 2147483648 := by omega
          simp [a2, a3, b2]
        · have b2 : t > 2147483648 := by omega
          simp [a3, b2]
      rw [e2]
      generalize (if decide (t ≥ s.2.2.2.1) = true then decide (t ≤ 2147483648) else false) = w
      generalize (if (s.1 == 4) = true then decide (IntKind.i64.wrap (t - s.2.2.2.1) < x.2.2.1) else false) = w2
      cases (s.1 == 0) <;> cases w <;> cases w2 <;> exact ⟨_, rfl, rfl⟩
  have a5 : ∃ r, c78 K x s t = some r ∧ c88 K x s t = some r := by
    rw [c78_eq, c88_eq, c45_ok hK hx, c85_ok hK hx]
    simp only [Option.bind_some]
    have : ∀ z : Option (Int × Unit), z = z := fun _ => rfl
    cases hb : (bOk x && sOk s)
    · exact ⟨_, rfl, rfl⟩
    · have tot : ∃ r, (if (if (!true) = true then true else decide (t < s.2.2.2.1)) = true then some ((0 : Int), ()) else if (s.1 == 1) = true then (if (s.1 == 1) = true then some ((if IntKind.i64.wrap (x.2.1 - IntKind.i64.wrap (t - s.2.2.2.1)) > 0 then IntKind.i64.wrap (x.2.1 - IntKind.i64.wrap (t - s.2.2.2.1)) else 0), ()) else if (s.1 == 4) = true then some ((if IntKind.i64.wrap (x.2.2.1 - IntKind.i64.wrap (t - s.2.2.2.1)) > 0 then IntKind.i64.wrap (x.2.2.1 - IntKind.i64.wrap (t - s.2.2.2.1)) else 0), ()) else some (0, ())) else (if (s.1 == 2) = true then some ((if IntKind.i64.wrap (x.2.1 - IntKind.i64.wrap (t - s.2.2.2.1)) > 0 then IntKind.i64.wrap (x.2.1 - IntKind.i64.wrap (t - s.2.2.2.1)) else 0), ()) else if (s.1 == 4) = true then some ((if IntKind.i64.wrap (x.2.2.1 - IntKind.i64.wrap (t - s.2.2.2.1)) > 0 then IntKind.i64.wrap (x.2.2.1 - IntKind.i64.wrap (t - s.2.2.2.1)) else 0), ()) else some (0, ()))) = some r := by
        generalize (if (!true) = true then true else decide (t < s.2.2.2.1)) = c1
        generalize (s.1 == 1) = c2
        generalize (s.1 == 2) = c3
        generalize (s.1 == 4) = c4
        cases c1 <;> cases c2 <;> cases c3 <;> cases c4 <;> exact ⟨_, rfl⟩
      obtain ⟨r, hr⟩ := tot
      exact ⟨r, hr, hr⟩
  obtain ⟨r1, e1, f1⟩ := a1
  obtain ⟨r2, e2, f2⟩ := a2
  obtain ⟨r3, e3, f3⟩ := a3
  obtain ⟨r4, e4, f4⟩ := a4
  obtain ⟨r5, e5, f5⟩ := a5
  rw [c38_eq, e1, f1, e2, f2, e3, f3, e4, f4, c45_ok hK hx, c85_ok hK hx, c86_ok hK hx hk h, c87_ok hK hx hk h, e5, f5]
  simp only [Option.bind_some, eqD59, beq_self_eq_true, if_true]
end Fs

/- Firing: the scene, and the laws. -/
open Go Go.Ev
namespace Fs

theorem BOk.sh {n : Nat} {T : List Int} {b : Ag33} (h : BOk n T b) (hn : n < 1000) (hT : T.length < 900) : BSh b := ⟨by have := h.l24; omega, fun x hx => by rw [(h.w x hx).w]; omega, fun x hx y hy => by rw [((h.w x hx).b y hy).len]; exact hn⟩

/-- The border of an area. -/
theorem c79_loop {K : Nat} (hK : 1000 ≤ K) {m : Ag29} (hm : MOk m) {area : List Int} (ha : area.length < 1000) : (d i q : Nat) → (out : List Int) → i + d = m.2.1.length → d < q → out.length ≤ i → (∀ x ∈ out, 0 ≤ x ∧ x < (m.2.1.length : Int)) →
    ∃ l, m79_3 K q area m out (i : Int) = some (l, ()) ∧ l.length ≤ m.2.1.length ∧ ∀ x ∈ l, 0 ≤ x ∧ x < (m.2.1.length : Int)
  | 0, i, q, out, hi, hq, ho, hx => by
    obtain ⟨q, rfl⟩ : ∃ j, q = j + 1 := ⟨q - 1, by omega⟩
    rw [m79_3_eq, if_neg (by simp; omega)]
    exact ⟨out, rfl, by omega, hx⟩
  | d + 1, i, q, out, hi, hq, ho, hx => by
    obtain ⟨q, rfl⟩ : ∃ j, q = j + 1 := ⟨q - 1, by omega⟩
    have hr10 := hm.r10
    have hlt : i < m.2.1.length := by omega
    obtain ⟨r1, e1, _⟩ := c128_ok hK hm hlt false
    obtain ⟨r2, e2, _⟩ := c128_ok hK hm hlt true
    have c21a := fun x => c21_ok (K := K) ha hK x
    rw [m79_3_eq, wsucc (by omega), Int.toNat_natCast, if_pos (by simp; omega), if_pos (inb hlt), e1]
    simp only [Option.bind_some, e2, c21a]
    generalize m.2.1.getD i z92 = g
    generalize area.contains g.1 = u1
    generalize area.contains g.2.1 = u2
    have yes : ∃ l, (if decide (out.length + [(i : Int)].length < LIM 8) = true then m79_3 K q area m (out ++ [(i : Int)]) ((i + 1 : Nat) : Int) else none) = some (l, ()) ∧ l.length ≤ m.2.1.length ∧ ∀ x ∈ l, 0 ≤ x ∧ x < (m.2.1.length : Int) := by
      rw [if_pos (lt8 (by simp; omega))]
      refine c79_loop hK hm ha d (i + 1) q _ (by omega) (by omega) (by simp; omega) (fun x hx' => ?_)
      rcases List.mem_append.1 hx' with hx' | hx'
      · exact hx x hx'
      · simp only [List.mem_singleton] at hx'; omega
    have no := c79_loop hK hm ha d (i + 1) q out (by omega) (by omega) (by omega) hx
    have fin : ∀ (r2' r3' r4' : Bool) (c1 c2 : Bool), (∃ l, (if (if c1 = true then c2 else false) = true then (if decide (out.length + [(i : Int)].length < LIM 8) = true then m79_3 K q area m (out ++ [(i : Int)]) ((i + 1 : Nat) : Int) else none) else m79_3 K q area m out ((i + 1 : Nat) : Int)) = some (l, ()) ∧ l.length ≤ m.2.1.length ∧ ∀ x ∈ l, 0 ≤ x ∧ x < (m.2.1.length : Int)) := by
      intro _ _ _ c1 c2
      cases c1 <;> cases c2 <;> simp only [if_true, Bool.false_eq_true, if_false] <;> first | exact yes | exact no
    cases h1 : decide (r1 ≥ 0) <;> cases h2 : decide (r2 ≥ 0) <;> cases h3 : g.2.2.2.2.2.1 <;> simp only [Bool.not_true, Bool.not_false, if_true, Bool.false_eq_true, if_false, Option.bind_some, h2] <;> first | exact no | exact yes | (cases u1 <;> cases u2 <;> first | exact yes | exact no | (simp only [beq_self_eq_true, Bool.not_true, Bool.not_false, Bool.false_eq_true, if_true, if_false]; first | exact yes | exact no))
theorem c79_ok {K : Nat} (hK : 1000 ≤ K) {m : Ag29} (hm : MOk m) {area : List Int} (ha : area.length < 1000) : ∃ l, c79 K m area = some (l, ()) ∧ l.length ≤ m.2.1.length ∧ ∀ x ∈ l, 0 ≤ x ∧ x < (m.2.1.length : Int) := by
  have hr10 := hm.r10
  rw [c79_eq]
  exact c79_loop hK hm ha m.2.1.length 0 K [] (by omega) (by omega) (by simp) (by simp)

theorem c155_ok (K : Nat) {m : Ag29} (hm : MOk m) : c155 K m = some (m, ()) := by
  have hp7 := hm.p7
  have hr10 := hm.r10
  rw [c155_eq, if_pos (by rw [LIM16]; simp; omega), if_pos (by rw [LIM80]; simp; omega), List.nil_append, List.nil_append]
/-- Barriers. -/
theorem c129_ok {K : Nat} (hK : 1000 ≤ K) {m : Ag29} (hm : MOk m) {l : List Int} (hl : l.length < 1000) (hx : ∀ x ∈ l, 0 ≤ x ∧ x < (m.2.1.length : Int)) : ∃ m' e, c129 K m l = some (m', e, ()) ∧ (e = 0 → MOk m' ∧ m'.1.length = m.1.length) := by
  obtain ⟨r, hr⟩ := c136_tot hl hK (m.2.1.length : Int)
  rw [c129_eq, c110_ok hK hm, hr, c155_ok K hm]
  simp only [Option.bind_some, bne_self_eq_false, Bool.false_eq_true, if_false]
  cases r
  · exact ⟨([], [], ()), 4, rfl, fun h => absurd h (by decide)⟩
  · simp only [Bool.not_true, Bool.false_eq_true, if_false]
    obtain ⟨r, h1, h2, h3, h4⟩ := loopT (L := fun q (s : Nat × Ag29) => m129_7 K q l s.2 z29 (s.1 : Int)) (fun s => s.1 ≤ l.length ∧ MOk s.2 ∧ s.2.1.length = m.1.length ∧ s.2.2.1.length = m.2.1.length) (fun s => l.length - s.1) (fun r => MOk r.1 ∧ r.1.1.length = m.1.length ∧ r.2.1 = 0) (fun q s hs => by
      obtain ⟨i, m'⟩ := s
      obtain ⟨hi, ho, h5, h6⟩ := hs
      simp only at hi ho h5 h6 ⊢
      rw [m129_7_eq]
      by_cases hlt : i < l.length
      · have hp := hx _ (mem_getD (d := 0) hlt)
        rw [wsucc (by omega), Int.toNat_natCast, if_pos (by simp; omega), if_pos (inb hlt)]
        generalize l.getD i 0 = p at hp
        have e1 : (decide (0 ≤ p) && decide (p < (m'.2.1.length : Int))) = true := by rw [h6]; simp; omega
        have hpm : p.toNat < m'.2.1.length := by omega
        have hg := ho.r _ (mem_getD (d := z92) hpm)
        rw [if_pos e1]
        refine .inr ⟨(i + 1, (m'.1, List.set m'.2.1 p.toNat ((m'.2.1.getD p.toNat z92).1, (m'.2.1.getD p.toNat z92).2.1, (m'.2.1.getD p.toNat z92).2.2.1, (m'.2.1.getD p.toNat z92).2.2.2.1, false, (m'.2.1.getD p.toNat z92).2.2.2.2.2.1, (m'.2.1.getD p.toNat z92).2.2.2.2.2.2.1, (m'.2.1.getD p.toNat z92).2.2.2.2.2.2.2.1, ()), ())), ⟨by show i + 1 ≤ l.length; omega, ⟨ho.p2, ho.p7, by simpa using ho.r10, ho.h, fun y hy => ?_⟩, h5, by simpa using h6⟩, by show l.length - (i + 1) < l.length - i; omega, rfl⟩
        rcases List.mem_or_eq_of_mem_set hy with hy | hy
        · exact ho.r y hy
        · rw [hy]; exact hg
      · rw [if_neg (by simp; omega)]
        exact .inl ⟨(m', 0, ()), rfl, ho, h5, rfl⟩) l.length (0, m) K (by show l.length - 0 ≤ l.length; omega) ⟨by show 0 ≤ l.length; omega, hm, rfl, rfl⟩ (by omega)
    exact ⟨r.1, r.2.1, h1, fun _ => ⟨h2, h3⟩⟩

theorem c130_ok {K : Nat} (hK : KK ≤ K) {m : Ag29} (hm : MOk m) {w : Ag45} (h : Box m.1.length w.2.1) (t : Int) : ∃ w', c130 K m w t = some (w', ()) ∧ Box m.1.length w'.2.1 := by
  have hK' : 17592186044416 ≤ K := hK
  have hp7 := hm.p7
  have hlen := h.len
  rw [c130_eq, if_pos (lt8 (by simp; omega)), List.nil_append]
  obtain ⟨r, h1, h2⟩ := loopT (L := fun q (s : Nat × List Int) => m130_3 K q t m z45 s.2 (s.1 : Int)) (fun s => s.1 ≤ m.1.length ∧ Box m.1.length s.2) (fun s => m.1.length - s.1) (fun r => Box m.1.length r.1.2.1) (fun q s hs => by
    obtain ⟨i, l⟩ := s
    obtain ⟨hi, hb⟩ := hs
    simp only at hi hb ⊢
    have hbl := hb.len
    rw [m130_3_eq]
    by_cases hlt : i < m.1.length
    · rw [wsucc (by omega), Int.toNat_natCast, if_pos (by simp; omega), if_pos (inb (by omega)), if_pos (inb (by omega))]
      split
      · exact .inr ⟨(i + 1, _), ⟨by show i + 1 ≤ m.1.length; omega, hb.set (by decide) (by decide)⟩, by show m.1.length - (i + 1) < m.1.length - i; omega, rfl⟩
      · exact .inr ⟨(i + 1, l), ⟨by show i + 1 ≤ m.1.length; omega, hb⟩, by show m.1.length - (i + 1) < m.1.length - i; omega, rfl⟩
    · rw [if_neg (by simp; omega)]
      obtain ⟨l', e, f⟩ := c146_ok hK hm hb t
      rw [e]
      exact .inl ⟨((t, l', ()), ()), rfl, f⟩) m.1.length (0, w.2.1) K (by show m.1.length - 0 ≤ m.1.length; omega) ⟨by show 0 ≤ m.1.length; omega, h⟩ (by omega)
  exact ⟨r.1, h1, h2⟩

theorem c80_inner {K k1 : Nat} (hK : KK ≤ K) {m : Ag29} (hm : MOk m) {T : List Int} (hT : T.length < 900) {b0 : Ag33} {t : Int} {x8 : Ag33} {i : Nat} : (d j q : Nat) → (b : Ag33) → j + d = T.length → d < q → i < b.1.length → BOk m.1.length T b →
    m80_12 K k1 q t b0 x8 m b (i : Int) (j : Int) = some (b0, 8, ()) ∨ ∃ b', m80_12 K k1 q t b0 x8 m b (i : Int) (j : Int) = m80_9 K k1 t b0 x8 m b' ((i + 1 : Nat) : Int) ∧ BOk m.1.length T b' ∧ b'.1.length = b.1.length
  | 0, j, q, b, hj, hq, hi, hb => by
    obtain ⟨q, rfl⟩ : ∃ j, q = j + 1 := ⟨q - 1, by omega⟩
    have h24 := hb.l24
    have hx := hb.w _ (mem_getD (d := z42) hi)
    have e1 : ¬ (j : Int) < (((b.1.getD i z42).2.1.length : Nat) : Int) := by rw [hx.w]; omega
    rw [m80_12_eq, wsucc (i := i) (by omega), if_pos (inb hi), Int.toNat_natCast, if_neg (by simpa using e1)]
    exact .inr ⟨b, rfl, hb, rfl⟩
  | d + 1, j, q, b, hj, hq, hi, hb => by
    obtain ⟨q, rfl⟩ : ∃ j, q = j + 1 := ⟨q - 1, by omega⟩
    have h24 := hb.l24
    have hx := hb.w _ (mem_getD (d := z42) hi)
    have hlt : j < (b.1.getD i z42).2.1.length := by rw [hx.w]; omega
    have hbx := hx.b _ (mem_getD (d := z45) hlt)
    rw [m80_12_eq, wsucc (i := j) (by omega), if_pos (inb hi), Int.toNat_natCast, Int.toNat_natCast, if_pos (by simpa using hlt), if_pos (inb hi), if_pos (inb hlt)]
    generalize (if decide (t < ((b.1.getD i z42).2.1.getD j z45).1) = true then true else decide (t > 2147483648)) = u
    cases u
    · rw [if_neg Bool.false_ne_true, if_pos (inb hi)]
      obtain ⟨w', e, hw'⟩ := c130_ok hK hm hbx t
      rw [e]
      simp only [Option.bind_some]
      rw [if_pos (inb hlt)]
      have hb' : BOk m.1.length T (List.set b.1 i ((b.1.getD i z42).1, List.set (b.1.getD i z42).2.1 j w', ()), ()) := ⟨by rw [List.length_set]; exact hb.l1, by rw [List.length_set]; exact hb.l24, fun x hx' => by
        rcases List.mem_or_eq_of_mem_set hx' with hx' | hx'
        · exact hb.w x hx'
        · rw [hx']
          refine ⟨hx.t, by simpa using hx.w, fun y hy => ?_⟩
          rcases List.mem_or_eq_of_mem_set hy with hy | hy
          · exact hx.b y hy
          · rw [hy]; exact hw'⟩
      refine (c80_inner (k1 := k1) (i := i) hK hm hT d (j + 1) q _ (by omega) (by omega) (by rw [List.length_set]; exact hi) hb').imp id ?_
      rintro ⟨b', f1, f2, f3⟩
      exact ⟨b', f1, f2, by rw [f3, List.length_set]⟩
    · rw [if_pos rfl]; exact .inl rfl
theorem c80_loop {K : Nat} (hK : KK ≤ K) {m : Ag29} (hm : MOk m) {T : List Int} (hT : T.length < 900) {b0 : Ag33} (hb0 : BOk m.1.length T b0) {t : Int} {x8 : Ag33} : (d i q : Nat) → (b : Ag33) → i + d = b.1.length → d < q → BOk m.1.length T b →
    ∃ b' e, m80_9 K q t b0 x8 m b (i : Int) = some (b', e, ()) ∧ BOk m.1.length T b'
  | 0, i, q, b, hi, hq, hb => by
    obtain ⟨q, rfl⟩ : ∃ j, q = j + 1 := ⟨q - 1, by omega⟩
    have hK' : 17592186044416 ≤ K := hK
    have hp7 := hm.p7
    have h1 := hb.l1
    have h24 := hb.l24
    obtain ⟨out', e, f1, f2, f3⟩ := c116_ok (K := K) (by omega) (by omega) hT (l := b.1) (by omega) hb.w
    rw [m80_9_eq, if_neg (by simp; omega), e]
    exact ⟨(out', ()), 0, rfl, f2 (by omega), by show out'.length ≤ 24; omega, f3⟩
  | d + 1, i, q, b, hi, hq, hb => by
    obtain ⟨q, rfl⟩ : ∃ j, q = j + 1 := ⟨q - 1, by omega⟩
    have hK' : 17592186044416 ≤ K := hK
    rw [m80_9_eq, if_pos (by simp; omega)]
    have h := c80_inner (k1 := q) (b0 := b0) (t := t) (x8 := x8) (i := i) hK hm hT T.length 0 K b (by omega) (by omega) (by omega) hb
    rcases h with e | ⟨b', e, hb', hl⟩
    · have e : m80_12 K q K t b0 x8 m b (i : Int) 0 = _ := e
      rw [e]; exact ⟨b0, 8, rfl, hb0⟩
    · have e : m80_12 K q K t b0 x8 m b (i : Int) 0 = _ := e
      rw [e]
      exact c80_loop hK hm hT hb0 d (i + 1) q b' (by omega) (by omega) hb'
/-- A belief is sealed. -/
theorem c80_ok {K : Nat} (hK : KK ≤ K) {m : Ag29} (hm : MOk m) {T : List Int} (hT : T.length < 900) {b : Ag33} (hb : BOk m.1.length T b) {l : List Int} (hl : l.length < 1000) (hx : ∀ x ∈ l, 0 ≤ x ∧ x < (m.2.1.length : Int)) (t : Int) : ∃ b' e, c80 K m b l t = some (b', e, ()) ∧ BOk m.1.length T b' := by
  have hK' : 17592186044416 ≤ K := hK
  have hp7 := hm.p7
  have h24 := hb.l24
  have hcp := c40_ok (K := K) (by omega) (n := m.1.length) (by omega) (T := T) (by omega) (b := b) (by omega) hb.w
  obtain ⟨r, hr⟩ := c113_ok hK hm (by omega) hb
  obtain ⟨m', e, h1, h2⟩ := c129_ok (K := K) (by omega) hm hl hx
  rw [c80_eq, hcp]
  simp only [Option.bind_some, hr]
  cases r
  · exact ⟨b, 6, rfl, hb⟩
  · simp only [Bool.not_true, Bool.false_eq_true, if_false, h1, Option.bind_some]
    by_cases he : (e != 0) = true
    · rw [if_pos he]; exact ⟨b, e, rfl, hb⟩
    · rw [if_neg he, hcp]
      simp only [Option.bind_some]
      obtain ⟨hm', hl'⟩ := h2 (by simpa using he)
      rw [← hl'] at hb ⊢
      exact c80_loop hK hm' hT hb b.1.length 0 K b (by omega) (by omega) hb

/-- A scene. -/
theorem c37_ok {K : Nat} (hK : KK ≤ K) {d : Dc} (hd : DOk d) : ∃ x k b d', c37 K d = some (x, k, b, d', ()) ∧ x.1.length < 1000 ∧ Short k ∧ BSh b ∧ DOk d' := by
  have hK' : 17592186044416 ≤ K := hK
  obtain ⟨m, d1, e1, hd1, hm⟩ := c16_ok (K := K) (by omega) hd
  have hp7 := hm.p7
  have hr10 := hm.r10
  rw [c37_eq, e1]; simp only [Option.bind_some]
  obtain ⟨r2, d2, e2, b2, hd2⟩ := c35_ok K hd1 (l := [299, 9]) (by decide) (by decide)
  rw [e2]; simp only [Option.bind_some]
  obtain ⟨r3, d3, e3, b3, hd3⟩ := c35_ok K hd2 (l := [1799, 9]) (by decide) (by decide)
  rw [e3]; simp only [Option.bind_some]
  obtain ⟨n, b, d4, e4, hd4, h1, h3, hb⟩ := c17_ok hK hm hd3
  have hT := Tn_len n
  rw [e4]; simp only [Option.bind_some]
  obtain ⟨l, e5, hl, hx⟩ := c79_ok (K := K) (by omega) hm (area := [IntKind.i64.wrap ((m.1.length : Int) - 1)]) (by simp)
  rw [e5]; simp only [Option.bind_some]
  obtain ⟨t, e6⟩ := c18_ok (K := K) (by omega) (by omega) hb
  rw [e6]; simp only [Option.bind_some]
  obtain ⟨r7, d7, e7, b7, b7', hd7⟩ := c19_ok K hd4 (n := 50) (by decide) (by decide)
  rw [e7]; simp only [Option.bind_some]
  obtain ⟨b', e8, h8, hb'⟩ := c80_ok hK hm (by omega) hb (l := l) (by omega) hx (IntKind.i64.wrap (t + r7))
  rw [h8]; simp only [Option.bind_some]
  obtain ⟨r9, d9, e9, b9, b9', hd9⟩ := c19_ok K hd7 (n := 6) (by decide) (by decide)
  rw [e9]; simp only [Option.bind_some]
  split
  · exact ⟨_, _, _, _, rfl, by simp, ⟨by simp, by simp⟩, hb.sh (by omega) (by omega), hd9⟩
  · exact ⟨_, _, _, _, rfl, by simp, ⟨by simp, by simp⟩, hb'.sh (by omega) (by omega), hd9⟩

abbrev xR : Ag57 := ([1], 300, 1800, ())
abbrev kR : Ks := ([0], [2], true, ())
abbrev bR : Ag33 := ([([1], [(0, [0, 1099511627776], ())], ())], ())
theorem bR_sh : BSh bR := ⟨by decide, by decide, by decide⟩
theorem kR_sh : Short kR := ⟨by decide, by decide⟩
theorem sR1 : stepE xR (0, 0, 0, 0, ()) kR bR 0 (decide ((1 : Int) ≤ 0)) 100 = 0 := by decide
theorem sR2 : stepE xR (1, 1, 0, 100, ()) kR bR 1 (if decide ((2 : Int) ≤ 0) = true then true else (2 : Int) == 1) 200 = 0 := by decide
theorem sR3 : stepE xR (2, 1, 2, 200, ()) kR bR 2 false 300 = 0 := by decide
theorem sR4 : stepE xR (1, 1, 0, 100, ()) kR bR 1 (if decide ((1 : Int) ≤ 0) = true then true else (1 : Int) == 1) 200 = 19 := by decide
theorem c34_ok {K : Nat} (hK : 1000 ≤ K) : c34 K = some (true, ()) := by
  have x1 : xR.1.length < 1000 := by decide
  have a1 : c41 K xR (0, 0, 0, 0, ()) kR bR 1 100 = some ((1, 1, 0, 100, ()), 0, ()) := by
    rw [c41_eq, c90_ok hK x1 _ kR_sh bR_sh, sR1]; rfl
  have a2 : c42 K xR (1, 1, 0, 100, ()) kR bR 2 200 = some ((2, 1, 2, 200, ()), 0, ()) := by
    rw [c42_eq, c90_ok hK x1 _ kR_sh bR_sh, sR2]; rfl
  have a3 : c43 K xR (2, 1, 2, 200, ()) kR bR 300 false = some ((3, 1, 2, 300, ()), 0, ()) := by
    rw [c43_eq, c90_ok hK x1 _ kR_sh bR_sh, sR3]; rfl
  have a4 : c42 K xR (1, 1, 0, 100, ()) kR bR 1 200 = some ((1, 1, 0, 100, ()), 19, ()) := by
    rw [c42_eq, c90_ok hK x1 _ kR_sh bR_sh, sR4]; rfl
  have v : (bOk xR && sOk (1, 1, 0, 100, ())) = true := by decide
  have a5 : c78 K xR (1, 1, 0, 100, ()) 150 = some (250, ()) := by
    rw [c78_eq, c45_ok hK x1, v]; rfl
  rw [c34_eq, c39_eq]
  simp only [Option.bind_some]
  rw [a1]; simp only [Option.bind_some]
  rw [a2]; simp only [Option.bind_some]
  rw [a3]; simp only [Option.bind_some]
  rw [a4]; simp only [Option.bind_some]
  simp only [beq_self_eq_true, if_true, a5, Option.bind_some]

theorem c36_ok {K : Nat} (hK : 1000 ≤ K) {d : Dc} (hd : DOk d) : ∃ l d', c36 K d = some (l, d', ()) ∧ l.length < 1000 ∧ DOk d' := by
  have loop : ∀ (k q : Nat) (d : Dc) (l : List Int), k < q → l.length + k ≤ 900 → DOk d → ∃ l' d', m36_3 K q d l (k : Int) = some (l', d', ()) ∧ l'.length < 1000 ∧ DOk d' := by
    intro k
    induction k with
    | zero =>
      intro q d l hq hl hd
      obtain ⟨q, rfl⟩ : ∃ j, q = j + 1 := ⟨q - 1, by omega⟩
      rw [m36_3_eq, if_neg (by simp)]
      exact ⟨l, d, rfl, by omega, hd⟩
    | succ k ih =>
      intro q d l hq hl hd
      obtain ⟨q, rfl⟩ : ∃ j, q = j + 1 := ⟨q - 1, by omega⟩
      obtain ⟨r1, d1, e1, b1, b1', hd1⟩ := c19_ok K hd (n := 9) (by decide) (by decide)
      rw [m36_3_eq, wpred (by omega), if_pos (by simp), e1]
      simp only [Option.bind_some]
      rw [if_pos (lt8 (by simp; omega))]
      exact ih q d1 _ (by omega) (by simp; omega) hd1
  rw [c36_eq]
  obtain ⟨r1, d1, e1, b1, b1', hd1⟩ := c19_ok K hd (n := 5) (by decide) (by decide)
  rw [e1]; simp only [Option.bind_some]
  have := loop r1.toNat K d1 [] (by omega) (by simp; omega) hd1
  rw [Int.toNat_of_nonneg b1] at this
  exact this

theorem c13_ok (K : Nat) (l : List Int) : c13 K l = some (decide ((l.length : Int) ≤ 400), ()) := c13_eq K l
theorem c15_ok (K : Nat) (l : List Int) : c15 K l = some ((l, 0, ()), ()) := c15_eq K l

theorem firingRaw_true {K : Nat} (hK : KK ≤ K) (l : List Int) (x : Ag57) (s : Ag59) : c7 K l x s = some (true, ()) := by
  have hK' : 17592186044416 ≤ K := hK
  rw [c7_eq, c13_ok, c15_ok, c34_ok (by omega)]
  simp only [Option.bind_some]
  by_cases hl : (l.length : Int) ≤ 400
  · by_cases hx : (x.1.length : Int) > 80
    · simp [hl, hx]
    · have hd : DOk (l, 0, ()) := ⟨show l.length ≤ 400 by omega, by simp, by simp⟩
      simp only [hl, hx, decide_true, decide_false, Bool.not_true, Bool.false_eq_true, if_false]
      obtain ⟨r4, d4, e4, b4, hd4⟩ := c35_ok K hd (l := [1, 2, 3, 0, (-1)]) (by decide) (by decide)
      rw [e4]; simp only [Option.bind_some]
      rw [if_pos (by decide)]
      obtain ⟨r5, d5, e5, b5, hd5⟩ := c35_ok K hd4 (l := [s.2.2.2.1, 50, (IntKind.i64.wrap (Int.tdiv s.2.2.2.1 2)), (-1), 2147483648, 2147483649]) (by simp) (by simp)
      rw [e5]; simp only [Option.bind_some]
      obtain ⟨l6, d6, e6, hd6, hl6, hx6⟩ := c20_ok (K := K) (n := 4) (by omega) (by omega) hd5
      have e6 : c20 K d5 4 = _ := e6
      rw [e6]; simp only [Option.bind_some]
      obtain ⟨l7, d7, e7, hl7, hd7⟩ := c36_ok (K := K) (by omega) hd6
      rw [e7]; simp only [Option.bind_some]
      obtain ⟨r8, d8, e8, hd8⟩ := c22_ok K hd7 (n := 2) (by decide) (by decide)
      rw [e8]; simp only [Option.bind_some]
      obtain ⟨y, k, b, d9, e9, hy, hk, hb, hd9⟩ := c37_ok hK hd8
      rw [e9]; simp only [Option.bind_some]
      obtain ⟨r11, d11, e11, hd11⟩ := c22_ok K hd9 (n := 2) (by decide) (by decide)
      have hk2 : Short (l6, l7, r8, ()) := ⟨by show l6.length < 1000; omega, hl7⟩
      have hxl : x.1.length < 1000 := by omega
      have hb0 : BSh ([], ()) := ⟨by simp, by simp, by simp⟩
      simp only [if_true, e11, Option.bind_some, c38_ok (K := K) (by omega) hxl s hk2 hb, c38_ok (K := K) (by omega) hy s hk hb, c38_ok (K := K) (by omega) hxl (0, 0, 0, 0, ()) hk hb, c38_ok (K := K) (by omega) hy s hk2 hb0]
  · simp [hl]

theorem m8_loop {K : Nat} (hK : 1000 ≤ K) {x : Ag57} (hx : x.1.length < 1000) {k : Ks} (hk : Short k) {b : Ag33} (h : BSh b) (s : Ag59) : (d i q : Nat) → (dc : Dc) → i + d = 6 → d < q → DOk dc → m8_13 K q dc x k b s (i : Int) = some (true, ())
  | 0, i, q, dc, hi, hq, hd => by
    obtain ⟨q, rfl⟩ : ∃ j, q = j + 1 := ⟨q - 1, by omega⟩
    have e : i = 6 := by omega
    subst e
    rw [m8_13_eq, if_neg (by simp), c34_ok hK]
    rfl
  | d + 1, i, q, dc, hi, hq, hd => by
    obtain ⟨q, rfl⟩ : ∃ j, q = j + 1 := ⟨q - 1, by omega⟩
    rw [m8_13_eq, wsucc (by omega), if_pos (by simp; omega)]
    obtain ⟨r1, d1, e1, b1, hd1⟩ := c35_ok K hd (l := [0, x.2.1, (IntKind.i64.wrap (x.2.1 + 1)), x.2.2.1, (IntKind.i64.wrap (x.2.2.1 - 1)), (-1), 5]) (by simp) (by simp)
    rw [e1]; simp only [Option.bind_some]
    obtain ⟨r2, d2, e2, b2, hd2⟩ := c35_ok K hd1 (l := [1, 2, 3, 0]) (by decide) (by decide)
    rw [e2]; simp only [Option.bind_some]
    obtain ⟨r3, d3, e3, hd3⟩ := c22_ok K hd2 (n := 2) (by decide) (by decide)
    rw [e3]; simp only [Option.bind_some]
    rw [c38_ok hK hx s hk h]
    simp only [Option.bind_some, Bool.not_true, Bool.false_eq_true, if_false]
    exact m8_loop hK hx hk h s d (i + 1) q d3 (by omega) (by omega) hd3

theorem firingMade_true {K : Nat} (hK : KK ≤ K) (l : List Int) : c8 K l = some (true, ()) := by
  have hK' : 17592186044416 ≤ K := hK
  rw [c8_eq, c13_ok, c15_ok, c34_ok (by omega)]
  simp only [Option.bind_some]
  by_cases hl : (l.length : Int) ≤ 400
  · have hd : DOk (l, 0, ()) := ⟨show l.length ≤ 400 by omega, by simp, by simp⟩
    simp only [hl, decide_true, Bool.not_true, Bool.false_eq_true, if_false]
    obtain ⟨y, k, b, d4, e4, hy, hk, hb, hd4⟩ := c37_ok hK hd
    rw [e4]; simp only [Option.bind_some]
    obtain ⟨r5, d5, e5, hd5⟩ := c22_ok K hd4 (n := 2) (by decide) (by decide)
    rw [e5]; simp only [Option.bind_some]
    cases r5
    · rw [if_neg (by decide)]
      have h8 := fun s dc hd => m8_loop (K := K) (by omega) (x := y) hy hk hb s 6 0 K dc (by omega) (by omega) hd
      obtain ⟨r7, d7, e7, b7, b7', hd7⟩ := c19_ok K hd5 (n := 5) (by decide) (by decide)
      rw [e7]; simp only [Option.bind_some]
      split
      · obtain ⟨r8, d8, e8, b8, b8', hd8⟩ := c19_ok K hd7 (n := 2) (by decide) (by decide)
        rw [e8]; simp only [Option.bind_some]
        obtain ⟨r9, d9, e9, b9, hd9⟩ := c35_ok K hd8 (l := [500, 0, 77]) (by decide) (by decide)
        rw [e9]; simp only [Option.bind_some]
        split
        · exact h8 _ d9 hd9
        · exact h8 _ d9 hd9
      · split
        · exact h8 _ d7 hd7
        · exact h8 _ d7 hd7
    · rw [if_pos rfl, c39_eq]
      simp only [Option.bind_some]
      have h8 := fun s dc hd => m8_loop (K := K) (by omega) (x := xR) (by decide) kR_sh bR_sh s 6 0 K dc (by omega) (by omega) hd
      obtain ⟨r7, d7, e7, b7, b7', hd7⟩ := c19_ok K hd5 (n := 5) (by decide) (by decide)
      rw [e7]; simp only [Option.bind_some]
      split
      · obtain ⟨r8, d8, e8, b8, b8', hd8⟩ := c19_ok K hd7 (n := 2) (by decide) (by decide)
        rw [e8]; simp only [Option.bind_some]
        obtain ⟨r9, d9, e9, b9, hd9⟩ := c35_ok K hd8 (l := [500, 0, 77]) (by decide) (by decide)
        rw [e9]; simp only [Option.bind_some]
        split
        · exact h8 _ d9 hd9
        · exact h8 _ d9 hd9
      · split
        · exact h8 _ d7 hd7
        · exact h8 _ d7 hd7
  · simp [hl]
end Fs
