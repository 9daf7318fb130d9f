/- The typed values of a run, and that a run of the evaluator is what the program does. No condition. -/
import Derived.Test.YtcmhmonmhplboaaE2
import Derived.Laws.OwnMore
set_option linter.all false
set_option linter.unusedVariables false
set_option linter.unusedSimpArgs false
set_option linter.unnecessarySimpa false
set_option autoImplicit true
set_option relaxedAutoImplicit true
/- Operations: reslices, appends. -/
namespace Go.Ev
open Go.RowKit
variable {P : Program}

mutual
theorem Fr.one : (t : Ty) → {w : World} → {fz : Nat → Prop} → {v : D t} → {cs : List Value} → Fr P t w fz v cs → ∀ u ∈ cs, u.oneCell' = true
  | .int k, w, fz, v, cs, h => by simp only [Fr] at h; subst h; simp [Value.oneCell']
  | .bool, w, fz, v, cs, h => by simp only [Fr] at h; subst h; simp [Value.oneCell']
  | .agg f, w, fz, v, cs, h => by simp only [Fr] at h; exact FrL.one f h
  | .sl e t, w, fz, v, cs, h => by simp only [Fr] at h; obtain ⟨a, cap, rfl, _⟩ := h; simp [Value.oneCell']
  | .arr n t, w, fz, v, cs, h => by
    simp only [Fr] at h
    obtain ⟨hl, hc, he⟩ := h
    intro u hu
    obtain ⟨i, hi, hui⟩ := List.mem_iff_getElem.1 hu
    have h0 : 0 < t.size := by
      rcases Nat.eq_zero_or_pos t.size with h0 | h0
      · rw [h0] at hc; omega
      · exact h0
    have hd : i / t.size < n := by rw [Nat.div_lt_iff_lt_mul h0]; omega
    have hm := Nat.mod_lt i h0
    refine Fr.one t (he (i / t.size) _ (getD_some (d := dflt t) (by rw [hl]; exact hd))) u ?_
    refine List.mem_of_getElem? (i := i % t.size) ?_
    rw [seg_get, if_pos hm]
    have e : i / t.size * t.size + i % t.size = i := by rw [Nat.mul_comm]; exact Nat.div_add_mod i t.size
    rw [e, List.getElem?_eq_getElem hi, hui]
  | .fn a r, w, fz, f, cs, h => by
    simp only [Fr] at h
    rcases h with ⟨rfl, _⟩ | ⟨g, caps, rfl, _⟩ <;> simp [Value.oneCell']
theorem FrL.one : (ts : Tys) → {w : World} → {fz : Nat → Prop} → {v : DL ts} → {cs : List Value} → FrL P ts w fz v cs → ∀ u ∈ cs, u.oneCell' = true
  | .nil, w, fz, v, cs, h => by simp only [FrL] at h; subst h; simp
  | .cons t ts, w, fz, v, cs, h => by
    simp only [FrL] at h
    obtain ⟨c1, c2, rfl, h1, h2⟩ := h
    intro u hu
    rcases List.mem_append.1 hu with hu | hu
    · exact Fr.one t h1 u hu
    · exact FrL.one ts h2 u hu
end
mutual
theorem Rp.one {w : World} {g : Gh} {r : Root} : (t : Ty) → {π : List Nat} → {sh : Sh} → {v : D t} → {cs : List Value} → sh.noGone = true → Rp P w g r t π sh v cs → ∀ u ∈ cs, u.oneCell' = true
  | .int k, π, sh, v, cs, hs, h => by
    simp only [Rp] at h
    rcases h with ⟨_, h⟩ | ⟨rfl, _⟩
    · exact Fr.one _ h
    · simp [Sh.noGone] at hs
  | .bool, π, sh, v, cs, hs, h => by
    simp only [Rp] at h
    rcases h with ⟨_, h⟩ | ⟨rfl, _⟩
    · exact Fr.one _ h
    · simp [Sh.noGone] at hs
  | .fn a q, π, sh, v, cs, hs, h => by
    simp only [Rp] at h
    rcases h with ⟨_, h⟩ | ⟨rfl, _⟩
    · exact Fr.one _ h
    · simp [Sh.noGone] at hs
  | .arr n t, π, sh, v, cs, hs, h => by
    simp only [Rp] at h
    rcases h with ⟨_, h⟩ | ⟨rfl, _⟩
    · exact Fr.one _ h
    · simp [Sh.noGone] at hs
  | .agg f, π, sh, v, cs, hs, h => by
    simp only [Rp] at h
    rcases h with ⟨_, h⟩ | ⟨rfl, _⟩ | h
    · exact FrL.one _ h
    · simp [Sh.noGone] at hs
    · exact RpL.one f hs h
  | .sl e t, π, sh, v, cs, hs, h => by
    simp only [Rp] at h
    rcases h with ⟨_, h⟩ | ⟨rfl, _⟩ | ⟨_, _, h⟩ | ⟨s, _, a, xs, h, how, _⟩
    · exact Fr.one _ h
    · simp [Sh.noGone] at hs
    · rw [h]; simp [Value.oneCell']
    · rw [h]
      rcases how.2 with ⟨rfl, _⟩ | ⟨b, cap, cur, rfl, _⟩ <;> simp [Value.oneCell']
theorem RpL.one {w : World} {g : Gh} {r : Root} : (ts : Tys) → {π : List Nat} → {k : Nat} → {sh : Sh} → {v : DL ts} → {cs : List Value} → sh.noGone = true → RpL P w g r ts π k sh v cs → ∀ u ∈ cs, u.oneCell' = true
  | .nil, π, k, sh, v, cs, hs, h => by simp only [RpL] at h; rw [h.2]; simp
  | .cons t ts, π, k, sh, v, cs, hs, h => by
    simp only [RpL] at h
    obtain ⟨s, rest, rfl, c1, c2, rfl, h1, h2⟩ := h
    simp only [Sh.noGone, Bool.and_eq_true] at hs
    intro u hu
    rcases List.mem_append.1 hu with hu | hu
    · exact Rp.one t hs.1 h1 u hu
    · exact RpL.one ts hs.2 h2 u hu
end

section
variable {R' : Type} {A : Nat → Value} {w w' : World} {g g' g0 : Gh} {tm : Array Value} {ds : List Deferred} {σ : Env} {c : G} {K : Unit → Env → Option R'} {r : R'} {Q : Exit → Act → World → Prop} {o : Oper} {C : Ctx}

def IxR (ρ : Operand → Value) (on : Bool) : Option Operand → Option Int → Prop
  | none, none => True
  | some y, some n => on = true → ∃ kd, ρ y = .int kd n
  | _, _ => False
/-- An index under a guard, of a reslice. -/
theorem rdI_ok {α : Type} {K : α → Env → Option R'} {y : Option Operand} {k : Option Int → Acc α} (R : Rel P A w g tm σ) (ds : List Deferred) (h : (rdI c y k).run σ K = some r) :
    ∃ a, (k a).run σ K = some r ∧ IxR (Act.eval ⟨tm, ds⟩) (σ.on c) y a := by
  cases y with
  | none => exact ⟨none, h, trivial⟩
  | some y =>
    simp only [rdI] at h
    obtain ⟨i, s, h, H, _⟩ := rd_ok R ds h
    obtain ⟨n, h, hn⟩ := lookInt_ok (H (not_tup h)) h
    exact ⟨some n, h, hn⟩

theorem cut_frozen {t : Ty} {e : TypeId} {fz : Nat → Prop} {v : List (D t)} {a : Option Addr} {n cap l h : Nat} {a' : Option Addr} (hf : Fr P (.sl e t) w fz v [.slice a n cap]) (hlh : l ≤ h) (hh : h ≤ v.length) (ha : cap = l ∧ a' = a ∨ a' = a.map (·.add (l * t.size))) :
    Fr P (.sl e t) w fz ((v.take h).drop l) [.slice a' (h - l) (cap - l)] := by
  simp only [Fr, List.cons.injEq, Value.slice.injEq, and_true] at hf ⊢
  obtain ⟨a0, cap0, ⟨rfl, rfl, rfl⟩, hc, hv⟩ := hf
  have hlen : ((v.take h).drop l).length = h - l := by simp; omega
  refine ⟨a', cap - l, ⟨rfl, by rw [hlen], rfl⟩, by rw [hlen]; omega, ?_⟩
  by_cases h0 : h - l = 0
  · exact .inl (List.eq_nil_of_length_eq_zero (by rw [hlen]; exact h0))
  · rcases hv with rfl | ⟨b, k, rfl, hb, he⟩
    · simp at hh; omega
    · have ha' : a' = some ⟨b, k + l * t.size, none⟩ := by
        rcases ha with ⟨h1, _⟩ | h1
        · omega
        · rw [h1]; simp [add_lit]
      refine .inr ⟨b, k + l * t.size, ha', hb, fun i x hx => ?_⟩
      rw [List.getElem?_drop, List.getElem?_take] at hx
      split at hx
      · have := he (l + i) x hx
        rwa [Nat.add_mul, ← Nat.add_assoc] at this
      · cases hx

theorem sliceBound_ok {kd : IntKind} {i : Int} {y : Nat} (h0 : 0 ≤ i) (h1 : i.toNat ≤ y) (cd : BoundsCode) (w : World) : (Instr.sliceBound (.int kd i) y cd).run P w = .ok i.toNat w := by
  have : i ≤ (y : Int) := by omega
  simp [Instr.sliceBound, asIntOf, h0, this]

theorem oSlice_ok {ty : TypeId} {x : Operand} {lo hi : Option Operand} (hT : TOk P C.T = true) (hS : SoundC P C) (R : Rel P A w g tm σ) (hD : DstOk A σ c o.dst tm) (hc : Gd σ c) (hcg : c.isEmpty = true → σ.on c = true) (ho : o.op = .slice ty x lo hi none)
    (h : (oSlice C c (σ.on c) o ty x lo hi).run σ K = some r) : OpDoes P A o w g tm ds (σ.on c) K r Q := by
  unfold oSlice at h
  obtain ⟨i, s, h', H, hslot, hform⟩ := rd_ok R ds h
  clear h; have h := h'; clear h'
  obtain ⟨a, h', ha⟩ := rdI_ok R ds h
  clear h; have h := h'; clear h'
  obtain ⟨b, h', hb⟩ := rdI_ok R ds h
  clear h; have h := h'; clear h'
  have hnt := not_tup h
  obtain ⟨z, h, hng, hz⟩ := look_ok (H hnt) h
  obtain ⟨tz, shz, l⟩ := z
  cases tz <;> simp only at h <;> try (cases h; done)
  rename_i e t
  split at h
  · rename_i hty
    obtain ⟨hcut, h⟩ := nd_ok hcg h
    obtain ⟨sh, v, g1, σ1, h, R1, M, hng1, hr⟩ := takeAs_ok 0 hS R hc (H hnt) h
    have R2 := R1.fly (i := 0) (j := 1) (π0 := []) (sh' := .fz) (p := []) (τ := []) (by omega)
    refine does_value 2 R2 (M.ext.trans (turnG_ext w)) (M.mild.on hc) (hD.mild M.mild) (M.mild.gdOk hc) h (fun hon => ?_)
    rw [M.mild.on hc] at hon
    have hr := hr hon
    obtain ⟨ro, π, hlr⟩ := hz hon
    obtain ⟨adz, capz, hxz, _⟩ := hlr.slice hng
    have hfr : Fr P (.sl e t) w (turnG g1 (.inr 0) [] .fz [] (.inr 1) []).fz v (Act.eval ⟨tm, ds⟩ x).cells.toList :=
      Rp.freeze _ hng1 (turnG_older w) (fun b q hq => ⟨.inr ⟨q, by simpa using hq, rfl⟩, rfl⟩) hr.1
    rw [cells_one hr.2] at hfr
    have hfr' := hfr
    simp only [Fr, List.cons.injEq, and_true] at hfr'
    obtain ⟨ad, cap, hx, hcap, _⟩ := hfr'
    have hlen : l.length = v.length := by
      rw [hxz] at hx
      simp only [Value.slice.injEq] at hx
      exact hx.2.1
    rw [hx] at hfr
    obtain ⟨d, hd, hu⟩ := tyOk_under (TOk.ty hT hty)
    obtain ⟨rfl, hte⟩ := hu
    have hcut := hcut hon
    have hsz := run_sizeOf (tyOk_info hte) w
    -- the bounds
    have fin : ∀ (lo' hi' : Nat), lo' ≤ hi' → hi' ≤ v.length → cutL a b v = (v.take hi').drop lo' →
        (Instr.sliceBounds true v.length cap (lo.map (Act.eval ⟨tm, ds⟩)) (hi.map (Act.eval ⟨tm, ds⟩)) none).run P w = .ok (lo', hi', cap) w →
        ∃ y, (execOp (Act.eval ⟨tm, ds⟩) o).run P w = .ok (.value y) w ∧ RpV P w (turnG g1 (.inr 0) [] .fz [] (.inr 1) []) (.inr 2) (.sl e t) [] .fz (cutL a b v) y := by
      intro lo' hi' h1 h2 h3 h4
      refine ⟨.slice (if cap = lo' then ad else ad.map (·.add (lo' * t.size))) (hi' - lo') (cap - lo'), ?_, ?_, rfl⟩
      · simp [execOp, ho, Instr.sliceAt, Instr.slice, run_underlying hd, hx, h4, hsz]
      · rw [h3]
        refine Rp.of_fr _ (cut_frozen hfr h1 h2 ?_)
        by_cases e1 : cap = lo'
        · left; rw [if_pos e1]; exact ⟨e1, rfl⟩
        · right; rw [if_neg e1]
    cases lo with
    | none =>
      cases a with
      | some a => exact absurd ha id
      | none =>
        cases hi with
        | none =>
          cases b with
          | some b => exact absurd hb id
          | none =>
            refine fin 0 v.length (Nat.zero_le _) (Nat.le_refl _) (by simp [cutL]) ?_
            simp [Instr.sliceBounds]
        | some hi =>
          cases b with
          | none => exact absurd hb id
          | some b =>
            obtain ⟨kb, hb⟩ := hb hon
            simp only [cutOk, Bool.and_eq_true, decide_eq_true_eq] at hcut
            have hb2 : b.toNat ≤ v.length := by omega
            refine fin 0 b.toNat (Nat.zero_le _) hb2 (by simp [cutL]) ?_
            simp [Instr.sliceBounds, hb, sliceBound_ok hcut.1 (show b.toNat ≤ cap by omega)]
    | some lo =>
      cases a with
      | none => exact absurd ha id
      | some a =>
        obtain ⟨ka, ha⟩ := ha hon
        cases hi with
        | none =>
          cases b with
          | some b => exact absurd hb id
          | none =>
            simp only [cutOk, Bool.and_eq_true, decide_eq_true_eq] at hcut
            have ha2 : a.toNat ≤ v.length := by omega
            refine fin a.toNat v.length ha2 (Nat.le_refl _) (by simp [cutL]) ?_
            simp [Instr.sliceBounds, ha, sliceBound_ok hcut.1 ha2]
        | some hi =>
          cases b with
          | none => exact absurd hb id
          | some b =>
            obtain ⟨kb, hb⟩ := hb hon
            simp only [cutOk, Bool.and_eq_true, decide_eq_true_eq] at hcut
            have hb2 : b.toNat ≤ v.length := by omega
            have hab : a.toNat ≤ b.toNat := by omega
            refine fin a.toNat b.toNat hab hb2 (by simp [cutL]) ?_
            simp [Instr.sliceBounds, ha, hb, sliceBound_ok (show 0 ≤ b by omega) (show b.toNat ≤ cap by omega), sliceBound_ok hcut.1 hab]
  · cases h
end
end Go.Ev

/- Operations: appends. -/
namespace Go.Ev
open Go.RowKit
variable {P : Program}

mutual
/-- A value without memory of its own. -/
theorem Rp.plain {w : World} {g : Gh} {r : Root} : (t : Ty) → {π : List Nat} → {sh : Sh} → {v : D t} → {cs : List Value} → t.plain = true → sh.noGone = true → Rp P w g r t π sh v cs → Fr P t w g.fz v cs
  | .int k, π, sh, v, cs, hp, hs, h => by
    simp only [Rp] at h
    rcases h with ⟨_, h⟩ | ⟨rfl, _⟩
    · exact h
    · simp [Sh.noGone] at hs
  | .bool, π, sh, v, cs, hp, hs, h => by
    simp only [Rp] at h
    rcases h with ⟨_, h⟩ | ⟨rfl, _⟩
    · exact h
    · simp [Sh.noGone] at hs
  | .fn a q, π, sh, v, cs, hp, hs, h => by simp [Ty.plain] at hp
  | .arr n t, π, sh, v, cs, hp, hs, h => by
    simp only [Rp] at h
    rcases h with ⟨_, h⟩ | ⟨rfl, _⟩
    · exact h
    · simp [Sh.noGone] at hs
  | .agg f, π, sh, v, cs, hp, hs, h => by
    simp only [Rp] at h
    simp only [Fr]
    rcases h with ⟨_, h⟩ | ⟨rfl, _⟩ | h
    · exact h
    · simp [Sh.noGone] at hs
    · exact RpL.plain f (by simpa [Ty.plain] using hp) hs h
  | .sl e t, π, sh, v, cs, hp, hs, h => by simp [Ty.plain] at hp
theorem RpL.plain {w : World} {g : Gh} {r : Root} : (ts : Tys) → {π : List Nat} → {k : Nat} → {sh : Sh} → {v : DL ts} → {cs : List Value} → ts.plain = true → sh.noGone = true → RpL P w g r ts π k sh v cs → FrL P ts w g.fz v cs
  | .nil, π, k, sh, v, cs, hp, hs, h => by simp only [RpL] at h; simp only [FrL]; exact h.2
  | .cons t ts, π, k, sh, v, cs, hp, hs, h => by
    simp only [RpL] at h
    simp only [FrL]
    obtain ⟨s, rest, rfl, c1, c2, hc, h1, h2⟩ := h
    simp only [Sh.noGone, Bool.and_eq_true] at hs
    simp only [Tys.plain, Bool.and_eq_true] at hp
    exact ⟨c1, c2, hc, Rp.plain t hp.1 hs.1 h1, RpL.plain ts hp.2 hs.2 h2⟩
end

/-- What lies under the elements of one row goes to elements of another row. -/
def shiftG (g : Gh) (n : Nat) : Gh where
  st b := match g.st b with
    | some (.inr 1, j :: q) => some (.inr 0, (n + j) :: q)
    | some (.inr 0, j :: q) => if j < n then some (.inr 0, j :: q) else none
    | some (.inr 1, []) => none
    | x => x
  B r := if r = .inr 0 then fun q => match q with
      | j :: q => if n ≤ j then g.B (.inr 1) ((j - n) :: q) else g.B (.inr 0) (j :: q)
      | [] => g.B (.inr 0) []
    else g.B r
  fz := g.fz
section
variable {g : Gh} {w : World} {n : Nat}
theorem shiftG_keeps : Keeps (fun r => r ≠ .inr 0 ∧ r ≠ .inr 1) w g w (shiftG g n) where
  old b h := ⟨h, rfl⟩
  own r hr b π h := by
    refine ⟨?_, rfl⟩
    simp only [shiftG, h]
    split <;> simp_all
  base r hr := by simp only [shiftG, if_neg hr.1]
theorem shiftG_old {i : Nat} (hi : i < n) : Goes w g (.inr 0) [i] w (shiftG g n) (.inr 0) [i] where
  old b h := ⟨h, rfl⟩
  own b q h := by
    refine ⟨?_, rfl⟩
    simp only [shiftG, h, List.cons_append, if_pos hi]
  base q := by
    simp only [shiftG, if_true, List.cons_append]
    rw [if_neg (by omega)]
theorem shiftG_new (j : Nat) : Goes w g (.inr 1) [j] w (shiftG g n) (.inr 0) [n + j] where
  old b h := ⟨h, rfl⟩
  own b q h := by
    refine ⟨?_, rfl⟩
    simp only [shiftG, h, List.cons_append]
  base q := by
    simp only [shiftG, if_true, List.cons_append]
    rw [if_pos (by omega), show n + j - n = j by omega]
theorem shiftG_ok (ok : GhOk w g) : GhOk w (shiftG g n) where
  own b r π h := by
    simp only [shiftG] at h
    cases hs : g.st b with
    | none => rw [hs] at h; cases h
    | some x =>
      obtain ⟨r1, ρ⟩ := x
      exact ok.own b r1 ρ hs
  fz b h := ok.fz b h
theorem shiftG_ext : Ext w g w (shiftG g n) where
  os := rfl
  tape := rfl
  output := rfl
  size := Nat.le_refl _
  block b _ hs := ⟨rfl, by simp [shiftG, hs]⟩
  fz b h := h
  fzn b h := .inl h
end

theorem Rp.shift {w : World} {g : Gh} {e : TypeId} {t : Ty} {s : Sh} {l : List (D t)} {v : Value} (h : RpV P w g (.inr 0) (.sl e t) [] (.own s) l v) : RpV P w (shiftG g l.length) (.inr 0) (.sl e t) [] (.own s) l v := by
  refine ⟨?_, h.2⟩
  have h := h.1
  simp only [Rp] at h
  rcases h with ⟨h, _⟩ | ⟨h, _⟩ | ⟨h, _⟩ | ⟨s', hs, a, xs, hc, how, hb, he⟩
  · cases h
  · cases h
  · cases h
  · cases hs
    rw [Rp]
    refine .inr (.inr (.inr ⟨s, rfl, a, xs, hc, how, fun b hab => ?_, fun i x hx => ?_⟩))
    · have := hb b hab
      refine ⟨?_, ?_⟩
      · simp only [shiftG, if_true]; exact this.1
      · simp only [shiftG, this.2]
    · have hi : i < l.length := (List.getElem?_eq_some_iff.1 hx).1
      exact Rp.go t (shiftG_old hi) (he i x hx)

theorem run_append_zero {t ty e : TypeId} {i : TypeInfo} (ht : P.underlying t = some (.slice e)) (hi : P.info? e = some i) (w : World) (base : Option Addr) (n cap : Nat) (hn : n ≤ cap) (a : Option Addr) (c : Nat) :
    (Builtin.append_ #[t, t] ty #[.slice base n cap, .slice a 0 c]).run P w = .ok (.slice base n cap) w := by
  cases a with
  | none => cases base <;> simp [Builtin.append_, run_underlying ht, sizeOf, typeInfo, hi, Builtin.lenOf, Builtin.firstCells, hn, storeCells]
  | some a => cases base <;> simp [Builtin.append_, run_underlying ht, sizeOf, typeInfo, hi, Builtin.lenOf, Builtin.firstCells, hn, storeCells, loadCells, loadCellsFrom]

/-- The elements that are appended, under way at the root q, from the k-th on. -/
def SrcR (P : Program) (w : World) (g : Gh) (t : Ty) (q : Root) (k : Nat) (s : Sh) (news : List (D t)) (x : Value) : Prop :=
  ∃ a cap, x = .slice a news.length cap ∧ (news = [] ∨ ∃ b o, a = some ⟨b, o, none⟩ ∧ (seg (rowL w b) o (news.length * t.size)).length = news.length * t.size ∧
    ∀ j y, news[j]? = some y → Rp P w g q t [k + j] s y (seg (rowL w b) (o + j * t.size) t.size))
theorem SrcR.go {w : World} {g g' : Gh} {t : Ty} {q q' : Root} {k k' : Nat} {s : Sh} {news : List (D t)} {x : Value} (h : SrcR P w g t q k s news x) (o : ∀ j, j < news.length → Goes w g q [k + j] w g' q' [k' + j]) : SrcR P w g' t q' k' s news x := by
  obtain ⟨a, cap, hx, hn⟩ := h
  refine ⟨a, cap, hx, hn.imp id ?_⟩
  rintro ⟨b, o', ha, hl, he⟩
  exact ⟨b, o', ha, hl, fun j y hy => Rp.go t (o j (List.getElem?_eq_some_iff.1 hy).1) (he j y hy)⟩
theorem src_len {w : World} {t : Ty} {b o m : Nat} (hm : 0 < m) (h : (seg (rowL w b) (o + (m - 1) * t.size) t.size).length = t.size) (h0 : 0 < t.size) : (seg (rowL w b) o (m * t.size)).length = m * t.size := by
  have h1 : o + (m - 1) * t.size + t.size ≤ (rowL w b).length := by
    simp only [seg, List.length_take, List.length_drop] at h; omega
  have h2 : (m - 1) * t.size + t.size = m * t.size := by
    obtain ⟨k, rfl⟩ : ∃ k, m = k + 1 := ⟨m - 1, by omega⟩
    rw [Nat.succ_mul]; rfl
  exact seg_length _ _ _ (by omega)

/-- A frozen row as a source. -/
theorem SrcR.of_fr {w : World} {g : Gh} {e : TypeId} {t : Ty} {q : Root} {k : Nat} {news : List (D t)} {x : Value} (h0 : 0 < t.size) (h : Fr P (.sl e t) w g.fz news x.cells.toList) (ha : isAggV x = false) : SrcR P w g t q k .fz news x := by
  rw [cells_one ha] at h
  simp only [Fr, List.cons.injEq, and_true] at h
  obtain ⟨a, cap, hx, hcap, hv⟩ := h
  refine ⟨a, cap, hx, ?_⟩
  by_cases hn : news = []
  · exact .inl hn
  · rcases hv with hv | ⟨b, o, hab, _, he⟩
    · exact absurd hv hn
    · have hpos : 0 < news.length := List.length_pos_iff.2 hn
      refine .inr ⟨b, o, hab, src_len hpos ?_ h0, fun j y hy => Rp.of_fr t (he j y hy)⟩
      have := he (news.length - 1) _ (getD_some (d := dflt t) (by omega))
      exact Fr.len t this
/-- An owned row as a source. -/
theorem SrcR.of_own {w : World} {g : Gh} {e : TypeId} {t : Ty} {q : Root} {s : Sh} {news : List (D t)} {x : Value} (h0 : 0 < t.size) (h : Rp P w g q (.sl e t) [] (.own s) news x.cells.toList) (ha : isAggV x = false) : SrcR P w g t q 0 s news x := by
  rw [cells_one ha] at h
  by_cases hn : news = []
  · subst hn
    simp only [Rp] at h
    rcases h with ⟨h, _⟩ | ⟨h, _⟩ | ⟨h, _⟩ | ⟨s', hs, a, xs, hc, how, hb, he⟩
    · cases h
    · cases h
    · cases h
    · simp only [List.cons.injEq, and_true] at hc
      subst hc
      rcases how.2 with ⟨ha', _⟩ | ⟨b, cap, cur, ha', _⟩
      · exact ⟨none, 0, ha', .inl rfl⟩
      · exact ⟨_, cap, ha', .inl rfl⟩
  · have hpos : 0 < news.length := List.length_pos_iff.2 hn
    obtain ⟨cap, cur, hx, hg, hnc, hcm, hcs, hst, he⟩ := Rp.row h hpos
    simp only [List.cons.injEq, and_true] at hx
    have hrow : rowL w (g.B q []) = cur.toList := by simp only [rowL, hg]
    refine ⟨_, cap, hx, .inr ⟨g.B q [], 0, rfl, ?_, fun j y hy => ?_⟩⟩
    · rw [hrow]
      have := Nat.mul_le_mul_right t.size hnc
      exact seg_length _ _ _ (by simp [hcs]; omega)
    · have := he j y hy
      rw [hrow, Nat.zero_add, Nat.zero_add]
      exact this

theorem drew_grown (w : World) (ob : Obj) : w.grownBy (w.drew.alloc ob) none := ⟨rfl, rfl, rfl, by show _ ≤ (w.heap.push ob).size; simp, fun k hk _ => by show (w.heap.push ob)[k]? = _; rw [Array.getElem?_push, if_neg (Nat.ne_of_lt hk)]⟩
theorem drew_new (w : World) (ob : Obj) : w.heap.size < (w.drew.alloc ob).heap.size := by show _ < (w.heap.push ob).size; simp

/-- The elements are appended. -/
theorem append_core {w : World} {g : Gh} {tid ty e : TypeId} {t : Ty} {S : Sh} {l news : List (D t)} {vd vs : Value} (ok : GhOk w g) (ht : P.underlying tid = some (.slice e)) (hte : tyOk P e t = true) (hS : S.noGone = true)
    (hd : RpV P w g (.inr 0) (.sl e t) [] (.own S) l vd) (hs : SrcR P w g t (.inr 0) l.length S news vs) (hlim : l.length + news.length < LIM (bytesOf t)) :
    ∃ v' w' g', (Builtin.append_ #[tid, tid] ty #[vd, vs]).run P w = .ok v' w' ∧ RpV P w' g' (.inr 0) (.sl e t) [] (.own S) (l ++ news) v' ∧ GhOk w' g' ∧ Ext w g w' g' ∧ Keeps (fun r => ∃ n, r = .inl n) w g w' g' := by
  obtain ⟨i, z, hi, hsz, hs0, hib, hz, hzc, hza⟩ := (tyOk_info hte).ex
  have hzs : z.cells.size = t.size := by
    have : z.cells.toList.length = t.size := by rw [hzc, zeroCells_len]
    simpa using this
  obtain ⟨hd1, hda⟩ := hd
  rw [cells_one hda] at hd1
  simp only [Rp] at hd1
  rcases hd1 with ⟨h, _⟩ | ⟨h, _⟩ | ⟨h, _⟩ | ⟨S', hSe, a, xs, hc, how, hb, he⟩
  · cases h
  · cases h
  · cases h
  cases hSe
  simp only [List.cons.injEq, and_true] at hc
  subst hc
  obtain ⟨sa, scap, rfl, hsrc⟩ := hs
  by_cases hn : news = []
  · subst hn
    rw [List.append_nil]
    have hrun : (Builtin.append_ #[tid, tid] ty #[vd, .slice sa 0 scap]).run P w = .ok vd w := by
      rcases how.2 with ⟨rfl, h0⟩ | ⟨b, cap, cur, rfl, _, _, hnc, _⟩
      · exact run_append_zero ht hi w none 0 0 (Nat.le_refl _) sa scap
      · exact run_append_zero ht hi w _ _ cap hnc sa scap
    refine ⟨vd, w, g, hrun, ⟨?_, hda⟩, ok, Ext.refl _ _, Keeps.refl _ _ _⟩
    rw [cells_one hda, Rp]
    exact .inr (.inr (.inr ⟨S, rfl, vd, xs, rfl, how, hb, he⟩))
  · have hpos : 0 < news.length := List.length_pos_iff.2 hn
    rcases hsrc with hsrc | ⟨b, k, rfl, hl, hsrc⟩
    · exact absurd hsrc hn
    have hbytes : (l.length + news.length) * i.bytes ≤ 140737488355328 := by
      unfold LIM at hlim
      have h1 := Nat.div_mul_le_self 140737488355328 (bytesOf t)
      have h2 := Nat.mul_le_mul_right (bytesOf t) (Nat.le_of_lt hlim)
      have h3 := Nat.mul_le_mul_left (l.length + news.length) hib
      omega
    have h63 : l.length + news.length ≤ maxLen := by
      unfold LIM at hlim
      have := Nat.div_le_self 140737488355328 (bytesOf t)
      simp only [maxLen]; omega
    have hnews : ∀ j u, (seg (rowL w b) k (news.length * t.size))[j]? = some u → w.cell? ((⟨b, k, none⟩ : Addr).add j) = some u := by
      intro j u hj
      rw [seg_get] at hj
      split at hj
      · rw [add_lit, cell_rowL]; exact hj
      · cases hj
    have h1c : ∀ u ∈ seg (rowL w b) k (news.length * t.size), u.oneCell' = true := by
      intro u hu
      obtain ⟨j, hj, hju⟩ := List.mem_iff_getElem.1 hu
      rw [hl] at hj
      have hd : j / t.size < news.length := by rw [Nat.div_lt_iff_lt_mul hs0]; exact hj
      have hm := Nat.mod_lt j hs0
      refine Rp.one t hS (hsrc (j / t.size) _ (getD_some (d := dflt t) hd)) u ?_
      refine List.mem_of_getElem? (i := j % t.size) ?_
      rw [seg_get, if_pos hm]
      have e1 : k + j / t.size * t.size + j % t.size = k + j := by
        have := Nat.div_add_mod j t.size
        rw [Nat.mul_comm] at this; omega
      have : (seg (rowL w b) k (news.length * t.size))[j]? = some u := by rw [← hju]; exact List.getElem?_eq_getElem (by rw [hl]; exact hj)
      rw [seg_get, if_pos hj] at this
      rw [e1]; exact this
    obtain ⟨v', w', hrun, hown', hgr, _⟩ := run_append_own (P := P) w 0 tid ty e i z t.size i.bytes ht hi hz hsz rfl hzs hs0 vd l.length xs how ⟨b, k, none⟩ news.length scap _ hl hnews h1c h63 hbytes (Nat.zero_le _)
    -- what has become of the elements
    have fin : ∀ g', v'.cells.toList = [v'] → isAggV v' = false → GhOk w' g' → Ext w g w' g' → Keeps (fun r => ∃ n, r = .inl n) w g w' g' → (∀ b, v'.ownBlock = some b → g'.B (.inr 0) [] = b ∧ g'.st b = some (.inr 0, [])) →
        (∀ j, Goes w g (.inr 0) [j] w' g' (.inr 0) [j]) →
        ∃ v' w' g', (Builtin.append_ #[tid, tid] ty #[vd, .slice (some ⟨b, k, none⟩) news.length scap]).run P w = .ok v' w' ∧ RpV P w' g' (.inr 0) (.sl e t) [] (.own S) (l ++ news) v' ∧ GhOk w' g' ∧ Ext w g w' g' ∧ Keeps (fun r => ∃ n, r = .inl n) w g w' g' := by
      intro g' hc1 hc2 hok hext hk hblk hgo
      refine ⟨v', w', g', hrun, ⟨?_, hc2⟩, hok, hext, hk⟩
      rw [Rp]
      refine .inr (.inr (.inr ⟨S, rfl, v', xs ++ seg (rowL w b) k (news.length * t.size), hc1, ?_, hblk, ?_⟩))
      · rw [List.length_append]; exact hown'
      · intro j x hx
        have hxl : xs.length = l.length * t.size := how.1
        by_cases hj : j < l.length
        · rw [List.getElem?_append_left hj] at hx
          have := mul_le t.size hj
          rw [seg_left _ _ _ _ (by omega)]
          exact Rp.go t (hgo j) (he j x hx)
        · rw [List.getElem?_append_right (by omega)] at hx
          have hj2 : j - l.length < news.length := (List.getElem?_eq_some_iff.1 hx).1
          have h1 := mul_le t.size hj2
          have h2 : j * t.size = l.length * t.size + (j - l.length) * t.size := by rw [← Nat.add_mul]; congr 1; omega
          rw [seg_right _ _ _ _ (by omega), hxl, h2, Nat.add_sub_cancel_left, seg_seg _ _ _ _ _ (by omega)]
          have := hsrc (j - l.length) x hx
          rw [show l.length + (j - l.length) = j by omega] at this
          exact Rp.go t (hgo j) this
    rcases how.2 with ⟨hv, h0⟩ | ⟨b0, cap, cur, hv, _, hcell, hnc, hcm, hcs, htake⟩
    · have hx : xs = [] := List.eq_nil_of_length_eq_zero (by rw [how.1, h0, Nat.zero_mul])
      subst hv
      have hr2 := run_append_nil (P := P) w tid ty e i z ht hi hz ⟨b, k, none⟩ news.length scap _ (by rw [hl, hsz]) hnews hpos (by simp only [maxLen] at h63; omega) (by
        have := Nat.mul_le_mul_right i.bytes (Nat.le_add_left news.length l.length); omega)
      rw [hrun] at hr2
      simp only [Result.ok.injEq] at hr2
      obtain ⟨rfl, rfl⟩ := hr2
      refine fin (newG g (.inr 0) [] w.heap.size) rfl rfl (newG_ok ok (drew_grown w _) (Nat.le_refl _) (drew_new w _)) (newG_ext (drew_grown w _) (Nat.le_refl _)) ((newG_keeps ok (drew_grown w _) (Nat.le_refl _)).mono (by rintro r ⟨n, rfl⟩; simp)) (fun b hb => ?_) (fun j => newG_goes ok (drew_grown w _) (Nat.le_refl _) (by simp))
      simp only [Value.ownBlock, Option.some.injEq] at hb
      subst hb
      exact ⟨newG_B, newG_st⟩
    · subst hv
      have hb0 := hb b0 rfl
      by_cases hroom : l.length + news.length ≤ cap
      · obtain ⟨w2, hr2, _, hgr2⟩ := run_append_fits (P := P) w 0 tid ty e i t.size ht hi hsz b0 l.length cap xs how ⟨b, k, none⟩ news.length scap _ hl hnews h1c hroom
        rw [hrun] at hr2
        simp only [Result.ok.injEq] at hr2
        obtain ⟨rfl, rfl⟩ := hr2
        have hnf : ¬ g.fz b0 := (ok.own b0 _ _ hb0.2).2
        have same : ∀ x, x < w.heap.size → x ≠ b0 → w'.heap[x]? = w.heap[x]? := fun x hx hne => hgr2.block x hx (by simpa using hne)
        have hold : Older w g.fz w' g.fz := fun x hx => ⟨hx, same x (ok.fz x hx) (fun e => hnf (e ▸ hx))⟩
        refine fin g rfl rfl ⟨fun x r π hx => ⟨Nat.lt_of_lt_of_le (ok.own x r π hx).1 hgr2.size, (ok.own x r π hx).2⟩, fun x hx => Nat.lt_of_lt_of_le (ok.fz x hx) hgr2.size⟩
          ⟨hgr2.os, hgr2.tape, hgr2.output, hgr2.size, fun x hx hs => ⟨same x hx (fun e => by subst e; rw [hb0.2] at hs; cases hs), hs⟩, fun x hx => hx, fun x hx => .inl hx⟩
          ⟨hold, ?_, fun _ _ => rfl⟩ (fun x hx => ?_) (fun j => ⟨hold, fun x q hx => ⟨hx, same x (ok.own x _ _ hx).1 (fun e => by subst e; rw [hb0.2] at hx; simp at hx)⟩, fun q => rfl⟩)
        · rintro r ⟨n, rfl⟩ x π hx
          exact ⟨hx, same x (ok.own x _ _ hx).1 (fun e => by subst e; rw [hb0.2] at hx; simp at hx)⟩
        · simp only [Value.ownBlock, Option.some.injEq] at hx
          subst hx
          exact hb0
      · have holds : ∀ j u, xs[j]? = some u → w.cell? ((⟨b0, 0, none⟩ : Addr).add j) = some u := World.ownsRow.cells how (g := b0) rfl
        have hr2 := run_append_grow (P := P) w tid ty e i z ht hi hz ⟨b0, 0, none⟩ l.length cap xs (by rw [hsz]; exact how.1) holds ⟨b, k, none⟩ news.length scap _ (by rw [hl, hsz]) hnews (by omega) (by simp only [maxLen] at h63; omega) (growslice_fits (by omega) hbytes)
        rw [hrun] at hr2
        simp only [Result.ok.injEq] at hr2
        obtain ⟨rfl, rfl⟩ := hr2
        refine fin (newG g (.inr 0) [] w.heap.size) rfl rfl (newG_ok ok (drew_grown w _) (Nat.le_refl _) (drew_new w _)) (newG_ext (drew_grown w _) (Nat.le_refl _)) ((newG_keeps ok (drew_grown w _) (Nat.le_refl _)).mono (by rintro r ⟨n, rfl⟩; simp)) (fun b hb => ?_) (fun j => newG_goes ok (drew_grown w _) (Nat.le_refl _) (by simp))
        simp only [Value.ownBlock, Option.some.injEq] at hb
        subst hb
        exact ⟨newG_B, newG_st⟩
end Go.Ev

/- Operations: appends, lengths, least and greatest. -/
namespace Go.Ev
open Go.RowKit
variable {P : Program}
section
variable {R' : Type} {A : Nat → Value} {w w' : World} {g g' g0 : Gh} {tm : Array Value} {ds : List Deferred} {σ : Env} {c : G} {K : Unit → Env → Option R'} {r : R'} {Q : Exit → Act → World → Prop} {o : Oper} {C : Ctx}

theorem exec_append {x y : Operand} {a : TypeId} (ρ : Operand → Value) (ho : o.op = .call { callee := .builtin .append, args := #[x, y], argTypes := #[a, a] }) {v : Value} {w' : World} (h : (Builtin.append_ #[a, a] o.type #[ρ x, ρ y]).run P w = .ok v w') :
    (execOp ρ o).run P w = .ok (.value v) w' := by
  simp [execOp, ho, resolve, invoke, builtin, h]

def SrcO (P : Program) (w : World) (g : Gh) (t : Ty) (s' : Option Sh) (news : List (D t)) (x : Value) : Prop := match s' with
  | some s => SrcR P w g t (.inr 1) 0 s news x
  | none => news = [] ∧ ∃ a cap, x = .slice a 0 cap

theorem appendTo_ok {e : TypeId} {t : Ty} {s' : Option Sh} {news l : List (D t)} {sh : Sh} {x y : Operand} {on : Bool} (hT : TOk P C.T = true) (hty : C.ty o.type = some (.sl e t)) (R : Rel P A w g tm σ) (E : Ext w g0 w g) (hon : σ.on c = on) (hD : DstOk A σ c o.dst tm) (hc : Gd σ c)
    (hcg : c.isEmpty = true → on = true) (hsh : sh = .emp ∨ ∃ s, sh = .own s) (hng : sh.noGone = true) (hng' : ∀ s, s' = some s → s.noGone = true)
    (hd : σ.on c = true → RpV P w g (.inr 0) (.sl e t) [] sh l (Act.eval ⟨tm, ds⟩ x)) (hsrc : σ.on c = true → SrcO P w g t s' news (Act.eval ⟨tm, ds⟩ y))
    (ho : o.op = .call { callee := .builtin .append, args := #[x, y], argTypes := #[o.type, o.type] }) (h : (appendTo c on o e t s' news sh l).run σ K = some r) : OpDoes P A o w g0 tm ds on K r Q := by
  unfold appendTo at h
  obtain ⟨hlim, h⟩ := nd_ok hcg h
  obtain ⟨d, hdd, hu⟩ := tyOk_under (TOk.ty hT hty)
  obtain ⟨rfl, hte⟩ := hu
  obtain ⟨i, z, hi, hsz, hs0, hib, hz, hzc, hza⟩ := (tyOk_info hte).ex
  cases s' with
  | none =>
    have happ : appSh sh none = sh := by
      rcases hsh with rfl | ⟨s, rfl⟩ <;> rfl
    rw [happ] at h
    refine does_value 0 R E hon hD hc h (fun ho' => ⟨Act.eval ⟨tm, ds⟩ x, ?_, ?_⟩)
    · obtain ⟨hn, a, cap, hy⟩ := hsrc ho'
      refine exec_append _ ho ?_
      rw [hy]
      obtain ⟨ad, cp, hx, _⟩ := (hd ho').slice hng
      have hcap : l.length ≤ cp := by
        have h1 := (hd ho').1
        rw [hx] at h1
        rcases hsh with rfl | ⟨s, rfl⟩
        · simp only [Rp] at h1
          rcases h1 with ⟨h1, _⟩ | ⟨h1, _⟩ | ⟨_, h1, _⟩ | ⟨s', h1, _⟩
          · cases h1
          · cases h1
          · rw [h1]; exact Nat.zero_le _
          · cases h1
        · simp only [Rp] at h1
          rcases h1 with ⟨h1, _⟩ | ⟨h1, _⟩ | ⟨h1, _⟩ | ⟨s', hs, a', xs, hc', how, _⟩
          · cases h1
          · cases h1
          · cases h1
          · simp only [Value.cells, List.cons.injEq, and_true] at hc'
            rcases how.2 with ⟨hv, h0⟩ | ⟨b, cap, cur, hv, _, _, hnc, _⟩
            · rw [h0]; exact Nat.zero_le _
            · rw [hv] at hc'
              simp only [Value.slice.injEq] at hc'
              omega
      rw [hx]
      exact run_append_zero hdd hi w ad l.length cp hcap a cap
    · obtain ⟨hn, _⟩ := hsrc ho'
      subst hn
      rw [List.append_nil]
      exact hd ho'
  | some s2 =>
    have hng2 := hng' s2 rfl
    -- one shape for all
    have prep : ∃ S g3, appSh sh (some s2) = .own S ∧ S.noGone = true ∧ Rel P A w g3 tm σ ∧ Ext w g0 w g3 ∧
        (σ.on c = true → RpV P w g3 (.inr 0) (.sl e t) [] (.own S) l (Act.eval ⟨tm, ds⟩ x) ∧ SrcR P w g3 t (.inr 0) l.length S news (Act.eval ⟨tm, ds⟩ y)) := by
      have R1 : Rel P A w (shiftG g l.length) tm σ := R.world (shiftG_keeps.mono (by rintro r ⟨n, rfl⟩; simp)) (shiftG_ok R.ok)
      have src : σ.on c = true → SrcR P w (shiftG g l.length) t (.inr 0) l.length s2 news (Act.eval ⟨tm, ds⟩ y) := fun ho' => SrcR.go (hsrc ho') (fun j hj => by rw [Nat.zero_add]; exact shiftG_new j)
      rcases hsh with rfl | ⟨s, rfl⟩
      · refine ⟨s2, shiftG g l.length, rfl, hng2, R1, E.trans shiftG_ext, fun ho' => ⟨?_, src ho'⟩⟩
        have h1 := hd ho'
        have h2 : RpV P w g (.inr 0) (.sl e t) [] (.own s2) l (Act.eval ⟨tm, ds⟩ x) := by
          refine ⟨?_, h1.2⟩
          have h1 := h1.1
          simp only [Rp] at h1
          rcases h1 with ⟨h1, _⟩ | ⟨h1, _⟩ | ⟨_, hv, hcell⟩ | ⟨s', h1, _⟩
          · cases h1
          · cases h1
          · rw [Rp]
            refine .inr (.inr (.inr ⟨s2, rfl, .slice none 0 0, [], hcell, ?_, ?_, ?_⟩))
            · rw [hv]; exact World.ownsRow_nil _ _ _ _
            · intro b hb; simp [Value.ownBlock] at hb
            · intro i x hx; rw [hv] at hx; simp at hx
          · cases h1
        exact Rp.shift h2
      · simp only [Sh.noGone] at hng
        by_cases hss : s = s2
        · subst hss
          refine ⟨s, shiftG g l.length, by simp [appSh, meet], hng, R1, E.trans shiftG_ext, fun ho' => ⟨Rp.shift (hd ho'), src ho'⟩⟩
        · refine ⟨.fz, turnG (shiftG g l.length) (.inr 0) [] (.own .fz) [] (.inr 9) [], by simp [appSh, meet, hss], rfl, R1.fly (by omega), (E.trans shiftG_ext).trans (turnG_ext w), fun ho' => ⟨⟨?_, (hd ho').2⟩, ?_⟩⟩
          · exact Rp.wk _ (by simp only [wk, wk_fz]; exact hng) (turnG_turns (by simp)) (Rp.shift (hd ho')).1
          · obtain ⟨a, cap, hx, hn⟩ := src ho'
            refine ⟨a, cap, hx, hn.imp id ?_⟩
            rintro ⟨b, o', ha, hl, he⟩
            refine ⟨b, o', ha, hl, fun j y hy => Rp.of_fr t (Rp.freeze t hng2 (turnG_older w) (fun b q hq => ⟨.inr ⟨(l.length + j) :: q, by simpa using hq, rfl⟩, rfl⟩) (he j y hy))⟩
    obtain ⟨S, g3, happ, hngS, R3, E3, hall⟩ := prep
    rw [happ] at h
    refine does_grown 0 hon hD hc h (fun _ => trivial) (fun _ => ⟨g3, R3, E3⟩) (fun ho' => ?_)
    rw [hon] at hall
    obtain ⟨hdst, hsr⟩ := hall ho'
    have hlim := hlim ho'
    simp only [decide_eq_true_eq] at hlim
    obtain ⟨v', w', g', hrun, hv, hok, hext, hk⟩ := append_core (ty := o.type) R3.ok hdd hte hngS hdst hsr hlim
    exact ⟨w', g', v', R3.world hk hok, E3.trans hext, exec_append _ ho hrun, fun g'' σ' d kk => RpV.go kk hv⟩

theorem appTo_ok {e : TypeId} {t : Ty} {s' : Option Sh} {news : List (D t)} {x y : Operand} {on : Bool} {i : Nat} {sx : S} (hS : SoundC P C) (hT : TOk P C.T = true) (hty : C.ty o.type = some (.sl e t)) (R : Rel P A w g tm σ) (E : Ext w g0 w g) (hon : σ.on c = on) (hD : DstOk A σ c o.dst tm) (hc : Gd σ c)
    (hcg : c.isEmpty = true → on = true) (hng' : ∀ s, s' = some s → s.noGone = true) (H : Held P A w g σ c sx (Act.eval ⟨tm, ds⟩ x)) (hsrc : σ.on c = true → SrcO P w g t s' news (Act.eval ⟨tm, ds⟩ y))
    (ho : o.op = .call { callee := .builtin .append, args := #[x, y], argTypes := #[o.type, o.type] }) (h : (appTo C c on o e t i sx s' news).run σ K = some r) : OpDoes P A o w g0 tm ds on K r Q := by
  unfold appTo at h
  split at h
  · refine appendTo_ok hT hty R E hon hD hc hcg (.inl rfl) rfl hng' (fun ho' => ?_) hsrc ho h
    have hx : Act.eval ⟨tm, ds⟩ x = .slice none 0 0 := H.mean ho'
    rw [hx]
    exact ⟨by rw [Rp]; exact .inr (.inr (.inl ⟨rfl, rfl, rfl⟩)), rfl⟩
  · obtain ⟨sh, v, g1, σ1, h, R1, M, hng, hr⟩ := takeAs_ok 0 hS R hc H h
    have hsrc1 : σ1.on c = true → SrcO P w g1 t s' news (Act.eval ⟨tm, ds⟩ y) := fun ho' => by
      have := hsrc (by rwa [M.mild.on hc] at ho')
      cases s' with
      | none => exact this
      | some s => exact SrcR.go this (fun j hj => M.fly.goes ⟨1, rfl, by simp⟩ _)
    have hon1 : σ1.on c = on := (M.mild.on hc).trans hon
    split at h
    · rename_i s
      exact appendTo_ok hT hty R1 (E.trans M.ext) hon1 (hD.mild M.mild) (M.mild.gdOk hc) hcg (.inr ⟨s, rfl⟩) hng hng' (fun ho' => hr (by rwa [M.mild.on hc] at ho')) hsrc1 ho h
    · refine appendTo_ok hT hty R1 (E.trans M.ext) hon1 (hD.mild M.mild) (M.mild.gdOk hc) hcg (.inl rfl) hng hng' (fun ho' => ?_) hsrc1 ho h
      have hr := hr (by rwa [M.mild.on hc] at ho')
      have hv : v = [] := by
        have := hr.1
        simp only [Rp] at this
        rcases this with ⟨h1, _⟩ | ⟨h1, _⟩ | ⟨_, hv, _⟩ | ⟨s', h1, _⟩
        · cases h1
        · cases h1
        · exact hv
        · cases h1
      rw [← hv]; exact hr
    · cases h
  · cases h

theorem oAppend_ok {x y : Operand} (hS : SoundC P C) (hT : TOk P C.T = true) (R : Rel P A w g tm σ) (hD : DstOk A σ c o.dst tm) (hc : Gd σ c) (hcg : c.isEmpty = true → σ.on c = true)
    (ho : o.op = .call { callee := .builtin .append, args := #[x, y], argTypes := #[o.type, o.type] }) (h : (oAppend C c (σ.on c) o x y).run σ K = some r) : OpDoes P A o w g tm ds (σ.on c) K r Q := by
  unfold oAppend at h
  split at h
  · rename_i e t hty
    obtain ⟨d, hdd, hu⟩ := tyOk_under (TOk.ty hT hty)
    obtain ⟨rfl, hte⟩ := hu
    obtain ⟨iz, z, hi, hsz, hs0, hib, hz, hzc, hza⟩ := (tyOk_info hte).ex
    obtain ⟨j, sy, h', Hy, _⟩ := rd_ok R ds h
    clear h; have h := h'; clear h'
    obtain ⟨i, sx, h', Hx, hslot, hform⟩ := rd_ok R ds h
    clear h; have h := h'; clear h'
    split at h
    · rename_i hpl
      obtain ⟨sh, news, h, hng, hn⟩ := lookAs_ok (Hy (not_tup h)) h
      have hnt : sx.isTup = false := by
        cases sx <;> first | rfl | (simp [appTo, Acc.run] at h)
      refine appTo_ok hS hT hty R (Ext.refl _ _) rfl hD hc hcg (by intro s hs; cases hs; rfl) (Hx hnt) (fun ho' => ?_) ho h
      obtain ⟨ro, π, hr⟩ := hn ho'
      -- the elements own nothing
      have hr1 := hr.1
      show SrcR P w g t (.inr 1) 0 .fz news _
      by_cases hown : ∃ s, sh = .own s
      · obtain ⟨s, rfl⟩ := hown
        simp only [Sh.noGone] at hng
        by_cases hnil : news = []
        · subst hnil
          obtain ⟨a, cap, hx, _⟩ := hr.slice (sh := .own s) (by simpa [Sh.noGone] using hng)
          exact ⟨a, cap, hx, .inl rfl⟩
        · have hpos : 0 < news.length := List.length_pos_iff.2 hnil
          rw [cells_one hr.2] at hr1
          obtain ⟨cap, cur, hx, hg, hnc, hcm, hcs, hst, he⟩ := Rp.row hr1 hpos
          simp only [List.cons.injEq, and_true] at hx
          have hrow : rowL w (g.B ro π) = cur.toList := by simp only [rowL, hg]
          refine ⟨_, cap, hx, .inr ⟨g.B ro π, 0, rfl, ?_, fun j y hy => ?_⟩⟩
          · rw [hrow]
            have := Nat.mul_le_mul_right t.size hnc
            exact seg_length _ _ _ (by simp [hcs]; omega)
          · have := he j y hy
            rw [hrow, Nat.zero_add, Nat.zero_add]
            exact Rp.of_fr t (Rp.plain t hpl hng this)
      · have hfr : Fr P (.sl e t) w g.fz news (Act.eval ⟨tm, ds⟩ y).cells.toList := by
          simp only [Rp] at hr1
          rcases hr1 with ⟨_, h1⟩ | ⟨h1, _⟩ | ⟨_, hv, hcell⟩ | ⟨s, hs, _⟩
          · exact h1
          · subst h1; simp [Sh.noGone] at hng
          · rw [hcell, hv]; simp [Fr]
          · exact absurd ⟨s, hs⟩ hown
        exact SrcR.of_fr hs0 hfr hr.2
    · unfold takeSrc at h
      obtain ⟨sh, news, g1, σ1, h, R1, M, hng, hr⟩ := takeAs_ok 1 hS R hc (Hy (takeAs_tup h)) h
      have hnt : sx.isTup = false := by
        cases sx <;> first | rfl | (cases sh <;> simp [appTo, Acc.run] at h)
      have Hx1 := (Hx hnt).moved M hc
      have hon1 := M.mild.on hc
      split at h
      · rename_i s
        refine appTo_ok hS hT hty R1 M.ext hon1 (hD.mild M.mild) (M.mild.gdOk hc) hcg (by intro s' hs; cases hs; simpa [Sh.noGone] using hng) Hx1 (fun ho' => ?_) ho h
        have hr := hr (by rwa [hon1] at ho')
        exact SrcR.of_own hs0 hr.1 hr.2
      · refine appTo_ok hS hT hty R1 M.ext hon1 (hD.mild M.mild) (M.mild.gdOk hc) hcg (by intro s' hs; cases hs) Hx1 (fun ho' => ?_) ho h
        have hr := hr (by rwa [hon1] at ho')
        have h1 := hr.1
        simp only [Rp] at h1
        rcases h1 with ⟨h1, _⟩ | ⟨h1, _⟩ | ⟨_, hv, hcell⟩ | ⟨s', h1, _⟩
        · cases h1
        · cases h1
        · rw [cells_one hr.2] at hcell
          exact ⟨hv, none, 0, by simpa using hcell⟩
        · cases h1
      · rename_i hno hne
        refine appTo_ok hS hT hty R1 M.ext hon1 (hD.mild M.mild) (M.mild.gdOk hc) hcg (by intro s' hs; cases hs; rfl) Hx1 (fun ho' => ?_) ho h
        have hr := hr (by rwa [hon1] at ho')
        have h1 := hr.1
        have hfr : Fr P (.sl e t) w g1.fz news (Act.eval ⟨tm, ds⟩ y).cells.toList := by
          simp only [Rp] at h1
          rcases h1 with ⟨_, h1⟩ | ⟨h1, _⟩ | ⟨h1, _⟩ | ⟨s, hs, _⟩
          · exact h1
          · subst h1; simp [Sh.noGone] at hng
          · exact absurd h1 hne
          · exact absurd hs (hno s)
        exact SrcR.of_fr hs0 hfr hr.2
  · cases h

theorem oLen_ok {a : TypeId} {x : Operand} (hT : TOk P C.T = true) (R : Rel P A w g tm σ) (hD : DstOk A σ c o.dst tm) (hc : Gd σ c) (ho : o.op = .call { callee := .builtin .len, args := #[x], argTypes := #[a] })
    (h : (rd c x fun _ s => lookLen c s fun t n => if C.ty a = some t then fin c o.dst (.val (.int .i64) .fz n) else .fail).run σ K = some r) : OpDoes P A o w g tm ds (σ.on c) K r Q := by
  obtain ⟨i, s, h', H, _⟩ := rd_ok R ds h
  clear h; have h := h'; clear h'
  obtain ⟨y, h, hng, hy⟩ := lookLen_ok (H (not_tup_len h)) h
  obtain ⟨t, sh, v⟩ := y
  cases t <;> simp only at h <;> try (exact absurd h id; done)
  · rename_i u t
    split at h
    · rename_i hty
      refine does_light R (Ext.refl _ _) rfl hD hc h rfl trivial (fun hon => ⟨_, ?_, SR_int _ _⟩)
      obtain ⟨ro, π, hr⟩ := hy hon
      obtain ⟨ad, cap, hx, _⟩ := hr.slice hng
      obtain ⟨d, hd, hu⟩ := tyOk_under (TOk.ty hT hty)
      obtain ⟨rfl, _⟩ := hu
      simp [execOp, ho, resolve, invoke, builtin, Builtin.len_, run_underlying hd, hx, goInt]
    · cases h
  · rename_i n t
    split at h
    · rename_i hty
      refine does_light R (Ext.refl _ _) rfl hD hc h rfl trivial (fun hon => ⟨_, ?_, SR_int _ _⟩)
      obtain ⟨d, hd, hu⟩ := tyOk_under (TOk.ty hT hty)
      obtain ⟨e, rfl, _⟩ := hu
      simp [execOp, ho, resolve, invoke, builtin, Builtin.len_, run_underlying hd, goInt]
    · cases h

theorem oMin_ok {as : Array TypeId} {x y : Operand} (R : Rel P A w g tm σ) (hD : DstOk A σ c o.dst tm) (hc : Gd σ c) (ho : o.op = .call { callee := .builtin .min, args := #[x, y], argTypes := as })
    (h : (rd c x fun _ sx => rd c y fun _ sy => look c sx fun a => (match a with
    | ⟨.int k, _, m⟩ => lookAs c (.int k) sy fun n => fin c o.dst (.val (.int k) .fz (if (show Int from n) < m then (show Int from n) else m))
    | _ => .fail)).run σ K = some r) : OpDoes P A o w g tm ds (σ.on c) K r Q := by
  obtain ⟨ix, sx, h', Hx, _⟩ := rd_ok R ds h
  clear h; have h := h'; clear h'
  obtain ⟨iy, sy, h', Hy, _⟩ := rd_ok R ds h
  clear h; have h := h'; clear h'
  obtain ⟨za, h', hnga, hza⟩ := look_ok (Hx (not_tup h)) h
  clear h; have h := h'; clear h'
  obtain ⟨ta, sha, va⟩ := za
  cases ta <;> simp only at h <;> try (cases h; done)
  obtain ⟨shb, vb, h', hngb, hzb⟩ := lookAs_ok (Hy (not_tup h)) h
  refine does_light R (Ext.refl _ _) rfl hD hc h' rfl trivial (fun hon => ⟨_, ?_, SR_int _ _⟩)
  obtain ⟨ro, π, hra⟩ := hza hon
  obtain ⟨ro', π', hrb⟩ := hzb hon
  simp [execOp, ho, resolve, invoke, builtin, Builtin.min_, Builtin.min2, hra.int hnga, hrb.int hngb]
theorem oMax_ok {as : Array TypeId} {x y : Operand} (R : Rel P A w g tm σ) (hD : DstOk A σ c o.dst tm) (hc : Gd σ c) (ho : o.op = .call { callee := .builtin .max, args := #[x, y], argTypes := as })
    (h : (rd c x fun _ sx => rd c y fun _ sy => look c sx fun a => (match a with
    | ⟨.int k, _, m⟩ => lookAs c (.int k) sy fun n => fin c o.dst (.val (.int k) .fz (if (show Int from n) > m then (show Int from n) else m))
    | _ => .fail)).run σ K = some r) : OpDoes P A o w g tm ds (σ.on c) K r Q := by
  obtain ⟨ix, sx, h', Hx, _⟩ := rd_ok R ds h
  clear h; have h := h'; clear h'
  obtain ⟨iy, sy, h', Hy, _⟩ := rd_ok R ds h
  clear h; have h := h'; clear h'
  obtain ⟨za, h', hnga, hza⟩ := look_ok (Hx (not_tup h)) h
  clear h; have h := h'; clear h'
  obtain ⟨ta, sha, va⟩ := za
  cases ta <;> simp only at h <;> try (cases h; done)
  obtain ⟨shb, vb, h', hngb, hzb⟩ := lookAs_ok (Hy (not_tup h)) h
  refine does_light R (Ext.refl _ _) rfl hD hc h' rfl trivial (fun hon => ⟨_, ?_, SR_int _ _⟩)
  obtain ⟨ro, π, hra⟩ := hza hon
  obtain ⟨ro', π', hrb⟩ := hzb hon
  simp [execOp, ho, resolve, invoke, builtin, Builtin.max_, Builtin.max2, hra.int hnga, hrb.int hngb]
end
end Go.Ev

/- Operations: rows put together anew out of parts of an owned row. -/
namespace Go.Ev
open Go.RowKit
variable {P : Program}

/-- Cells are appended to an owned row. -/
theorem append_row {w : World} {g : Gh} {tid ty e : TypeId} {t : Ty} {vd : Value} {ad : Option Addr} {n m scap : Nat} {xs ys : List Value} (ok : GhOk w g) (ht : P.underlying tid = some (.slice e)) (hte : tyOk P e t = true)
    (hda : isAggV vd = false) (how : w.ownsRow 0 e t.size vd n xs) (hb : ∀ b, vd.ownBlock = some b → g.B (.inr 0) [] = b ∧ g.st b = some (.inr 0, []))
    (hsrc : (m = 0 ∧ ys = []) ∨ ∃ b k, ad = some ⟨b, k, none⟩ ∧ ys = seg (rowL w b) k (m * t.size) ∧ ys.length = m * t.size) (h1c : ∀ u ∈ ys, u.oneCell' = true) (hlim : n + m < LIM (bytesOf t)) :
    ∃ v' w' g', (Builtin.append_ #[tid, tid] ty #[vd, .slice ad m scap]).run P w = .ok v' w' ∧ isAggV v' = false ∧ w'.ownsRow 0 e t.size v' (n + m) (xs ++ ys) ∧
      (∀ b, v'.ownBlock = some b → g'.B (.inr 0) [] = b ∧ g'.st b = some (.inr 0, [])) ∧ GhOk w' g' ∧ Ext w g w' g' ∧ Keeps (fun r => ∃ n, r = .inl n) w g w' g' ∧ (∀ j, Goes w g (.inr 0) [j] w' g' (.inr 0) [j]) := by
  obtain ⟨i, z, hi, hsz, hs0, hib, hz, hzc, hza⟩ := (tyOk_info hte).ex
  have hzs : z.cells.size = t.size := by
    have : z.cells.toList.length = t.size := by rw [hzc, zeroCells_len]
    simpa using this
  by_cases hm : m = 0
  · subst hm
    have hy : ys = [] := by
      rcases hsrc with ⟨_, h⟩ | ⟨b, k, _, _, h⟩
      · exact h
      · exact List.eq_nil_of_length_eq_zero (by rw [h, Nat.zero_mul])
    subst hy
    have hrun : (Builtin.append_ #[tid, tid] ty #[vd, .slice ad 0 scap]).run P w = .ok vd w := by
      rcases how.2 with ⟨rfl, h0⟩ | ⟨b, cap, cur, rfl, _, _, hnc, _⟩
      · exact run_append_zero ht hi w none 0 0 (Nat.le_refl _) ad scap
      · exact run_append_zero ht hi w _ _ cap hnc ad scap
    refine ⟨vd, w, g, hrun, hda, by rw [List.append_nil]; exact how, hb, ok, Ext.refl _ _, Keeps.refl _ _ _, fun j => ⟨Older.refl _ _, fun _ _ h => ⟨h, rfl⟩, fun _ => rfl⟩⟩
  · have hpos : 0 < m := Nat.pos_of_ne_zero hm
    rcases hsrc with ⟨h, _⟩ | ⟨b, k, rfl, hys, hl⟩
    · exact absurd h hm
    have hbytes : (n + m) * i.bytes ≤ 140737488355328 := by
      unfold LIM at hlim
      have h1 := Nat.div_mul_le_self 140737488355328 (bytesOf t)
      have h2 := Nat.mul_le_mul_right (bytesOf t) (Nat.le_of_lt hlim)
      have h3 := Nat.mul_le_mul_left (n + m) hib
      omega
    have h63 : n + m ≤ maxLen := by
      unfold LIM at hlim
      have := Nat.div_le_self 140737488355328 (bytesOf t)
      simp only [maxLen]; omega
    have hnews : ∀ j u, ys[j]? = some u → w.cell? ((⟨b, k, none⟩ : Addr).add j) = some u := by
      intro j u hj
      rw [hys, seg_get] at hj
      split at hj
      · rw [add_lit, cell_rowL]; exact hj
      · cases hj
    obtain ⟨v', w', hrun, hown', hgr, _⟩ := run_append_own (P := P) w 0 tid ty e i z t.size i.bytes ht hi hz hsz rfl hzs hs0 vd n xs how ⟨b, k, none⟩ m scap ys hl hnews h1c h63 hbytes (Nat.zero_le _)
    rcases how.2 with ⟨hv, h0⟩ | ⟨b0, cap, cur, hv, _, hcell, hnc, hcm, hcs, htake⟩
    · subst hv
      subst h0
      have hr2 := run_append_nil (P := P) w tid ty e i z ht hi hz ⟨b, k, none⟩ m scap ys (by rw [hl, hsz]) hnews hpos (by simp only [maxLen] at h63; omega) (by
        have := Nat.mul_le_mul_right i.bytes (Nat.le_add_left m 0); omega)
      rw [hrun] at hr2
      simp only [Result.ok.injEq] at hr2
      obtain ⟨rfl, rfl⟩ := hr2
      refine ⟨_, _, newG g (.inr 0) [] w.heap.size, hrun, rfl, hown', (fun b hb => ?_), (newG_ok ok (drew_grown w _) (Nat.le_refl _) (drew_new w _)), (newG_ext (drew_grown w _) (Nat.le_refl _)), ((newG_keeps ok (drew_grown w _) (Nat.le_refl _)).mono (by rintro r ⟨n, rfl⟩; simp)), (fun j => newG_goes ok (drew_grown w _) (Nat.le_refl _) (by simp))⟩
      simp only [Value.ownBlock, Option.some.injEq] at hb
      subst hb
      exact ⟨newG_B, newG_st⟩
    · subst hv
      have hb0 := hb b0 rfl
      by_cases hroom : n + m ≤ cap
      · obtain ⟨w2, hr2, _, hgr2⟩ := run_append_fits (P := P) w 0 tid ty e i t.size ht hi hsz b0 n cap xs how ⟨b, k, none⟩ m scap ys hl hnews h1c hroom
        rw [hrun] at hr2
        simp only [Result.ok.injEq] at hr2
        obtain ⟨rfl, rfl⟩ := hr2
        have hnf : ¬ g.fz b0 := (ok.own b0 _ _ hb0.2).2
        have same : ∀ x, x < w.heap.size → x ≠ b0 → w'.heap[x]? = w.heap[x]? := fun x hx hne => hgr2.block x hx (by simpa using hne)
        have hold : Older w g.fz w' g.fz := fun x hx => ⟨hx, same x (ok.fz x hx) (fun e => hnf (e ▸ hx))⟩
        refine ⟨_, w', g, hrun, rfl, hown', (fun x hx => ?_), ⟨fun x r π hx => ⟨Nat.lt_of_lt_of_le (ok.own x r π hx).1 hgr2.size, (ok.own x r π hx).2⟩, fun x hx => Nat.lt_of_lt_of_le (ok.fz x hx) hgr2.size⟩,
          ⟨hgr2.os, hgr2.tape, hgr2.output, hgr2.size, fun x hx hs => ⟨same x hx (fun e => by subst e; rw [hb0.2] at hs; cases hs), hs⟩, fun x hx => hx, fun x hx => .inl hx⟩,
          ⟨hold, ?_, fun _ _ => rfl⟩, (fun j => ⟨hold, fun x q hx => ⟨hx, same x (ok.own x _ _ hx).1 (fun e => by subst e; rw [hb0.2] at hx; simp at hx)⟩, fun q => rfl⟩)⟩
        · simp only [Value.ownBlock, Option.some.injEq] at hx
          subst hx
          exact hb0
        · rintro r ⟨n, rfl⟩ x π hx
          exact ⟨hx, same x (ok.own x _ _ hx).1 (fun e => by subst e; rw [hb0.2] at hx; simp at hx)⟩
      · have holds : ∀ j u, xs[j]? = some u → w.cell? ((⟨b0, 0, none⟩ : Addr).add j) = some u := World.ownsRow.cells how (g := b0) rfl
        have hr2 := run_append_grow (P := P) w tid ty e i z ht hi hz ⟨b0, 0, none⟩ n cap xs (by rw [hsz]; exact how.1) holds ⟨b, k, none⟩ m scap ys (by rw [hl, hsz]) hnews (by omega) (by simp only [maxLen] at h63; omega) (growslice_fits (by omega) hbytes)
        rw [hrun] at hr2
        simp only [Result.ok.injEq] at hr2
        obtain ⟨rfl, rfl⟩ := hr2
        refine ⟨_, _, newG g (.inr 0) [] w.heap.size, hrun, rfl, hown', (fun b hb => ?_), (newG_ok ok (drew_grown w _) (Nat.le_refl _) (drew_new w _)), (newG_ext (drew_grown w _) (Nat.le_refl _)), ((newG_keeps ok (drew_grown w _) (Nat.le_refl _)).mono (by rintro r ⟨n, rfl⟩; simp)), (fun j => newG_goes ok (drew_grown w _) (Nat.le_refl _) (by simp))⟩
        simp only [Value.ownBlock, Option.some.injEq] at hb
        subst hb
        exact ⟨newG_B, newG_st⟩

section
variable {R' : Type} {A : Nat → Value} {w w' : World} {g g' g0 : Gh} {tm : Array Value} {ds : List Deferred} {σ : Env} {c : G} {K : Unit → Env → Option R'} {r : R'} {Q : Exit → Act → World → Prop} {o : Oper} {C : Ctx}

theorem Rel.arriveX (R : Rel P A w g tm σ) {dst : Option Nat} {s : S} {y : Value} (fk : Nat) (hD : DstOk A σ c dst tm) (hc : Gd σ c) (hv : VerOk σ s)
    (hs : ∀ g' d, Goes w g (.inr fk) [] w g' (.inl d) [] → Keeps (fun r => ∃ n, r = .inl n ∧ n ≠ d) w g w g' → σ.on c = true → SR P w g' A (σ.fin d c s) d 0 s y) (hoff : σ.on c = false → y = undef) :
    ∃ g', Rel P A w g' (putT tm dst y) (finE σ dst c s) ∧ Ext w g w g' := by
  cases dst with
  | none => exact ⟨g, R, Ext.refl _ _⟩
  | some d =>
    obtain ⟨h1, h2, h3, hA⟩ := hD d rfl
    have hne : (Sum.inr fk : Root) ≠ .inl d := by simp
    have hk : Keeps (fun r => ∃ n, r = .inl n ∧ n ≠ d) w g w (turnG g (.inr fk) [] .gone [] (.inl d) []) := (turnG_keeps w).mono (by
      rintro r ⟨n, rfl, hn⟩
      exact ⟨by simp, by simpa using hn⟩)
    refine ⟨turnG g (.inr fk) [] .gone [] (.inl d) [], ?_, turnG_ext w⟩
    refine R.fin hA h1 h2 hc hk (turnG_own R.own hne) (turnG_fz R.own R.fz) (fun n hn => ?_) (fun ho => ?_) (hv.fin (dst := some d)) (fun ho => ?_)
    · simp only [putT, getD_set n h3, if_neg hn]
    · simp only [putT, getD_set d h3, if_true]; exact hoff ho
    · simp only [putT, getD_set d h3, if_true]
      exact hs _ d (turnG_goes (π0 := []) (p := []) hne fun q => rfl) hk ho

theorem does_grownX {s : S} (fk : Nat) (hon : σ.on c = true) (hD : DstOk A σ c o.dst tm) (hc : Gd σ c) (h : (fin c o.dst s).run σ K = some r) (hv : VerOk σ s)
    (onn : ∃ w1 g1 y, Rel P A w1 g1 tm σ ∧ Ext w g0 w1 g1 ∧ (execOp (Act.eval ⟨tm, ds⟩) o).run P w = .ok (.value y) w1 ∧ ∀ g' d, Goes w1 g1 (.inr fk) [] w1 g' (.inl d) [] → Keeps (fun r => ∃ n, r = .inl n ∧ n ≠ d) w1 g1 w1 g' → SR P w1 g' A (σ.fin d c s) d 0 s y) :
    OpDoes P A o w g0 tm ds true K r Q := by
  unfold OpDoes
  have hK := fin_ok h
  obtain ⟨w1, g1, y, R, E, hr, hs⟩ := onn
  rw [if_pos rfl]
  unfold Oper.wp
  rw [hr]
  obtain ⟨g', R', E'⟩ := R.arriveX (dst := o.dst) (s := s) (y := y) fk hD hc hv (fun g' d k k' _ => hs g' d k k') (fun hf => by rw [hon] at hf; cases hf)
  refine ⟨g', _, ?_, E.trans E', put_defers _ _ _ _, ?_, hK⟩
  · rw [put_tmps]; exact R'
  · rw [put_tmps, putT_size]

/-- A row that is put together comes into its slot. -/
theorem shal_fin {w1 : World} {g1 g' : Gh} {h ver pv hi d : Nat} {e : TypeId} {t : Ty} {s : Sh} {l : List (D t)} {xs : List Value} {y : Value} (hv : Young σ h ver pv) (h1 : ShalR P w1 g1 (.inr 0) hi e t s l xs y)
    (h2 : (σ.get h).ver = ver → (σ.get h).pv = pv → SameR w1 g1 h hi (σ.get h).s e t xs) (k : Goes w1 g1 (.inr 0) [] w1 g' (.inl d) []) (k' : Keeps (fun r => ∃ n, r = .inl n ∧ n ≠ d) w1 g1 w1 g') :
    SR P w1 g' A (σ.fin d c (.shal h ver pv hi e t s l)) d 0 (.shal h ver pv hi e t s l) y := by
  refine ⟨xs, h1.go k, fun h3 h4 => ?_⟩
  rw [Env.fin_get] at h3 h4 ⊢
  by_cases e1 : h = d
  · subst e1
    rw [if_pos rfl] at h3
    have h3 : (σ.get h).ver + 1 = ver := h3
    simp only [Young] at hv
    omega
  · rw [if_neg e1] at h3 h4 ⊢
    exact (h2 h3 h4).keep k' ⟨_, rfl, e1⟩
end
end Go.Ev

/- Operations: rows put together anew out of parts of an owned row, one by one. -/
namespace Go.Ev
open Go.RowKit
variable {P : Program}
section
variable {R' : Type} {A : Nat → Value} {w w' : World} {g g' g0 : Gh} {tm : Array Value} {ds : List Deferred} {σ : Env} {c : G} {K : Unit → Env → Option R'} {r : R'} {Q : Exit → Act → World → Prop} {o : Oper} {C : Ctx}

theorem home_val {h : Nat} {t : Ty} {sh : Sh} {v : D t} (R : Rel P A w g tm σ) (hs : (σ.get h).s = .val t sh v) (hg : (σ.get h).gd.isEmpty = true) : RpV P w g (.inl h) t [] sh v (tm.getD h undef) := by
  have := R.slot h (by rw [isEmpty_nil hg]; rfl)
  rw [hs] at this; exact this

/-- The cells of some elements of an owned row. -/
theorem row_part {r : Root} {e : TypeId} {t : Ty} {s : Sh} {l : List (D t)} {v : Value} (hs0 : 0 < t.size) (hS : s.noGone = true) (h : RpV P w g r (.sl e t) [] (.own s) l v) {lo m : Nat} (hm : 0 < m) (hlm : lo + m ≤ l.length) :
    g.st (g.B r []) = some (r, []) ∧ (seg (rowL w (g.B r [])) (lo * t.size) (m * t.size)).length = m * t.size ∧ (∀ u ∈ seg (rowL w (g.B r [])) (lo * t.size) (m * t.size), u.oneCell' = true) ∧
      ∀ i x, l[i]? = some x → Rp P w g r t [i] s x (seg (rowL w (g.B r [])) (i * t.size) t.size) := by
  have h1 := h.1
  rw [cells_one h.2] at h1
  obtain ⟨cap, cur, hx, hg, hnc, hcm, hcs, hst, he⟩ := Rp.row h1 (show lo < l.length by omega)
  have hrow : rowL w (g.B r []) = cur.toList := by simp only [rowL, hg]
  have he' : ∀ i x, l[i]? = some x → Rp P w g r t [i] s x (seg (rowL w (g.B r [])) (i * t.size) t.size) := fun i x hi => by
    rw [hrow]; simpa using he i x hi
  have hlen : (seg (rowL w (g.B r [])) (lo * t.size) (m * t.size)).length = m * t.size := by
    refine seg_length _ _ _ ?_
    rw [hrow]
    have h2 : (lo + m) * t.size ≤ cap * t.size := Nat.mul_le_mul_right t.size (by omega)
    rw [Nat.add_mul] at h2
    simp [hcs]; omega
  refine ⟨hst, hlen, fun u hu => ?_, he'⟩
  obtain ⟨j, hj, hju⟩ := List.mem_iff_getElem.1 hu
  rw [hlen] at hj
  have hd : j / t.size < m := by rw [Nat.div_lt_iff_lt_mul hs0]; exact hj
  have hmod := Nat.mod_lt j hs0
  refine Rp.one t hS (he' (lo + j / t.size) _ (getD_some (d := dflt t) (by omega))) u ?_
  refine List.mem_of_getElem? (i := j % t.size) ?_
  rw [seg_get, if_pos hmod]
  have e1 : (lo + j / t.size) * t.size + j % t.size = lo * t.size + j := by
    have := Nat.div_add_mod j t.size
    rw [Nat.add_mul]
    rw [Nat.mul_comm] at this; omega
  have : (seg (rowL w (g.B r [])) (lo * t.size) (m * t.size))[j]? = some u := by rw [← hju]; exact List.getElem?_eq_getElem (by rw [hlen]; exact hj)
  rw [seg_get, if_pos hj] at this
  rw [e1]; exact this

theorem oCut_ok {ty : TypeId} {x : Operand} {lo hi : Option Operand} (hT : TOk P C.T = true) (R : Rel P A w g tm σ) (hD : DstOk A σ c o.dst tm) (hc : Gd σ c) (hcg : c.isEmpty = true → σ.on c = true) (ho : o.op = .slice ty x lo hi none)
    (h : (oCut C c o ty x lo hi).run σ K = some r) : OpDoes P A o w g tm ds (σ.on c) K r Q := by
  unfold oCut at h
  obtain ⟨i, s, h', H, hslot, hform⟩ := rd_ok R ds h
  clear h; have h := h'; clear h'
  obtain ⟨a, h', ha⟩ := rdI_ok R ds h
  clear h; have h := h'; clear h'
  obtain ⟨b, h', hb⟩ := rdI_ok R ds h
  clear h; have h := h'; clear h'
  split at h
  · rename_i hn ver pv p t
    split at h
    · rename_i hce
      simp only [Bool.and_eq_true] at hce
      have hp : p = [] := by simpa using hce.2
      subst hp
      simp only [Acc.run] at h
      split at h
      · rename_i u tv sh l hs
        split at h
        · rename_i hcond
          simp only [Bool.and_eq_true, decide_eq_true_eq, beq_iff_eq] at hcond
          obtain ⟨⟨hver, hgd⟩, ht, hty⟩ := hcond
          subst ht
          simp only [Acc.run] at h
          split at h
          case isFalse => cases h
          rename_i hcut
          have hon := hcg hce.1
          have href := (H rfl).ref (m := ⟨.val, .sl u tv, .own sh, l⟩) (by rw [hs]; rfl) hver (.inl rfl) hon
          have hr : RpV P w g (.inl hn) (.sl u tv) [] (.own sh) l (Act.eval ⟨tm, ds⟩ x) := by
            have := href.2.2.1
            rw [getP_nil] at this
            exact this
          have hr1 := hr.1
          rw [cells_one hr.2] at hr1
          obtain ⟨d, hd, hu⟩ := tyOk_under (TOk.ty hT hty)
          obtain ⟨rfl, hte⟩ := hu
          have hsz := run_sizeOf (tyOk_info hte) w
          -- the row's header
          have hdr : ∃ ad cap, Act.eval ⟨tm, ds⟩ x = .slice ad l.length cap ∧ l.length ≤ cap ∧ (0 < l.length → ad = some ⟨g.B (.inl hn) [], 0, none⟩) := by
            by_cases h0 : 0 < l.length
            · obtain ⟨cap, cur, hx, hg, hnc, _⟩ := Rp.row hr1 h0
              simp only [List.cons.injEq, and_true] at hx
              exact ⟨_, cap, hx, hnc, fun _ => rfl⟩
            · have h1 := hr1
              simp only [Rp] at h1
              rcases h1 with ⟨h1, _⟩ | ⟨h1, _⟩ | ⟨h1, _⟩ | ⟨s', hs', a', xs, hcell, how, _⟩
              · cases h1
              · cases h1
              · cases h1
              · simp only [List.cons.injEq, and_true] at hcell
                rw [hcell]
                rcases how.2 with ⟨hv, hz⟩ | ⟨b', cap, cur, hv, _, _, hnc, _⟩
                · exact ⟨none, 0, by rw [hv, hz], by omega, fun h => absurd h h0⟩
                · exact ⟨_, cap, hv, hnc, fun h => absurd h h0⟩
          obtain ⟨ad, cap, hx, hcap, had⟩ := hdr
          have fin : ∀ (lo' hi' : Nat), lo' ≤ hi' → hi' ≤ l.length → (a.getD 0).toNat = lo' → (b.getD (l.length : Int)).toNat = hi' →
              (Instr.sliceBounds true l.length cap (lo.map (Act.eval ⟨tm, ds⟩)) (hi.map (Act.eval ⟨tm, ds⟩)) none).run P w = .ok (lo', hi', cap) w →
              ∃ y, (execOp (Act.eval ⟨tm, ds⟩) o).run P w = .ok (.value y) w ∧ SR P w g A σ 0 0 (.cut hn (σ.get hn).ver (σ.get hn).pv (a.getD 0).toNat (b.getD (l.length : Int)).toNat u tv) y := by
            intro lo' hi' h1 h2 h3 h4 h5
            refine ⟨.slice (if cap = lo' then ad else ad.map (·.add (lo' * tv.size))) (hi' - lo') (cap - lo'), ?_, fun _ _ => ⟨sh, l, hs, by omega, by omega, _, _, by rw [h3, h4], ?_⟩⟩
            · simp [execOp, ho, Instr.sliceAt, Instr.slice, run_underlying hd, hx, h5, hsz]
            · by_cases e1 : lo' = hi'
              · left; omega
              · right
                rw [if_neg (by omega), had (by omega), h3]
                simp [add_lit]
          refine does_light R (Ext.refl _ _) rfl hD hc h rfl (.inr ⟨rfl, Nat.le_refl _⟩) (fun _ => ?_)
          cases lo with
          | none =>
            cases a with
            | some a => exact absurd ha id
            | none =>
              cases hi with
              | none =>
                cases b with
                | some b => exact absurd hb id
                | none =>
                  refine fin 0 l.length (Nat.zero_le _) (Nat.le_refl _) (by simp) (by simp) ?_
                  simp [Instr.sliceBounds]
              | some hi =>
                cases b with
                | none => exact absurd hb id
                | some b =>
                  obtain ⟨kb, hb⟩ := hb hon
                  simp only [cutOk, Bool.and_eq_true, decide_eq_true_eq] at hcut
                  have hb2 : b.toNat ≤ l.length := by omega
                  refine fin 0 b.toNat (Nat.zero_le _) hb2 (by simp) (by simp) ?_
                  simp [Instr.sliceBounds, hb, sliceBound_ok hcut.1 (show b.toNat ≤ cap by omega)]
          | some lo =>
            cases a with
            | none => exact absurd ha id
            | some a =>
              obtain ⟨ka, ha⟩ := ha hon
              cases hi with
              | none =>
                cases b with
                | some b => exact absurd hb id
                | none =>
                  simp only [cutOk, Bool.and_eq_true, decide_eq_true_eq] at hcut
                  have ha2 : a.toNat ≤ l.length := by omega
                  refine fin a.toNat l.length ha2 (Nat.le_refl _) (by simp) (by simp) ?_
                  simp [Instr.sliceBounds, ha, sliceBound_ok hcut.1 ha2]
              | some hi =>
                cases b with
                | none => exact absurd hb id
                | some b =>
                  obtain ⟨kb, hb⟩ := hb hon
                  simp only [cutOk, Bool.and_eq_true, decide_eq_true_eq] at hcut
                  have hb2 : b.toNat ≤ l.length := by omega
                  have hab : a.toNat ≤ b.toNat := by omega
                  refine fin a.toNat b.toNat hab hb2 (by simp) (by simp) ?_
                  simp [Instr.sliceBounds, ha, hb, sliceBound_ok (show 0 ≤ b by omega) (show b.toNat ≤ cap by omega), sliceBound_ok hcut.1 hab]
        · cases h
      · cases h
    · cases h
  · cases h

/-- A part from the first element on: a new row with its cells. -/
theorem oAppS0_ok {e : TypeId} {t : Ty} {sy : S} {x y : Operand} (hT : TOk P C.T = true) (hty : C.ty o.type = some (.sl e t)) (R : Rel P A w g tm σ) (hD : DstOk A σ c o.dst tm) (hc : Gd σ c) (hon : σ.on c = true)
    (hx : Act.eval ⟨tm, ds⟩ x = .slice none 0 0) (H : Held P A w g σ c sy (Act.eval ⟨tm, ds⟩ y)) (ho : o.op = .call { callee := .builtin .append, args := #[x, y], argTypes := #[o.type, o.type] })
    (h : (oAppS0 C c o e t sy).run σ K = some r) : OpDoes P A o w g tm ds true K r Q := by
  obtain ⟨d, hdd, hu⟩ := tyOk_under (TOk.ty hT hty)
  obtain ⟨rfl, hte⟩ := hu
  obtain ⟨iz, z, hi0, hsz, hs0, hib, hz, hzc, hza⟩ := (tyOk_info hte).ex
  unfold oAppS0 at h
  split at h
  · rename_i hn ver pv lo hi e' t'
    simp only [Acc.run] at h
    split at h
    · rename_i u tv sh l hs
      split at h
      · rename_i hcond
        simp only [Bool.and_eq_true, decide_eq_true_eq, beq_iff_eq] at hcond
        obtain ⟨⟨hver, hpv, hgd⟩, ⟨hlo, hng⟩, e1, e2, e3, e4⟩ := hcond
        simp only [Acc.run] at h
        split at h
        case isFalse => cases h
        rename_i hlim
        simp only [decide_eq_true_eq] at hlim
        subst e1; subst e2; subst e3; subst hlo
        have e4 : u = e' := e4
        subst e4
        have hhome := home_val R hs hgd
        obtain ⟨sh', v', hs', _, hhl, ad, cap, hy, had⟩ := H.mean hon hver hpv
        rw [hs] at hs'
        cases hs'
        simp only [Nat.sub_zero] at hy
        have hst : 0 < hi → g.st (g.B (.inl hn) []) = some (.inl hn, []) := fun h0 => (row_part hs0 hng hhome h0 (by omega) (lo := 0)).1
        obtain ⟨v', w', g', hrun, hag, hown, hblk, hok, hext, hk, hgo⟩ := append_row (ty := o.type) (vd := .slice none 0 0) (ad := ad) (n := 0) (m := hi) (scap := cap) (xs := []) (ys := seg (rowL w (g.B (.inl hn) [])) 0 (hi * t'.size)) R.ok hdd hte rfl (World.ownsRow_nil _ _ _ _) (fun b hb => by simp [Value.ownBlock] at hb)
          (by
            by_cases h0 : hi = 0
            · left; subst h0; exact ⟨rfl, by simp [seg]⟩
            · right
              rcases had with had | had
              · omega
              · refine ⟨g.B (.inl hn) [], 0, by rw [had]; simp, rfl, ?_⟩
                have := (row_part hs0 hng hhome (show 0 < hi by omega) (by omega) (lo := 0)).2.1
                simpa using this)
          (by
            intro u hu
            by_cases h0 : hi = 0
            · subst h0; simp [seg] at hu
            · have := (row_part hs0 hng hhome (show 0 < hi by omega) (by omega) (lo := 0)).2.2.1 u (by simpa using hu)
              exact this)
          (by omega)
        refine does_grownX 0 hon hD hc h (by
          have := H.ver
          exact this) ⟨w', g', v', R.world hk hok, hext, exec_append _ ho (by rw [hx, hy]; exact hrun), fun g'' d k k' => shal_fin (xs := seg (rowL w (g.B (.inl hn) [])) 0 (hi * t'.size)) H.ver ⟨hag, by simpa using hown, hblk, fun i y hi => by simp at hi⟩ (fun _ _ => ?_) k k'⟩
        refine ⟨sh, l, hs, hhl, fun i hi' => ?_⟩
        have hst := hst (by omega)
        have := hk.own _ ⟨hn, rfl⟩ _ _ hst
        rw [hk.base _ ⟨hn, rfl⟩]
        refine ⟨this.1, ?_⟩
        rw [rowL_congr this.2, seg_seg _ _ _ _ _ (by have := mul_le t'.size hi'; omega), Nat.zero_add]
      · cases h
    · cases h
  · cases h

theorem src_one {q : Root} {k : Nat} {t : Ty} {s : Sh} {news : List (D t)} {b o' : Nat} (hs0 : 0 < t.size) (hS : s.noGone = true) (hl : (seg (rowL w b) o' (news.length * t.size)).length = news.length * t.size)
    (he : ∀ j y, news[j]? = some y → Rp P w g q t [k + j] s y (seg (rowL w b) (o' + j * t.size) t.size)) : ∀ u ∈ seg (rowL w b) o' (news.length * t.size), u.oneCell' = true := by
  intro u hu
  obtain ⟨j, hj, hju⟩ := List.mem_iff_getElem.1 hu
  rw [hl] at hj
  have hd : j / t.size < news.length := by rw [Nat.div_lt_iff_lt_mul hs0]; exact hj
  have hm := Nat.mod_lt j hs0
  refine Rp.one t hS (he (j / t.size) _ (getD_some (d := dflt t) hd)) u ?_
  refine List.mem_of_getElem? (i := j % t.size) ?_
  rw [seg_get, if_pos hm]
  have e1 : o' + j / t.size * t.size + j % t.size = o' + j := by
    have := Nat.div_add_mod j t.size
    rw [Nat.mul_comm] at this; omega
  have : (seg (rowL w b) o' (news.length * t.size))[j]? = some u := by rw [← hju]; exact List.getElem?_eq_getElem (by rw [hl]; exact hj)
  rw [seg_get, if_pos hj] at this
  rw [e1]; exact this

theorem SameR.more {h hi : Nat} {s : S} {e : TypeId} {t : Ty} {xs : List Value} (ys : List Value) (hl : hi * t.size ≤ xs.length) (hh : SameR w g h hi s e t xs) : SameR w g h hi s e t (xs ++ ys) := by
  obtain ⟨sh, v, h1, h2, h3⟩ := hh
  refine ⟨sh, v, h1, h2, fun i hi' => ⟨(h3 i hi').1, ?_⟩⟩
  rw [seg_left _ _ _ _ (by have := mul_le t.size hi'; omega)]
  exact (h3 i hi').2

theorem leave_keeps (i fk : Nat) : Keeps (fun r => ∃ n, r = .inl n ∧ n ≠ i) w g w (turnG g (.inl i) [] .gone [] (.inr fk) []) := (turnG_keeps w).mono (by
  rintro r ⟨n, rfl, hn⟩
  exact ⟨by simpa using hn, by simp⟩)

/-- Elements of their own are appended. -/
theorem oAppS1_ok {e : TypeId} {t : Ty} {i j : Nat} {sy : S} {y : Operand} (hT : TOk P C.T = true) (hS : SoundC P C) (hty : C.ty o.type = some (.sl e t)) (R : Rel P A w g tm σ) (hD : DstOk A σ c o.dst tm) (hc : Gd σ c) (hon : σ.on c = true)
    (H : Held P A w g σ c sy (Act.eval ⟨tm, ds⟩ y)) (ho : o.op = .call { callee := .builtin .append, args := #[.tmp i, y], argTypes := #[o.type, o.type] })
    (h : (oAppS1 C c o e t i j sy).run σ K = some r) : OpDoes P A o w g tm ds true K r Q := by
  obtain ⟨d, hdd, hu⟩ := tyOk_under (TOk.ty hT hty)
  obtain ⟨rfl, hte⟩ := hu
  obtain ⟨iz, z, hi0, hsz, hs0, hib, hz, hzc, hza⟩ := (tyOk_info hte).ex
  unfold oAppS1 at h
  obtain ⟨shy, news, g1, σ1, h, R1, M, hng, hr⟩ := takeAs_ok 1 hS R hc H h
  have hr := hr hon
  have hx : Act.eval ⟨tm, ds⟩ (.tmp i) = tm.getD i undef := rfl
  simp only [Acc.run] at h
  split at h
  · rename_i hn ver pv hi e' t' s l hs1
    split at h
    · rename_i hcond
      simp only [Bool.and_eq_true, decide_eq_true_eq] at hcond
      obtain ⟨hgd, hsy, hsng, he'⟩ := hcond
      subst hsy
      have he' : e' = e := he'
      subst he'
      obtain ⟨et, h⟩ := castK_ok h
      have et' : t' = t := by injection et
      subst et'
      simp only [Acc.run] at h
      split at h
      · rename_i hlim
        simp only [decide_eq_true_eq] at hlim
        split at h
        · rename_i hh
          have hsl := R1.slot i (by rw [isEmpty_nil hgd]; rfl)
          have hver := R1.ver i
          rw [hs1] at hsl hver
          obtain ⟨xs, hsh, hsame⟩ := hsl
          obtain ⟨R2, M2, G2⟩ := R1.leave hh 0
          have hlk := leave_keeps (w := w) (g := g1) i 0
          generalize hg2 : turnG g1 (.inl i) [] .gone [] (.inr 0) [] = g2 at R2 M2 G2 hlk
          have hsh2 := hsh.go G2
          have hsrc := SrcR.go (SrcR.of_own hs0 hr.1 hr.2) (fun j hj => M2.fly.goes ⟨1, rfl, by simp⟩ _)
          have R3 : Rel P A w (shiftG g2 (hi + List.length l)) tm (σ1.turn i 1 0 .undef) := R2.world (shiftG_keeps.mono (by rintro r ⟨n, rfl⟩; simp)) (shiftG_ok R2.ok)
          have hsrc3 : SrcR P w (shiftG g2 (hi + List.length l)) t' (.inr 0) (hi + List.length l) s news (Act.eval ⟨tm, ds⟩ y) := SrcR.go hsrc (fun j hj => by rw [Nat.zero_add]; exact shiftG_new j)
          have hsk : Keeps (fun r => r ≠ .inr 0 ∧ r ≠ .inr 1) w g2 w (shiftG g2 (hi + List.length l)) := shiftG_keeps
          have hst3 : ∀ b, (tm.getD i undef).ownBlock = some b → (shiftG g2 (hi + List.length l)).B (.inr 0) [] = b ∧ (shiftG g2 (hi + List.length l)).st b = some (.inr 0, []) := fun b hb => by
            have := hsh2.2.2.1 b hb
            exact ⟨by simp only [shiftG, if_true]; exact this.1, by simp only [shiftG, this.2]⟩
          have hel3 : ∀ i0 y0, l[i0]? = some y0 → Rp P w (shiftG g2 (hi + List.length l)) (.inr 0) t' [hi + i0] s y0 (seg xs ((hi + i0) * t'.size) t'.size) := fun i0 y0 hi0 =>
            Rp.go t' (shiftG_old (by have := (List.getElem?_eq_some_iff.1 hi0).1; omega)) (hsh2.2.2.2 i0 y0 hi0)
          have ok3 := R3.ok
          have hext3 : Ext w g1 w (shiftG g2 (hi + List.length l)) := M2.ext.trans shiftG_ext
          generalize shiftG g2 (hi + List.length l) = g3 at R3 hsrc3 hsk hst3 hel3 ok3 hext3
          obtain ⟨ad, cap, hy, hnn⟩ := hsrc3
          have ex : ∃ ys : List Value, ((news.length = 0 ∧ ys = []) ∨ ∃ b k, ad = some ⟨b, k, none⟩ ∧ ys = seg (rowL w b) k (news.length * t'.size) ∧ ys.length = news.length * t'.size) ∧ (∀ u ∈ ys, u.oneCell' = true) ∧
              ∀ j y, news[j]? = some y → Rp P w g3 (.inr 0) t' [hi + List.length l + j] s y (seg ys (j * t'.size) t'.size) := by
            rcases hnn with hnn | ⟨b, k, ha, hl, he⟩
            · subst hnn
              exact ⟨[], .inl ⟨rfl, rfl⟩, by simp, by simp⟩
            · refine ⟨_, .inr ⟨b, k, ha, rfl, hl⟩, src_one hs0 hsng hl he, fun j y hj => ?_⟩
              rw [seg_seg _ _ _ _ _ (by have := mul_le t'.size (List.getElem?_eq_some_iff.1 hj).1; exact this)]
              exact he j y hj
          obtain ⟨ys, hys, hone, hel⟩ := ex
          obtain ⟨v', w', g', hrun, hag, hown, hblk, hok, hext, hk, hgo⟩ := append_row (ty := o.type) (vd := tm.getD i undef) (ad := ad) (n := hi + List.length l) (m := news.length) (scap := cap) (xs := xs) (ys := ys) ok3 hdd hte hsh2.1 hsh2.2.1 hst3 hys hone hlim
          have hxl : xs.length = (hi + List.length l) * t'.size := hsh2.2.1.1
          refine does_grownX 0 (by rw [M2.mild.on (M.mild.gdOk hc), M.mild.on hc]; exact hon) ((hD.mild M.mild).mild M2.mild) (M2.mild.gdOk (M.mild.gdOk hc)) h (hver.keep M2.mild.ver)
            ⟨w', g', v', R3.world hk hok, (M.ext.trans hext3).trans hext, exec_append _ ho (by rw [hx, hy]; exact hrun), fun g'' d k k' => shal_fin (xs := xs ++ ys) (hver.keep M2.mild.ver) ⟨hag, ?_, hblk, fun i0 y0 hi0 => ?_⟩ (fun h3 h4 => ?_) k k'⟩
          · rw [List.length_append, ← Nat.add_assoc]; exact hown
          · by_cases hlt : i0 < List.length l
            · rw [List.getElem?_append_left hlt] at hi0
              rw [seg_left _ _ _ _ (by have := mul_le (n := hi + List.length l) t'.size (show hi + i0 < hi + List.length l by omega); omega)]
              exact Rp.go t' (hgo _) (hel3 i0 y0 hi0)
            · rw [List.getElem?_append_right (by omega)] at hi0
              have h2 : (hi + i0) * t'.size = (hi + List.length l) * t'.size + (i0 - List.length l) * t'.size := by rw [← Nat.add_mul]; congr 1; omega
              rw [seg_right _ _ _ _ (by omega), hxl, h2, Nat.add_sub_cancel_left]
              have := hel (i0 - List.length l) y0 hi0
              rw [show hi + List.length l + (i0 - List.length l) = hi + i0 by omega] at this
              exact Rp.go t' (hgo _) this
          · by_cases e1 : hn = i
            · exfalso
              subst e1
              rw [Env.turn_get, if_pos rfl] at h3
              have h3 : (σ1.get hn).ver + 1 = ver := h3
              simp only [VerOk, Young] at hver
              omega
            · rw [Env.turn_get, if_neg e1] at h3 h4 ⊢
              have s1 := (hsame h3 h4).keep hlk ⟨_, rfl, e1⟩
              have s2 := s1.keep hsk (by simp)
              have s3 := s2.keep hk ⟨_, rfl⟩
              exact s3.more ys (by rw [hxl]; exact Nat.mul_le_mul_right _ (Nat.le_add_right _ _))
        · cases h
      · cases h
    · cases h
  · cases h

/-- Elements of an owned row come before and behind k elements of another row. -/
def mergeG (g : Gh) (lo k : Nat) : Gh where
  st b := match g.st b with
    | some (.inr 1, j :: q) => if j < lo then some (.inr 0, j :: q) else some (.inr 0, (j + k) :: q)
    | some (.inr 1, []) => none
    | some (.inr 0, j :: q) => if lo ≤ j ∧ j < lo + k then some (.inr 0, j :: q) else none
    | x => x
  B r := if r = .inr 0 then fun q => match q with
      | j :: q => if j < lo then g.B (.inr 1) (j :: q) else if j < lo + k then g.B (.inr 0) (j :: q) else g.B (.inr 1) ((j - k) :: q)
      | [] => g.B (.inr 0) []
    else g.B r
  fz := g.fz
theorem mergeG_keeps {lo k : Nat} : Keeps (fun r => r ≠ .inr 0 ∧ r ≠ .inr 1) w g w (mergeG g lo k) where
  old b h := ⟨h, rfl⟩
  own r hr b π h := by
    refine ⟨?_, rfl⟩
    simp only [mergeG, h]
    split <;> simp_all
  base r hr := by simp only [mergeG, if_neg hr.1]
theorem mergeG_lo {lo k j : Nat} (hj : j < lo) : Goes w g (.inr 1) [j] w (mergeG g lo k) (.inr 0) [j] where
  old b h := ⟨h, rfl⟩
  own b q h := by
    refine ⟨?_, rfl⟩
    simp only [mergeG, h, List.cons_append, if_pos hj]
  base q := by simp only [mergeG, if_true, List.cons_append, if_pos hj]
theorem mergeG_hi {lo k j : Nat} (hj : lo ≤ j) : Goes w g (.inr 1) [j] w (mergeG g lo k) (.inr 0) [j + k] where
  old b h := ⟨h, rfl⟩
  own b q h := by
    refine ⟨?_, rfl⟩
    simp only [mergeG, h, List.cons_append]
    rw [if_neg (by omega)]
  base q := by
    simp only [mergeG, if_true, List.cons_append]
    rw [if_neg (by omega), if_neg (by omega), Nat.add_sub_cancel]
theorem mergeG_mid {lo k j : Nat} (h1 : lo ≤ j) (h2 : j < lo + k) : Goes w g (.inr 0) [j] w (mergeG g lo k) (.inr 0) [j] where
  old b h := ⟨h, rfl⟩
  own b q h := by
    refine ⟨?_, rfl⟩
    simp only [mergeG, h, List.cons_append]
    rw [if_pos ⟨h1, h2⟩]
  base q := by
    simp only [mergeG, if_true, List.cons_append]
    rw [if_neg (by omega), if_pos h2]
theorem mergeG_ok {lo k : Nat} (ok : GhOk w g) : GhOk w (mergeG g lo k) where
  own b r π h := by
    simp only [mergeG] at h
    cases hs : g.st b with
    | none => rw [hs] at h; cases h
    | some x =>
      obtain ⟨r1, ρ⟩ := x
      exact ok.own b r1 ρ hs
  fz b h := ok.fz b h
theorem mergeG_ext {lo k : Nat} : Ext w g w (mergeG g lo k) where
  os := rfl
  tape := rfl
  output := rfl
  size := Nat.le_refl _
  block b _ hs := ⟨rfl, by simp [mergeG, hs]⟩
  fz b h := h
  fzn b h := .inl h

/-- The rest of the owned row is appended: all elements are handed over. -/
theorem oAppS2_ok {e : TypeId} {t : Ty} {i : Nat} {sy : S} {y : Operand} (hT : TOk P C.T = true) (hty : C.ty o.type = some (.sl e t)) (R : Rel P A w g tm σ) (hD : DstOk A σ c o.dst tm) (hc : Gd σ c) (hon : σ.on c = true)
    (H : Held P A w g σ c sy (Act.eval ⟨tm, ds⟩ y)) (ho : o.op = .call { callee := .builtin .append, args := #[.tmp i, y], argTypes := #[o.type, o.type] })
    (h : (oAppS2 C c o e t i sy).run σ K = some r) : OpDoes P A o w g tm ds true K r Q := by
  obtain ⟨d, hdd, hu⟩ := tyOk_under (TOk.ty hT hty)
  obtain ⟨rfl, hte⟩ := hu
  obtain ⟨iz, z, hi0, hsz, hs0, hib, hz, hzc, hza⟩ := (tyOk_info hte).ex
  have hx : Act.eval ⟨tm, ds⟩ (.tmp i) = tm.getD i undef := rfl
  unfold oAppS2 at h
  split at h
  · rename_i hn ver pv lo hi e' t'
    simp only [Acc.run] at h
    split at h
    · rename_i h2 ver2 pv2 hi2 e2 t2 s l hsi
      simp only [Acc.run] at h
      split at h
      · rename_i u tv sh v hsh
        split at h
        · rename_i hcond
          simp only [Bool.and_eq_true, decide_eq_true_eq, beq_iff_eq, bne_iff_ne] at hcond
          obtain ⟨⟨⟨hver, hpv, hgd⟩, ⟨e1, e3⟩, e4, hgdi⟩, ⟨e7, e8, e9, e10, e11⟩, hsng, hine⟩ := hcond
          subst e1; subst e3; subst e4; subst e7
          have e8 : e' = e := e8
          have e9 : e2 = e := e9
          have e10 : u = e := e10
          subst e8; subst e9; subst e10; subst e11
          obtain ⟨et, hq⟩ := castK_ok h
          clear h; have h := hq; clear hq
          have et' : t2 = t' := by injection et
          subst et'
          obtain ⟨et, hq⟩ := castK_ok h
          clear h; have h := hq; clear hq
          have et' : tv = t2 := by injection et
          subst et'
          simp only [Acc.run] at h
          split at h
          · rename_i hlim
            simp only [Bool.and_eq_true, beq_iff_eq, decide_eq_true_eq] at hlim
            obtain ⟨⟨e5, e6⟩, hlim⟩ := hlim
            subst e5
            split at h
            · rename_i hhh
              split at h
              · rename_i hhi
                have hhome := home_val R hsh hgd
                have hsl := R.slot i (by rw [isEmpty_nil hgdi]; rfl)
                rw [hsi] at hsl
                obtain ⟨xs, hrow, hsame⟩ := hsl
                obtain ⟨shs, vs, hss, hlv, hsame⟩ := hsame hver hpv
                rw [hsh] at hss
                cases hss
                obtain ⟨sh', v', hs', hlh, hhl, ad, cap, hy, had⟩ := H.mean hon hver hpv
                rw [hsh] at hs'
                cases hs'
                have e6 : hi = v.length := e6
                subst e6
                -- the elements of the row that was there
                have part : ∀ j x, v[j]? = some x → Rp P w g (.inl h2) tv [j] sh x (seg (rowL w (g.B (.inl h2) [])) (j * tv.size) tv.size) := fun j x hj =>
                  (row_part hs0 hsng hhome (lo := 0) (m := v.length) (by have := (List.getElem?_eq_some_iff.1 hj).1; omega) (by omega)).2.2.2 j x hj
                obtain ⟨R1, M1, G1⟩ := R.leave hhh 1
                have hlk := leave_keeps (w := w) (g := g) h2 1
                generalize hg1 : turnG g (.inl h2) [] .gone [] (.inr 1) [] = g1 at R1 M1 G1 hlk
                have hrow1 := hrow.keep hlk ⟨i, rfl, hine⟩
                have hhi' : ((σ.turn h2 1 0 .undef).get i).s.isHome = true := hhi
                obtain ⟨R2, M2, G2⟩ := R1.leave hhi' 0
                have hfly := M2.fly
                generalize hg2 : turnG g1 (.inl i) [] .gone [] (.inr 0) [] = g2 at R2 M2 G2 hfly
                have hrow2 := hrow1.go G2
                have G12 : ∀ j, Goes w g (.inl h2) [j] w g2 (.inr 1) [j] := fun j => by
                  have a1 := G1.sub [j]
                  have a2 : Goes w g1 (.inr 1) [j] w g2 (.inr 1) [j] := hfly.goes ⟨1, rfl, by simp⟩ _
                  simp only [List.nil_append] at a1
                  exact ⟨a1.old.trans a2.old, fun b q hb => ⟨(a2.own b q (a1.own b q hb).1).1, rfl⟩, fun q => (a1.base q).trans (a2.base q)⟩
                have R3 : Rel P A w (mergeG g2 lo (List.length l)) tm ((σ.turn h2 1 0 .undef).turn i 1 0 .undef) := R2.world (mergeG_keeps.mono (by rintro r ⟨n, rfl⟩; simp)) (mergeG_ok R2.ok)
                have mlo : ∀ j, j < lo → Goes w g2 (.inr 1) [j] w (mergeG g2 lo (List.length l)) (.inr 0) [j] := fun j hj => mergeG_lo hj
                have mhi : ∀ j, lo ≤ j → Goes w g2 (.inr 1) [j] w (mergeG g2 lo (List.length l)) (.inr 0) [j + List.length l] := fun j hj => mergeG_hi hj
                have mmid : ∀ j, lo ≤ j → j < lo + List.length l → Goes w g2 (.inr 0) [j] w (mergeG g2 lo (List.length l)) (.inr 0) [j] := fun j h1 h2 => mergeG_mid h1 h2
                have hst3 : ∀ b, (tm.getD i undef).ownBlock = some b → (mergeG g2 lo (List.length l)).B (.inr 0) [] = b ∧ (mergeG g2 lo (List.length l)).st b = some (.inr 0, []) := fun b hb => by
                  have := hrow2.2.2.1 b hb
                  exact ⟨by simp only [mergeG, if_true]; exact this.1, by simp only [mergeG, this.2]⟩
                have ok3 := R3.ok
                have hext3 : Ext w g w (mergeG g2 lo (List.length l)) := (M1.ext.trans M2.ext).trans mergeG_ext
                generalize mergeG g2 lo (List.length l) = g3 at R3 mlo mhi mmid hst3 ok3 hext3
                have hxl : xs.length = (lo + List.length l) * tv.size := hrow2.2.1.1
                have hys : ((v.length - lo = 0 ∧ seg (rowL w (g.B (.inl h2) [])) (lo * tv.size) ((v.length - lo) * tv.size) = []) ∨ ∃ b k, ad = some ⟨b, k, none⟩ ∧ seg (rowL w (g.B (.inl h2) [])) (lo * tv.size) ((v.length - lo) * tv.size) = seg (rowL w b) k ((v.length - lo) * tv.size) ∧
                    (seg (rowL w (g.B (.inl h2) [])) (lo * tv.size) ((v.length - lo) * tv.size)).length = (v.length - lo) * tv.size) ∧ ∀ u ∈ seg (rowL w (g.B (.inl h2) [])) (lo * tv.size) ((v.length - lo) * tv.size), u.oneCell' = true := by
                  by_cases h0 : v.length - lo = 0
                  · rw [h0, Nat.zero_mul]
                    exact ⟨.inl ⟨rfl, by simp [seg]⟩, by simp [seg]⟩
                  · have hp := row_part hs0 hsng hhome (lo := lo) (m := v.length - lo) (by omega) (by omega)
                    refine ⟨.inr ?_, hp.2.2.1⟩
                    rcases had with had | had
                    · omega
                    · exact ⟨_, _, had, rfl, hp.2.1⟩
                generalize hyd : seg (rowL w (g.B (.inl h2) [])) (lo * tv.size) ((v.length - lo) * tv.size) = ys at hys
                obtain ⟨v', w', g', hrun, hag, hown, hblk, hok, hext, hk, hgo⟩ := append_row (ty := o.type) (vd := tm.getD i undef) (ad := ad) (n := lo + List.length l) (m := v.length - lo) (scap := cap) (xs := xs) (ys := ys) ok3 hdd hte hrow2.1 hrow2.2.1 hst3 hys.1 hys.2 (by
                  have : lo ≤ v.length := hlv
                  omega)
                refine does_grown 0 (by rw [M2.mild.on (M1.mild.gdOk hc), M1.mild.on hc]; exact hon) ((hD.mild M1.mild).mild M2.mild) (M2.mild.gdOk (M1.mild.gdOk hc)) h (fun _ => trivial) (fun hf => by cases hf)
                  (fun _ => ⟨w', g', v', R3.world hk hok, hext3.trans hext, exec_append _ ho (by rw [hx, hy]; exact hrun), fun g'' σ' d kk => RpV.go kk ⟨?_, hag⟩⟩)
                rw [cells_one hag, Rp]
                refine .inr (.inr (.inr ⟨sh, rfl, v', xs ++ ys, rfl, ?_, hblk, fun j x hj => ?_⟩))
                · have : (List.take lo v ++ l ++ List.drop lo v).length = lo + List.length l + (v.length - lo) := by
                    simp only [List.length_append, List.length_take, List.length_drop]
                    omega
                  show w'.ownsRow 0 _ _ _ (List.take lo v ++ l ++ List.drop lo v).length _
                  rw [this]; exact hown
                · have hj : (List.take lo v ++ l ++ List.drop lo v)[j]? = some x := hj
                  have htl : (List.take lo v).length = lo := by rw [List.length_take]; omega
                  have hal : (List.take lo v ++ l).length = lo + List.length l := by rw [List.length_append, htl]
                  simp only [List.nil_append]
                  by_cases hj1 : j < lo + List.length l
                  · rw [List.getElem?_append_left (by omega)] at hj
                    rw [seg_left _ _ _ _ (by have := mul_le tv.size hj1; omega)]
                    by_cases hj2 : j < lo
                    · rw [List.getElem?_append_left (by omega), List.getElem?_take, if_pos hj2] at hj
                      rw [(hsame j hj2).2]
                      exact Rp.go tv (hgo j) (Rp.go tv (mlo j hj2) (Rp.go tv (G12 j) (part j x hj)))
                    · rw [List.getElem?_append_right (by omega), htl] at hj
                      have := hrow2.2.2.2 (j - lo) x hj
                      rw [show lo + (j - lo) = j by omega] at this
                      exact Rp.go tv (hgo j) (Rp.go tv (mmid j (by omega) hj1) this)
                  · rw [List.getElem?_append_right (by omega), hal, List.getElem?_drop] at hj
                    have hjl := (List.getElem?_eq_some_iff.1 hj).1
                    have h2 : j * tv.size = (lo + List.length l) * tv.size + (j - (lo + List.length l)) * tv.size := by rw [← Nat.add_mul]; congr 1; omega
                    rw [seg_right _ _ _ _ (by omega), hxl, h2, Nat.add_sub_cancel_left, ← hyd, seg_seg _ _ _ _ _ (by have := mul_le tv.size (show j - (lo + List.length l) < v.length - lo by omega); omega), ← Nat.add_mul]
                    have := Rp.go tv (mhi _ (by omega)) (Rp.go tv (G12 _) (part _ x hj))
                    rw [show lo + (j - (lo + List.length l)) + List.length l = j by omega] at this
                    exact Rp.go tv (hgo j) this
              · cases h
            · cases h
          · cases h
        · cases h
      · cases h
    · cases h
  · cases h

theorem oAppS_ok {x y : Operand} (hS : SoundC P C) (hT : TOk P C.T = true) (R : Rel P A w g tm σ) (hD : DstOk A σ c o.dst tm) (hc : Gd σ c) (hcg : c.isEmpty = true → σ.on c = true)
    (ho : o.op = .call { callee := .builtin .append, args := #[x, y], argTypes := #[o.type, o.type] }) (h : (oAppS C c o x y).run σ K = some r) : OpDoes P A o w g tm ds (σ.on c) K r Q := by
  unfold oAppS at h
  split at h
  · rename_i e t hty
    split at h
    · rename_i hce
      have hon := hcg hce
      obtain ⟨j, sy, h', Hy, _⟩ := rd_ok R ds h
      clear h; have h := h'; clear h'
      obtain ⟨i, sx, h', Hx, hslot, hform⟩ := rd_ok R ds h
      clear h; have h := h'; clear h'
      rw [hon]
      split at h
      · have hnt : sy.isTup = false := by
          cases sy <;> first | rfl | (simp [oAppS0, Acc.run] at h)
        exact oAppS0_ok hT hty R hD hc hon ((Hx rfl).mean hon) (Hy hnt) ho h
      · obtain ⟨rfl, _⟩ := hslot _ rfl
        exact oAppS2_ok hT hty R hD hc hon (Hy rfl) ho h
      · obtain ⟨rfl, _⟩ := hslot _ rfl
        have hnt : sy.isTup = false := by
          cases sy <;> first | rfl | (simp [oAppS1, takeAs, take, Acc.run] at h)
        exact oAppS1_ok hT hS hty R hD hc hon (Hy hnt) ho h
      · cases h
    · cases h
  · cases h
end
end Go.Ev

/- What a store leaves of the ways and the values that were read. -/
namespace Go.Ev
open Go.RowKit
variable {P : Program}

theorem shAt_nil (sh : Sh) : shAt sh [] = sh := by cases sh <;> rfl
theorem DL.get_set_self : (f : Tys) → (v : DL f) → (i : Nat) → i < f.len → (y : D (f.get i)) → DL.get f (DL.set f v i y) i = y
  | .nil, v, i, h, y => by simp [Tys.len] at h
  | .cons t ts, v, 0, h, y => rfl
  | .cons t ts, v, i + 1, h, y => by
    simp only [DL.set, DL.get]
    exact DL.get_set_self ts v.2 i (by simpa [Tys.len] using h) y
theorem DL.get_set_ne : (f : Tys) → (v : DL f) → (i j : Nat) → i ≠ j → (y : D (f.get i)) → DL.get f (DL.set f v i y) j = DL.get f v j
  | .nil, v, i, j, h, y => rfl
  | .cons t ts, v, 0, 0, h, y => absurd rfl h
  | .cons t ts, v, 0, j + 1, h, y => rfl
  | .cons t ts, v, i + 1, 0, h, y => rfl
  | .cons t ts, v, i + 1, j + 1, h, y => by
    simp only [DL.set, DL.get]
    exact DL.get_set_ne ts v.2 i j (by omega) y
theorem getD_set_self {α : Type} {l : List α} {i : Nat} {y d : α} (h : i < l.length) : (l.set i y).getD i d = y := by
  rw [List.getD_eq_getElem?_getD, List.getElem?_set_self h]; rfl
theorem getD_set_ne' {α : Type} {l : List α} {i j : Nat} {y d : α} (h : i ≠ j) : (l.set i y).getD j d = l.getD j d := by
  rw [List.getD_eq_getElem?_getD, List.getElem?_set_ne h, List.getD_eq_getElem?_getD]

theorem Tys.plain_get : (f : Tys) → (i : Nat) → f.plain = true → (f.get i).plain = true
  | .nil, i, h => rfl
  | .cons t ts, 0, h => by simp only [Tys.plain, Bool.and_eq_true] at h; exact h.1
  | .cons t ts, i + 1, h => by simp only [Tys.plain, Bool.and_eq_true] at h; exact Tys.plain_get ts i h.2
theorem plain_tyAt : (q : Path) → {t t' : Ty} → t.plain = true → tyAt t q = some t' → t'.plain = true
  | [], t, t', h, e => by rw [tyAt_nil] at e; simp only [Option.some.injEq] at e; subst e; exact h
  | s :: q, t, t', h, e0 => by
    rcases tyAt_cases e0 with ⟨i, f, rfl, rfl, hi, e⟩ | ⟨i, e', t2, rfl, rfl, e⟩ | ⟨i, n, t2, rfl, rfl, e⟩
    · exact plain_tyAt q (Tys.plain_get f i h) e
    · simp [Ty.plain] at h
    · exact plain_tyAt q (t := t2) h e
theorem Valid.plain : (q : Path) → {t : Ty} → {sh : Sh} → {v v2 : D t} → t.plain = true → Valid t sh v q → Valid t sh v2 q
  | [], t, sh, v, v2, h, hv => by simp [Valid]
  | .fld i :: q, .agg f, sh, v, v2, h, hv => by
    simp only [Valid] at hv ⊢
    exact ⟨hv.1, Valid.plain q (Tys.plain_get f i h) hv.2⟩
  | .idx i :: q, .arr n t, sh, v, v2, h, hv => by
    simp only [Valid] at hv ⊢
    exact ⟨hv.1, hv.2.1, Valid.plain q h hv.2.2⟩
  | .idx i :: q, .sl e t, sh, v, v2, h, hv => by simp [Ty.plain] at h
  | .fld _ :: _, .int _, _, _, _, _, hv => by simp [Valid] at hv
  | .fld _ :: _, .bool, _, _, _, _, hv => by simp [Valid] at hv
  | .fld _ :: _, .fn _ _, _, _, _, _, hv => by simp [Valid] at hv
  | .fld _ :: _, .sl _ _, _, _, _, _, hv => by simp [Valid] at hv
  | .fld _ :: _, .arr _ _, _, _, _, _, hv => by simp [Valid] at hv
  | .idx _ :: _, .int _, _, _, _, _, hv => by simp [Valid] at hv
  | .idx _ :: _, .bool, _, _, _, _, hv => by simp [Valid] at hv
  | .idx _ :: _, .fn _ _, _, _, _, _, hv => by simp [Valid] at hv
  | .idx _ :: _, .agg _, _, _, _, _, hv => by simp [Valid] at hv

theorem Valid.setP {u : Ty} {x : D u} (hpl : u.plain = true) : (p : Path) → (t : Ty) → {sh : Sh} → {v : D t} → Valid t sh v p → (getP t v p).t = u → (q : Path) → Valid t sh v q → Valid t sh (setP t v p u x) q
  | [], t, sh, v, hp, hu, q, hq => by
    rw [getP_nil] at hu
    subst hu
    exact Valid.plain q hpl hq
  | s :: p, t, sh, v, hp, hu, [], hq => by simp [Valid]
  | .fld i :: p, .agg f, sh, v, hp, hu, .fld j :: q, hq => by
    simp only [Valid] at hp hq ⊢
    simp only [getP] at hu
    refine ⟨hq.1, ?_⟩
    simp only [Ev.setP]
    by_cases hij : i = j
    · subst hij
      rw [DL.get_set_self f v i hp.1]
      exact Valid.setP hpl p (f.get i) hp.2 hu q hq.2
    · rw [DL.get_set_ne f v i j hij]; exact hq.2
  | .idx i :: p, .sl e t, .own s, v, hp, hu, .idx j :: q, hq => by
    simp only [Valid] at hp hq ⊢
    simp only [getP] at hu
    simp only [Ev.setP, List.length_set]
    refine ⟨hq.1, ?_⟩
    by_cases hij : i.toNat = j.toNat
    · rw [← hij, getD_set_self hp.1.2]
      rw [← hij] at hq
      exact Valid.setP hpl p t hp.2 hu q hq.2
    · rw [getD_set_ne' hij]; exact hq.2
  | .idx i :: p, .arr n t, sh, v, hp, hu, .idx j :: q, hq => by
    simp only [Valid] at hp hq ⊢
    simp only [getP] at hu
    simp only [Ev.setP]
    refine ⟨hq.1, hq.2.1, ?_⟩
    by_cases hij : i.toNat = j.toNat
    · rw [← hij]
      rw [← hij] at hq
      by_cases hl : i.toNat < List.length v
      · rw [getD_set_self hl]
        exact Valid.setP hpl p t hp.2.2 hu q hq.2.2
      · rw [show List.set v i.toNat (Ev.setP t (List.getD v i.toNat (dflt t)) p u x) = v from List.set_eq_of_length_le (by omega)]
        exact hq.2.2
    · rw [getD_set_ne' hij]; exact hq.2.2
  | .fld _ :: _, .agg _, _, _, _, _, .idx _ :: _, hq => by simp [Valid] at hq
  | .idx _ :: _, .sl _ _, .fz, _, hp, _, _ :: _, _ => by simp [Valid] at hp
  | .idx _ :: _, .sl _ _, .gone, _, hp, _, _ :: _, _ => by simp [Valid] at hp
  | .idx _ :: _, .sl _ _, .emp, _, hp, _, _ :: _, _ => by simp [Valid] at hp
  | .idx _ :: _, .sl _ _, .nil, _, hp, _, _ :: _, _ => by simp [Valid] at hp
  | .idx _ :: _, .sl _ _, .cons _ _, _, hp, _, _ :: _, _ => by simp [Valid] at hp
  | .idx _ :: _, .sl _ _, .own _, _, _, _, .fld _ :: _, hq => by simp [Valid] at hq
  | .idx _ :: _, .arr _ _, _, _, _, _, .fld _ :: _, hq => by simp [Valid] at hq
  | .fld _ :: _, .int _, _, _, hp, _, _ :: _, _ => by simp [Valid] at hp
  | .fld _ :: _, .bool, _, _, hp, _, _ :: _, _ => by simp [Valid] at hp
  | .fld _ :: _, .fn _ _, _, _, hp, _, _ :: _, _ => by simp [Valid] at hp
  | .fld _ :: _, .sl _ _, _, _, hp, _, _ :: _, _ => by simp [Valid] at hp
  | .fld _ :: _, .arr _ _, _, _, hp, _, _ :: _, _ => by simp [Valid] at hp
  | .idx _ :: _, .int _, _, _, hp, _, _ :: _, _ => by simp [Valid] at hp
  | .idx _ :: _, .bool, _, _, hp, _, _ :: _, _ => by simp [Valid] at hp
  | .idx _ :: _, .fn _ _, _, _, hp, _, _ :: _, _ => by simp [Valid] at hp
  | .idx _ :: _, .agg _, _, _, hp, _, _ :: _, _ => by simp [Valid] at hp

theorem shFld_fz (i : Nat) : shFld .fz i = .fz := rfl
theorem shAt_fz (p : Path) : shAt .fz p = .fz := by cases p with
  | nil => rfl
  | cons s p => cases s <;> rfl
theorem shAt_gone (p : Path) : shAt .gone p = .gone := by cases p with
  | nil => rfl
  | cons s p => cases s <;> rfl
theorem setI_get : (f : Tys) → {w : World} → {g : Gh} → {r : Root} → {π : List Nat} → {k : Nat} → {sh : Sh} → {v : DL f} → {cs : List Value} → RpL P w g r f π k sh v cs → (i : Nat) → i < f.len → sh.setI i (sh.get i) = some sh
  | .nil, w, g, r, π, k, sh, v, cs, h, i, hi => by simp [Tys.len] at hi
  | .cons t ts, w, g, r, π, k, sh, v, cs, h, 0, hi => by
    simp only [RpL] at h
    obtain ⟨s, rest, rfl, _⟩ := h
    rfl
  | .cons t ts, w, g, r, π, k, sh, v, cs, h, i + 1, hi => by
    simp only [RpL] at h
    obtain ⟨s, rest, rfl, c1, c2, _, _, h2⟩ := h
    simp only [Sh.setI, Sh.get, setI_get ts h2 i (by simpa [Tys.len] using hi), Option.map_some]

theorem setSh_self {w : World} {g : Gh} {r : Root} : (p : Path) → (t : Ty) → {π : List Nat} → {sh : Sh} → {v : D t} → {cs : List Value} → Rp P w g r t π sh v cs → Valid t sh v p → (shAt sh p).isFz = true →
    setSh t sh p (shAt sh p) = some sh
  | [], t, π, sh, v, cs, h, hv, hf => by rw [shAt_nil, setSh_nil]
  | .fld i :: p, .agg f, π, sh, v, cs, h, hv, hf => by
    simp only [Valid] at hv
    have hfld := Rp.fld h hv.1
    rw [shAt_fld] at hf ⊢
    have ih := setSh_self p (f.get i) hfld hv.2 hf
    simp only [Rp] at h
    rcases h with ⟨rfl, _⟩ | ⟨rfl, _⟩ | h
    · rw [shFld_fz] at ih ⊢
      simp only [setSh, ih, Option.bind_some, if_true]
    · exfalso
      have : shFld .gone i = .gone := rfl
      rw [this, shAt_gone] at hf
      simp [Sh.isFz] at hf
    · cases f with
      | nil => simp [Tys.len] at hv
      | cons t ts =>
        have hgi := setI_get _ h i hv.1
        simp only [RpL] at h
        obtain ⟨s, rest, rfl, _⟩ := h
        simp only [shFld] at ih ⊢
        simp only [setSh, ih, Option.bind_some]
        exact hgi
  | .idx i :: p, .sl e t, π, sh, v, cs, h, hv, hf => by
    cases sh with
    | own s =>
      simp only [Valid] at hv
      obtain ⟨cap, c, _, _, _, _, _, _, he⟩ := Rp.row h hv.1.2
      simp only [shAt] at hf ⊢
      have ih := setSh_self p t (he i.toNat _ (getD_some hv.1.2)) hv.2 hf
      simp only [setSh, ih, Option.bind_some, if_true]
    | _ => simp [Valid] at hv
  | .idx i :: p, .arr n t, π, sh, v, cs, h, hv, hf => by
    simp only [Valid] at hv
    obtain ⟨rfl, hi, hv⟩ := hv
    have hfr := Rp.fr _ rfl h
    simp only [Fr] at hfr
    obtain ⟨hl, hcl, he⟩ := hfr
    have ih := setSh_self (r := r) (π := π) p t (Rp.of_fr t (he i.toNat _ (getD_some (by rw [hl]; exact hi.2)))) hv (by rw [shAt_fz]; rfl)
    rw [shAt_fz] at ih ⊢
    simp only [setSh, ih, Option.bind_some, if_true]
  | .fld _ :: _, .int _, _, _, _, _, _, hv, _ => by simp [Valid] at hv
  | .fld _ :: _, .bool, _, _, _, _, _, hv, _ => by simp [Valid] at hv
  | .fld _ :: _, .fn _ _, _, _, _, _, _, hv, _ => by simp [Valid] at hv
  | .fld _ :: _, .sl _ _, _, _, _, _, _, hv, _ => by simp [Valid] at hv
  | .fld _ :: _, .arr _ _, _, _, _, _, _, hv, _ => by simp [Valid] at hv
  | .idx _ :: _, .int _, _, _, _, _, _, hv, _ => by simp [Valid] at hv
  | .idx _ :: _, .bool, _, _, _, _, _, hv, _ => by simp [Valid] at hv
  | .idx _ :: _, .fn _ _, _, _, _, _, _, hv, _ => by simp [Valid] at hv
  | .idx _ :: _, .agg _, _, _, _, _, _, hv, _ => by simp [Valid] at hv

/-- A slice that was read before a store into a part without memory of its own. -/
theorem Rp.ref_set {w w' : World} {g g' : Gh} {r : Root} {u : Ty} {x : D u} {c : List Value} {b' o' : Nat} {e1 : TypeId} {t1 : Ty} (hpl : u.plain = true) : (p : Path) → (t : Ty) → {π : List Nat} → {sh : Sh} → {v : D t} → {cs cs0 : List Value} → {cur : Option (Nat × Nat)} → (p' : Path) →
    Rp P w g r t π sh v cs → Valid t sh v p → Valid t sh v p' → tyAt t p' = some (.sl e1 t1) → (getP t v p).t = u → (shAt sh p).isFz = true → (∀ b o, cur = some (b, o) → ∀ q, g.st b ≠ some (r, π ++ q)) →
    adrF g r t π cur p = some (b', o') → Part w g r π (posP p) b' o' c w' g' → Rp P w' g' r u (π ++ posP p) (shAt sh p) x c →
    Rp P w g r (getP t v p').t (π ++ posP p') (shAt sh p') (getP t v p').v cs0 →
    Rp P w' g' r (getP t (setP t v p u x) p').t (π ++ posP p') (shAt sh p') (getP t (setP t v p u x) p').v cs0
  | [], t, π, sh, v, cs, cs0, cur, p', h, hv, hv', ht, hu, hf, hc, ha, hw, hn, h0 => by
    rw [getP_nil] at hu
    subst hu
    have := plain_tyAt p' hpl ht
    simp [Ty.plain] at this
  | s :: p, t, π, sh, v, cs, cs0, cur, [], h, hv, hv', ht, hu, hf, hc, ha, hw, hn, h0 => by
    rw [tyAt_nil] at ht
    simp only [Option.some.injEq] at ht
    subst ht
    rw [getP_nil] at h0 ⊢
    simp only [posP, List.map_nil, List.append_nil, shAt_nil] at h0 ⊢
    have hnone : offF (.sl e1 t1) (s :: p) = none := by cases s <;> rfl
    have := Rp.set (s :: p) (.sl e1 t1) (cur := cur) h0 hv (setSh_self (s :: p) _ h0 hv hf) hu hc ha hw hn
    simp only [newCells, hnone] at this
    exact this
  | .fld i :: p, .agg f, π, sh, v, cs, cs0, cur, .fld j :: p', h, hv, hv', ht, hu, hf, hc, ha, hw, hn, h0 => by
    have hown := adr_owner (.fld i :: p) (.agg f) h hv ha
    simp only [Valid] at hv hv'
    simp only [getP] at hu h0 ⊢
    simp only [adrF] at ha
    simp only [tyAt, if_pos hv'.1] at ht
    have hpos : posP (.fld i :: p) = i :: posP p := rfl
    have hpos' : posP (.fld j :: p') = j :: posP p' := rfl
    rw [hpos] at hw hn
    rw [hpos'] at h0 ⊢
    rw [shAt_fld] at hf hn
    rw [shAt_fld] at h0 ⊢
    simp only [Ev.setP]
    by_cases hij : i = j
    · subst hij
      rw [DL.get_set_self f v i hv.1]
      have := Rp.ref_set hpl p (f.get i) (cur := cur.map fun x => (x.1, x.2 + f.off i)) (cs0 := cs0) p' (Rp.fld h hv.1) hv.2 hv'.2 ht hu hf (by
        intro b o hbo q
        cases cur with
        | none => simp at hbo
        | some c0 =>
          simp only [Option.map_some, Option.some.injEq, Prod.mk.injEq] at hbo
          obtain ⟨rfl, rfl⟩ := hbo
          rw [List.append_assoc]
          exact hc c0.1 c0.2 rfl _) ha hw.sub (by rw [show π ++ [i] ++ posP p = π ++ i :: posP p by simp]; exact hn) (by rw [show π ++ [i] ++ posP p' = π ++ i :: posP p' by simp]; exact h0)
      rw [show π ++ [i] ++ posP p' = π ++ i :: posP p' by simp] at this
      exact this
    · rw [DL.get_set_ne f v i j hij]
      have hb' : ∀ q', g.st b' ≠ some (r, π ++ j :: q') := by
        intro q' he
        rcases hown with ⟨o0, d, hcur, _⟩ | ⟨_, q0, q1, hq, hp, hs⟩
        · exact hc b' o0 hcur _ he
        · rw [hs] at he
          simp only [Option.some.injEq, Prod.mk.injEq, true_and, List.append_cancel_left_eq] at he
          rw [hpos, he] at hp
          simp only [List.cons_append, List.cons.injEq] at hp
          exact hij hp.1
      have k := (hw.goes (fun e => hij e.symm) hb').sub (posP p')
      rw [show π ++ [j] ++ posP p' = π ++ j :: posP p' by simp] at k
      exact Rp.go _ k h0
  | .idx i :: p, .sl e t, π, sh, v, cs, cs0, cur, .idx j :: p', h, hv, hv', ht, hu, hf, hc, ha, hw, hn, h0 => by
    cases sh with
    | own s =>
      simp only [Valid] at hv hv'
      simp only [getP] at hu h0 ⊢
      simp only [adrF] at ha
      simp only [tyAt] at ht
      have hpos : posP (.idx i :: p) = i.toNat :: posP p := rfl
      have hpos' : posP (.idx j :: p') = j.toNat :: posP p' := rfl
      rw [hpos] at hw hn
      rw [hpos'] at h0 ⊢
      simp only [shAt] at hf hn h0 ⊢
      obtain ⟨cap, cu, _, hg, hnc, hcm, hcs, hst, he⟩ := Rp.row h hv.1.2
      have hel := he i.toNat _ (getD_some (d := dflt t) hv.1.2)
      have hown := adr_owner p t hel hv.2 ha
      simp only [Ev.setP]
      by_cases hij : i.toNat = j.toNat
      · rw [← hij] at h0 hv' ⊢
        rw [getD_set_self hv.1.2]
        have := Rp.ref_set hpl p t (cur := some (g.B r π, i.toNat * t.size)) (cs0 := cs0) p' hel hv.2 hv'.2 ht hu hf (by
          intro b o hbo q
          simp only [Option.some.injEq, Prod.mk.injEq] at hbo
          rw [← hbo.1, hst]
          simp) ha hw.sub (by rw [show π ++ [i.toNat] ++ posP p = π ++ i.toNat :: posP p by simp]; exact hn) (by rw [show π ++ [i.toNat] ++ posP p' = π ++ i.toNat :: posP p' by simp]; exact h0)
        rw [show π ++ [i.toNat] ++ posP p' = π ++ i.toNat :: posP p' by simp] at this
        exact this
      · rw [getD_set_ne' hij]
        have hb' : ∀ q', g.st b' ≠ some (r, π ++ j.toNat :: q') := by
          intro q' hx
          rcases hown with ⟨o0, d, hcur, _⟩ | ⟨_, q0, q1, hq, hp, hs⟩
          · simp only [Option.some.injEq, Prod.mk.injEq] at hcur
            rw [← hcur.1, hst] at hx
            simp at hx
          · rw [hs] at hx
            simp only [Option.some.injEq, Prod.mk.injEq, true_and, List.append_assoc, List.append_cancel_left_eq, List.singleton_append, List.cons.injEq] at hx
            exact hij hx.1
        have k := (hw.goes (fun e => hij e.symm) hb').sub (posP p')
        rw [show π ++ [j.toNat] ++ posP p' = π ++ j.toNat :: posP p' by simp] at k
        exact Rp.go _ k h0
    | _ => simp [Valid] at hv
  | .idx i :: p, .arr n t, π, sh, v, cs, cs0, cur, .idx j :: p', h, hv, hv', ht, hu, hf, hc, ha, hw, hn, h0 => by
    simp only [Valid] at hv hv'
    obtain ⟨rfl, hi, hv⟩ := hv
    obtain ⟨_, hj, hv'⟩ := hv'
    have hfr := Rp.fr _ rfl h
    simp only [Fr] at hfr
    obtain ⟨hl, hcl, he⟩ := hfr
    simp only [getP] at hu h0 ⊢
    simp only [tyAt] at ht
    rw [shAt_fz] at hn h0 ⊢
    simp only [Ev.setP]
    by_cases hij : i.toNat = j.toNat
    · rw [← hij] at h0 hv' ⊢
      have hlt : i.toNat < List.length v := by rw [hl]; exact hi.2
      rw [getD_set_self hlt]
      have hpos : posP (.idx i :: p) = i.toNat :: posP p := rfl
      have hpos' : posP (.idx j :: p') = i.toNat :: posP p' := by rw [hij]; rfl
      rw [hpos] at hw hn
      rw [hpos'] at h0 ⊢
      simp only [adrF] at ha
      have := Rp.ref_set (sh := .fz) hpl p t (cur := cur.map fun x => (x.1, x.2 + i.toNat * t.size)) (cs0 := cs0) (π := π ++ [i.toNat]) p' (Rp.of_fr t (he i.toNat _ (getD_some hlt))) hv hv' ht hu (by rw [shAt_fz]; rfl) (by
        intro b o hbo q
        cases cur with
        | none => simp at hbo
        | some c0 =>
          simp only [Option.map_some, Option.some.injEq, Prod.mk.injEq] at hbo
          obtain ⟨rfl, rfl⟩ := hbo
          rw [List.append_assoc]
          exact hc c0.1 c0.2 rfl _) ha hw.sub (by rw [shAt_fz, show π ++ [i.toNat] ++ posP p = π ++ i.toNat :: posP p by simp]; exact hn) (by rw [shAt_fz, show π ++ [i.toNat] ++ posP p' = π ++ i.toNat :: posP p' by simp]; exact h0)
      rw [shAt_fz, show π ++ [i.toNat] ++ posP p' = π ++ i.toNat :: posP p' by simp] at this
      exact this
    · rw [getD_set_ne' hij]
      exact Rp.fzgo _ rfl hw.old h0
  | .fld _ :: _, .agg _, _, _, _, _, _, _, .idx _ :: _, _, _, hv', _, _, _, _, _, _, _, _ => by simp [Valid] at hv'
  | .idx _ :: _, .sl _ _, _, _, _, _, _, _, .fld _ :: _, _, _, hv', _, _, _, _, _, _, _, _ => by simp [Valid] at hv'
  | .idx _ :: _, .arr _ _, _, _, _, _, _, _, .fld _ :: _, _, _, hv', _, _, _, _, _, _, _, _ => by simp [Valid] at hv'
  | .fld _ :: _, .int _, _, _, _, _, _, _, _ :: _, _, hv, _, _, _, _, _, _, _, _, _ => by simp [Valid] at hv
  | .fld _ :: _, .bool, _, _, _, _, _, _, _ :: _, _, hv, _, _, _, _, _, _, _, _, _ => by simp [Valid] at hv
  | .fld _ :: _, .fn _ _, _, _, _, _, _, _, _ :: _, _, hv, _, _, _, _, _, _, _, _, _ => by simp [Valid] at hv
  | .fld _ :: _, .sl _ _, _, _, _, _, _, _, _ :: _, _, hv, _, _, _, _, _, _, _, _, _ => by simp [Valid] at hv
  | .fld _ :: _, .arr _ _, _, _, _, _, _, _, _ :: _, _, hv, _, _, _, _, _, _, _, _, _ => by simp [Valid] at hv
  | .idx _ :: _, .int _, _, _, _, _, _, _, _ :: _, _, hv, _, _, _, _, _, _, _, _, _ => by simp [Valid] at hv
  | .idx _ :: _, .bool, _, _, _, _, _, _, _ :: _, _, hv, _, _, _, _, _, _, _, _, _ => by simp [Valid] at hv
  | .idx _ :: _, .fn _ _, _, _, _, _, _, _, _ :: _, _, hv, _, _, _, _, _, _, _, _, _ => by simp [Valid] at hv
  | .idx _ :: _, .agg _, _, _, _, _, _, _, _ :: _, _, hv, _, _, _, _, _, _, _, _, _ => by simp [Valid] at hv

mutual
/-- Another value at a shape without anything owned. -/
theorem Rp.refit {w w' : World} {g g' : Gh} {r r' : Root} : (t : Ty) → {π π' : List Nat} → {sh : Sh} → {v v' : D t} → {cs cs' : List Value} → sh.isFz = true → Rp P w g r t π sh v cs → Fr P t w' g'.fz v' cs' → Rp P w' g' r' t π' sh v' cs'
  | .int k, π, π', sh, v, v', cs, cs', hs, h, hf => by
    simp only [Rp] at h
    rcases h with ⟨rfl, _⟩ | ⟨rfl, _⟩
    · exact Rp.of_fr _ hf
    · simp [Sh.isFz] at hs
  | .bool, π, π', sh, v, v', cs, cs', hs, h, hf => by
    simp only [Rp] at h
    rcases h with ⟨rfl, _⟩ | ⟨rfl, _⟩
    · exact Rp.of_fr _ hf
    · simp [Sh.isFz] at hs
  | .fn a q, π, π', sh, v, v', cs, cs', hs, h, hf => by
    simp only [Rp] at h
    rcases h with ⟨rfl, _⟩ | ⟨rfl, _⟩
    · exact Rp.of_fr _ hf
    · simp [Sh.isFz] at hs
  | .arr n t, π, π', sh, v, v', cs, cs', hs, h, hf => by
    simp only [Rp] at h
    rcases h with ⟨rfl, _⟩ | ⟨rfl, _⟩
    · exact Rp.of_fr _ hf
    · simp [Sh.isFz] at hs
  | .agg f, π, π', sh, v, v', cs, cs', hs, h, hf => by
    simp only [Rp] at h
    rcases h with ⟨rfl, _⟩ | ⟨rfl, _⟩ | h
    · exact Rp.of_fr _ hf
    · simp [Sh.isFz] at hs
    · rw [Rp]; rw [Fr] at hf; exact .inr (.inr (RpL.refit f hs h hf))
  | .sl e t, π, π', sh, v, v', cs, cs', hs, h, hf => by
    simp only [Rp] at h
    rcases h with ⟨rfl, _⟩ | ⟨rfl, _⟩ | ⟨rfl, _⟩ | ⟨s, rfl, _⟩
    · exact Rp.of_fr _ hf
    · simp [Sh.isFz] at hs
    · simp [Sh.isFz] at hs
    · simp [Sh.isFz] at hs
theorem RpL.refit {w w' : World} {g g' : Gh} {r r' : Root} : (ts : Tys) → {π π' : List Nat} → {k k' : Nat} → {sh : Sh} → {v v' : DL ts} → {cs cs' : List Value} → sh.isFz = true → RpL P w g r ts π k sh v cs → FrL P ts w' g'.fz v' cs' → RpL P w' g' r' ts π' k' sh v' cs'
  | .nil, π, π', k, k', sh, v, v', cs, cs', hs, h, hf => by
    simp only [RpL] at h ⊢
    simp only [FrL] at hf
    exact ⟨h.1, hf⟩
  | .cons t ts, π, π', k, k', sh, v, v', cs, cs', hs, h, hf => by
    simp only [RpL] at h ⊢
    simp only [FrL] at hf
    obtain ⟨s, rest, rfl, c1, c2, _, h1, h2⟩ := h
    obtain ⟨d1, d2, rfl, f1, f2⟩ := hf
    simp only [Sh.isFz, Bool.and_eq_true] at hs
    exact ⟨s, rest, rfl, d1, d2, rfl, Rp.refit t hs.1 h1 f1, RpL.refit ts hs.2 h2 f2⟩
end

section
variable {R' : Type} {A : Nat → Value} {w w' : World} {g g' g0 : Gh} {tm : Array Value} {ds : List Deferred} {σ : Env} {c : G} {K : Unit → Env → Option R'} {r : R'} {Q : Exit → Act → World → Prop} {o : Oper} {C : Ctx}
/-- A home's content turns; what it is made of stays. -/
theorem Rel.turn0 (R : Rel P A w g tm σ) {h dp : Nat} {x : S} {m : Home} {v' : D m.t} (hm : homeOf (σ.get h).s = some m) (hh : (σ.get h).s.isHome = true) (hx : wrapS m.k m.t m.sh v' = some x) (hd : 1 ≤ dp)
    (k : Keeps (fun r => ∃ n, r = .inl n ∧ n ≠ h) w g w' g') (ok : GhOk w' g')
    (hval : ∀ p t x, AddrR g h m p t x → AddrR g' h ⟨m.k, m.t, m.sh, v'⟩ p t x)
    (href : ∀ p e t x, RefR P w g h m p (.sl e t) x → RefR P w' g' h ⟨m.k, m.t, m.sh, v'⟩ p (.sl e t) x)
    (new : σ.on (σ.get h).gd = true → HomeR P w' g' A h ⟨m.k, m.t, m.sh, v'⟩ (tm.getD h undef)) : Rel P A w' g' tm (σ.turn h 0 dp x) := by
  have hhome := wrapS_home hx
  have hgd : ∀ n d b, (d, b) ∈ (σ.get n).gd → d ≠ h := by
    intro n d b hb e
    obtain ⟨sh, v, h1, h2⟩ := R.gd n d b hb
    rw [← e, h1, not_home h2] at hh
    cases hh
  have hgt : ∀ n, ((σ.turn h 0 dp x).get n).gd = (σ.get n).gd := by
    intro n; rw [Env.turn_get]; split
    · rename_i e; rw [e]
    · rfl
  have hon : ∀ n, (σ.turn h 0 dp x).on (σ.get n).gd = σ.on (σ.get n).gd := fun n => on_congr fun d b hb => by
    rw [Env.turn_get, if_neg (hgd n d b hb)]
  have hver := (Mild.turn (dv := 0) (dp := dp) (x := x) hh).ver
  refine ⟨?_, ?_, ?_, fun n hn => R.off n (by rw [hgt, hon] at hn; exact hn), ok.own, ok.fz, R.fix⟩
  · intro n hn
    rw [hgt, hon] at hn
    have hsl := R.slot n hn
    by_cases e : n = h
    · subst e
      rw [Env.turn_get, if_pos rfl]
      show SR P w' g' A _ n _ x _
      rw [SR_home hhome]
      exact new hn
    · rw [Env.turn_get, if_neg e]
      generalize hsn : (σ.get n).s = s at hsl
      have hR : (fun r : Root => ∃ n, r = .inl n ∧ n ≠ h) (.inl n) := ⟨n, rfl, e⟩
      cases s with
      | undef => trivial
      | nilc => exact hsl
      | strc b => exact hsl
      | fnc f => exact hsl
      | val t sh v => simp only [SR] at hsl ⊢; exact HomeR.keep k hR hsl
      | box t sh v => simp only [SR] at hsl ⊢; exact HomeR.keep k hR hsl
      | rowp e t sh v => simp only [SR] at hsl ⊢; exact HomeR.keep k hR hsl
      | ea t v =>
        obtain ⟨b, o, hx, hb, hf⟩ := hsl
        exact ⟨b, o, hx, (k.old b hb).1, by rw [rowL_congr (k.old b hb).2]; exact Fr.mono t k.old hf⟩
      | ref h' ver q p t =>
        intro h1 h2
        by_cases e2 : h' = h
        · subst e2
          rw [Env.turn_get, if_pos rfl] at h1 h2 ⊢
          have hv := R.ver n
          rw [hsn] at hv
          simp only [VerOk, Young] at hv
          have h1 : (σ.get h').ver + 0 = ver := h1
          have hsl' : t.isSl = true := by
            rcases h2 with h2 | h2
            · exact h2
            · have h2 : (σ.get h').pv + dp = q := h2
              omega
          obtain ⟨m0, hm0, hmr⟩ := hsl (by omega) (.inl hsl')
          rw [hm] at hm0
          cases hm0
          cases t <;> simp only [Ty.isSl] at hsl' <;> try (cases hsl'; done)
          exact ⟨_, hhome, href p _ _ _ hmr⟩
        · rw [Env.turn_get, if_neg e2] at h1 h2 ⊢
          obtain ⟨m, hm, hmr⟩ := hsl h1 h2
          exact ⟨m, hm, RefR.keep k ⟨_, rfl, e2⟩ hmr⟩
      | addr h' ver p t =>
        intro h1
        by_cases e2 : h' = h
        · subst e2
          rw [Env.turn_get, if_pos rfl] at h1 ⊢
          have h1 : (σ.get h').ver + 0 = ver := h1
          obtain ⟨m0, hm0, hmr⟩ := hsl (by omega)
          rw [hm] at hm0
          cases hm0
          exact ⟨_, hhome, hval p _ _ hmr⟩
        · rw [Env.turn_get, if_neg e2] at h1 ⊢
          obtain ⟨m, hm, hmr⟩ := hsl h1
          exact ⟨m, hm, AddrR.keep (k.base _ ⟨_, rfl, e2⟩) hmr⟩
      | tup l2 =>
        obtain ⟨vs, hx, hz, hl⟩ := hsl
        refine ⟨vs, hx, hz, fun j y hy hb => ?_⟩
        obtain ⟨z, h1, h2⟩ := hl j y hy hb
        exact ⟨z, h1, RpV.go (k.goes hR _) h2⟩
      | cut h' ver q lo hi e t =>
        intro h1 h2
        by_cases e2 : h' = h
        · subst e2
          rw [Env.turn_get, if_pos rfl] at h1 h2
          have hv := R.ver n
          rw [hsn] at hv
          simp only [VerOk, Young] at hv
          have h1 : (σ.get h').ver + 0 = ver := h1
          have h2 : (σ.get h').pv + dp = q := h2
          omega
        · rw [Env.turn_get, if_neg e2] at h1 h2 ⊢
          exact (hsl h1 h2).keep (k.base _ ⟨_, rfl, e2⟩)
      | shal h' ver q hi e t s l =>
        obtain ⟨xs, h1, h2⟩ := hsl
        refine ⟨xs, h1.keep k hR, ?_⟩
        intro h3 h4
        by_cases e2 : h' = h
        · subst e2
          rw [Env.turn_get, if_pos rfl] at h3 h4
          have hv := R.ver n
          rw [hsn] at hv
          simp only [VerOk, Young] at hv
          have h3 : (σ.get h').ver + 0 = ver := h3
          have h4 : (σ.get h').pv + dp = q := h4
          omega
        · rw [Env.turn_get, if_neg e2] at h3 h4 ⊢
          exact (h2 h3 h4).keep k ⟨_, rfl, e2⟩
  · intro n d b hb
    rw [hgt] at hb
    rw [Env.turn_get, if_neg (hgd n d b hb)]
    exact R.gd n d b hb
  · intro n
    rw [Env.turn_get]
    split
    · exact VerOk_home hhome
    · exact (R.ver n).keep hver
end
end Go.Ev

/- Operations: stores. -/
namespace Go.Ev
open Go.RowKit
variable {P : Program}

/-- Where a part lies there are cells. -/
theorem adr_cells {w : World} {g : Gh} {r : Root} : (p : Path) → (t : Ty) → {π : List Nat} → {sh : Sh} → {v : D t} → {cs : List Value} → {cur : Option (Nat × Nat)} → {b o : Nat} → Rp P w g r t π sh v cs → Valid t sh v p →
    adrF g r t π cur p = some (b, o) → (∀ b o, cur = some (b, o) → ∃ c e, w.heap[b]? = some (.cells c e (0, 0)) ∧ o + t.size ≤ c.size) →
    ∃ c e, w.heap[b]? = some (.cells c e (0, 0)) ∧ o + (getP t v p).t.size ≤ c.size
  | [], t, π, sh, v, cs, cur, b, o, h, hv, ha, hc => by
    rw [adrF_nil] at ha
    rw [getP_nil]
    exact hc b o ha
  | .fld i :: p, .agg f, π, sh, v, cs, cur, b, o, h, hv, ha, hc => by
    simp only [Valid] at hv
    simp only [adrF] at ha
    simp only [getP]
    refine adr_cells p (f.get i) (Rp.fld h hv.1) hv.2 ha (fun b o hbo => ?_)
    cases cur with
    | none => simp at hbo
    | some c0 =>
      simp only [Option.map_some, Option.some.injEq, Prod.mk.injEq] at hbo
      obtain ⟨rfl, rfl⟩ := hbo
      obtain ⟨c, e, h1, h2⟩ := hc c0.1 c0.2 rfl
      have := Tys.off_le f i hv.1
      simp only [Ty.size] at h2
      exact ⟨c, e, h1, by omega⟩
  | .idx i :: p, .sl e t, π, sh, v, cs, cur, b, o, h, hv, ha, hc => by
    cases sh with
    | own s =>
      simp only [Valid] at hv
      simp only [adrF] at ha
      simp only [getP]
      obtain ⟨cap, cu, _, hg, hnc, hcm, hcs, hst, he⟩ := Rp.row h hv.1.2
      refine adr_cells p t (he i.toNat _ (getD_some hv.1.2)) hv.2 ha (fun b o hbo => ?_)
      simp only [Option.some.injEq, Prod.mk.injEq] at hbo
      obtain ⟨rfl, rfl⟩ := hbo
      have h1 := mul_le t.size hv.1.2
      have h2 := Nat.mul_le_mul_right t.size hnc
      exact ⟨cu, e, hg, by omega⟩
    | _ => simp [Valid] at hv
  | .idx i :: p, .arr n t, π, sh, v, cs, cur, b, o, h, hv, ha, hc => by
    simp only [Valid] at hv
    obtain ⟨rfl, hi, hv⟩ := hv
    have hfr := Rp.fr _ rfl h
    simp only [Fr] at hfr
    obtain ⟨hl, hcl, he⟩ := hfr
    simp only [adrF] at ha
    simp only [getP]
    refine adr_cells (r := r) (π := π ++ [i.toNat]) p t (Rp.of_fr t (he i.toNat _ (getD_some (by rw [hl]; exact hi.2)))) hv ha (fun b o hbo => ?_)
    cases cur with
    | none => simp at hbo
    | some c0 =>
      simp only [Option.map_some, Option.some.injEq, Prod.mk.injEq] at hbo
      obtain ⟨rfl, rfl⟩ := hbo
      obtain ⟨c, e, h1, h2⟩ := hc c0.1 c0.2 rfl
      have := mul_le t.size hi.2
      simp only [Ty.size] at h2
      exact ⟨c, e, h1, by omega⟩
  | .fld _ :: _, .int _, _, _, _, _, _, _, _, _, hv, _, _ => by simp [Valid] at hv
  | .fld _ :: _, .bool, _, _, _, _, _, _, _, _, hv, _, _ => by simp [Valid] at hv
  | .fld _ :: _, .fn _ _, _, _, _, _, _, _, _, _, hv, _, _ => by simp [Valid] at hv
  | .fld _ :: _, .sl _ _, _, _, _, _, _, _, _, _, hv, _, _ => by simp [Valid] at hv
  | .fld _ :: _, .arr _ _, _, _, _, _, _, _, _, _, hv, _, _ => by simp [Valid] at hv
  | .idx _ :: _, .int _, _, _, _, _, _, _, _, _, hv, _, _ => by simp [Valid] at hv
  | .idx _ :: _, .bool, _, _, _, _, _, _, _, _, hv, _, _ => by simp [Valid] at hv
  | .idx _ :: _, .fn _ _, _, _, _, _, _, _, _, _, hv, _, _ => by simp [Valid] at hv
  | .idx _ :: _, .agg _, _, _, _, _, _, _, _, _, hv, _, _ => by simp [Valid] at hv

/-- The root of a home. -/
theorem HomeR.root {w : World} {g : Gh} {A : Nat → Value} {n : Nat} {m : Home} {x : Value} (h : HomeR P w g A n m x) :
    ∃ cs, Rp P w g (.inl n) m.t m.k.base m.sh m.v cs ∧ (∀ b o, m.k.cur g n = some (b, o) → cs = seg (rowL w b) o m.t.size ∧ g.st b = some (.inl n, []) ∧ m.k = .box ∧ o = 0 ∧ ∃ c e, w.heap[b]? = some (.cells c e (0, 0)) ∧ c.toList = cs) ∧ (m.k ≠ .box → cs = x.cells.toList) := by
  obtain ⟨k, t, sh, v⟩ := m
  cases k with
  | val => exact ⟨_, h.1, (fun b o hbo => by simp [HK.cur] at hbo), fun _ => rfl⟩
  | rowp => exact ⟨_, h.1.1, (fun b o hbo => by simp [HK.cur] at hbo), fun _ => rfl⟩
  | box =>
    obtain ⟨b0, c0, e0, _, hB, hst, hc0, hp0⟩ := h
    refine ⟨_, hp0, (fun b o hbo => ?_), fun hne => absurd rfl hne⟩
    simp only [HK.cur, Option.some.injEq, Prod.mk.injEq] at hbo
    obtain ⟨rfl, rfl⟩ := hbo
    rw [hB]
    have : rowL w b0 = c0.toList := by simp only [rowL, hc0]
    rw [this]
    have hl := Rp.len _ hp0
    exact ⟨(seg_all _ _ (by simpa using Nat.le_of_eq hl)).symm, hst, rfl, rfl, c0, e0, hc0, rfl⟩

theorem wrote_row {w : World} {b o : Nat} {c cu : Array Value} {e : TypeId} (hc : w.heap[b]? = some (.cells cu e (0, 0))) (hl : o + c.size ≤ cu.size) :
    Wrote w (w.setRow b (splice cu.toList o c.toList).toArray) b o c.toList where
  here := ⟨cu, e, (splice cu.toList o c.toList).toArray, hc, by simpa using hl, setRow_heap w b cu _ e _ hc, rfl⟩
  there b' hb := setRow_other w b b' _ hb

theorem run_storeAt {w : World} {u : Ty} {ty : TypeId} {b o : Nat} {x : Value} {cu : Array Value} {e : TypeId} (hty : tyOk P ty u = true) (hc : w.heap[b]? = some (.cells cu e (0, 0))) (hl : o + u.size ≤ cu.size) (hx : x.cells.toList.length = u.size)
    (h1 : ∀ v ∈ x.cells.toList, v.oneCell' = true) : (Instr.storeAt ty (.pointer (some ⟨b, o, none⟩)) x).run P w = .ok () (w.setRow b (splice cu.toList o x.cells.toList).toArray) := by
  have hs := run_sizeOf (tyOk_info hty) w
  have hx' : x.cells.size = u.size := by simpa using hx
  have hst := run_storeCells_at P b o e x.cells.toList 0 cu w hc (by simp; omega) h1
  simp only [Nat.add_zero] at hst
  simp [Instr.storeAt, Instr.sureAddr, storeVar, hs, hx', hst, splice]

/-- The home behind a store into a part. -/
theorem store_home {w w' : World} {g g' : Gh} {A : Nat → Value} {h : Nat} {m : Home} {xh : Value} {p : Path} {u : Ty} {b' o' : Nat} {c : List Value} {s' sh2 : Sh} {x' : D u} (hH : HomeR P w g A h m xh) (hpt : tyAt m.t p = some u) (hval : Valid m.t m.sh m.v p)
    (hadr : adrF g (.inl h) m.t m.k.base (m.k.cur g h) p = some (b', o')) (hW : Part w g (.inl h) m.k.base (posP p) b' o' c w' g') (hroot : m.k = .box → g'.B (.inl h) [] = g.B (.inl h) [] ∧ ∀ b, g.st b = some (.inl h, []) → g'.st b = some (.inl h, []))
    (hsh : setSh m.t m.sh p s' = some sh2) (hn : Rp P w' g' (.inl h) u (m.k.base ++ posP p) s' x' c) : HomeR P w' g' A h ⟨m.k, m.t, sh2, setP m.t m.v p u x'⟩ xh := by
  have e := getP_ty (v := m.v) p hpt
  obtain ⟨cs, hr, hcur, hcs⟩ := hH.root
  have hset := Rp.set p m.t hr hval hsh e (fun b o hbo q => by
    obtain ⟨_, hst, hk, _⟩ := hcur b o hbo
    rw [hst, hk]
    simp [HK.base]) hadr hW hn
  have hown := adr_owner p m.t hr hval hadr
  obtain ⟨k, t, sh, v⟩ := m
  cases k with
  | val =>
    have hnone : offF t p = none := by
      rcases hown with ⟨o0, d, hc, _⟩ | ⟨hd, _⟩
      · simp [HK.cur] at hc
      · exact hd
    have hcx : cs = xh.cells.toList := hcs (by simp)
    simp only [newCells, hnone] at hset
    refine ⟨?_, hH.2⟩
    rw [← hcx]; exact hset
  | rowp =>
    have hnone : offF t p = none := by
      rcases hown with ⟨o0, d, hc, _⟩ | ⟨hd, _⟩
      · simp [HK.cur] at hc
      · exact hd
    have hcx : cs = xh.cells.toList := hcs (by simp)
    simp only [newCells, hnone] at hset
    refine ⟨⟨?_, hH.1.2⟩, hH.2⟩
    rw [← hcx]; exact hset
  | box =>
    obtain ⟨b0, c0, e0, hx, hB, hst, hc0, hp0⟩ := hH
    obtain ⟨r1, r2⟩ := hroot rfl
    obtain ⟨h1, _, _, _, c1, e1, h2, h3⟩ := hcur b0 0 (by simp only [HK.cur, hB])
    rw [hc0] at h2
    simp only [Option.some.injEq, Obj.cells.injEq] at h2
    obtain ⟨rfl, rfl, _⟩ := h2
    have key : ∃ c', w'.heap[b0]? = some (.cells c' e0 (0, 0)) ∧ c'.toList = newCells t p cs c := by
      rcases hown with ⟨o0, d, hc, hd, rfl⟩ | ⟨hd, q0, q1, hq, hp, hs⟩
      · simp only [HK.cur, Option.some.injEq, Prod.mk.injEq] at hc
        obtain ⟨hb, rfl⟩ := hc
        rw [hB] at hb
        subst hb
        obtain ⟨cu, e', cu', g1, g2, g3, g4⟩ := hW.wrote.here
        rw [hc0] at g1
        simp only [Option.some.injEq, Obj.cells.injEq] at g1
        obtain ⟨rfl, rfl, _⟩ := g1
        refine ⟨cu', g3, ?_⟩
        rw [g4, ← h3]
        simp only [newCells, hd, Nat.zero_add]
      · refine ⟨c0, ?_, by simp only [newCells, hd]; exact h3⟩
        rw [hW.wrote.there b0 (fun e2 => ?_)]
        · exact hc0
        · rw [← e2, hst] at hs
          simp [HK.base] at hs
    obtain ⟨c', k1, k2⟩ := key
    exact ⟨b0, c', e0, hx, r1.trans hB, r2 b0 hst, k1, by rw [k2]; exact hset⟩

/-- Whose block is written. -/
theorem store_owner {w : World} {g : Gh} {A : Nat → Value} {h : Nat} {m : Home} {xh : Value} {p : Path} {b' o' : Nat} (hH : HomeR P w g A h m xh) (hval : Valid m.t m.sh m.v p)
    (hadr : adrF g (.inl h) m.t m.k.base (m.k.cur g h) p = some (b', o')) : ∃ ρ, g.st b' = some (.inl h, ρ) ∧ ¬ (m.k.base ++ posP p) <+: ρ := by
  obtain ⟨cs, hr, hcur, hcs⟩ := hH.root
  rcases adr_owner p m.t hr hval hadr with ⟨o0, d, hc, _⟩ | ⟨hd, q0, q1, hq, hp, hs⟩
  · obtain ⟨_, hst, hk, _⟩ := hcur _ _ hc
    refine ⟨[], hst, ?_⟩
    rw [hk]; simp [HK.base]
  · refine ⟨_, hs, ?_⟩
    rw [hp, List.prefix_append_right_inj]
    intro hpre
    have := hpre.length_le
    simp only [List.length_append] at this
    exact hq (List.eq_nil_of_length_eq_zero (by omega))

section
variable {R' : Type} {A : Nat → Value} {w w' : World} {g g' g0 : Gh} {tm : Array Value} {ds : List Deferred} {σ : Env} {c : G} {K : Unit → Env → Option R'} {r : R'} {Q : Exit → Act → World → Prop} {o : Oper} {C : Ctx}

/-- A write into a block that the slot h owns. -/
theorem write_keeps {h : Nat} {b' o' : Nat} {cl : List Value} {ρ : List Nat} (ok : GhOk w g) (hW : Wrote w w' b' o' cl) (hb : g.st b' = some (.inl h, ρ)) : Keeps (fun r => r ≠ .inl h) w g w' g where
  old b hf := ⟨hf, hW.there b (fun e => by subst e; exact (ok.own b _ _ hb).2 hf)⟩
  own r hr b π hs := ⟨hs, hW.there b (fun e => by subst e; rw [hb] at hs; simp only [Option.some.injEq, Prod.mk.injEq] at hs; exact hr hs.1.symm)⟩
  base r hr := rfl

theorem ite_on {α : Type} {on : Bool} (h : on = true) (a b : α) : ite' c on a b = a := by
  unfold ite'; rw [h]; simp
theorem ite_off {α : Type} {on : Bool} (hcg : c.isEmpty = true → on = true) (h : on = false) (a b : α) : ite' c on a b = b := by
  unfold ite'
  have : c.isEmpty = false := by
    cases hc : c.isEmpty with
    | false => rfl
    | true => rw [hcg hc] at h; cases h
  rw [this, h]; rfl

/-- Nothing is left but to fill the slot with nothing. -/
theorem does_skip {on : Bool} (hon : σ.on c = on) (hD : DstOk A σ c o.dst tm) (hc : Gd σ c) (h : (fin c o.dst .undef).run σ K = some r)
    (off : on = false → ∃ g1, Rel P A w g1 tm σ ∧ Ext w g0 w g1)
    (onn : on = true → ∃ w1 g1, Rel P A w1 g1 tm σ ∧ Ext w g0 w1 g1 ∧ (execOp (Act.eval ⟨tm, ds⟩) o).run P w = .ok .skip w1) : OpDoes P A o w g0 tm ds on K r Q := by
  unfold OpDoes
  have hK := fin_ok h
  split
  · rename_i ho
    obtain ⟨w1, g1, R, E, hr⟩ := onn ho
    unfold Oper.wp
    rw [hr]
    refine ⟨g1, _, ?_, E, put_defers _ _ _ _, ?_, hK⟩
    · rw [put_tmps]; exact R.light hD hc rfl trivial (fun _ => trivial) (fun _ => rfl)
    · rw [put_tmps, putT_size]
  · rename_i ho
    obtain ⟨g1, R, E⟩ := off (by simpa using ho)
    refine ⟨g1, _, ?_, E, put_defers _ _ _ _, ?_, hK⟩
    · rw [put_tmps]; exact R.light hD hc rfl trivial (fun _ => trivial) (fun _ => rfl)
    · rw [put_tmps, putT_size]

theorem oStore_ok {ty : TypeId} {a x : Operand} (hT : TOk P C.T = true) (hS : SoundC P C) (R : Rel P A w g tm σ) (hD : DstOk A σ c o.dst tm) (hc : Gd σ c) (hcg : c.isEmpty = true → σ.on c = true) (ho : o.op = .store ty a x)
    (h : (oStore C c (σ.on c) o ty a x).run σ K = some r) : OpDoes P A o w g tm ds (σ.on c) K r Q := by
  unfold oStore at h
  split at h
  · cases h
  rename_i u hty
  obtain ⟨j, sx, h', Hx, _⟩ := rd_ok R ds h
  clear h; have h := h'; clear h'
  obtain ⟨sh', x', g1, σ1, h', R1, M, hng, hr⟩ := takeAs_ok 0 hS R hc (Hx (takeAs_tup h)) h
  clear h; have h := h'; clear h'
  have hon1 : σ1.on c = σ.on c := M.mild.on hc
  have hc1 := M.mild.gdOk hc
  have hD1 := hD.mild M.mild
  obtain ⟨i, s, h', H, hrest⟩ := rd_ok R1 ds h
  clear h; have h := h'; clear h'
  split at h
  · rename_i hn ver p t
    have H := H rfl
    split at h
    · rename_i htu
      subst htu
      obtain ⟨m, hm, h', hv, hs⟩ := homeA_ok h
      clear h; have h := h'; clear h'
      -- what is known where the guard holds
      have known : σ.on c = true → ∃ b' o' ρ cu e, Act.eval ⟨tm, ds⟩ a = .pointer (some ⟨b', o', none⟩) ∧ tyAt m.t p = some t ∧ Valid m.t m.sh m.v p ∧ adrF g1 (.inl hn) m.t m.k.base (m.k.cur g1 hn) p = some (b', o') ∧ HomeR P w g1 A hn m (tm.getD hn undef) ∧
          g1.st b' = some (.inl hn, ρ) ∧ ¬ (m.k.base ++ posP p) <+: ρ ∧ w.heap[b']? = some (.cells cu e (0, 0)) ∧ o' + t.size ≤ cu.size := by
        intro hon
        have hon' : σ1.on c = true := by rw [hon1]; exact hon
        obtain ⟨hpt, hval, b', o', hx, hadr⟩ := H.addr hm hv hon'
        have hsl := R1.slot hn (on_sub hs hon')
        rw [SR_home hm] at hsl
        obtain ⟨ρ, h1, h2⟩ := store_owner hsl hval hadr
        obtain ⟨cs, hroot, hcur, _⟩ := hsl.root
        obtain ⟨cu, e, h3, h4⟩ := adr_cells p m.t hroot hval hadr (fun b o hbo => by
          obtain ⟨_, _, _, h0, c, e, k1, k2⟩ := hcur b o hbo
          have hl := Rp.len _ hroot
          have : c.size = cs.length := by rw [← k2]; simp
          exact ⟨c, e, k1, by omega⟩)
        rw [getP_ty (v := m.v) p hpt] at h4
        exact ⟨b', o', ρ, cu, e, hx, hpt, hval, hadr, hsl, h1, h2, h3, h4⟩
      have exec : ∀ (b' o' : Nat) (cu : Array Value) (e : TypeId), σ.on c = true → Act.eval ⟨tm, ds⟩ a = .pointer (some ⟨b', o', none⟩) → w.heap[b']? = some (.cells cu e (0, 0)) → o' + t.size ≤ cu.size →
          (execOp (Act.eval ⟨tm, ds⟩) o).run P w = .ok .skip (w.setRow b' (splice cu.toList o' (Act.eval ⟨tm, ds⟩ x).cells.toList).toArray) ∧ Wrote w (w.setRow b' (splice cu.toList o' (Act.eval ⟨tm, ds⟩ x).cells.toList).toArray) b' o' (Act.eval ⟨tm, ds⟩ x).cells.toList := by
        intro b' o' cu e hon ha hcu hl
        have hrx := (hr hon).1
        have hxl := Rp.len _ hrx
        refine ⟨?_, wrote_row hcu (by have : (Act.eval ⟨tm, ds⟩ x).cells.size = t.size := by simpa using hxl
                                      omega)⟩
        have := run_storeAt (P := P) (TOk.ty hT hty) hcu hl hxl (Rp.one _ hng hrx)
        simp [execOp, ho, ha, this]
      split at h
      · -- nothing in it leads to other memory
        rename_i hpl
        split at h
        · rename_i hfz
          obtain ⟨y, hy, hh, h'⟩ := put_ok h
          clear h; have h := h'; clear h'
          have hMild := Mild.turn (dv := 0) (dp := 1) (x := y) hh
          refine does_skip ((hMild.on hc1).trans hon1) (hD1.mild hMild) (hMild.gdOk hc1) h (fun hoff => ?_) (fun hon => ?_)
          · rw [ite_off hcg hoff] at hy
            refine ⟨g1, R1.turn0 (v' := m.v) hm hh hy (Nat.le_refl 1) (Keeps.refl _ _ _) R1.ok (fun p t x hx => hx) (fun p e t x hx => hx) (fun hon => ?_), M.ext⟩
            have hsl := R1.slot hn hon
            rw [SR_home hm] at hsl
            exact hsl
          · rw [ite_on hon] at hy
            obtain ⟨b', o', ρ, cu, e, ha, hpt, hval, hadr, hsl, hst, hnp, hcu, hl⟩ := known hon
            obtain ⟨hrun, hW⟩ := exec b' o' cu e hon ha hcu hl
            have hk := write_keeps R1.ok hW hst
            have hrx := hr hon
            have hfr : Fr P t (w.setRow b' (splice cu.toList o' (Act.eval ⟨tm, ds⟩ x).cells.toList).toArray) g1.fz x' (Act.eval ⟨tm, ds⟩ x).cells.toList := Fr.mono t hk.old (Rp.plain t hpl hng hrx.1)
            have hpart : Part w g1 (.inl hn) m.k.base (posP p) b' o' (Act.eval ⟨tm, ds⟩ x).cells.toList (w.setRow b' (splice cu.toList o' (Act.eval ⟨tm, ds⟩ x).cells.toList).toArray) g1 := ⟨hW, hk.old, fun _ _ h _ => h, fun _ _ => rfl⟩
            obtain ⟨cs, hroot, hcur, _⟩ := hsl.root
            obtain ⟨cs', hg1, _⟩ := Rp.get p m.t (cur := m.k.cur g1 hn) hroot hval (fun b o hbo => (hcur b o hbo).1)
            have hcurst : ∀ b o, m.k.cur g1 hn = some (b, o) → ∀ q, g1.st b ≠ some (.inl hn, m.k.base ++ q) := fun b o hbo q => by
              obtain ⟨_, hst, hk, _⟩ := hcur b o hbo
              rw [hst, hk]
              simp [HK.base]
            have e := getP_ty (v := m.v) p hpt
            have hn' : Rp P (w.setRow b' (splice cu.toList o' (Act.eval ⟨tm, ds⟩ x).cells.toList).toArray) g1 (.inl hn) t (m.k.base ++ posP p) (shAt m.sh p) x' (Act.eval ⟨tm, ds⟩ x).cells.toList := by
              generalize getP m.t m.v p = tv at e hg1
              obtain ⟨t', v'⟩ := tv
              simp only at e
              subst e
              exact Rp.refit _ hfz hg1 hfr
            have hnew := store_home hsl hpt hval hadr hpart (fun _ => ⟨rfl, fun _ h => h⟩) (setSh_self p m.t hroot hval hfz) hn'
            have ok' : GhOk (w.setRow b' (splice cu.toList o' (Act.eval ⟨tm, ds⟩ x).cells.toList).toArray) g1 := ⟨fun b r π hb => by rw [setRow_size]; exact R1.own b r π hb, fun b hb => by rw [setRow_size]; exact R1.fz b hb⟩
            refine ⟨_, g1, R1.turn0 (v' := setP m.t m.v p t x') hm hh hy (Nat.le_refl 1) (hk.mono (by rintro r ⟨n, rfl, hne⟩; simpa using hne)) ok' (fun q t2 x2 hx2 => ?_) (fun q e2 t2 x2 hx2 => ?_) (fun _ => hnew), ?_, hrun⟩
            · obtain ⟨k1, k2, b2, o2, k3, k4⟩ := hx2
              exact ⟨k1, Valid.setP hpl p m.t hval e q k2, b2, o2, k3, k4⟩
            · obtain ⟨k1, k2, ⟨k3, k4⟩, k5⟩ := hx2
              have hty2 := getP_ty (v := setP m.t m.v p t x') q k1
              have hty1 := getP_ty (v := m.v) q k1
              refine ⟨k1, Valid.setP hpl p m.t hval e q k2, ⟨?_, ?_⟩, k5⟩
              · exact Rp.ref_set hpl p m.t (cur := m.k.cur g1 hn) q hroot hval k2 k1 e hfz hcurst hadr hpart hn' k3
              · rw [hty1] at k4
                show isAggV x2 = Ty.isAgg (getP m.t (setP m.t m.v p t x') q).t
                rw [hty2]; exact k4
            · exact M.ext.trans ⟨rfl, rfl, rfl, by rw [setRow_size]; exact Nat.le_refl _, fun b hb hs => ⟨setRow_other w b' b _ (fun e => by subst e; rw [hst] at hs; cases hs), hs⟩, fun b hb => hb, fun b hb => .inl hb⟩
        · cases h
      · rename_i hpl
        split at h
        · rename_i sh2 hst2
          split at h
          · rename_i hce
            obtain ⟨y, hy, hh, h'⟩ := put_ok h
            clear h; have h := h'; clear h'
            have hMild := Mild.turn (dv := 1) (dp := 1) (x := y) hh
            refine does_skip ((hMild.on hc1).trans hon1) (hD1.mild hMild) (hMild.gdOk hc1) h (fun hoff => ?_) (fun hon => ?_)
            · rw [ite_off hcg hoff] at hy
              have hce : sh2 = m.sh := by
                simp only [Bool.or_eq_true, decide_eq_true_eq] at hce
                rcases hce with hce | hce
                · rw [hcg hce] at hoff; cases hoff
                · exact hce
              subst hce
              have hhome := wrapS_home hy
              refine ⟨g1, R1.turn hh (Nat.le_refl 1) (Keeps.refl _ _ _) R1.own R1.fz (VerOk_home hhome) (fun hon => ?_), M.ext⟩
              have hsl := R1.slot hn hon
              rw [SR_home hm] at hsl
              rw [SR_home hhome]
              exact hsl
            · rw [ite_on hon] at hy
              have hhome := wrapS_home hy
              obtain ⟨b', o', ρ, cu, e, ha, hpt, hval, hadr, hsl, hst, hnp, hcu, hl⟩ := known hon
              obtain ⟨hrun, hW⟩ := exec b' o' cu e hon ha hcu hl
              have hrx := hr hon
              -- the value goes over, or is frozen
              have goes : ∃ s' g2, setSh m.t m.sh p s' = some sh2 ∧ GhOk w g2 ∧ Ext w g1 w g2 ∧ Keeps (fun r => ∃ n, r = .inl n ∧ n ≠ hn) w g1 w g2 ∧ g2.st b' = some (.inl hn, ρ) ∧ Rp P w g2 (.inl hn) t (m.k.base ++ posP p) s' x' (Act.eval ⟨tm, ds⟩ x).cells.toList ∧
                  (∀ b q', g1.st b = some (.inl hn, q') → ¬ (m.k.base ++ posP p) <+: q' → g2.st b = some (.inl hn, q')) ∧ (∀ q', ¬ (m.k.base ++ posP p) <+: q' → g1.B (.inl hn) q' = g2.B (.inl hn) q') := by
                unfold stShape at hst2
                split at hst2
                · rename_i q hq
                  simp only [Option.some.injEq] at hst2
                  subst hst2
                  refine ⟨sh', turnG g1 (.inr 0) [] .gone [] (.inl hn) (m.k.base ++ posP p), hq, turnG_ok R1.ok (by simp), turnG_ext w, (turnG_keeps w).mono (by rintro r ⟨n, rfl, hne⟩; exact ⟨by simp, by simpa using hne⟩), ?_, ?_, ?_, ?_⟩
                  · simp [turnG, hst, hnp]
                  · exact Rp.go t (turnG_goes (π0 := []) (p := []) (by simp) fun q => rfl) hrx.1
                  · intro b q' hb hq'; simp [turnG, hb, hq']
                  · intro q' hq'; simp [turnG, hq']
                · refine ⟨.fz, turnG g1 (.inr 0) [] .fz [] (.inr 1) [], hst2, turnG_ok R1.ok (by simp), turnG_ext w, (turnG_keeps w).mono (by rintro r ⟨n, rfl, hne⟩; exact ⟨by simp, by simp⟩), ?_, ?_, ?_, ?_⟩
                  · simp [turnG, hst]
                  · exact Rp.of_fr _ (Rp.freeze t hng (turnG_older w) (fun b q hb => ⟨.inr ⟨q, by simpa using hb, rfl⟩, rfl⟩) hrx.1)
                  · intro b q' hb hq'; simp [turnG, hb]
                  · intro q' hq'; simp [turnG]
              obtain ⟨s', g2, hsh2, ok2, E2, k2, hst2', hv2, hp1, hp2⟩ := goes
              have hk := write_keeps ok2 hW hst2'
              have hpart : Part w g1 (.inl hn) m.k.base (posP p) b' o' (Act.eval ⟨tm, ds⟩ x).cells.toList (w.setRow b' (splice cu.toList o' (Act.eval ⟨tm, ds⟩ x).cells.toList).toArray) g2 :=
                ⟨hW, fun b hb => ⟨(k2.old b hb).1, (hk.old b (k2.old b hb).1).2⟩, fun b q' hb hq' => hp1 b _ hb (by rwa [List.prefix_append_right_inj]), fun q' hq' => hp2 _ (by rwa [List.prefix_append_right_inj])⟩
              have hv3 : Rp P (w.setRow b' (splice cu.toList o' (Act.eval ⟨tm, ds⟩ x).cells.toList).toArray) g2 (.inl hn) t (m.k.base ++ posP p) s' x' (Act.eval ⟨tm, ds⟩ x).cells.toList := by
                refine Rp.go t ⟨hk.old, fun b q hb => ⟨hb, hW.there b (fun e => ?_)⟩, fun q => rfl⟩ hv2
                subst e
                rw [hst2'] at hb
                simp only [Option.some.injEq, Prod.mk.injEq, true_and] at hb
                exact hnp ⟨q, hb.symm⟩
              have hnew := store_home hsl hpt hval hadr hpart (fun hbox => by
                have hne : ¬ (m.k.base ++ posP p) <+: ([] : List Nat) := by rw [hbox]; simp [HK.base]
                exact ⟨(hp2 [] hne).symm, fun b hb => hp1 b [] hb hne⟩) hsh2 hv3
              have ok' : GhOk (w.setRow b' (splice cu.toList o' (Act.eval ⟨tm, ds⟩ x).cells.toList).toArray) g2 := ⟨fun b r π hb => by rw [setRow_size]; exact ok2.own b r π hb, fun b hb => by rw [setRow_size]; exact ok2.fz b hb⟩
              refine ⟨_, g2, R1.turn hh (Nat.le_refl 1) (k2.trans (hk.mono (by rintro r ⟨n, rfl, hne⟩; simpa using hne))) ok'.own ok'.fz (VerOk_home hhome) (fun _ => by rw [SR_home hhome]; exact hnew), ?_, hrun⟩
              exact (M.ext.trans E2).trans ⟨rfl, rfl, rfl, by rw [setRow_size]; exact Nat.le_refl _, fun b hb hs => ⟨setRow_other w b' b _ (fun e => by subst e; rw [hst2'] at hs; cases hs), hs⟩, fun b hb => hb, fun b hb => .inl hb⟩
          · cases h
        · cases h
    · cases h
  · cases h
end
end Go.Ev

/- Many homes at once; what is lent. -/
namespace Go.Ev
open Go.RowKit
variable {P : Program}
section
variable {R' : Type} {A : Nat → Value} {w w' : World} {g g' g0 : Gh} {tm : Array Value} {ds : List Deferred} {σ σ' : Env} {c : G} {r : R'} {Q : Exit → Act → World → Prop} {o : Oper} {C : Ctx}

/-- Homes turn, the rest stays. -/
theorem Rel.many (R : Rel P A w g tm σ) (mild : Mild σ σ') (ok : GhOk w' g') (old : Older w g.fz w' g'.fz)
    (mean : ∀ n, (σ.get n).s.isHome = true → σ.on (σ.get n).gd = true → SR P w' g' A σ' n (σ'.get n).pv (σ'.get n).s (tm.getD n undef))
    (hver : ∀ n, (σ.get n).s.isHome = true → VerOk σ' (σ'.get n).s)
    (refs : ∀ h m p t x, homeOf (σ.get h).s = some m → (σ'.get h).ver = (σ.get h).ver → (t.isSl = true ∨ (σ'.get h).pv = (σ.get h).pv) → RefR P w g h m p t x → ∃ m', homeOf (σ'.get h).s = some m' ∧ RefR P w' g' h m' p t x)
    (cuts : ∀ h m, homeOf (σ.get h).s = some m → (σ'.get h).ver = (σ.get h).ver → (σ'.get h).pv = (σ.get h).pv → (σ'.get h).s = (σ.get h).s ∧ g'.B (.inl h) = g.B (.inl h))
    (addrs : ∀ h m p t x, homeOf (σ.get h).s = some m → (σ'.get h).ver = (σ.get h).ver → AddrR g h m p t x → ∃ m', homeOf (σ'.get h).s = some m' ∧ AddrR g' h m' p t x) : Rel P A w' g' tm σ' := by
  have hgd : ∀ n d b, (d, b) ∈ (σ.get n).gd → σ'.get d = σ.get d := by
    intro n d b hb
    obtain ⟨sh, v, h1, h2⟩ := R.gd n d b hb
    exact mild.same d (by rw [h1]; exact not_home h2)
  have hon : ∀ n, σ'.on (σ.get n).gd = σ.on (σ.get n).gd := fun n => on_congr fun d b hb => by rw [hgd n d b hb]
  refine ⟨?_, ?_, ?_, fun n hn => R.off n (by rw [mild.gd, hon] at hn; exact hn), ok.own, ok.fz, R.fix⟩
  · intro n hn
    rw [mild.gd, hon] at hn
    cases hh : (σ.get n).s.isHome with
    | true => exact mean n hh hn
    | false =>
      have he := mild.same n hh
      rw [he]
      have hsl := R.slot n hn
      have hv := R.ver n
      generalize hsn : (σ.get n).s = s at hsl hv hh
      cases s with
      | undef => trivial
      | nilc => exact hsl
      | strc b => exact hsl
      | fnc f => exact hsl
      | val t sh v =>
        have hf : sh.isFz = true := by simpa [S.isHome] using hh
        exact ⟨Rp.fzgo t hf old hsl.1, hsl.2⟩
      | box t sh v => simp [S.isHome] at hh
      | rowp e t sh v => simp [S.isHome] at hh
      | tup l => simp [S.isHome] at hh
      | shal => simp [S.isHome] at hh
      | cut h' ver q lo hi e t =>
        intro h1 h2
        simp only [VerOk, Young] at hv
        have hm := mild.ver h'
        have e1 : (σ.get h').ver = ver := by omega
        have e2 : (σ.get h').pv = q := by omega
        have hcut := hsl e1 e2
        obtain ⟨sh, v, h3, _⟩ := id hcut
        obtain ⟨h4, h5⟩ := cuts h' _ (by rw [h3]; rfl) (by omega) (by omega)
        rw [h4]; exact hcut.keep h5
      | ea t v =>
        obtain ⟨b, o, hx, hb, hf⟩ := hsl
        exact ⟨b, o, hx, (old b hb).1, by rw [rowL_congr (old b hb).2]; exact Fr.mono t old hf⟩
      | ref h' ver q p t =>
        intro h1 h2
        simp only [VerOk, Young] at hv
        have hm := mild.ver h'
        have e1 : (σ.get h').ver = ver := by omega
        have e2 : t.isSl = true ∨ (σ.get h').pv = q := h2.imp id (fun h2 => by omega)
        obtain ⟨m, hm0, hmr⟩ := hsl e1 e2
        exact refs h' m p t _ hm0 (by omega) (h2.imp id (fun h2 => by omega)) hmr
      | addr h' ver p t =>
        intro h1
        simp only [VerOk, Young] at hv
        have hm := mild.ver h'
        have e1 : (σ.get h').ver = ver := by omega
        obtain ⟨m, hm0, hmr⟩ := hsl e1
        exact addrs h' m p t _ hm0 (by omega) hmr
  · intro n d b hb
    rw [mild.gd] at hb
    rw [hgd n d b hb]
    exact R.gd n d b hb
  · intro n
    cases hh : (σ.get n).s.isHome with
    | true => exact hver n hh
    | false =>
      rw [mild.same n hh]
      exact (R.ver n).keep mild.ver
end

mutual
theorem Fr.plainAny {w w' : World} {fz fz' : Nat → Prop} : (t : Ty) → {v : D t} → {cs : List Value} → t.plain = true → Fr P t w fz v cs → Fr P t w' fz' v cs
  | .int k, v, cs, hp, h => by simp only [Fr] at h ⊢; exact h
  | .bool, v, cs, hp, h => by simp only [Fr] at h ⊢; exact h
  | .agg f, v, cs, hp, h => by simp only [Fr] at h ⊢; exact FrL.plainAny f hp h
  | .arr n t, v, cs, hp, h => by simp only [Fr] at h ⊢; exact ⟨h.1, h.2.1, fun i x hx => Fr.plainAny t hp (h.2.2 i x hx)⟩
  | .sl e t, v, cs, hp, h => by simp [Ty.plain] at hp
  | .fn a q, v, cs, hp, h => by simp [Ty.plain] at hp
theorem FrL.plainAny {w w' : World} {fz fz' : Nat → Prop} : (ts : Tys) → {v : DL ts} → {cs : List Value} → ts.plain = true → FrL P ts w fz v cs → FrL P ts w' fz' v cs
  | .nil, v, cs, hp, h => by simp only [FrL] at h ⊢; exact h
  | .cons t ts, v, cs, hp, h => by
    simp only [FrL] at h ⊢
    simp only [Tys.plain, Bool.and_eq_true] at hp
    obtain ⟨c1, c2, rfl, h1, h2⟩ := h
    exact ⟨c1, c2, rfl, Fr.plainAny t hp.1 h1, FrL.plainAny ts hp.2 h2⟩
end

/-- What lies under a place goes elsewhere; what is frozen is not spoken of. -/
structure GoesS (w : World) (g : Gh) (r : Root) (π : List Nat) (w' : World) (g' : Gh) (r' : Root) (π' : List Nat) : Prop where
  own : ∀ b q, g.st b = some (r, π ++ q) → g'.st b = some (r', π' ++ q) ∧ w'.heap[b]? = w.heap[b]?
  base : ∀ q, g.B r (π ++ q) = g'.B r' (π' ++ q)
theorem GoesS.sub {w w' : World} {g g' : Gh} {r r' : Root} {π π' : List Nat} (h : GoesS w g r π w' g' r' π') (p : List Nat) : GoesS w g r (π ++ p) w' g' r' (π' ++ p) where
  own b q hb := by
    rw [List.append_assoc] at hb ⊢
    exact h.own b (p ++ q) hb
  base q := by
    rw [List.append_assoc, List.append_assoc]
    exact h.base (p ++ q)
theorem Goes.toS {w w' : World} {g g' : Gh} {r r' : Root} {π π' : List Nat} (h : Goes w g r π w' g' r' π') : GoesS w g r π w' g' r' π' := ⟨h.own, h.base⟩

mutual
theorem Rp.goS {w w' : World} {g g' : Gh} {r r' : Root} : (t : Ty) → {π π' : List Nat} → {sh : Sh} → {v : D t} → {cs : List Value} → selfc t sh = true → GoesS w g r π w' g' r' π' →
    Rp P w g r t π sh v cs → Rp P w' g' r' t π' sh v cs
  | .int k, π, π', sh, v, cs, hs, o, h => by simp only [Rp] at h ⊢; exact h.imp (fun x => ⟨x.1, by have := x.2; simp only [Fr] at this ⊢; exact this⟩) id
  | .bool, π, π', sh, v, cs, hs, o, h => by simp only [Rp] at h ⊢; exact h.imp (fun x => ⟨x.1, by have := x.2; simp only [Fr] at this ⊢; exact this⟩) id
  | .fn a q, π, π', sh, v, cs, hs, o, h => by simp [selfc] at hs
  | .arr n t, π, π', sh, v, cs, hs, o, h => by
    simp only [selfc] at hs
    simp only [Rp] at h ⊢
    exact h.imp (fun x => ⟨x.1, Fr.plainAny (.arr n t) (by simpa [Ty.plain] using hs) x.2⟩) id
  | .agg f, π, π', sh, v, cs, hs, o, h => by
    simp only [Rp] at h ⊢
    rcases h with ⟨rfl, h⟩ | ⟨rfl, h⟩ | h
    · simp only [selfc] at hs
      exact .inl ⟨rfl, FrL.plainAny f hs h⟩
    · exact .inr (.inl ⟨rfl, h⟩)
    · refine .inr (.inr ?_)
      cases f with
      | nil => simp only [RpL] at h ⊢; exact h
      | cons t ts =>
        have hs' : selfcL (.cons t ts) sh = true := by
          simp only [RpL] at h
          obtain ⟨s, rest, rfl, _⟩ := h
          simpa [selfc] using hs
        exact RpL.goS _ hs' o h
  | .sl e t, π, π', sh, v, cs, hs, o, h => by
    simp only [Rp] at h ⊢
    rcases h with ⟨rfl, h⟩ | ⟨rfl, h⟩ | h | ⟨s, rfl, a, xs, hc, how, hb, he⟩
    · simp [selfc] at hs
    · simp [selfc] at hs
    · exact .inr (.inr (.inl h))
    · simp only [selfc] at hs
      have ho : ∀ b, a.ownBlock = some b → g'.st b = some (r', π') ∧ w'.heap[b]? = w.heap[b]? := fun b hab => by
        have := o.own b [] (by rw [List.append_nil]; exact (hb b hab).2)
        rwa [List.append_nil] at this
      refine .inr (.inr (.inr ⟨s, rfl, a, xs, hc, ownsRow_congr how (fun b hab => (ho b hab).2), fun b hab => ⟨?_, (ho b hab).1⟩, fun i x hx => Rp.goS t hs (o.sub [i]) (he i x hx)⟩))
      have := o.base []
      rw [List.append_nil, List.append_nil] at this
      rw [← this]; exact (hb b hab).1
theorem RpL.goS {w w' : World} {g g' : Gh} {r r' : Root} : (ts : Tys) → {π π' : List Nat} → {k : Nat} → {sh : Sh} → {v : DL ts} → {cs : List Value} → selfcL ts sh = true → GoesS w g r π w' g' r' π' →
    RpL P w g r ts π k sh v cs → RpL P w' g' r' ts π' k sh v cs
  | .nil, π, π', k, sh, v, cs, hs, o, h => by simp only [RpL] at h ⊢; exact h
  | .cons t ts, π, π', k, sh, v, cs, hs, o, h => by
    simp only [RpL] at h ⊢
    obtain ⟨s, rest, rfl, c1, c2, hc, h1, h2⟩ := h
    simp only [selfcL, Bool.and_eq_true] at hs
    exact ⟨s, rest, rfl, c1, c2, hc, Rp.goS t hs.1 (o.sub [k]) h1, RpL.goS ts hs.2 o h2⟩
end

theorem shFld_setI : (sh : Sh) → {sh' s : Sh} → {i : Nat} → sh.setI i s = some sh' → (sh'.get i = s ∧ ∀ j, j ≠ i → sh'.get j = sh.get j) ∧ (∃ a r, sh = .cons a r) ∧ ∃ a r, sh' = .cons a r
  | .cons a r, sh', s, 0, h => by
    simp only [Sh.setI, Option.some.injEq] at h
    subst h
    refine ⟨⟨rfl, fun j hj => ?_⟩, ⟨_, _, rfl⟩, _, _, rfl⟩
    cases j with
    | zero => exact absurd rfl hj
    | succ j => rfl
  | .cons a r, sh', s, i + 1, h => by
    simp only [Sh.setI] at h
    cases hr : r.setI i s with
    | none => rw [hr] at h; simp at h
    | some r' =>
      rw [hr] at h
      simp only [Option.map_some, Option.some.injEq] at h
      subst h
      obtain ⟨⟨h1, h2⟩, _⟩ := shFld_setI r hr
      refine ⟨⟨h1, fun j hj => ?_⟩, ⟨_, _, rfl⟩, _, _, rfl⟩
      cases j with
      | zero => rfl
      | succ j => exact h2 j (by omega)
  | .fz, sh', s, i, h => by cases i <;> simp [Sh.setI] at h
  | .gone, sh', s, i, h => by cases i <;> simp [Sh.setI] at h
  | .emp, sh', s, i, h => by cases i <;> simp [Sh.setI] at h
  | .nil, sh', s, i, h => by cases i <;> simp [Sh.setI] at h
  | .own s', sh', s, i, h => by cases i <;> simp [Sh.setI] at h

theorem noGone_setI : (sh : Sh) → {sh' s : Sh} → {i : Nat} → sh.setI i s = some sh' → sh.noGone = true → s.noGone = true → sh'.noGone = true
  | .cons a r, sh', s, 0, h, h1, h2 => by
    simp only [Sh.setI, Option.some.injEq] at h
    subst h
    simp only [Sh.noGone, Bool.and_eq_true] at h1 ⊢
    exact ⟨h2, h1.2⟩
  | .cons a r, sh', s, i + 1, h, h1, h2 => by
    simp only [Sh.setI] at h
    cases hr : r.setI i s with
    | none => rw [hr] at h; simp at h
    | some r' =>
      rw [hr] at h
      simp only [Option.map_some, Option.some.injEq] at h
      subst h
      simp only [Sh.noGone, Bool.and_eq_true] at h1 ⊢
      exact ⟨h1.1, noGone_setI r hr h1.2 h2⟩
  | .fz, sh', s, i, h, _, _ => by cases i <;> simp [Sh.setI] at h
  | .gone, sh', s, i, h, _, _ => by cases i <;> simp [Sh.setI] at h
  | .emp, sh', s, i, h, _, _ => by cases i <;> simp [Sh.setI] at h
  | .nil, sh', s, i, h, _, _ => by cases i <;> simp [Sh.setI] at h
  | .own s', sh', s, i, h, _, _ => by cases i <;> simp [Sh.setI] at h
theorem noGone_get : (sh : Sh) → (i : Nat) → sh.noGone = true → sh.get i = .gone ∨ (sh.get i).noGone = true
  | .cons a r, 0, h => by simp only [Sh.noGone, Bool.and_eq_true] at h; exact .inr h.1
  | .cons a r, i + 1, h => by simp only [Sh.noGone, Bool.and_eq_true] at h; exact noGone_get r i h.2
  | .fz, i, h => by cases i <;> exact .inr rfl
  | .gone, i, h => by cases i <;> exact .inl rfl
  | .emp, i, h => by cases i <;> exact .inl rfl
  | .nil, i, h => by cases i <;> exact .inl rfl
  | .own s, i, h => by cases i <;> exact .inl rfl
theorem weak_gone (p : Path) (sh' : Sh) : weakSh .gone p = some sh' → False := by
  intro h
  cases p with
  | nil => simp [weakSh, Sh.noGone] at h
  | cons s p => cases s <;> simp [weakSh] at h
theorem noGone_weak : (p : Path) → {sh sh' : Sh} → weakSh sh p = some sh' → sh.noGone = true → sh'.noGone = true
  | [], sh, sh', h, hn => by
    have : weakSh sh [] = if sh.noGone then some .fz else none := by cases sh <;> rfl
    rw [this, if_pos hn] at h
    simp only [Option.some.injEq] at h
    subst h; rfl
  | s :: p, sh, sh', h, hn => by
    cases sh <;> cases s <;> simp only [weakSh] at h <;> try (cases h; done)
    · simp only [Option.some.injEq] at h; subst h; rfl
    · simp only [Option.some.injEq] at h; subst h; rfl
    · rename_i a i
      cases h1 : weakSh a p with
      | none => rw [h1] at h; simp at h
      | some b =>
        rw [h1] at h
        simp only [Option.bind_some, Option.some.injEq] at h
        subst h
        simp only [Sh.noGone] at hn ⊢
        exact noGone_weak p h1 hn
    · rename_i a r i
      cases h1 : weakSh ((Sh.cons a r).get i) p with
      | none => rw [h1] at h; simp at h
      | some b =>
        rw [h1] at h
        simp only [Option.bind_some] at h
        refine noGone_setI _ h hn (noGone_weak p h1 ?_)
        rcases noGone_get (.cons a r) i hn with hg | hg
        · rw [hg] at h1; exact absurd h1 (fun h => weak_gone p _ h)
        · exact hg

/-- A way that fitted fits on, or all behind it is frozen. -/
theorem weak_at : (p : Path) → (p2 : Path) → (t : Ty) → {sh sh' : Sh} → {v : D t} → weakSh sh p = some sh' → Valid t sh v p2 → (shAt sh p2).noGone = true →
    (Valid t sh' v p2 ∧ wk (shAt sh p2) (shAt sh' p2) = true ∧ (shAt sh' p2).noGone = true) ∨ (∀ q, fate sh' (posP p2 ++ q) = .frozen)
  | p, [], t, sh, sh', v, h, hv, hn => by
    rw [shAt_nil] at hn ⊢
    rw [shAt_nil]
    exact .inl ⟨by simp [Valid], wk_weak p h, noGone_weak p h hn⟩
  | [], p2, t, sh, sh', v, h, hv, hn => .inr fun q => by
    have : weakSh sh [] = if sh.noGone then some .fz else none := by cases sh <;> rfl
    rw [this] at h
    split at h
    · simp only [Option.some.injEq] at h; subst h; rfl
    · cases h
  | s :: p, .fld j :: p2, .agg f, sh, sh', v, h, hv, hn => by
    simp only [Valid] at hv ⊢
    rw [shAt_fld] at hn ⊢
    rw [shAt_fld]
    cases sh <;> cases s <;> simp only [weakSh] at h <;> try (cases h; done)
    · simp only [Option.some.injEq] at h; subst h; exact .inr fun q => rfl
    · simp only [Option.some.injEq] at h; subst h; exact .inr fun q => rfl
    · -- a row is no struct
      rename_i a i
      exfalso
      have : shFld (.own a) j = .gone := rfl
      rw [this, shAt_gone] at hn
      simp [Sh.noGone] at hn
    · rename_i a r i
      cases h1 : weakSh ((Sh.cons a r).get i) p with
      | none => rw [h1] at h; simp at h
      | some b =>
        rw [h1] at h
        simp only [Option.bind_some] at h
        obtain ⟨⟨e1, e2⟩, _, a', r', rfl⟩ := shFld_setI _ h
        simp only [shFld] at hn hv ⊢
        by_cases hij : j = i
        · subst hij
          rw [e1]
          rcases weak_at p p2 (f.get j) h1 hv.2 hn with ⟨k1, k2, k3⟩ | k
          · exact .inl ⟨⟨hv.1, k1⟩, k2, k3⟩
          · refine .inr fun q => ?_
            show fate (Sh.cons a' r') (j :: (posP p2 ++ q)) = _
            rw [fate_setI _ h]; exact k q
        · rw [e2 j hij]
          exact .inl ⟨⟨hv.1, hv.2⟩, (wk_refl _).1, hn⟩
  | s :: p, .idx j :: p2, .sl e t, .own a, sh', v, h, hv, hn => by
    simp only [Valid] at hv
    simp only [shAt] at hn ⊢
    cases s <;> simp only [weakSh] at h <;> try (cases h; done)
    cases h1 : weakSh a p with
    | none => rw [h1] at h; simp at h
    | some b =>
      rw [h1] at h
      simp only [Option.bind_some, Option.some.injEq] at h
      subst h
      simp only [Valid, shAt]
      rcases weak_at p p2 t h1 hv.2 hn with ⟨k1, k2, k3⟩ | k
      · exact .inl ⟨⟨hv.1, k1⟩, k2, k3⟩
      · refine .inr fun q => ?_
        show fate (Sh.own b) (j.toNat :: (posP p2 ++ q)) = _
        simp only [fate]; exact k q
  | s :: p, .idx j :: p2, .arr n t, sh, sh', v, h, hv, hn => by
    simp only [Valid] at hv
    obtain ⟨rfl, hv⟩ := hv
    cases s <;> simp only [weakSh, Option.some.injEq] at h <;> subst h <;> exact .inr fun q => rfl
  | _ :: _, .idx _ :: _, .sl _ _, .fz, _, _, _, hv, _ => by simp [Valid] at hv
  | _ :: _, .idx _ :: _, .sl _ _, .gone, _, _, _, hv, _ => by simp [Valid] at hv
  | _ :: _, .idx _ :: _, .sl _ _, .emp, _, _, _, hv, _ => by simp [Valid] at hv
  | _ :: _, .idx _ :: _, .sl _ _, .nil, _, _, _, hv, _ => by simp [Valid] at hv
  | _ :: _, .idx _ :: _, .sl _ _, .cons _ _, _, _, _, hv, _ => by simp [Valid] at hv
  | _ :: _, .fld _ :: _, .int _, _, _, _, _, hv, _ => by simp [Valid] at hv
  | _ :: _, .fld _ :: _, .bool, _, _, _, _, hv, _ => by simp [Valid] at hv
  | _ :: _, .fld _ :: _, .fn _ _, _, _, _, _, hv, _ => by simp [Valid] at hv
  | _ :: _, .fld _ :: _, .sl _ _, _, _, _, _, hv, _ => by simp [Valid] at hv
  | _ :: _, .fld _ :: _, .arr _ _, _, _, _, _, hv, _ => by simp [Valid] at hv
  | _ :: _, .idx _ :: _, .int _, _, _, _, _, hv, _ => by simp [Valid] at hv
  | _ :: _, .idx _ :: _, .bool, _, _, _, _, hv, _ => by simp [Valid] at hv
  | _ :: _, .idx _ :: _, .fn _ _, _, _, _, _, hv, _ => by simp [Valid] at hv
  | _ :: _, .idx _ :: _, .agg _, _, _, _, _, hv, _ => by simp [Valid] at hv

theorem fate_get : (sh : Sh) → (i : Nat) → (q : List Nat) → fate (sh.get i) q = .dropped ∨ fate (sh.get i) q = fate sh (i :: q)
  | .cons a r, 0, q => .inr rfl
  | .cons a r, i + 1, q => by simp only [Sh.get, fate]; exact fate_get r i q
  | .fz, i, q => by cases i <;> exact .inr rfl
  | .gone, i, q => by cases i <;> exact .inl rfl
  | .emp, i, q => by cases i <;> exact .inl rfl
  | .nil, i, q => by cases i <;> exact .inl rfl
  | .own s, i, q => by cases i <;> exact .inl rfl
theorem Turns.fld {w w' : World} {g g' : Gh} {r r' : Root} {π π' : List Nat} {sh : Sh} (h : Turns w g r π sh w' g' r' π') (i : Nat) : Turns w g r (π ++ [i]) (shFld sh i) w' g' r' (π' ++ [i]) := by
  have hf : ∀ q, fate (shFld sh i) q = .dropped ∨ fate (shFld sh i) q = fate sh (i :: q) := by
    intro q
    cases sh with
    | fz => exact .inr rfl
    | cons a r => exact fate_get _ i q
    | _ => exact .inl rfl
  refine ⟨h.old, fun b q hb => ?_, fun q hq => ?_⟩
  · rcases hf q with e | e
    · rw [e]; trivial
    · have := h.own b (i :: q) (by simpa using hb)
      rw [← e] at this
      simpa using this
  · rcases hf q with e | e
    · rw [e] at hq; cases hq
    · rw [e] at hq
      have := h.base (i :: q) hq
      simpa using this
theorem Turns.at {w w' : World} {g g' : Gh} {r r' : Root} : (p : Path) → (t : Ty) → {π π' : List Nat} → {sh : Sh} → {v : D t} → Turns w g r π sh w' g' r' π' → Valid t sh v p → Turns w g r (π ++ posP p) (shAt sh p) w' g' r' (π' ++ posP p)
  | [], t, π, π', sh, v, h, hv => by rw [shAt_nil]; simpa [posP] using h
  | .fld i :: p, .agg f, π, π', sh, v, h, hv => by
    simp only [Valid] at hv
    rw [shAt_fld]
    have := Turns.at p (f.get i) (h.fld i) hv.2
    simpa [posP, posS] using this
  | .idx i :: p, .sl e t, π, π', sh, v, h, hv => by
    cases sh with
    | own a =>
      simp only [Valid] at hv
      have := Turns.at p t (h.elem i.toNat) hv.2
      simpa [posP, posS, shAt] using this
    | _ => simp [Valid] at hv
  | .idx i :: p, .arr n t, π, π', sh, v, h, hv => by
    simp only [Valid] at hv
    obtain ⟨rfl, _, hv⟩ := hv
    have h1 : Turns w g r (π ++ [i.toNat]) .fz w' g' r' (π' ++ [i.toNat]) := ⟨h.old, fun b q hb => by have := h.own b (i.toNat :: q) (by simpa using hb); simpa [fate] using this, fun q hq => by simp [fate] at hq⟩
    have := Turns.at p t h1 hv
    rw [shAt_fz] at this ⊢
    simpa [posP, posS] using this
  | .fld _ :: _, .int _, _, _, _, _, _, hv => by simp [Valid] at hv
  | .fld _ :: _, .bool, _, _, _, _, _, hv => by simp [Valid] at hv
  | .fld _ :: _, .fn _ _, _, _, _, _, _, hv => by simp [Valid] at hv
  | .fld _ :: _, .sl _ _, _, _, _, _, _, hv => by simp [Valid] at hv
  | .fld _ :: _, .arr _ _, _, _, _, _, _, hv => by simp [Valid] at hv
  | .idx _ :: _, .int _, _, _, _, _, _, hv => by simp [Valid] at hv
  | .idx _ :: _, .bool, _, _, _, _, _, hv => by simp [Valid] at hv
  | .idx _ :: _, .fn _ _, _, _, _, _, _, hv => by simp [Valid] at hv
  | .idx _ :: _, .agg _, _, _, _, _, _, hv => by simp [Valid] at hv

/-- A value that is frozen, or lent by a home. -/
def LentOr (P : Program) (w : World) (g : Gh) (σ : Env) (fr : List (Nat × Path)) (t : Ty) (x : D t) (v : Value) : Prop :=
  FrV P t w g.fz x v ∨ ∃ h p m, (h, p) ∈ fr ∧ homeOf (σ.get h).s = some m ∧ tyAt m.t p = some t ∧ Valid m.t m.sh m.v p ∧ ∃ π, π = m.k.base ++ posP p ∧ RpV P w g (.inl h) t π (shAt m.sh p) x v ∧ (shAt m.sh p).noGone = true
theorem LentOr.mono {w : World} {g : Gh} {σ : Env} {fr fr' : List (Nat × Path)} {t : Ty} {x : D t} {v : Value} (h : LentOr P w g σ fr t x v) (hf : ∀ y ∈ fr, y ∈ fr') : LentOr P w g σ fr' t x v := by
  rcases h with h | ⟨h, p, m, h1, rest⟩
  · exact .inl h
  · exact .inr ⟨h, p, m, hf _ h1, rest⟩

section
variable {α R' : Type} {A : Nat → Value} {w : World} {g : Gh} {tm : Array Value} {σ : Env} {c : G} {K : α → Env → Option R'} {r : R'}

/-- All that is lent is frozen. -/
theorem freezeAll_ok : (fr : List (Nat × Path)) → {k : Acc α} → {g : Gh} → {σ : Env} → Rel P A w g tm σ → (freezeAll fr k).run σ K = some r →
    ∃ g' σ', k.run σ' K = some r ∧ Rel P A w g' tm σ' ∧ Mild σ σ' ∧ Ext w g w g' ∧ (∀ h, (∀ p, (h, p) ∉ fr) → σ'.get h = σ.get h) ∧ Keeps (fun r => ∃ h, r = .inl h ∧ ∀ p, (h, p) ∉ fr) w g w g' ∧
      (∀ t (x : D t) v, LentOr P w g σ fr t x v → FrV P t w g'.fz x v)
  | [], k, g, σ, R, h => ⟨g, σ, h, R, Mild.refl _, Ext.refl _ _, (fun _ _ => rfl), Keeps.refl _ _ _, fun t x v hl => by
      rcases hl with hl | ⟨h, p, m, h1, _⟩
      · exact hl
      · cases h1⟩
  | (h, p) :: fr, k, g, σ, R, hr => by
    simp only [freezeAll, Acc.run] at hr
    obtain ⟨m, hm, hr⟩ := homeS_ok hr
    split at hr
    · rename_i sh' hsh
      obtain ⟨y, hy, hh, hr⟩ := put_ok hr
      obtain ⟨R1, M⟩ := R.reshape hm hh hy (wk_weak p hsh) (posP p) 7
      obtain ⟨g', σ', hr, R2, M2, E2, hsame, hk, hl⟩ := freezeAll_ok fr R1 hr
      have hk1 := turnG_keeps (g := g) (r0 := .inl h) (π0 := m.k.base) (sh' := sh') (p := posP p) (fk := .inr 7) (τ := []) w
      refine ⟨g', σ', hr, R2, M.mild.trans M2, M.ext.trans E2, fun n hn => ?_, (hk1.mono ?_).trans (hk.mono ?_), fun t x v hlo => ?_⟩
      · rw [hsame n (fun q hq => hn q (List.mem_cons_of_mem _ hq)), Env.turn_get, if_neg]
        intro e; subst e; exact hn p List.mem_cons_self
      · rintro r ⟨n, rfl, hn⟩
        refine ⟨?_, by simp⟩
        intro e
        simp only [Sum.inl.injEq] at e
        subst e; exact hn p List.mem_cons_self
      · rintro r ⟨n, rfl, hn⟩
        exact ⟨n, rfl, fun q hq => hn q (List.mem_cons_of_mem _ hq)⟩
      · apply hl
        have hne : (Sum.inl h : Root) ≠ .inr 7 := by simp
        rcases hlo with hlo | ⟨h2, p2, m2, hmem, hm2, hty, hval, π, hπ, hrv, hng⟩
        · exact .inl ⟨Fr.mono t (turnG_older w) hlo.1, hlo.2⟩
        · subst hπ
          by_cases e : h2 = h
          · subst e
            rw [hm] at hm2
            cases hm2
            rcases weak_at p p2 m.t hsh hval hng with ⟨k1, k2, k3⟩ | k1
            · rcases List.mem_cons.1 hmem with e | hmem
              · -- the very part that is frozen
                cases e
                exact .inl ⟨Rp.freeze t hng (turnG_older w) (fun b q hq => ⟨turnG_frozen (fun q => fate_weak p hsh) b q hq, rfl⟩) hrv.1, hrv.2⟩
              · refine .inr ⟨h2, p2, ⟨m.k, m.t, sh', m.v⟩, hmem, ?_, hty, k1, _, rfl, ⟨?_, hrv.2⟩, k3⟩
                · rw [Env.turn_get, if_pos rfl]; exact wrapS_home hy
                · exact Rp.wk t k2 (Turns.at p2 m.t (turnG_turns hne) k1) hrv.1
            · exact .inl ⟨Rp.freeze t hng (turnG_older w) (fun b q hq => ⟨.inr ⟨posP p2 ++ q, by rw [hq, List.append_assoc], k1 q⟩, rfl⟩) hrv.1, hrv.2⟩
          · have hmem : (h2, p2) ∈ fr := by
              rcases List.mem_cons.1 hmem with e2 | hmem
              · cases e2; exact absurd rfl e
              · exact hmem
            refine .inr ⟨h2, p2, m2, hmem, by rw [Env.turn_get, if_neg e]; exact hm2, hty, hval, _, rfl, RpV.go (hk1.goes ⟨by simpa using e, by simp⟩ _) hrv, hng⟩
    · cases hr

theorem still_ok {C : Ctx} {u : Ty} {i : Nat} {s : S} {x : Value} {k : Sh → D u → Acc α} (hS : SoundC P C) (H : s.isTup = false → Held P A w g σ c s x) (hnr : ∀ h ver pv p t, s ≠ .ref h ver pv p t) (h : (takeAs C c false u i s k).run σ K = some r) :
    ∃ sh v, (k sh v).run σ K = some r ∧ (σ.on c = true → FrV P u w g.fz v x) := by
  have light : ∀ (t : Ty) (sh : Sh) (v : D t), s = .val t sh v → (take c false i s fun x => castK u x.t x.v (k x.sh)).run σ K = some r → ∃ sh v, (k sh v).run σ K = some r ∧ (σ.on c = true → FrV P u w g.fz v x) := by
    intro t sh v hs h
    subst hs
    simp only [take] at h
    obtain ⟨e, h⟩ := castK_ok h
    subst e
    refine ⟨sh, _, h, fun hon => ?_⟩
    have hm := (H rfl).mean hon
    exact ⟨Rp.fr _ (H rfl).light hm.1, hm.2⟩
  cases s with
  | val t sh v => exact light t sh v rfl (by cases u <;> exact h)
  | ref h ver pv p t => exact absurd rfl (hnr _ _ _ _ _)
  | nilc =>
    cases u <;> simp only [takeAs, take] at h <;> try (cases h; done)
    refine ⟨_, _, h, fun hon => ?_⟩
    have hx : x = .slice none 0 0 := (H rfl).mean hon
    subst hx
    exact ⟨by simp [Fr, Value.cells], rfl⟩
  | fnc f =>
    cases u <;> simp only [takeAs, take] at h <;> try (cases h; done)
    split at h
    · rename_i sp hsp
      split at h
      · rename_i hh
        simp only [Bool.and_eq_true, beq_iff_eq, Bool.not_eq_true'] at hh
        obtain ⟨⟨⟨⟨⟨h1, h2⟩, h3⟩, h4⟩, h5⟩, h6⟩ := hh
        split at h
        · rename_i ea er _ _
          subst ea
          subst er
          refine ⟨_, _, h, fun hon => ?_⟩
          have hx : x = .func (.func f) #[] #[] := (H rfl).mean hon
          subst hx
          exact ⟨(hS.spec hsp).value h1 h2 h3 (by omega) h5 h6 w g.fz, rfl⟩
        · cases h
      · cases h
    · cases h
  | undef => cases u <;> simp [takeAs, take, Acc.run] at h
  | strc b => cases u <;> simp [takeAs, take, Acc.run] at h
  | box t sh v => cases u <;> simp [takeAs, take, Acc.run] at h
  | rowp e t sh v => cases u <;> simp [takeAs, take, Acc.run] at h
  | ea t v => cases u <;> simp [takeAs, take, Acc.run] at h
  | addr h' ver p t => cases u <;> simp [takeAs, take, Acc.run] at h
  | tup l => cases u <;> simp [takeAs, take, Acc.run] at h
  | cut => cases u <;> simp [takeAs, take, Acc.run] at h
  | shal => cases u <;> simp [takeAs, take, Acc.run] at h

/-- A value is lent. -/
theorem borrow_ok {C : Ctx} {u : Ty} {i : Nat} {s : S} {x : Value} {k : List (Nat × Path) → D u → Acc α} (hS : SoundC P C) (R : Rel P A w g tm σ) (hc : Gd σ c) (H : s.isTup = false → Held P A w g σ c s x) (h : (borrow C c u i s k).run σ K = some r) :
    ∃ fr v, (k fr v).run σ K = some r ∧ (σ.on c = true → LentOr P w g σ fr u v x) := by
  unfold borrow at h
  split at h
  · rename_i hn ver pv p t
    obtain ⟨m, hm, h', hv, hp, hs⟩ := homeR_ok h
    clear h; have h := h'; clear h'
    split at h
    · rename_i hng
      have hr := fun ho => (H rfl).ref hm hv hp ho
      have key : ∀ (tv : TV), getP m.t m.v p = tv → (match tv with | ⟨t, v⟩ => castK u t v (k (if (shAt m.sh p).isFz then [] else [(hn, p)]))).run σ K = some r → ∃ fr v, (k fr v).run σ K = some r ∧ (σ.on c = true → LentOr P w g σ fr u v x) := by
        intro tv htv h
        obtain ⟨t', v⟩ := tv
        obtain ⟨e, h⟩ := castK_ok h
        subst e
        refine ⟨_, _, h, fun hon => ?_⟩
        obtain ⟨hpt, hval, hrv, hnf⟩ := hr hon
        have e := getP_ty (v := m.v) p hpt
        rw [htv] at e hrv
        simp only at e
        subst e
        rw [hnf]
        exact .inr ⟨hn, p, m, by simp, hm, hpt, hval, _, rfl, hrv, hng⟩
      exact key _ rfl h
    · cases h
  · rename_i hnr
    obtain ⟨sh, v, h, hv⟩ := still_ok hS H hnr h
    exact ⟨[], v, h, fun hon => .inl (hv hon)⟩
end
end Go.Ev

/- Calls: what goes over and what comes back. -/
namespace Go.Ev
open Go.RowKit
variable {P : Program}

/-- A row that is handed over; x: what its home holds. -/
def RowArg (P : Program) (w : World) (g : Gh) (h : Nat) (e : TypeId) (t : Ty) (s : Sh) (l : List (D t)) (v x : Value) : Prop :=
  RpV P w g (.inl h) (.sl e t) [] (.own s) l v ∧ (v = x ∨ (l = [] ∧ (v = .slice none 0 0 ∨ x = .slice none 0 0)))
/-- What the arguments of a call are to the caller. -/
def ArgsC (P : Program) (w : World) (g : Gh) (A : Nat → Value) (tm : Array Value) (σ : Env) (fr : List (Nat × Path)) : (ms : List Md) → (ts : Tys) → DL ts → List Value → List Out → Prop
  | [], .nil, _, vals, os => vals = [] ∧ os = []
  | .fz :: ms, .cons t ts, x, vals, os => ∃ v rest, vals = v :: rest ∧ LentOr P w g σ fr t x.1 v ∧ ArgsC P w g A tm σ fr ms ts x.2 rest os
  | .efz :: ms, .cons t ts, x, vals, os => ∃ v rest, vals = v :: rest ∧ EaR P w g.fz t x.1 v ∧ ArgsC P w g A tm σ fr ms ts x.2 rest os
  | .nilp :: ms, .cons t ts, x, vals, os => ∃ v rest, vals = v :: rest ∧ (t.isSl = true ∧ v = .slice none 0 0) ∧ ArgsC P w g A tm σ fr ms ts x.2 rest os
  | .mut sh :: ms, .cons t ts, x, vals, os => ∃ v rest h os', vals = v :: rest ∧ os = ⟨h, sh, if sh.isFz then 0 else 1⟩ :: os' ∧ homeOf (σ.get h).s = some ⟨.box, t, sh, x.1⟩ ∧ HomeR P w g A h ⟨.box, t, sh, x.1⟩ v ∧ v = tm.getD h undef ∧
      ArgsC P w g A tm σ fr ms ts x.2 rest os'
  | .row s :: ms, .cons (.sl e t) ts, x, vals, os => ∃ v rest h os' k, vals = v :: rest ∧ os = ⟨h, .own s, 1⟩ :: os' ∧ k ≠ .box ∧ homeOf (σ.get h).s = some ⟨k, .sl e t, .own s, x.1⟩ ∧ HomeR P w g A h ⟨k, .sl e t, .own s, x.1⟩ (tm.getD h undef) ∧ RowArg P w g h e t s x.1 v (tm.getD h undef) ∧
      ArgsC P w g A tm σ fr ms ts x.2 rest os'
  | _, _, _, _, _ => False

section
variable {α R' : Type} {A : Nat → Value} {w : World} {g : Gh} {tm : Array Value} {σ : Env} {c : G} {K : α → Env → Option R'} {r : R'} {C : Ctx}

theorem ArgsC.mono {fr fr' : List (Nat × Path)} (hf : ∀ y ∈ fr, y ∈ fr') : (ms : List Md) → (ts : Tys) → {x : DL ts} → {vals : List Value} → {os : List Out} → ArgsC P w g A tm σ fr ms ts x vals os → ArgsC P w g A tm σ fr' ms ts x vals os
  | [], .nil, x, vals, os, h => h
  | .fz :: ms, .cons t ts, x, vals, os, h => by
    simp only [ArgsC] at h ⊢
    obtain ⟨v, rest, h1, h2, h3⟩ := h
    exact ⟨v, rest, h1, h2.mono hf, ArgsC.mono hf ms ts h3⟩
  | .efz :: ms, .cons t ts, x, vals, os, h => by
    simp only [ArgsC] at h ⊢
    obtain ⟨v, rest, h1, h2, h3⟩ := h
    exact ⟨v, rest, h1, h2, ArgsC.mono hf ms ts h3⟩
  | .nilp :: ms, .cons t ts, x, vals, os, h => by
    simp only [ArgsC] at h ⊢
    obtain ⟨v, rest, h1, h2, h3⟩ := h
    exact ⟨v, rest, h1, h2, ArgsC.mono hf ms ts h3⟩
  | .mut sh :: ms, .cons t ts, x, vals, os, h => by
    simp only [ArgsC] at h ⊢
    obtain ⟨v, rest, h, os', h1, h2, h3, h4, h5, h6⟩ := h
    exact ⟨v, rest, h, os', h1, h2, h3, h4, h5, ArgsC.mono hf ms ts h6⟩
  | .row s :: ms, .cons (.sl e t) ts, x, vals, os, h => by
    simp only [ArgsC] at h ⊢
    obtain ⟨v, rest, h, os', k, h1, h2, h3, h4, h5, h6, h7⟩ := h
    exact ⟨v, rest, h, os', k, h1, h2, h3, h4, h5, h6, ArgsC.mono hf ms ts h7⟩
  | [], .cons _ _, x, vals, os, h => by simp only [ArgsC] at h
  | .fz :: _, .nil, x, vals, os, h => by simp only [ArgsC] at h
  | .efz :: _, .nil, x, vals, os, h => by simp only [ArgsC] at h
  | .nilp :: _, .nil, x, vals, os, h => by simp only [ArgsC] at h
  | .mut _ :: _, .nil, x, vals, os, h => by simp only [ArgsC] at h
  | .row _ :: _, .nil, x, vals, os, h => by simp only [ArgsC] at h
  | .row _ :: _, .cons (.int _) _, x, vals, os, h => by simp only [ArgsC] at h
  | .row _ :: _, .cons .bool _, x, vals, os, h => by simp only [ArgsC] at h
  | .row _ :: _, .cons (.agg _) _, x, vals, os, h => by simp only [ArgsC] at h
  | .row _ :: _, .cons (.arr _ _) _, x, vals, os, h => by simp only [ArgsC] at h
  | .row _ :: _, .cons (.fn _ _) _, x, vals, os, h => by simp only [ArgsC] at h

theorem RpL_own {w : World} {g : Gh} {r : Root} : (f : Tys) → {π : List Nat} → {k : Nat} → {s : Sh} → {v : DL f} → {cs : List Value} → ¬ RpL P w g r f π k (.own s) v cs
  | .nil, π, k, s, v, cs, h => by simp only [RpL] at h; cases h.1
  | .cons t ts, π, k, s, v, cs, h => by simp only [RpL] at h; obtain ⟨_, _, h, _⟩ := h; cases h
theorem rowOk_ok {own : Bool} {t : Ty} {k : Acc α} (h : (rowOk own t k).run σ K = some r) : k.run σ K = some r ∧ (own = true ∨ ∃ e u, t = .sl e u ∧ 0 < u.size) := by
  unfold rowOk at h
  split at h
  · rename_i ho
    exact ⟨h, .inl ho⟩
  · split at h
    · rename_i e u
      split at h
      · rename_i hu
        exact ⟨h, .inr ⟨e, u, rfl, hu⟩⟩
      · cases h
    · cases h
theorem row_form {w : World} {g : Gh} {q : Root} {e : TypeId} {u : Ty} {π : List Nat} {sh : Sh} {v : D (.sl e u)} {x : Value} (h : RpV P w g q (.sl e u) π (.own sh) v x) :
    (x = .slice none 0 0 ∧ v = []) ∨ ∃ cap cur, x = .slice (some ⟨g.B q π, 0, none⟩) (List.length v) cap ∧ w.heap[g.B q π]? = some (.cells cur e (0, 0)) ∧ cur.size = cap * u.size := by
  have h1 := h.1
  simp only [Rp] at h1
  rcases h1 with ⟨h9, _⟩ | ⟨h9, _⟩ | ⟨h9, _⟩ | ⟨s, hs, a, xs, hc, hown, hB, _⟩
  · cases h9
  · cases h9
  · cases h9
  · have hx : x = a := by
      have := h.2
      cases x <;> simp_all [Value.cells, isAggV, Ty.isAgg]
    subst hx
    rcases hown.2 with ⟨rfl, hn⟩ | ⟨b, cap, cur, rfl, _, hb, _, _, hsz, _⟩
    · exact .inl ⟨rfl, List.eq_nil_of_length_eq_zero hn⟩
    · have := (hB b rfl).1
      subst this
      exact .inr ⟨cap, cur, rfl, hb, hsz⟩
theorem row_same {w : World} {g : Gh} {q : Root} {e : TypeId} {u : Ty} {sh : Sh} {v : D (.sl e u)} {x y : Value} (hu : 0 < u.size)
    (h : RpV P w g q (.sl e u) [] (.own sh) v x) (h2 : RpV P w g q (.sl e u) [] (.own sh) v y) : x = y ∨ (v = [] ∧ (x = .slice none 0 0 ∨ y = .slice none 0 0)) := by
  rcases row_form h with ⟨h3, h4⟩ | ⟨c1, u1, rfl, hb1, hs1⟩
  · exact .inr ⟨h4, .inl h3⟩
  · rcases row_form h2 with ⟨h3, h4⟩ | ⟨c2, u2, rfl, hb2, hs2⟩
    · exact .inr ⟨h4, .inr h3⟩
    · rw [hb1] at hb2
      cases hb2
      have : c1 = c2 := Nat.eq_of_mul_eq_mul_right hu (hs1.symm.trans hs2)
      rw [this]; exact .inl rfl
theorem row_nil {w : World} {g : Gh} {q : Root} {e : TypeId} {u : Ty} {π : List Nat} {sh : Sh} {v : D (.sl e u)} (h : RpV P w g q (.sl e u) π (.own sh) v (.slice none 0 0)) : v = [] := by
  rcases row_form h with ⟨_, h⟩ | ⟨_, _, h, _⟩
  · exact h
  · cases h
theorem row_nil_mk {w : World} {g : Gh} {q : Root} {e : TypeId} {u : Ty} {π : List Nat} {sh : Sh} : RpV P w g q (.sl e u) π (.own sh) [] (.slice none 0 0) := by
  refine ⟨?_, rfl⟩
  simp only [Rp]
  exact .inr (.inr (.inr ⟨sh, rfl, _, [], rfl, ⟨by simp, .inl ⟨rfl, rfl⟩⟩, (fun b hb => by cases hb), (fun i x hx => by cases hx)⟩))
theorem row_len {w w' : World} {g g' : Gh} {q q' : Root} {e : TypeId} {u : Ty} {π π' : List Nat} {sh sh' : Sh} {v : D (.sl e u)} {y : D (.sl e u)} {x : Value} (h : RpV P w g q (.sl e u) π (.own sh) v x) (h2 : RpV P w' g' q' (.sl e u) π' (.own sh') y x) (hv : v = []) : y = [] := by
  subst hv
  rcases row_form h with ⟨rfl, _⟩ | ⟨c1, u1, rfl, _⟩
  · exact row_nil h2
  · rcases row_form h2 with ⟨h, _⟩ | ⟨c2, u2, h, _⟩
    · cases h
    · simp only [Value.slice.injEq] at h
      exact List.eq_nil_of_length_eq_zero h.2.1.symm

theorem args_ok (ds : List Deferred) (hS : SoundC P C) (R : Rel P A w g tm σ) (hc : Gd σ c) (hcg : c.isEmpty = true → σ.on c = true) : (ms : List Md) → (ts : Tys) → (xs : List Operand) → {k : List (Nat × Path) → List Out → DL ts → Acc α} → (args C c (σ.on c) ms ts xs k).run σ K = some r →
    ∃ fr os vs, (k fr os vs).run σ K = some r ∧ (σ.on c = true → ArgsC P w g A tm σ fr ms ts vs (xs.map (Act.eval ⟨tm, ds⟩)) os)
  | [], .nil, [], k, h => ⟨[], [], (), h, fun _ => by simp [ArgsC]⟩
  | m :: ms, .cons t ts, x :: xs, k, h => by
    rw [args] at h
    obtain ⟨i, s, h', H, hslot, hform⟩ := rd_ok R ds h
    clear h; have h := h'; clear h'
    cases m with
    | fz =>
      simp only at h
      obtain ⟨fr, v, h', hv⟩ := borrow_ok hS R hc H h
      clear h; have h := h'; clear h'
      obtain ⟨fr2, os, vs, h, ha⟩ := args_ok ds hS R hc hcg ms ts xs h
      refine ⟨_, _, _, h, fun hon => ?_⟩
      simp only [ArgsC, List.map_cons]
      exact ⟨_, _, rfl, (hv hon).mono (fun y hy => List.mem_append_left _ hy), ArgsC.mono (fun y hy => List.mem_append_right _ hy) ms ts (ha hon)⟩
    | efz =>
      simp only at h
      cases s <;> simp only at h <;> try (cases h; done)
      rename_i u v
      obtain ⟨e, h⟩ := castK_ok h
      subst e
      obtain ⟨fr2, os, vs, h, ha⟩ := args_ok ds hS R hc hcg ms ts xs h
      refine ⟨_, _, _, h, fun hon => ?_⟩
      simp only [ArgsC, List.map_cons]
      exact ⟨_, _, rfl, (H rfl).mean hon, ha hon⟩
    | nilp =>
      simp only at h
      cases s <;> (try simp only at h) <;> try (cases h; done)
      split at h
      · rename_i hsl
        obtain ⟨fr2, os, vs, h, ha⟩ := args_ok ds hS R hc hcg ms ts xs h
        refine ⟨_, _, _, h, fun hon => ?_⟩
        simp only [ArgsC, List.map_cons]
        exact ⟨_, _, rfl, ⟨hsl, (H rfl).mean hon⟩, ha hon⟩
      · cases h
    | «mut» sh =>
      simp only at h
      cases s <;> (try simp only at h) <;> try (cases h; done)
      rename_i hn ver p u
      cases p <;> simp only at h <;> try (cases h; done)
      obtain ⟨m, hm, h', hv, hs⟩ := homeA_ok h
      clear h; have h := h'; clear h'
      obtain ⟨mk, mt, msh, mv⟩ := m
      cases mk <;> simp only at h <;> try (cases h; done)
      split at h
      · rename_i hsh
        subst hsh
        obtain ⟨e, h⟩ := castK_ok h
        subst e
        obtain ⟨fr2, os, vs, h, ha⟩ := args_ok ds hS R hc hcg ms ts xs h
        refine ⟨_, _, _, h, fun hon => ?_⟩
        simp only [ArgsC, List.map_cons]
        have hsl := R.slot hn (on_sub hs hon)
        rw [SR_home hm] at hsl
        obtain ⟨_, _, b, o, hx, hadr⟩ := (H rfl).addr hm hv hon
        have heq : Act.eval ⟨tm, ds⟩ x = tm.getD hn undef := by
          obtain ⟨b0, c0, e0, hx0, hB, _⟩ := hsl
          rw [adrF_nil] at hadr
          simp only [HK.cur, Option.some.injEq, Prod.mk.injEq] at hadr
          rw [hx, hx0, ← hB, ← hadr.1, ← hadr.2]
        exact ⟨_, _, hn, os, rfl, rfl, hm, by rw [heq]; exact hsl, heq, ha hon⟩
      · cases h
    | row sh =>
      simp only at h
      cases s <;> (try simp only at h) <;> try (cases h; done)
      rename_i hn ver pv p u
      cases p <;> simp only at h <;> try (cases h; done)
      obtain ⟨m, hm, h', hv, hp, hs⟩ := homeR_ok h
      clear h; have h := h'; clear h'
      obtain ⟨mk, mt, msh, mv⟩ := m
      have main : mk ≠ .box → (if (decide (msh = .own sh) && sh.isFz) = true then castK t mt mv fun v => rowOk (hn == i) t (args C c (σ.on c) ms ts xs fun l o vs => k l (⟨hn, .own sh, 1⟩ :: o) (v, vs)) else .fail).run σ K = some r →
          ∃ fr os vs, (k fr os vs).run σ K = some r ∧ (σ.on c = true → ArgsC P w g A tm σ fr (.row sh :: ms) (.cons t ts) vs ((x :: xs).map (Act.eval ⟨tm, ds⟩)) os) := by
        intro hk h2
        clear h; have h := h2; clear h2
        split at h
        · rename_i hh
          simp only [Bool.and_eq_true, decide_eq_true_eq] at hh
          obtain ⟨rfl, hfz⟩ := hh
          obtain ⟨e, h⟩ := castK_ok h
          subst e
          obtain ⟨h', hrow⟩ := rowOk_ok h
          clear h; have h := h'; clear h'
          obtain ⟨fr2, os, vs, h, ha⟩ := args_ok ds hS R hc hcg ms ts xs h
          refine ⟨_, _, _, h, fun hon => ?_⟩
          have hsl := R.slot hn (on_sub hs hon)
          rw [SR_home hm] at hsl
          have hrv : RpV P w g (.inl hn) mt [] (.own sh) mv (tm.getD hn undef) := by
            cases mk with
            | val => exact hsl
            | rowp => exact hsl.1
            | box => exact absurd rfl hk
          have hty : ∃ e t', mt = .sl e t' := by
            have hr := hrv.1
            cases mt <;> simp only [Rp] at hr
            · rcases hr with ⟨h9, _⟩ | ⟨h9, _⟩ <;> cases h9
            · rcases hr with ⟨h9, _⟩ | ⟨h9, _⟩ <;> cases h9
            · rcases hr with ⟨h9, _⟩ | ⟨h9, _⟩ | h9
              · cases h9
              · cases h9
              · exact absurd h9 (RpL_own _)
            · exact ⟨_, _, rfl⟩
            · rcases hr with ⟨h9, _⟩ | ⟨h9, _⟩ <;> cases h9
            · rcases hr with ⟨h, _⟩ | ⟨h, _⟩ <;> cases h
          obtain ⟨e, t', rfl⟩ := hty
          simp only [ArgsC, List.map_cons]
          refine ⟨_, _, hn, os, mk, rfl, rfl, hk, hm, hsl, ?_, ha hon⟩
          rcases hrow with he | ⟨e, u, hmt, hu⟩
          · have hx : x = .tmp hn := by
              rcases hform with ⟨j, rfl⟩ | ⟨v, hv⟩ | ⟨f, hf⟩
              · rw [eq_of_beq he, (hslot j rfl).1]
              · unfold lit at hv; split at hv <;> cases hv
              · cases hf
            rw [hx]
            exact ⟨hrv, .inl rfl⟩
          · cases hmt
            have hr := (H rfl).ref hm hv hp hon
            have hb : mk.base = [] := by cases mk with | box => exact absurd rfl hk | val => rfl | rowp => rfl
            have h3 := hr.2.2.1
            simp only [posP, hb, getP, shAt] at h3
            exact ⟨h3, row_same hu h3 hrv⟩
        · cases h
      cases mk with
      | val => exact main (by simp) h
      | rowp => exact main (by simp) h
      | box => cases h
  | [], .nil, _ :: _, k, h => by simp [args, Acc.run] at h
  | [], .cons _ _, _, k, h => by simp [args, Acc.run] at h
  | _ :: _, .nil, _, k, h => by simp [args, Acc.run] at h
  | _ :: _, .cons _ _, [], k, h => by simp [args, Acc.run] at h
end

def isNilRow : Value → Bool
  | .slice none 0 0 => true
  | _ => false
theorem isNilRow_eq {v : Value} (h : isNilRow v = true) : v = .slice none 0 0 := by
  unfold isNilRow at h
  split at h
  · rfl
  · cases h
/-- The parameters and the homes that are written for them. -/
def pmOf : List Md → List Out → List Value → Nat → List (Nat × Nat)
  | .fz :: ms, os, _ :: vs, n => pmOf ms os vs (n + 1)
  | .efz :: ms, os, _ :: vs, n => pmOf ms os vs (n + 1)
  | .nilp :: ms, os, _ :: vs, n => pmOf ms os vs (n + 1)
  | .mut _ :: ms, o :: os, _ :: vs, n => (n, o.h) :: pmOf ms os vs (n + 1)
  | .row _ :: ms, o :: os, v :: vs, n => if isNilRow v then pmOf ms os vs (n + 1) else (n, o.h) :: pmOf ms os vs (n + 1)
  | _, _, _, _ => []
theorem pmOf_le : (ms : List Md) → (os : List Out) → (vs : List Value) → (n : Nat) → ∀ x ∈ pmOf ms os vs n, n ≤ x.1 ∧ ∃ o ∈ os, o.h = x.2
  | .fz :: ms, os, _ :: vs, n, x, h => by
    have := pmOf_le ms os vs (n + 1) x (by simpa only [pmOf] using h)
    exact ⟨by omega, this.2⟩
  | .efz :: ms, os, _ :: vs, n, x, h => by
    have := pmOf_le ms os vs (n + 1) x (by simpa only [pmOf] using h)
    exact ⟨by omega, this.2⟩
  | .nilp :: ms, os, _ :: vs, n, x, h => by
    have := pmOf_le ms os vs (n + 1) x (by simpa only [pmOf] using h)
    exact ⟨by omega, this.2⟩
  | .mut _ :: ms, o :: os, _ :: vs, n, x, h => by
    simp only [pmOf] at h
    rcases List.mem_cons.1 h with rfl | h
    · exact ⟨Nat.le_refl _, o, List.mem_cons_self, rfl⟩
    · obtain ⟨h1, o', h2, h3⟩ := pmOf_le ms os vs (n + 1) x h
      exact ⟨by omega, o', List.mem_cons_of_mem _ h2, h3⟩
  | .row _ :: ms, o :: os, v :: vs, n, x, h => by
    simp only [pmOf] at h
    split at h
    · obtain ⟨h1, o', h2, h3⟩ := pmOf_le ms os vs (n + 1) x h
      exact ⟨by omega, o', List.mem_cons_of_mem _ h2, h3⟩
    · rcases List.mem_cons.1 h with rfl | h
      · exact ⟨Nat.le_refl _, o, List.mem_cons_self, rfl⟩
      · obtain ⟨h1, o', h2, h3⟩ := pmOf_le ms os vs (n + 1) x h
        exact ⟨by omega, o', List.mem_cons_of_mem _ h2, h3⟩
  | [], os, vs, n, x, h => by simp [pmOf] at h
  | .fz :: _, os, [], n, x, h => by simp [pmOf] at h
  | .efz :: _, os, [], n, x, h => by simp [pmOf] at h
  | .nilp :: _, os, [], n, x, h => by simp [pmOf] at h
  | .mut _ :: _, os, [], n, x, h => by simp [pmOf] at h
  | .row _ :: _, os, [], n, x, h => by simp [pmOf] at h
  | .mut _ :: _, [], _ :: _, n, x, h => by simp [pmOf] at h
  | .row _ :: _, [], _ :: _, n, x, h => by simp [pmOf] at h
structure Uniq (L : List (Nat × Nat)) : Prop where
  l : ∀ n h h', (n, h) ∈ L → (n, h') ∈ L → h = h'
  r : ∀ n n' h, (n, h) ∈ L → (n', h) ∈ L → n = n'
def distinct : List Out → Prop
  | [] => True
  | o :: os => (∀ x ∈ os, x.h ≠ o.h) ∧ distinct os
theorem uniq_cons {L : List (Nat × Nat)} {n h : Nat} (u : Uniq L) (h1 : ∀ x ∈ L, x.1 ≠ n) (h2 : ∀ x ∈ L, x.2 ≠ h) : Uniq ((n, h) :: L) where
  l a b b' hb hb' := by
    rcases List.mem_cons.1 hb with e | hb <;> rcases List.mem_cons.1 hb' with e' | hb'
    · cases e; cases e'; rfl
    · cases e; exact absurd rfl (h1 _ hb')
    · cases e'; exact absurd rfl (h1 _ hb)
    · exact u.l a b b' hb hb'
  r a a' b hb hb' := by
    rcases List.mem_cons.1 hb with e | hb <;> rcases List.mem_cons.1 hb' with e' | hb'
    · cases e; cases e'; rfl
    · cases e; exact absurd rfl (h2 _ hb')
    · cases e'; exact absurd rfl (h2 _ hb)
    · exact u.r a a' b hb hb'
theorem uniq_nil : Uniq [] := ⟨(fun _ _ _ h _ => by cases h), (fun _ _ _ h _ => by cases h)⟩
theorem pmOf_uniq : (ms : List Md) → (os : List Out) → (vs : List Value) → (n : Nat) → distinct os → Uniq (pmOf ms os vs n)
  | .fz :: ms, os, _ :: vs, n, h => by simp only [pmOf]; exact pmOf_uniq ms os vs (n + 1) h
  | .efz :: ms, os, _ :: vs, n, h => by simp only [pmOf]; exact pmOf_uniq ms os vs (n + 1) h
  | .nilp :: ms, os, _ :: vs, n, h => by simp only [pmOf]; exact pmOf_uniq ms os vs (n + 1) h
  | .mut _ :: ms, o :: os, _ :: vs, n, h => by
    simp only [pmOf]
    exact uniq_cons (pmOf_uniq ms os vs (n + 1) h.2) (fun x hx => by have := (pmOf_le ms os vs (n + 1) x hx).1; omega) (fun x hx => by
      obtain ⟨_, o', h1, h2⟩ := pmOf_le ms os vs (n + 1) x hx
      rw [← h2]; exact h.1 o' h1)
  | .row _ :: ms, o :: os, v :: vs, n, h => by
    simp only [pmOf]
    split
    · exact pmOf_uniq ms os vs (n + 1) h.2
    · exact uniq_cons (pmOf_uniq ms os vs (n + 1) h.2) (fun x hx => by have := (pmOf_le ms os vs (n + 1) x hx).1; omega) (fun x hx => by
        obtain ⟨_, o', h1, h2⟩ := pmOf_le ms os vs (n + 1) x hx
        rw [← h2]; exact h.1 o' h1)
  | [], os, vs, n, h => by simp only [pmOf]; exact uniq_nil
  | .fz :: _, os, [], n, h => by simp only [pmOf]; exact uniq_nil
  | .efz :: _, os, [], n, h => by simp only [pmOf]; exact uniq_nil
  | .nilp :: _, os, [], n, h => by simp only [pmOf]; exact uniq_nil
  | .mut _ :: _, os, [], n, h => by simp only [pmOf]; exact uniq_nil
  | .row _ :: _, os, [], n, h => by simp only [pmOf]; exact uniq_nil
  | .mut _ :: _, [], _ :: _, n, h => by simp only [pmOf]; exact uniq_nil
  | .row _ :: _, [], _ :: _, n, h => by simp only [pmOf]; exact uniq_nil
theorem lone_distinct {fr : List (Nat × Path)} : (os : List Out) → Go.Ev.lone fr os = true → distinct os ∧ ∀ o ∈ os, ∀ p, (o.h, p) ∉ fr
  | [], h => ⟨trivial, fun o ho => by cases ho⟩
  | o :: os, h => by
    simp only [Go.Ev.lone, Bool.and_eq_true, Bool.not_eq_true', List.any_eq_false, beq_iff_eq] at h
    obtain ⟨h1, h2, h3⟩ := h
    obtain ⟨k1, k2⟩ := lone_distinct os h3
    refine ⟨⟨h1, k1⟩, fun o' ho p hp => ?_⟩
    rcases List.mem_cons.1 ho with rfl | ho
    · exact h2 _ hp rfl
    · exact k2 o' ho p hp

section
open Classical
variable (g : Gh) (L : List (Nat × Nat)) (lent : Nat → Prop)
/-- The caller's ghost as the callee sees it. -/
noncomputable def callG : Gh where
  st b := match g.st b with
    | some (.inl h, π) => if hp : ∃ n, (n, h) ∈ L then some (.inl hp.choose, π) else none
    | _ => none
  B r := match r with
    | .inl n => if hp : ∃ h, (n, h) ∈ L then g.B (.inl hp.choose) else fun _ => 0
    | .inr _ => fun _ => 0
  fz b := g.fz b ∨ lent b
/-- The callee's ghost as the caller sees it. -/
noncomputable def backG (g' : Gh) (size : Nat) (self : Bool) : Gh where
  st b := match g'.st b with
    | some (.inl n, π) => if hp : ∃ h, (n, h) ∈ L then some (.inl hp.choose, π) else none
    | some (.inr j, π) => some (.inr j, π)
    | none => match g.st b with
      | some (.inl h, π) => if (∃ n, (n, h) ∈ L) ∨ size ≤ b then none else some (.inl h, π)
      | _ => none
  B r := match r with
    | .inl h => if hp : ∃ n, (n, h) ∈ L then g'.B (.inl hp.choose) else g.B (.inl h)
    | .inr j => g'.B (.inr j)
  fz b := if self then g.fz b else g'.fz b
end

section
variable {g g' : Gh} {L : List (Nat × Nat)} {lent : Nat → Prop} {w w' : World} {self : Bool}
theorem callG_st (u : Uniq L) {n h : Nat} (hl : (n, h) ∈ L) {b : Nat} {π : List Nat} (hb : g.st b = some (.inl h, π)) : (callG g L lent).st b = some (.inl n, π) := by
  have hp : ∃ n, (n, h) ∈ L := ⟨n, hl⟩
  simp only [callG, hb]
  rw [dif_pos hp, u.r _ _ _ hp.choose_spec hl]
theorem callG_none {b : Nat} (hb : ∀ h π, g.st b = some (.inl h, π) → ¬ ∃ n, (n, h) ∈ L) : (callG g L lent).st b = none := by
  simp only [callG]
  cases hs : g.st b with
  | none => rfl
  | some x =>
    obtain ⟨r, π⟩ := x
    cases r with
    | inl h => exact dif_neg (hb h π hs)
    | inr j => rfl
theorem callG_some {b : Nat} {r : Root} {π : List Nat} (hb : (callG g L lent).st b = some (r, π)) : ∃ h n, g.st b = some (.inl h, π) ∧ (n, h) ∈ L ∧ r = .inl n := by
  simp only [callG] at hb
  cases hs : g.st b with
  | none => rw [hs] at hb; cases hb
  | some x =>
    obtain ⟨r1, ρ⟩ := x
    rw [hs] at hb
    cases r1 with
    | inr j => cases hb
    | inl h =>
      simp only at hb
      split at hb
      · rename_i hp
        simp only [Option.some.injEq, Prod.mk.injEq] at hb
        obtain ⟨rfl, rfl⟩ := hb
        exact ⟨h, _, rfl, hp.choose_spec, rfl⟩
      · cases hb
theorem callG_B (u : Uniq L) {n h : Nat} (hl : (n, h) ∈ L) : (callG g L lent).B (.inl n) = g.B (.inl h) := by
  have hp : ∃ h, (n, h) ∈ L := ⟨h, hl⟩
  simp only [callG]
  rw [dif_pos hp, u.l _ _ _ hp.choose_spec hl]
theorem callG_goes (u : Uniq L) {n h : Nat} (hl : (n, h) ∈ L) (π : List Nat) : Goes w g (.inl h) π w (callG g L lent) (.inl n) π where
  old b hb := ⟨.inl hb, rfl⟩
  own b q hb := ⟨callG_st u hl hb, rfl⟩
  base q := by rw [callG_B u hl]
theorem callG_ok (ok : GhOk w g) (hl : ∀ b, lent b → ∃ h π, g.st b = some (.inl h, π) ∧ ¬ ∃ n, (n, h) ∈ L) : GhOk w (callG g L lent) where
  own b r π hb := by
    obtain ⟨h, n, h1, h2, _⟩ := callG_some hb
    have := ok.own b _ _ h1
    refine ⟨this.1, ?_⟩
    rintro (hf | hf)
    · exact this.2 hf
    · obtain ⟨h', π', k1, k2⟩ := hl b hf
      rw [h1] at k1
      simp only [Option.some.injEq, Prod.mk.injEq, Sum.inl.injEq] at k1
      obtain ⟨rfl, _⟩ := k1
      exact k2 ⟨n, h2⟩
  fz b hb := by
    rcases hb with hb | hb
    · exact ok.fz b hb
    · obtain ⟨h', π', k1, _⟩ := hl b hb
      exact (ok.own b _ _ k1).1

theorem backG_param (u : Uniq L) {n h : Nat} (hl : (n, h) ∈ L) (size : Nat) : GoesS w' g' (.inl n) [] w' (backG g L g' size self) (.inl h) [] where
  own b q hb := by
    refine ⟨?_, rfl⟩
    have hp : ∃ h, (n, h) ∈ L := ⟨h, hl⟩
    simp only [backG, hb]
    rw [dif_pos hp, u.l _ _ _ hp.choose_spec hl]
  base q := by
    have hp : ∃ n, (n, h) ∈ L := ⟨n, hl⟩
    simp only [backG]
    rw [dif_pos hp, u.r _ _ _ hp.choose_spec hl]
theorem backG_res (j size : Nat) : GoesS w' g' (.inr j) [] w' (backG g L g' size self) (.inr j) [] where
  own b q hb := by
    refine ⟨?_, rfl⟩
    simp only [backG, hb]
  base q := rfl
theorem backG_old (hself : self = false) : Older w' g'.fz w' (backG g L g' w.heap.size self).fz := fun b hb => ⟨by simp only [backG, hself]; exact hb, rfl⟩
theorem back_keeps (ok : GhOk w g) (hext : Ext w (callG g L lent) w' g') : Keeps (fun r => ∃ h, r = .inl h ∧ ¬ ∃ n, (n, h) ∈ L) w g w' (backG g L g' w.heap.size self) where
  old b hb := by
    have hlt := ok.fz b hb
    have hn : (callG g L lent).st b = none := callG_none fun h π hs => absurd hb (ok.own b _ _ hs).2
    refine ⟨?_, (hext.block b hlt hn).1⟩
    simp only [backG]
    split
    · exact hb
    · exact hext.fz b (.inl hb)
  own r hr b π hb := by
    obtain ⟨h, rfl, hl⟩ := hr
    have hlt := (ok.own b _ _ hb).1
    have hn : (callG g L lent).st b = none := callG_none fun h' π' hs => by
      rw [hb] at hs
      simp only [Option.some.injEq, Prod.mk.injEq, Sum.inl.injEq] at hs
      rw [← hs.1]; exact hl
    have h1 := hext.block b hlt hn
    refine ⟨?_, h1.1⟩
    simp only [backG, h1.2, hb]
    rw [if_neg]
    rintro (h | h)
    · exact hl h
    · omega
  base r hr := by
    obtain ⟨h, rfl, hl⟩ := hr
    simp only [backG]
    rw [dif_neg hl]
theorem back_ok (ok : GhOk w g) (ok' : GhOk w' g') (hext : Ext w (callG g L lent) w' g') (hlent : self = false → ∀ b, ¬ lent b) : GhOk w' (backG g L g' w.heap.size self) where
  own b r π hb := by
    have hfz : ∀ b, g.fz b → g'.fz b := fun b h => hext.fz b (.inl h)
    have new : ∀ r π, g'.st b = some (r, π) → b < w'.heap.size ∧ ¬ (backG g L g' w.heap.size self).fz b := by
      intro r π hs
      have := ok'.own b _ _ hs
      refine ⟨this.1, fun hf => this.2 ?_⟩
      simp only [backG] at hf
      split at hf
      · exact hfz b hf
      · exact hf
    simp only [backG] at hb
    cases hs : g'.st b with
    | some x => exact new x.1 x.2 hs
    | none =>
      rw [hs] at hb
      simp only at hb
      cases hs2 : g.st b with
      | none => rw [hs2] at hb; cases hb
      | some x =>
        obtain ⟨r1, ρ⟩ := x
        rw [hs2] at hb
        cases r1 with
        | inr j => cases hb
        | inl h =>
          simp only at hb
          split at hb
          · cases hb
          · rename_i hno
            have hno1 : ¬ ∃ n, (n, h) ∈ L := fun h => hno (.inl h)
            have hno2 : ¬ w.heap.size ≤ b := fun h => hno (.inr h)
            have hown := ok.own b _ _ hs2
            refine ⟨Nat.lt_of_lt_of_le hown.1 hext.size, fun hf => ?_⟩
            simp only [backG] at hf
            cases hself : self with
            | true => rw [hself] at hf; exact hown.2 hf
            | false =>
              rw [hself] at hf
              rcases hext.fzn b hf with h1 | h1 | h1
              · rcases h1 with h1 | h1
                · exact hown.2 h1
                · exact hlent hself b h1
              · refine h1 (callG_none fun h' π' hs' => ?_)
                rw [hs2] at hs'
                simp only [Option.some.injEq, Prod.mk.injEq, Sum.inl.injEq] at hs'
                rw [← hs'.1]; exact hno1
              · exact hno2 h1
  fz b hb := by
    simp only [backG] at hb
    split at hb
    · exact Nat.lt_of_lt_of_le (ok.fz b hb) hext.size
    · exact ok'.fz b hb
theorem back_ext (ok : GhOk w g) (hext : Ext w (callG g L lent) w' g') (hlent : ∀ b, lent b → g.st b ≠ none) : Ext w g w' (backG g L g' w.heap.size self) where
  os := hext.os
  tape := hext.tape
  output := hext.output
  size := hext.size
  block b hb hs := by
    have hn : (callG g L lent).st b = none := callG_none fun h π h1 => by rw [hs] at h1; cases h1
    have h1 := hext.block b hb hn
    exact ⟨h1.1, by simp only [backG, h1.2, hs]⟩
  fz b hb := by
    simp only [backG]
    split
    · exact hb
    · exact hext.fz b (.inl hb)
  fzn b hb := by
    simp only [backG] at hb
    split at hb
    · exact .inl hb
    · rcases hext.fzn b hb with h1 | h1 | h1
      · rcases h1 with h1 | h1
        · exact .inl h1
        · exact .inr (.inl (hlent b h1))
      · refine .inr (.inl fun h => h1 (callG_none fun h' π' hs' => ?_))
        rw [h] at hs'; cases hs'
      · exact .inr (.inr h1)
end
end Go.Ev
