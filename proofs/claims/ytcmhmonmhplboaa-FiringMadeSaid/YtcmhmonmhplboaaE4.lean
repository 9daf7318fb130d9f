/- The typed values of a run, and that a run of the evaluator is what the program does. No condition. -/
import Derived.Test.YtcmhmonmhplboaaE3
import Derived.Orders
import Derived.LoopN
import Derived.ProofKit
import Derived.OpenShut
import Derived.Laws.StructEq
set_option linter.all false
set_option linter.unusedVariables false
set_option linter.unusedSimpArgs false
set_option linter.unnecessarySimpa false
set_option autoImplicit true
set_option relaxedAutoImplicit true
/- Operations: calls. -/
namespace Go.Ev
open Go.RowKit
variable {P : Program}

theorem isFz_get : (f : Tys) → {w : World} → {g : Gh} → {r : Root} → {π : List Nat} → {k : Nat} → {sh : Sh} → {v : DL f} → {cs : List Value} → RpL P w g r f π k sh v cs → sh.isFz = true → (i : Nat) → i < f.len → (sh.get i).isFz = true
  | .nil, w, g, r, π, k, sh, v, cs, h, hs, i, hi => by simp [Tys.len] at hi
  | .cons t ts, w, g, r, π, k, sh, v, cs, h, hs, 0, hi => by
    simp only [RpL] at h
    obtain ⟨s, rest, rfl, _⟩ := h
    simp only [Sh.isFz, Bool.and_eq_true] at hs
    exact hs.1
  | .cons t ts, w, g, r, π, k, sh, v, cs, h, hs, i + 1, hi => by
    simp only [RpL] at h
    obtain ⟨s, rest, rfl, c1, c2, _, _, h2⟩ := h
    simp only [Sh.isFz, Bool.and_eq_true] at hs
    exact isFz_get ts h2 hs.2 i (by simpa [Tys.len] using hi)
/-- Where nothing is owned, no part is; the ways do not hang on the values, and lie in one block. -/
theorem isFz_at {w : World} {g : Gh} {r : Root} : (p : Path) → (t : Ty) → {π : List Nat} → {sh : Sh} → {v : D t} → {cs : List Value} → Rp P w g r t π sh v cs → sh.isFz = true → Valid t sh v p →
    (shAt sh p).isFz = true ∧ (∀ v2 : D t, Valid t sh v2 p) ∧ ∀ (g1 g2 : Gh) (r1 r2 : Root) (π1 π2 : List Nat) (cur : Option (Nat × Nat)), adrF g1 r1 t π1 cur p = adrF g2 r2 t π2 cur p
  | [], t, π, sh, v, cs, h, hs, hv => ⟨by rw [shAt_nil]; exact hs, fun v2 => by simp [Valid], fun g1 g2 r1 r2 π1 π2 cur => by rw [adrF_nil, adrF_nil]⟩
  | .fld i :: p, .agg f, π, sh, v, cs, h, hs, hv => by
    simp only [Valid] at hv
    have hfz : (shFld sh i).isFz = true := by
      simp only [Rp] at h
      rcases h with ⟨rfl, _⟩ | ⟨rfl, _⟩ | h
      · rfl
      · simp [Sh.isFz] at hs
      · have := isFz_get f h hs i hv.1
        cases f with
        | nil => simp [Tys.len] at hv
        | cons t ts =>
          simp only [RpL] at h
          obtain ⟨s, rest, rfl, _⟩ := h
          exact this
    obtain ⟨h1, h2, h3⟩ := isFz_at p (f.get i) (Rp.fld h hv.1) hfz hv.2
    refine ⟨by rw [shAt_fld]; exact h1, fun v2 => ?_, fun g1 g2 r1 r2 π1 π2 cur => ?_⟩
    · simp only [Valid]; exact ⟨hv.1, h2 _⟩
    · simp only [adrF]; exact h3 _ _ _ _ _ _ _
  | .idx i :: p, .arr n t, π, sh, v, cs, h, hs, hv => by
    simp only [Valid] at hv
    obtain ⟨rfl, hi, hv⟩ := hv
    have hfr := Rp.fr _ rfl h
    simp only [Fr] at hfr
    obtain ⟨hl, hcl, he⟩ := hfr
    obtain ⟨h1, h2, h3⟩ := isFz_at (r := r) (π := π) p t (Rp.of_fr t (he i.toNat _ (getD_some (d := dflt t) (by rw [hl]; exact hi.2)))) rfl hv
    refine ⟨by rw [shAt_fz]; rfl, fun v2 => ?_, fun g1 g2 r1 r2 π1 π2 cur => ?_⟩
    · simp only [Valid]; exact ⟨trivial, hi, h2 _⟩
    · simp only [adrF]; exact h3 _ _ _ _ _ _ _
  | .idx i :: p, .sl e t, π, sh, v, cs, h, hs, hv => by
    cases sh <;> simp [Valid] at hv
    simp [Sh.isFz] at hs
  | .fld _ :: _, .int _, _, _, _, _, _, _, hv => by simp [Valid] at hv
  | .fld _ :: _, .bool, _, _, _, _, _, _, hv => by simp [Valid] at hv
  | .fld _ :: _, .fn _ _, _, _, _, _, _, _, hv => by simp [Valid] at hv
  | .fld _ :: _, .sl _ _, _, _, _, _, _, _, hv => by simp [Valid] at hv
  | .fld _ :: _, .arr _ _, _, _, _, _, _, _, hv => by simp [Valid] at hv
  | .idx _ :: _, .int _, _, _, _, _, _, _, hv => by simp [Valid] at hv
  | .idx _ :: _, .bool, _, _, _, _, _, _, hv => by simp [Valid] at hv
  | .idx _ :: _, .fn _ _, _, _, _, _, _, _, hv => by simp [Valid] at hv
  | .idx _ :: _, .agg _, _, _, _, _, _, _, hv => by simp [Valid] at hv

theorem parts_self : (ts : Tys) → (x y : DL ts) → (shs : List Sh) → ((parts ts x shs).all fun z => selfc z.t z.sh) = ((parts ts y shs).all fun z => selfc z.t z.sh)
  | .nil, x, y, shs => rfl
  | .cons t ts, x, y, [] => by simp only [parts, List.all_cons, parts_self ts x.2 y.2 []]
  | .cons t ts, x, y, s :: shs => by simp only [parts, List.all_cons, parts_self ts x.2 y.2 shs]

section
variable {α R' : Type} {A : Nat → Value} {w w' : World} {g g' : Gh} {tm : Array Value} {σ : Env} {c : G} {K : α → Env → Option R'} {r : R'} {C : Ctx}

theorem outs_on {on : Bool} (hon : on = true) : (os : List Out) → (xs : List PV) → {k : Acc α} → {σ : Env} → distinct os → (outs c on os xs k).run σ K = some r →
    ∃ σ', k.run σ' K = some r ∧ Mild σ σ' ∧ (∀ h, (∀ o ∈ os, o.h ≠ h) → σ'.get h = σ.get h) ∧ xs.length = os.length ∧ ∀ (i : Nat) o x, os[i]? = some o → xs[i]? = some x →
      ∃ (m : Home) (e : x.t = m.t) (y : S), homeOf (σ.get o.h).s = some m ∧ m.sh = o.sh ∧ wrapS m.k m.t o.sh (e ▸ x.v) = some y ∧ σ'.get o.h = ⟨(σ.get o.h).gd, (σ.get o.h).ver + o.dv, (σ.get o.h).pv + 1, y⟩
  | [], [], k, σ, hd, h => ⟨σ, h, Mild.refl _, (fun _ _ => rfl), rfl, (fun i o x hi => by simp at hi)⟩
  | o :: os, x :: xs, k, σ, hd, h => by
    simp only [outs, Acc.run] at h
    obtain ⟨m, hm, h'⟩ := homeS_ok h
    clear h; have h := h'; clear h'
    obtain ⟨e, h'⟩ := castK_ok h
    clear h; have h := h'; clear h'
    split at h
    · rename_i hsh
      obtain ⟨y, hy, hh, h'⟩ := put_ok h
      clear h; have h := h'; clear h'
      obtain ⟨σ', h, M, hsame, hlen, hall⟩ := outs_on hon os xs hd.2 h
      rw [ite_on hon] at hy
      refine ⟨σ', h, (Mild.turn hh).trans M, fun n hn => ?_, by simp [hlen], fun i o' x' ho hx => ?_⟩
      · rw [hsame n (fun o' ho' => hn o' (List.mem_cons_of_mem _ ho')), Env.turn_get, if_neg (fun e => hn o List.mem_cons_self e.symm)]
      · cases i with
        | zero =>
          simp only [List.getElem?_cons_zero, Option.some.injEq] at ho hx
          subst ho; subst hx
          refine ⟨m, e, y, hm, hsh, hy, ?_⟩
          rw [hsame _ (fun o' ho' => hd.1 o' ho'), Env.turn_get, if_pos rfl]
        | succ i =>
          simp only [List.getElem?_cons_succ] at ho hx
          obtain ⟨m', e', y', h1, h2, h3, h4⟩ := hall i o' x' ho hx
          have hne : o'.h ≠ o.h := hd.1 o' (List.mem_of_getElem? ho)
          rw [Env.turn_get, if_neg hne] at h1 h4
          exact ⟨m', e', y', h1, h2, h3, h4⟩
    · cases h
  | [], _ :: _, k, σ, hd, h => by simp [outs, Acc.run] at h
  | _ :: _, [], k, σ, hd, h => by simp [outs, Acc.run] at h

theorem outs_off {on : Bool} (hcg : c.isEmpty = true → on = true) (hoff : on = false) : (os : List Out) → (xs : List PV) → {k : Acc α} → {σ : Env} → Rel P A w g tm σ → (outs c on os xs k).run σ K = some r →
    ∃ σ', k.run σ' K = some r ∧ Rel P A w g tm σ' ∧ Mild σ σ'
  | [], [], k, σ, R, h => ⟨σ, h, R, Mild.refl _⟩
  | o :: os, x :: xs, k, σ, R, h => by
    simp only [outs, Acc.run] at h
    obtain ⟨m, hm, h'⟩ := homeS_ok h
    clear h; have h := h'; clear h'
    obtain ⟨e, h'⟩ := castK_ok h
    clear h; have h := h'; clear h'
    split at h
    · rename_i hsh
      obtain ⟨y, hy, hh, h'⟩ := put_ok h
      clear h; have h := h'; clear h'
      rw [ite_off hcg hoff, ← hsh] at hy
      have hhome := wrapS_home hy
      have R1 : Rel P A w g tm (σ.turn o.h o.dv 1 y) := by
        by_cases hdv : o.dv = 0
        · rw [hdv]
          refine R.turn0 (v' := m.v) hm hh hy (Nat.le_refl 1) (Keeps.refl _ _ _) R.ok (fun p t x hx => hx) (fun p e t x hx => hx) (fun hon => ?_)
          have hsl := R.slot o.h hon
          rw [SR_home hm] at hsl
          exact hsl
        · refine R.turn hh (by omega) (Keeps.refl _ _ _) R.own R.fz (VerOk_home hhome) (fun hon => ?_)
          have hsl := R.slot o.h hon
          rw [SR_home hm] at hsl
          rw [SR_home hhome]
          exact hsl
      obtain ⟨σ', h, R', M⟩ := outs_off hcg hoff os xs R1 h
      exact ⟨σ', h, R', (Mild.turn hh).trans M⟩
    · cases h
  | [], _ :: _, k, σ, R, h => by simp [outs, Acc.run] at h
  | _ :: _, [], k, σ, R, h => by simp [outs, Acc.run] at h

/-- What is lent. -/
def lentB (g : Gh) (σ : Env) (fr : List (Nat × Path)) (b : Nat) : Prop := ∃ h p m, (h, p) ∈ fr ∧ homeOf (σ.get h).s = some m ∧ ∃ q, g.st b = some (.inl h, m.k.base ++ posP p ++ q)

theorem argsR_of {fr : List (Nat × Path)} {L : List (Nat × Nat)} (u : Uniq L) : (ms : List Md) → (ts : Tys) → {x : DL ts} → {vals : List Value} → {os : List Out} → (n : Nat) → ArgsC P w g A tm σ fr ms ts x vals os → (∀ y ∈ pmOf ms os vals n, y ∈ L) →
    ArgsR P w (callG g L (lentB g σ fr)) ms ts x n vals
  | [], .nil, x, vals, os, n, h, hL => by simp only [ArgsC] at h; simp only [ArgsR]; exact h.1
  | .fz :: ms, .cons t ts, x, vals, os, n, h, hL => by
    simp only [ArgsC] at h
    obtain ⟨v, rest, rfl, h2, h3⟩ := h
    simp only [ArgsR]
    refine ⟨v, rest, rfl, ?_, argsR_of u ms ts (n + 1) h3 (by simpa only [pmOf] using hL)⟩
    rcases h2 with h2 | ⟨h, p, m, hmem, hm, hty, hval, π, hπ, hrv, hng⟩
    · exact ⟨Fr.mono t (fun b hb => ⟨.inl hb, rfl⟩) h2.1, h2.2⟩
    · subst hπ
      exact ⟨Rp.freeze (g' := callG g L (lentB g σ fr)) t hng (fun b hb => ⟨.inl hb, rfl⟩) (fun b q hb => ⟨.inr ⟨h, p, m, hmem, hm, q, hb⟩, rfl⟩) hrv.1, hrv.2⟩
  | .efz :: ms, .cons t ts, x, vals, os, n, h, hL => by
    simp only [ArgsC] at h
    obtain ⟨v, rest, rfl, ⟨b, o, hx, hb, hf⟩, h3⟩ := h
    simp only [ArgsR]
    exact ⟨v, rest, rfl, ⟨b, o, hx, .inl hb, Fr.mono t (fun b hb => ⟨.inl hb, rfl⟩) hf⟩, argsR_of u ms ts (n + 1) h3 (by simpa only [pmOf] using hL)⟩
  | .nilp :: ms, .cons t ts, x, vals, os, n, h, hL => by
    simp only [ArgsC] at h
    obtain ⟨v, rest, rfl, h2, h3⟩ := h
    simp only [ArgsR]
    exact ⟨v, rest, rfl, h2, argsR_of u ms ts (n + 1) h3 (by simpa only [pmOf] using hL)⟩
  | .mut sh :: ms, .cons t ts, x, vals, os, n, h, hL => by
    simp only [ArgsC] at h
    obtain ⟨v, rest, h, os', rfl, rfl, hm, ⟨b, cs, e, hx, hB, hst, hc, hp⟩, heq, h3⟩ := h
    simp only [ArgsR]
    simp only [pmOf] at hL
    have hl : (n, h) ∈ L := hL _ List.mem_cons_self
    refine ⟨v, rest, rfl, ⟨b, cs, e, hx, ?_, callG_st u hl hst, hc, Rp.go t (callG_goes u hl [0]) hp⟩, argsR_of u ms ts (n + 1) h3 (fun y hy => hL y (List.mem_cons_of_mem _ hy))⟩
    rw [callG_B u hl]; exact hB
  | .row s :: ms, .cons (.sl e t) ts, x, vals, os, n, h, hL => by
    simp only [ArgsC] at h
    obtain ⟨v, rest, h, os', k, rfl, rfl, hk, hm, hH, heq, h3⟩ := h
    simp only [ArgsR]
    simp only [pmOf] at hL
    by_cases hv : isNilRow v = true
    · rw [if_pos hv] at hL
      refine ⟨v, rest, rfl, ?_, argsR_of u ms ts (n + 1) h3 hL⟩
      have he := isNilRow_eq hv
      subst he
      have := row_nil heq.1
      rw [this]
      exact row_nil_mk
    · rw [if_neg hv] at hL
      have hl : (n, h) ∈ L := hL _ List.mem_cons_self
      exact ⟨v, rest, rfl, RpV.go (callG_goes u hl []) heq.1, argsR_of u ms ts (n + 1) h3 (fun y hy => hL y (List.mem_cons_of_mem _ hy))⟩
  | [], .cons _ _, x, vals, os, n, h, hL => by simp only [ArgsC] at h
  | .fz :: _, .nil, x, vals, os, n, h, hL => by simp only [ArgsC] at h
  | .efz :: _, .nil, x, vals, os, n, h, hL => by simp only [ArgsC] at h
  | .nilp :: _, .nil, x, vals, os, n, h, hL => by simp only [ArgsC] at h
  | .mut _ :: _, .nil, x, vals, os, n, h, hL => by simp only [ArgsC] at h
  | .row _ :: _, .nil, x, vals, os, n, h, hL => by simp only [ArgsC] at h
  | .row _ :: _, .cons (.int _) _, x, vals, os, n, h, hL => by simp only [ArgsC] at h
  | .row _ :: _, .cons .bool _, x, vals, os, n, h, hL => by simp only [ArgsC] at h
  | .row _ :: _, .cons (.agg _) _, x, vals, os, n, h, hL => by simp only [ArgsC] at h
  | .row _ :: _, .cons (.arr _ _) _, x, vals, os, n, h, hL => by simp only [ArgsC] at h
  | .row _ :: _, .cons (.fn _ _) _, x, vals, os, n, h, hL => by simp only [ArgsC] at h

/-- A written argument, before and behind a call. -/
inductive OutF (P : Program) (w : World) (g : Gh) (A : Nat → Value) (tm : Array Value) (σ : Env) (w' : World) (g' : Gh) (L : List (Nat × Nat)) : Out → PV → Prop where
  | box (n h : Nat) (t : Ty) (sh : Sh) (x0 y : D t) (v : Value) (hl : (n, h) ∈ L) (hb : HomeR P w' g' (fun _ => undef) n ⟨.box, t, sh, y⟩ v) (hv : v = tm.getD h undef) (hm : homeOf (σ.get h).s = some ⟨.box, t, sh, x0⟩) (ha : HomeR P w g A h ⟨.box, t, sh, x0⟩ v) :
      OutF P w g A tm σ w' g' L ⟨h, sh, if sh.isFz then 0 else 1⟩ ⟨t, sh, y⟩
  | row (n h : Nat) (e : TypeId) (t : Ty) (s : Sh) (x0 y : List (D t)) (v : Value) (k : HK) (hl : isNilRow v = false → (n, h) ∈ L) (hno : isNilRow v = true → ¬ ∃ n, (n, h) ∈ L) (hb : RpV P w' g' (.inl n) (.sl e t) [] (.own s) y v) (hv : RowArg P w g h e t s x0 v (tm.getD h undef)) (hk : k ≠ .box) (hm : homeOf (σ.get h).s = some ⟨k, .sl e t, .own s, x0⟩)
      (ha : HomeR P w g A h ⟨k, .sl e t, .own s, x0⟩ (tm.getD h undef)) : OutF P w g A tm σ w' g' L ⟨h, .own s, 1⟩ ⟨.sl e t, .own s, y⟩

theorem outs_facts {fr : List (Nat × Path)} {L : List (Nat × Nat)} : (ms : List Md) → (ts : Tys) → {x : DL ts} → {vals : List Value} → {os : List Out} → {xs : List PV} → (n : Nat) → ArgsC P w g A tm σ fr ms ts x vals os → (∀ y ∈ pmOf ms os vals n, y ∈ L) → (∀ y ∈ L, y ∈ pmOf ms os vals n ∨ ∀ o ∈ os, o.h ≠ y.2) → distinct os → OutsR P w' g' ms ts n vals xs →
    ∀ (i : Nat) o pv, os[i]? = some o → xs[i]? = some pv → OutF P w g A tm σ w' g' L o pv
  | [], .nil, x, vals, os, xs, n, h, hL, hM, hd, ho, i, o, pv, hi, hx => by
    simp only [ArgsC] at h
    rw [h.2] at hi; simp at hi
  | .fz :: ms, .cons t ts, x, vals, os, xs, n, h, hL, hM, hd, ho, i, o, pv, hi, hx => by
    simp only [ArgsC] at h
    simp only [OutsR] at ho
    obtain ⟨v, rest, rfl, h2, h3⟩ := h
    obtain ⟨v', rest', he, ho⟩ := ho
    cases he
    exact outs_facts ms ts (n + 1) h3 (by simpa only [pmOf] using hL) (by simpa only [pmOf] using hM) hd ho i o pv hi hx
  | .efz :: ms, .cons t ts, x, vals, os, xs, n, h, hL, hM, hd, ho, i, o, pv, hi, hx => by
    simp only [ArgsC] at h
    simp only [OutsR] at ho
    obtain ⟨v, rest, rfl, h2, h3⟩ := h
    obtain ⟨v', rest', he, ho⟩ := ho
    cases he
    exact outs_facts ms ts (n + 1) h3 (by simpa only [pmOf] using hL) (by simpa only [pmOf] using hM) hd ho i o pv hi hx
  | .nilp :: ms, .cons t ts, x, vals, os, xs, n, h, hL, hM, hd, ho, i, o, pv, hi, hx => by
    simp only [ArgsC] at h
    simp only [OutsR] at ho
    obtain ⟨v, rest, rfl, h2, h3⟩ := h
    obtain ⟨v', rest', he, ho⟩ := ho
    cases he
    exact outs_facts ms ts (n + 1) h3 (by simpa only [pmOf] using hL) (by simpa only [pmOf] using hM) hd ho i o pv hi hx
  | .mut sh :: ms, .cons t ts, x, vals, os, xs, n, h, hL, hM, hd, ho, i, o, pv, hi, hx => by
    simp only [ArgsC] at h
    simp only [OutsR] at ho
    obtain ⟨v, rest, h, os', rfl, rfl, hm, hH, heq, h3⟩ := h
    obtain ⟨v', rest', y, l', he, rfl, hb, ho⟩ := ho
    cases he
    simp only [pmOf] at hL hM
    cases i with
    | zero =>
      simp only [List.getElem?_cons_zero, Option.some.injEq] at hi hx
      subst hi; subst hx
      exact .box n h t sh x.1 y v (hL _ List.mem_cons_self) hb heq hm hH
    | succ i =>
      exact outs_facts ms ts (n + 1) h3 (fun y hy => hL y (List.mem_cons_of_mem _ hy)) (fun y hy => by
        rcases hM y hy with h1 | h1
        · rcases List.mem_cons.1 h1 with rfl | h1
          · exact .inr (fun o ho => hd.1 o ho)
          · exact .inl h1
        · exact .inr (fun o ho => h1 o (List.mem_cons_of_mem _ ho))) hd.2 ho i o pv (by simpa using hi) (by simpa using hx)
  | .row s :: ms, .cons (.sl e t) ts, x, vals, os, xs, n, h, hL, hM, hd, ho, i, o, pv, hi, hx => by
    simp only [ArgsC] at h
    simp only [OutsR] at ho
    obtain ⟨v, rest, h, os', k, rfl, rfl, hk, hm, hH, heq, h3⟩ := h
    obtain ⟨v', rest', y, l', he, rfl, hb, ho⟩ := ho
    cases he
    simp only [pmOf] at hL hM
    cases i with
    | zero =>
      simp only [List.getElem?_cons_zero, Option.some.injEq] at hi hx
      subst hi; subst hx
      exact .row n h e t s x.1 y v k (fun hv => by rw [hv] at hL; exact hL _ List.mem_cons_self) (fun hv => by
        rw [hv] at hM
        rintro ⟨n', hn'⟩
        rcases hM _ hn' with h1 | h1
        · obtain ⟨_, o', ho', he'⟩ := pmOf_le ms os' rest (n + 1) _ (by simpa using h1)
          exact hd.1 o' ho' he'
        · exact h1 _ List.mem_cons_self rfl) hb heq hk hm hH
    | succ i =>
      refine outs_facts ms ts (n + 1) h3 (fun y hy => hL y ?_) (fun y hy => ?_) hd.2 ho i o pv (by simpa using hi) (by simpa using hx)
      · split
        · exact hy
        · exact List.mem_cons_of_mem _ hy
      · rcases hM y hy with h1 | h1
        · split at h1
          · exact .inl h1
          · rcases List.mem_cons.1 h1 with rfl | h1
            · exact .inr (fun o ho => hd.1 o ho)
            · exact .inl h1
        · exact .inr (fun o ho => h1 o (List.mem_cons_of_mem _ ho))
  | [], .cons _ _, x, vals, os, xs, n, h, hL, hM, hd, ho, i, o, pv, hi, hx => by simp only [ArgsC] at h
  | .fz :: _, .nil, x, vals, os, xs, n, h, hL, hM, hd, ho, i, o, pv, hi, hx => by simp only [ArgsC] at h
  | .efz :: _, .nil, x, vals, os, xs, n, h, hL, hM, hd, ho, i, o, pv, hi, hx => by simp only [ArgsC] at h
  | .nilp :: _, .nil, x, vals, os, xs, n, h, hL, hM, hd, ho, i, o, pv, hi, hx => by simp only [ArgsC] at h
  | .mut _ :: _, .nil, x, vals, os, xs, n, h, hL, hM, hd, ho, i, o, pv, hi, hx => by simp only [ArgsC] at h
  | .row _ :: _, .nil, x, vals, os, xs, n, h, hL, hM, hd, ho, i, o, pv, hi, hx => by simp only [ArgsC] at h
  | .row _ :: _, .cons (.int _) _, x, vals, os, xs, n, h, hL, hM, hd, ho, i, o, pv, hi, hx => by simp only [ArgsC] at h
  | .row _ :: _, .cons .bool _, x, vals, os, xs, n, h, hL, hM, hd, ho, i, o, pv, hi, hx => by simp only [ArgsC] at h
  | .row _ :: _, .cons (.agg _) _, x, vals, os, xs, n, h, hL, hM, hd, ho, i, o, pv, hi, hx => by simp only [ArgsC] at h
  | .row _ :: _, .cons (.arr _ _) _, x, vals, os, xs, n, h, hL, hM, hd, ho, i, o, pv, hi, hx => by simp only [ArgsC] at h
  | .row _ :: _, .cons (.fn _ _) _, x, vals, os, xs, n, h, hL, hM, hd, ho, i, o, pv, hi, hx => by simp only [ArgsC] at h

theorem back_go {g2 : Gh} {r r' : Root} {t : Ty} {π π' : List Nat} {sh : Sh} {v : D t} {cs : List Value} {self : Bool} (hs : self = true → selfc t sh = true) (k : GoesS w' g' r π w' g2 r' π') (old : self = false → Older w' g'.fz w' g2.fz)
    (h : Rp P w' g' r t π sh v cs) : Rp P w' g2 r' t π' sh v cs := by
  cases self with
  | true => exact Rp.goS t (hs rfl) k h
  | false => exact Rp.go t ⟨old rfl, k.own, k.base⟩ h
end

section
variable {R' : Type} {A : Nat → Value} {w w' : World} {g g' g0 : Gh} {tm : Array Value} {ds : List Deferred} {σ σ' : Env} {c : G} {K : Unit → Env → Option R'} {r : R'} {Q : Exit → Act → World → Prop} {o : Oper} {C : Ctx}

/-- The slots behind a call. -/
theorem call_rel {fr : List (Nat × Path)} {ms : List Md} {ps : Tys} {x : DL ps} {vals : List Value} {os : List Out} {xs : List PV} {self : Bool} (R : Rel P A w g tm σ) (hC : ArgsC P w g A tm σ fr ms ps x vals os) (hd : distinct os)
    (hfr : ∀ o ∈ os, ∀ p, (o.h, p) ∉ fr) (hself : self = false → fr = []) (hxs : self = true → ∀ z ∈ xs, selfc z.t z.sh = true) (ok' : GhOk w' g') (hext : Ext w (callG g (pmOf ms os vals 0) (lentB g σ fr)) w' g') (ho : OutsR P w' g' ms ps 0 vals xs)
    (M : Mild σ σ') (hsame : ∀ h, (∀ o ∈ os, o.h ≠ h) → σ'.get h = σ.get h) (hlen : xs.length = os.length)
    (hall : ∀ (i : Nat) o x, os[i]? = some o → xs[i]? = some x → ∃ (m : Home) (e : x.t = m.t) (y : S), homeOf (σ.get o.h).s = some m ∧ m.sh = o.sh ∧ wrapS m.k m.t o.sh (e ▸ x.v) = some y ∧ σ'.get o.h = ⟨(σ.get o.h).gd, (σ.get o.h).ver + o.dv, (σ.get o.h).pv + 1, y⟩) :
    Rel P A w' (backG g (pmOf ms os vals 0) g' w.heap.size self) tm σ' ∧ Ext w g w' (backG g (pmOf ms os vals 0) g' w.heap.size self) := by
  have u := pmOf_uniq ms os vals 0 hd
  have hlent : ∀ b, lentB g σ fr b → ∃ h π, g.st b = some (.inl h, π) ∧ ¬ ∃ n, (n, h) ∈ pmOf ms os vals 0 := by
    rintro b ⟨h, p, m, hmem, hm, q, hb⟩
    refine ⟨h, _, hb, ?_⟩
    rintro ⟨n, hn⟩
    obtain ⟨_, o, ho, he⟩ := pmOf_le ms os vals 0 _ hn
    exact hfr o ho p (by rw [he]; exact hmem)
  have hlent0 : self = false → ∀ b, ¬ lentB g σ fr b := by
    rintro hs b ⟨h, p, m, hmem, _⟩
    rw [hself hs] at hmem; cases hmem
  have hk := back_keeps (self := self) R.ok hext
  have hE := back_ext (self := self) R.ok hext (fun b hb => by
    obtain ⟨h, π, h1, _⟩ := hlent b hb
    rw [h1]; simp)
  have hok := back_ok (self := self) R.ok ok' hext hlent0
  refine ⟨?_, hE⟩
  have hno : ∀ h, (∀ o ∈ os, o.h ≠ h) → ¬ ∃ n, (n, h) ∈ pmOf ms os vals 0 := by
    rintro h hh ⟨n, hn⟩
    obtain ⟨_, o, ho, he⟩ := pmOf_le ms os vals 0 _ hn
    exact hh o ho he
  -- a written home
  have written : ∀ h, ¬ (∀ o ∈ os, o.h ≠ h) → ∃ o pv, o.h = h ∧ pv ∈ xs ∧ OutF P w g A tm σ w' g' (pmOf ms os vals 0) o pv ∧ ∃ (m : Home) (e : pv.t = m.t) (y : S), homeOf (σ.get o.h).s = some m ∧ m.sh = o.sh ∧ wrapS m.k m.t o.sh (e ▸ pv.v) = some y ∧ σ'.get o.h = ⟨(σ.get o.h).gd, (σ.get o.h).ver + o.dv, (σ.get o.h).pv + 1, y⟩ := by
    intro h hh
    have : ∃ o ∈ os, o.h = h := by
      refine Classical.byContradiction fun hno => hh fun o ho he => hno ⟨o, ho, he⟩
    obtain ⟨o, hmem, he⟩ := this
    obtain ⟨i, hi, hio⟩ := List.mem_iff_getElem.1 hmem
    have hoi : os[i]? = some o := by rw [← hio]; exact List.getElem?_eq_getElem hi
    have hxi : xs[i]? = some (xs[i]'(by omega)) := List.getElem?_eq_getElem (by omega)
    exact ⟨o, _, he, List.mem_of_getElem? hxi, outs_facts ms ps 0 hC (fun _ h => h) (fun _ h => .inl h) hd ho i o _ hoi hxi, hall i o _ hoi hxi⟩
  -- what a written home means
  have newHome : ∀ o pv, pv ∈ xs → OutF P w g A tm σ w' g' (pmOf ms os vals 0) o pv → ∀ (m : Home) (e : pv.t = m.t), homeOf (σ.get o.h).s = some m → m.sh = o.sh → HomeR P w' (backG g (pmOf ms os vals 0) g' w.heap.size self) A o.h ⟨m.k, m.t, o.sh, e ▸ pv.v⟩ (tm.getD o.h undef) := by
    intro o pv hmem hF m e hm hsh
    cases hF with
    | box n h t sh x0 y v hl hb hv hm0 ha =>
      rw [hm0] at hm
      cases hm
      obtain ⟨b, cs, te, hx, hB, hst, hc, hp⟩ := hb
      have hg := backG_param (w' := w') (g := g) (g' := g') (self := self) u hl w.heap.size
      have h1 := hg.own b [] hst
      have h2 := hg.base []
      refine ⟨b, cs, te, by rw [← hv]; exact hx, by rw [← hB]; exact h2.symm, h1.1, hc, back_go (fun hs => hxs hs _ hmem) (hg.sub [0]) (fun hs => backG_old hs) hp⟩
    | row n h te t s x0 y v k hl hno2 hb hv hk2 hm0 ha =>
      rw [hm0] at hm
      cases hm
      have hhome : RpV P w g (.inl h) (.sl te t) [] (.own s) x0 (tm.getD h undef) := by
        cases k with
        | val => exact ha
        | rowp => exact ha.1
        | box => exact absurd rfl hk2
      have hnew : RpV P w' (backG g (pmOf ms os vals 0) g' w.heap.size self) (.inl h) (.sl te t) [] (.own s) y (tm.getD h undef) := by
        cases hvn : isNilRow v with
        | true =>
          have he := isNilRow_eq hvn
          subst he
          have hy := row_nil hb
          have hx := row_nil hv.1
          subst hy; subst hx
          exact RpV.go (hk.goes ⟨h, rfl, hno2 hvn⟩ _) hhome
        | false =>
          have hg := backG_param (w' := w') (g := g) (g' := g') (self := self) u (hl hvn) w.heap.size
          rcases hv.2 with hv2 | ⟨hx, hv2⟩
          · rw [← hv2]
            exact ⟨back_go (fun hs => hxs hs _ hmem) hg (fun hs => backG_old hs) hb.1, hb.2⟩
          · have hy := row_len hv.1 hb hx
            subst hy
            rcases hv2 with hv2 | hv2
            · rw [hv2] at hvn; simp [isNilRow] at hvn
            · rw [hv2]; exact row_nil_mk
      cases k with
      | val => exact hnew
      | rowp => exact ⟨hnew, ha.2⟩
      | box => exact absurd rfl hk2
  refine R.many M hok hk.old (fun n hh hon => ?_) (fun n hh => ?_) (fun h m p t x2 hm hv hpv hr => ?_) (fun h m hm hv hpv => ?_) (fun h m p t x2 hm hv hr => ?_)
  · by_cases hn : ∀ o ∈ os, o.h ≠ n
    · rw [hsame n hn]
      have hsl := R.slot n hon
      have hR : (fun r : Root => ∃ h, r = .inl h ∧ ¬ ∃ n, (n, h) ∈ pmOf ms os vals 0) (.inl n) := ⟨n, rfl, hno n hn⟩
      generalize hsn : (σ.get n).s = s at hsl hh
      cases s with
      | val t sh v => simp only [SR] at hsl ⊢; exact HomeR.keep hk hR hsl
      | box t sh v => simp only [SR] at hsl ⊢; exact HomeR.keep hk hR hsl
      | rowp e t sh v => simp only [SR] at hsl ⊢; exact HomeR.keep hk hR hsl
      | tup l =>
        obtain ⟨vs, hx, hz, hl⟩ := hsl
        refine ⟨vs, hx, hz, fun j y hy hb => ?_⟩
        obtain ⟨z, h1, h2⟩ := hl j y hy hb
        exact ⟨z, h1, RpV.go (hk.goes hR _) h2⟩
      | shal h' ver q hi e t s l =>
        obtain ⟨xs, h1, h2⟩ := hsl
        refine ⟨xs, h1.keep hk hR, ?_⟩
        intro h3 h4
        by_cases hn' : ∀ o ∈ os, o.h ≠ h'
        · rw [hsame h' hn'] at h3 h4 ⊢
          exact (h2 h3 h4).keep hk ⟨h', rfl, hno h' hn'⟩
        · exfalso
          obtain ⟨o, pv, rfl, _, _, m, e, y, _, _, _, hg⟩ := written h' hn'
          have hv := R.ver n
          rw [hsn] at hv
          simp only [VerOk, Young] at hv
          rw [hg] at h3 h4
          simp only at h3 h4
          omega
      | _ => simp [S.isHome] at hh
    · obtain ⟨o, pv, rfl, hmem, hF, m, e, y, hm, hsh, hy, hg⟩ := written n hn
      rw [hg]
      show SR P w' _ A σ' o.h _ y _
      rw [SR_home (wrapS_home hy)]
      exact newHome o pv hmem hF m e hm hsh
  · by_cases hn : ∀ o ∈ os, o.h ≠ n
    · rw [hsame n hn]; exact (R.ver n).keep M.ver
    · obtain ⟨o, pv, rfl, hmem, hF, m, e, y, hm, hsh, hy, hg⟩ := written n hn
      rw [hg]; exact VerOk_home (wrapS_home hy)
  · by_cases hn : ∀ o ∈ os, o.h ≠ h
    · rw [hsame h hn]
      exact ⟨m, hm, RefR.keep hk ⟨h, rfl, hno h hn⟩ hr⟩
    · exfalso
      obtain ⟨o, pv, rfl, hmem, hF, m', e, y, hm', hsh, hy, hg⟩ := written h hn
      rw [hg] at hv hpv
      cases hF with
      | box n h t2 sh x0 y2 v hl hb hv2 hm0 ha =>
        rw [hm0] at hm
        cases hm
        simp only at hv
        have hfz : sh.isFz = true := by
          cases hs : sh.isFz with
          | true => rfl
          | false => rw [hs] at hv; simp at hv
        obtain ⟨b, cs, te, _, _, _, _, hp⟩ := ha
        have := (isFz_at p t2 hp hfz hr.2.1).1
        rw [hr.2.2.2] at this; cases this
      | row n h te t2 s x0 y2 v k hl hno2 hb hv2 hk2 hm0 ha =>
        simp only at hv
        omega
  · by_cases hn : ∀ o ∈ os, o.h ≠ h
    · rw [hsame h hn]
      exact ⟨rfl, hk.base _ ⟨h, rfl, hno h hn⟩⟩
    · exfalso
      obtain ⟨o, pv, rfl, _, _, m', e, y, _, _, _, hg⟩ := written h hn
      rw [hg] at hpv
      simp only at hpv
      omega
  · by_cases hn : ∀ o ∈ os, o.h ≠ h
    · rw [hsame h hn]
      exact ⟨m, hm, AddrR.keep (hk.base _ ⟨h, rfl, hno h hn⟩) hr⟩
    · obtain ⟨o, pv, rfl, hmem, hF, m', e, y, hm', hsh, hy, hg⟩ := written h hn
      rw [hg] at hv ⊢
      refine ⟨_, wrapS_home hy, ?_⟩
      cases hF with
      | box n h t2 sh x0 y2 v hl hb hv2 hm0 ha =>
        rw [hm0] at hm hm'
        cases hm
        cases hm'
        simp only at hv
        have hfz : sh.isFz = true := by
          cases hs : sh.isFz with
          | true => rfl
          | false => rw [hs] at hv; simp at hv
        obtain ⟨k1, k2, b2, o2, k3, k4⟩ := hr
        obtain ⟨b, cs, te, hx, hB, hst, _, hp⟩ := ha
        obtain ⟨b', cs', te', hx', hB', hst', _, hp'⟩ := hb
        have hbb : b' = b := by
          rw [hx] at hx'
          simp only [Value.pointer.injEq, Option.some.injEq, Addr.mk.injEq] at hx'
          exact hx'.1.symm
        obtain ⟨_, f2, f3⟩ := isFz_at p t2 hp hfz k2
        refine ⟨k1, f2 _, b2, o2, k3, ?_⟩
        have hgp := backG_param (w' := w') (g := g) (g' := g') (self := self) u hl w.heap.size
        have hBB : (backG g (pmOf ms os vals 0) g' w.heap.size self).B (.inl h) [] = g.B (.inl h) [] := by
          have := hgp.base []
          simp only [List.append_nil] at this
          rw [← this, hB', hB, hbb]
        have hcur : HK.cur (backG g (pmOf ms os vals 0) g' w.heap.size self) h .box = HK.cur g h .box := by simp only [HK.cur, hBB]
        rw [← k4]
        show adrF _ _ t2 [0] (HK.cur _ h .box) p = adrF _ _ t2 [0] (HK.cur g h .box) p
        rw [hcur]
        exact f3 _ _ _ _ _ _ _
      | row n h te t2 s x0 y2 v k hl hno2 hb hv2 hk2 hm0 ha =>
        simp only at hv
        omega
end
end Go.Ev

/- Operations: calls, function values. -/
namespace Go.Ev
open Go.RowKit
variable {P : Program}

/-- What is under way at many roots is under way at one. -/
def gatherG (g : Gh) : Gh where
  st b := match g.st b with
    | some (.inr j, π) => some (.inr 0, j :: π)
    | x => x
  B r := if r = .inr 0 then fun q => match q with
      | j :: q => g.B (.inr j) q
      | [] => 0
    else g.B r
  fz := g.fz
theorem gatherG_goes {g : Gh} {w : World} (j : Nat) : Goes w g (.inr j) [] w (gatherG g) (.inr 0) [j] where
  old b h := ⟨h, rfl⟩
  own b q h := ⟨by simp only [gatherG, h]; rfl, rfl⟩
  base q := by simp [gatherG]
theorem gatherG_keeps {g : Gh} {w : World} : Keeps (fun r => ∃ n, r = .inl n) w g w (gatherG g) where
  old b h := ⟨h, rfl⟩
  own r hr b π h := by
    obtain ⟨n, rfl⟩ := hr
    exact ⟨by simp only [gatherG, h], rfl⟩
  base r hr := by
    obtain ⟨n, rfl⟩ := hr
    simp [gatherG]
theorem gatherG_ok {g : Gh} {w : World} (ok : GhOk w g) : GhOk w (gatherG g) where
  own b r π h := by
    simp only [gatherG] at h
    cases hs : g.st b with
    | none => rw [hs] at h; cases h
    | some x =>
      obtain ⟨r1, ρ⟩ := x
      exact ok.own b r1 ρ hs
  fz b h := ok.fz b h
theorem gatherG_ext {g : Gh} {w : World} : Ext w g w (gatherG g) where
  os := rfl
  tape := rfl
  output := rfl
  size := Nat.le_refl _
  block b _ hs := ⟨rfl, by simp [gatherG, hs]⟩
  fz b h := h
  fzn b h := .inl h

section
variable {R' : Type} {A : Nat → Value} {w w' : World} {g g' g0 : Gh} {tm : Array Value} {ds : List Deferred} {σ σ' : Env} {c : G} {K : Unit → Env → Option R'} {r : R'} {Q : Exit → Act → World → Prop} {o : Oper} {C : Ctx}

/-- The results of a call come into a slot. -/
theorem post_results {rp : Bool} {l : List PV} {us : List Value} (R : Rel P A w' g tm σ) (E : Ext w g0 w' g) (hon : σ.on c = true) (hD : DstOk A σ c o.dst tm) (hc : Gd σ c) (h : (fin c o.dst (one rp l)).run σ K = some r) (hrp : rp = true → l.length = 1)
    (hres : ResR P w' g rp l us) : Post P A w g0 ds tm.size K r ((⟨tm, ds⟩ : Act).put o.dst (packV us)) w' := by
  have hK := fin_ok h
  have hv : ∀ σ', VerOk σ' (one rp l) := by
    intro σ'
    unfold one
    split
    · split <;> trivial
    · trivial
  have main : ∀ g1, Rel P A w' g1 tm σ → Ext w g0 w' g1 → (∀ g' σ' d, Goes w' g1 (.inr 0) [] w' g' (.inl d) [] → SR P w' g' A σ' d 0 (one rp l) (packV us)) → Post P A w g0 ds tm.size K r ((⟨tm, ds⟩ : Act).put o.dst (packV us)) w' := by
    intro g1 R1 E1 hs
    obtain ⟨g2, R2, E2⟩ := R1.arrive (dst := o.dst) (s := one rp l) (y := packV us) 0 hD hc hv (fun g' σ' d k _ => hs g' σ' d k) (fun hf => by rw [hon] at hf; cases hf)
    refine ⟨g2, _, ?_, E1.trans E2, put_defers _ _ _ _, ?_, hK⟩
    · rw [put_tmps]; exact R2
    · rw [put_tmps, putT_size]
  obtain ⟨hlen, hall⟩ := hres
  by_cases h1 : l.length = 1
  · obtain ⟨x, rfl⟩ := List.length_eq_one_iff.1 h1
    obtain ⟨u, rfl⟩ := List.length_eq_one_iff.1 (by rw [hlen]; exact h1)
    have hx := hall 0 x u rfl rfl
    refine main g R E (fun g' σ' d k => ?_)
    cases rp with
    | true => exact BoxR.go k (show BoxR P w' g (.inr 0) x.t x.sh x.v u from hx)
    | false => exact RpV.go k (show RpV P w' g (.inr 0) x.t [] x.sh x.v u from hx)
  · have hrp : rp = false := by
      cases rp with
      | true => exact absurd (hrp rfl) h1
      | false => rfl
    subst hrp
    have hone : one false l = .tup l := by
      unfold one
      split
      · exact absurd rfl h1
      · rfl
    have hpk : packV us = .tuple us.toArray := by
      unfold packV
      split
      · rename_i v
        simp at hlen
        exact absurd hlen.symm h1
      · rfl
    refine main (gatherG g) (R.world gatherG_keeps (gatherG_ok R.ok)) (E.trans gatherG_ext) (fun g' σ' d k => ?_)
    rw [hone, hpk]
    refine ⟨us.toArray, rfl, by simpa using hlen, fun j y hy _ => ?_⟩
    have hj : j < us.length := by rw [hlen]; exact (List.getElem?_eq_some_iff.1 hy).1
    refine ⟨us[j], by simp [hj], ?_⟩
    have := hall j y us[j] hy (List.getElem?_eq_getElem hj)
    exact RpV.go (k.sub [j]) (RpV.go (gatherG_goes j) (by simpa using this))

theorem exec_call {f : FuncId} {args : Array Operand} {as : Array TypeId} (ρ : Operand → Value) (w : World) (hρ : ρ (.func f) = .func (.func f) #[] #[]) (ho : o.op = .call { callee := .value (.func f), args := args, argTypes := as }) (hf : FnOk P f = true) :
    (execOp ρ o).run P w = .ok (.enter f (args.map ρ)) w := by
  unfold FnOk at hf
  cases hfn : P.funcs[f]? with
  | none => rw [hfn] at hf; cases hf
  | some fn =>
    rw [hfn] at hf
    simp only [Bool.and_eq_true, Bool.not_eq_true', beq_eq_false_iff_ne, ne_eq] at hf
    have hb : fn.body ≠ none := by
      intro hb
      rw [hb] at hf; simp at hf
    simp [execOp, ho, resolve, hρ, Deferred.ofValue, invoke, callFunc, hfn, hf.2, hb]

theorem callK_ok {f : FuncId} {sp : FSpec} {fr : List (Nat × Path)} {os : List Out} {vs : DL sp.ps} {args : Array Operand} {as : Array TypeId} {on : Bool} (hSd : Sound P C.fuel f sp) (R : Rel P A w g tm σ) (E : Ext w g0 w g) (hon : σ.on c = on) (hD : DstOk A σ c o.dst tm) (hc : Gd σ c)
    (hcg : c.isEmpty = true → on = true) (hC : on = true → ArgsC P w g A tm σ fr sp.ms sp.ps vs (args.toList.map (Act.eval ⟨tm, ds⟩)) os) (hd : distinct os) (hfr : ∀ o ∈ os, ∀ p, (o.h, p) ∉ fr) (hself : sp.self = false → fr = [])
    (ho : o.op = .call { callee := .value (.func f), args := args, argTypes := as }) (h : (callK C c on o.dst sp os vs).run σ K = some r) : OpDoes P A o w g0 tm ds on K r Q := by
  unfold callK at h
  split at h
  · rename_i hrp
    unfold askG at h
    simp only [Acc.run] at h
    unfold OpDoes
    cases on with
    | true =>
      rw [if_pos rfl]
      have hif : (if c.isEmpty = true then sp.f C.fuel vs else if (true : Bool) = true then sp.f C.fuel vs else some (dfltL sp.rs)) = sp.f C.fuel vs := by simp
      rw [hif] at h
      cases hy : sp.f C.fuel vs with
      | none => rw [hy] at h; cases h
      | some y =>
        rw [hy] at h
        simp only [Option.bind_some] at h
        obtain ⟨σ', h, M, hsame, hlen, hall⟩ := outs_on rfl os _ hd h
        have hC := hC rfl
        have u := pmOf_uniq sp.ms os (args.toList.map (Act.eval ⟨tm, ds⟩)) 0 hd
        have hlent : ∀ b, lentB g σ fr b → ∃ h π, g.st b = some (.inl h, π) ∧ ¬ ∃ n, (n, h) ∈ pmOf sp.ms os (args.toList.map (Act.eval ⟨tm, ds⟩)) 0 := by
          rintro b ⟨h, p, m, hmem, hm, q, hb⟩
          refine ⟨h, _, hb, ?_⟩
          rintro ⟨n, hn⟩
          obtain ⟨_, o, ho, he⟩ := pmOf_le sp.ms os _ 0 _ hn
          exact hfr o ho p (by rw [he]; exact hmem)
        have hcalls := hSd.2 vs y hy w (callG g (pmOf sp.ms os (args.toList.map (Act.eval ⟨tm, ds⟩)) 0) (lentB g σ fr)) _ (callG_ok R.ok hlent) (argsR_of u sp.ms sp.ps 0 hC (fun _ h => h))
        unfold Oper.wp
        rw [exec_call _ w rfl ho hSd.1]
        show Calls P f (args.map (Act.eval ⟨tm, ds⟩)) w _
        have harr : (args.toList.map (Act.eval ⟨tm, ds⟩)).toArray = args.map (Act.eval ⟨tm, ds⟩) := by
          apply Array.ext'; simp
        rw [← harr]
        refine hcalls.mono ?_
        rintro e w' ⟨g', us, rfl, hok', hext, hres, hout⟩
        obtain ⟨R2, E2⟩ := call_rel (self := sp.self) R hC hd hfr hself (fun hs z hz => by
          have hs' : ((parts sp.rs y sp.rsh).all fun z => selfc z.t z.sh) = true := by
            rw [← parts_self sp.rs (dfltL sp.rs) y sp.rsh]; exact hs
          exact List.all_eq_true.1 hs' z (List.mem_of_mem_drop hz)) hok' hext hout M hsame hlen hall
        refine post_results R2 (E.trans E2) ((M.on hc).trans hon) (hD.mild M) (M.gdOk hc) h (fun hr => ?_) ?_
        · rw [hr] at hrp
          simp only [Bool.not_true, Bool.false_or, Bool.and_eq_true, beq_iff_eq, decide_eq_true_eq] at hrp
          rw [List.length_take, parts_length]; omega
        · refine ⟨hres.1, fun j z u hz hu => ?_⟩
          have hr := hres.2 j z u hz hu
          have hsz : sp.self = true → selfc z.t z.sh = true := fun hs => by
            have hs' : ((parts sp.rs y sp.rsh).all fun z => selfc z.t z.sh) = true := by
              rw [← parts_self sp.rs (dfltL sp.rs) y sp.rsh]; exact hs
            exact List.all_eq_true.1 hs' z (List.mem_of_mem_take (List.mem_of_getElem? hz))
          have hg := backG_res (w' := w') (g := g) (g' := g') (L := pmOf sp.ms os (args.toList.map (Act.eval ⟨tm, ds⟩)) 0) (self := sp.self) j w.heap.size
          split
          · rename_i hr1
            rw [if_pos hr1] at hr
            obtain ⟨b, cs, te, hu', hB, hst, hcell, hp⟩ := hr
            have h1 := hg.own b [] hst
            have h2 := hg.base []
            exact ⟨b, cs, te, hu', by rw [← hB]; exact h2.symm, h1.1, hcell, back_go hsz (hg.sub [0]) (fun hs => backG_old hs) hp⟩
          · rename_i hr1
            rw [if_neg hr1] at hr
            exact ⟨back_go hsz hg (fun hs => backG_old hs) hr.1, hr.2⟩
    | false =>
      rw [if_neg (by simp)]
      have hce : c.isEmpty = false := by
        cases hc0 : c.isEmpty with
        | false => rfl
        | true => exact absurd (hcg hc0) (by simp)
      have hif : (if c.isEmpty = true then sp.f C.fuel vs else if (false : Bool) = true then sp.f C.fuel vs else some (dfltL sp.rs)) = some (dfltL sp.rs) := by simp [hce]
      rw [hif] at h
      simp only [Option.bind_some] at h
      obtain ⟨σ', h, R2, M⟩ := outs_off hcg rfl os _ R h
      have hK := fin_ok h
      have hon2 : σ'.on c = false := (M.on hc).trans hon
      obtain ⟨g2, R3, E3⟩ := R2.arrive (dst := o.dst) (s := one sp.rp ((parts sp.rs (dfltL sp.rs) sp.rsh).take sp.nres)) (y := undef) 0 (hD.mild M) (M.gdOk hc) (fun σ' => by
        unfold one
        split
        · split <;> trivial
        · trivial) (fun g' σ' d k h1 => by rw [hon2] at h1; cases h1) (fun _ => rfl)
      refine ⟨g2, _, ?_, E.trans E3, put_defers _ _ _ _, ?_, hK⟩
      · rw [put_tmps]; exact R3
      · rw [put_tmps, putT_size]
  · cases h

theorem ArgsC.frozen {g2 : Gh} {σ2 : Env} {fr : List (Nat × Path)} {R : Root → Prop} (hl : ∀ t (x : D t) v, LentOr P w g σ fr t x v → FrV P t w g2.fz x v) (hk : Keeps R w g w g2) : (ms : List Md) → (ts : Tys) → {x : DL ts} → {vals : List Value} → {os : List Out} →
    (∀ o ∈ os, R (.inl o.h) ∧ σ2.get o.h = σ.get o.h) → ArgsC P w g A tm σ fr ms ts x vals os → ArgsC P w g2 A tm σ2 [] ms ts x vals os
  | [], .nil, x, vals, os, hs, h => by simp only [ArgsC] at h ⊢; exact h
  | .fz :: ms, .cons t ts, x, vals, os, hs, h => by
    simp only [ArgsC] at h ⊢
    obtain ⟨v, rest, h1, h2, h3⟩ := h
    exact ⟨v, rest, h1, .inl (hl _ _ _ h2), ArgsC.frozen hl hk ms ts hs h3⟩
  | .efz :: ms, .cons t ts, x, vals, os, hs, h => by
    simp only [ArgsC] at h ⊢
    obtain ⟨v, rest, h1, ⟨b, o, hx, hb, hf⟩, h3⟩ := h
    exact ⟨v, rest, h1, ⟨b, o, hx, (hk.old b hb).1, Fr.mono t hk.old hf⟩, ArgsC.frozen hl hk ms ts hs h3⟩
  | .nilp :: ms, .cons t ts, x, vals, os, hs, h => by
    simp only [ArgsC] at h ⊢
    obtain ⟨v, rest, h1, h2, h3⟩ := h
    exact ⟨v, rest, h1, h2, ArgsC.frozen hl hk ms ts hs h3⟩
  | .mut sh :: ms, .cons t ts, x, vals, os, hs, h => by
    simp only [ArgsC] at h ⊢
    obtain ⟨v, rest, h, os', h1, rfl, h3, h4, h5, h6⟩ := h
    have h0 := hs _ List.mem_cons_self
    exact ⟨v, rest, h, os', h1, rfl, by rw [h0.2]; exact h3, HomeR.keep hk h0.1 h4, h5, ArgsC.frozen hl hk ms ts (fun o ho => hs o (List.mem_cons_of_mem _ ho)) h6⟩
  | .row s :: ms, .cons (.sl e t) ts, x, vals, os, hs, h => by
    simp only [ArgsC] at h ⊢
    obtain ⟨v, rest, h, os', k, h1, rfl, h3, h4, h5, h6, h7⟩ := h
    have h0 := hs _ List.mem_cons_self
    exact ⟨v, rest, h, os', k, h1, rfl, h3, by rw [h0.2]; exact h4, HomeR.keep hk h0.1 h5, ⟨RpV.go (hk.goes h0.1 _) h6.1, h6.2⟩, ArgsC.frozen hl hk ms ts (fun o ho => hs o (List.mem_cons_of_mem _ ho)) h7⟩
  | [], .cons _ _, x, vals, os, hs, h => by simp only [ArgsC] at h
  | .fz :: _, .nil, x, vals, os, hs, h => by simp only [ArgsC] at h
  | .efz :: _, .nil, x, vals, os, hs, h => by simp only [ArgsC] at h
  | .nilp :: _, .nil, x, vals, os, hs, h => by simp only [ArgsC] at h
  | .mut _ :: _, .nil, x, vals, os, hs, h => by simp only [ArgsC] at h
  | .row _ :: _, .nil, x, vals, os, hs, h => by simp only [ArgsC] at h
  | .row _ :: _, .cons (.int _) _, x, vals, os, hs, h => by simp only [ArgsC] at h
  | .row _ :: _, .cons .bool _, x, vals, os, hs, h => by simp only [ArgsC] at h
  | .row _ :: _, .cons (.agg _) _, x, vals, os, hs, h => by simp only [ArgsC] at h
  | .row _ :: _, .cons (.arr _ _) _, x, vals, os, hs, h => by simp only [ArgsC] at h
  | .row _ :: _, .cons (.fn _ _) _, x, vals, os, hs, h => by simp only [ArgsC] at h

theorem call_ok {f : FuncId} {sp : FSpec} {args : Array Operand} {as : Array TypeId} (hS : SoundC P C) (hSd : Sound P C.fuel f sp) (R : Rel P A w g tm σ) (hD : DstOk A σ c o.dst tm) (hc : Gd σ c) (hcg : c.isEmpty = true → σ.on c = true)
    (ho : o.op = .call { callee := .value (.func f), args := args, argTypes := as }) (h : (call C c (σ.on c) o.dst sp args.toList).run σ K = some r) : OpDoes P A o w g tm ds (σ.on c) K r Q := by
  unfold call at h
  obtain ⟨fr, os, vs, h', ha⟩ := args_ok ds hS R hc hcg sp.ms sp.ps args.toList h
  clear h; have h := h'; clear h'
  split at h
  · rename_i hlone
    obtain ⟨hd, hfr⟩ := lone_distinct os hlone
    split at h
    · rename_i hself
      exact callK_ok hSd R (Ext.refl _ _) rfl hD hc hcg ha hd hfr (fun hs => by rw [hself] at hs; cases hs) ho h
    · rename_i hself
      obtain ⟨g1, σ1, h', R1, M, E1, hsame, hk, hl⟩ := freezeAll_ok fr R h
      clear h; have h := h'; clear h'
      have hon1 : σ1.on c = σ.on c := M.on hc
      refine callK_ok (fr := []) hSd R1 E1 hon1 (hD.mild M) (M.gdOk hc) hcg (fun hon => ?_) hd (fun o ho p hp => by cases hp) (fun _ => rfl) ho h
      exact ArgsC.frozen hl hk sp.ms sp.ps (fun o ho => ⟨⟨o.h, rfl, fun p => hfr o ho p⟩, hsame o.h (fun p => hfr o ho p)⟩) (ha hon)
  · cases h
end
end Go.Ev

/- Operations: function values. -/
namespace Go.Ev
open Go.RowKit
variable {P : Program}

def FargsC (P : Program) (w : World) (g : Gh) (σ : Env) (fr : List (Nat × Path)) : (ts : Tys) → DL ts → List Value → Prop
  | .nil, _, vals => vals = []
  | .cons t ts, x, vals => ∃ v rest, vals = v :: rest ∧ LentOr P w g σ fr t x.1 v ∧ FargsC P w g σ fr ts x.2 rest
theorem FargsC.mono {w : World} {g : Gh} {σ : Env} {fr fr' : List (Nat × Path)} (hf : ∀ y ∈ fr, y ∈ fr') : (ts : Tys) → {x : DL ts} → {vals : List Value} → FargsC P w g σ fr ts x vals → FargsC P w g σ fr' ts x vals
  | .nil, x, vals, h => h
  | .cons t ts, x, vals, h => by
    simp only [FargsC] at h ⊢
    obtain ⟨v, rest, h1, h2, h3⟩ := h
    exact ⟨v, rest, h1, h2.mono hf, FargsC.mono hf ts h3⟩
theorem FargsC.fr {w : World} {g : Gh} {σ : Env} {fr : List (Nat × Path)} {fz : Nat → Prop} (hl : ∀ t (x : D t) v, LentOr P w g σ fr t x v → FrV P t w fz x v) : (ts : Tys) → {x : DL ts} → {vals : List Value} → FargsC P w g σ fr ts x vals → FrA P ts w fz x vals
  | .nil, x, vals, h => by simp only [FrA]; exact h
  | .cons t ts, x, vals, h => by
    simp only [FargsC] at h
    simp only [FrA]
    obtain ⟨v, rest, h1, h2, h3⟩ := h
    exact ⟨v, rest, h1, hl _ _ _ h2, FargsC.fr hl ts h3⟩

theorem selfc_plain : (t : Ty) → selfc t .fz = true → t.plain = true
  | .int _, _ => rfl
  | .bool, _ => rfl
  | .agg f, h => by simpa [selfc, Ty.plain] using h
  | .sl _ _, h => by simp [selfc] at h
  | .arr _ t, h => by simpa [selfc, Ty.plain] using h
  | .fn _ _, h => by simp [selfc] at h

theorem FrA.parts {w : World} {fz : Nat → Prop} {g2 : Gh} {self : Bool} (hg : self = false → ∀ b, fz b → g2.fz b) : (ts : Tys) → {y : DL ts} → {us : List Value} → (k : Nat) → (self = true → selfT ts = true) → FrA P ts w fz y us →
    us.length = (parts ts y (List.replicate ts.len .fz)).length ∧ ∀ j z u, (parts ts y (List.replicate ts.len .fz))[j]? = some z → us[j]? = some u → RpV P w g2 (.inr (k + j)) z.t [] z.sh z.v u
  | .nil, y, us, k, hs, h => by
    simp only [FrA] at h
    subst h
    exact ⟨rfl, fun j z u hz hu => by simp at hu⟩
  | .cons t ts, y, us, k, hs, h => by
    simp only [FrA] at h
    obtain ⟨u0, us, rfl, h1, h2⟩ := h
    obtain ⟨k1, k2⟩ := FrA.parts hg ts (k + 1) (fun h => by have := hs h; simp only [selfT, Bool.and_eq_true] at this; exact this.2) h2
    refine ⟨by simp only [Tys.len, List.replicate_succ, Go.Ev.parts, List.length_cons]; rw [k1], fun j z u hz hu => ?_⟩
    simp only [Tys.len, List.replicate_succ, Go.Ev.parts] at hz
    cases j with
    | zero =>
      simp only [List.getElem?_cons_zero, Option.some.injEq] at hz hu
      subst hz; subst hu
      refine ⟨Rp.of_fr t ?_, h1.2⟩
      cases self with
      | true =>
        have := hs rfl
        simp only [selfT, Bool.and_eq_true] at this
        exact Fr.plainAny t (selfc_plain t this.1) h1.1
      | false => exact Fr.mono t (fun b hb => ⟨hg rfl b hb, rfl⟩) h1.1
    | succ j =>
      simp only [List.getElem?_cons_succ] at hz hu
      have := k2 j z u hz hu
      rwa [show k + 1 + j = k + (j + 1) by omega] at this

section
variable {R' : Type} {A : Nat → Value} {w w' : World} {g g' g0 : Gh} {tm : Array Value} {ds : List Deferred} {σ σ' : Env} {c : G} {K : Unit → Env → Option R'} {r : R'} {Q : Exit → Act → World → Prop} {o : Oper} {C : Ctx}

theorem fargs_ok {α : Type} {K : α → Env → Option R'} (ds : List Deferred) (hS : SoundC P C) (R : Rel P A w g tm σ) (hc : Gd σ c) : (ts : Tys) → (xs : List Operand) → {k : List (Nat × Path) → DL ts → Acc α} → (fargs C c ts xs k).run σ K = some r →
    ∃ fr vs, (k fr vs).run σ K = some r ∧ (σ.on c = true → FargsC P w g σ fr ts vs (xs.map (Act.eval ⟨tm, ds⟩)))
  | .nil, [], k, h => ⟨[], (), h, fun _ => by simp [FargsC]⟩
  | .cons t ts, x :: xs, k, h => by
    rw [fargs] at h
    obtain ⟨i, s, h', H, hslot, hform⟩ := rd_ok R ds h
    clear h; have h := h'; clear h'
    obtain ⟨fr, v, h', hv⟩ := borrow_ok hS R hc H h
    clear h; have h := h'; clear h'
    obtain ⟨fr2, vs, h, ha⟩ := fargs_ok ds hS R hc ts xs h
    refine ⟨_, _, h, fun hon => ?_⟩
    simp only [FargsC, List.map_cons]
    exact ⟨_, _, rfl, (hv hon).mono (fun y hy => List.mem_append_left _ hy), FargsC.mono (fun y hy => List.mem_append_right _ hy) ts (ha hon)⟩
  | .nil, _ :: _, k, h => by simp [fargs, Acc.run] at h
  | .cons _ _, [], k, h => by simp [fargs, Acc.run] at h

theorem exec_callV {x : Operand} {args caps : Array Value} {argsO : Array Operand} {as : Array TypeId} {f : FuncId} (ρ : Operand → Value) (w : World) (hρ : ρ x = .func (.func f) #[] caps) (ho : o.op = .call { callee := .value x, args := argsO, argTypes := as }) (hf : FnOk P f = true) :
    (execOp ρ o).run P w = .ok (.enter f (argsO.map ρ ++ caps)) w := by
  unfold FnOk at hf
  cases hfn : P.funcs[f]? with
  | none => rw [hfn] at hf; cases hf
  | some fn =>
    rw [hfn] at hf
    simp only [Bool.and_eq_true, Bool.not_eq_true', beq_eq_false_iff_ne, ne_eq] at hf
    have hb : fn.body ≠ none := by
      intro hb
      rw [hb] at hf; simp at hf
    simp [execOp, ho, resolve, hρ, Deferred.ofValue, invoke, callFunc, hfn, hf.2, hb]

/-- The memory that is frozen grows. -/
theorem fz_keeps {fz : Nat → Prop} (hb : Below w.heap.size w w') (ok : GhOk w g) (hfz : ∀ b, g.fz b → fz b) : Keeps (fun r => ∃ n, r = .inl n) w g w' ⟨g.st, g.B, fz⟩ where
  old b h := ⟨hfz b h, hb.block b (ok.fz b h)⟩
  own r hr b π h := ⟨h, hb.block b (ok.own b _ _ h).1⟩
  base r hr := rfl

theorem callV_ok {a q : Tys} {fv : DL a → Option (DL q)} {vs : DL a} {fr : List (Nat × Path)} {x : Operand} {args : Array Operand} {as : Array TypeId} {on : Bool} (hx : on = true → Fr P (.fn a q) w g.fz fv (Act.eval ⟨tm, ds⟩ x).cells.toList ∧ isAggV (Act.eval ⟨tm, ds⟩ x) = false)
    (R : Rel P A w g tm σ) (E : Ext w g0 w g) (hon : σ.on c = on) (hD : DstOk A σ c o.dst tm) (hc : Gd σ c) (hcg : c.isEmpty = true → on = true) (hC : on = true → FargsC P w g σ fr a vs (args.toList.map (Act.eval ⟨tm, ds⟩))) (hself : selfT q = false → fr = [])
    (ho : o.op = .call { callee := .value x, args := args, argTypes := as }) (h : (callV c on o a q fv vs).run σ K = some r) : OpDoes P A o w g0 tm ds on K r Q := by
  unfold callV askG at h
  simp only [Acc.run] at h
  unfold OpDoes
  cases on with
  | true =>
    rw [if_pos rfl]
    have hif : (if c.isEmpty = true then fv vs else if (true : Bool) = true then fv vs else some (dfltL q)) = fv vs := by simp
    rw [hif] at h
    cases hy : fv vs with
    | none => rw [hy] at h; cases h
    | some y =>
      rw [hy] at h
      simp only [Option.bind_some] at h
      obtain ⟨hfr, hna⟩ := hx rfl
      rw [cells_one hna] at hfr
      simp only [Fr] at hfr
      rcases hfr with ⟨_, hn⟩ | ⟨gf, caps, hv, hok, hall⟩
      · rw [hn vs] at hy; cases hy
      simp only [List.cons.injEq, and_true] at hv
      have hl : ∀ b, lentB g σ fr b → b < w.heap.size := by
        rintro b ⟨h, p, m, _, _, q, hb⟩
        exact (R.own b _ _ hb).1
      have hcalls := hall vs y hy w (fun b => g.fz b ∨ lentB g σ fr b) (fun b hb => ⟨.inl hb, rfl⟩) (fun b hb => hb.elim (R.fz b) (hl b)) (args.toList.map (Act.eval ⟨tm, ds⟩)) (FargsC.fr (fun t x v hlo => by
        rcases hlo with h2 | ⟨h, p, m, hmem, hm, hty, hval, π, hπ, hrv, hng⟩
        · exact ⟨Fr.mono t (fun b hb => ⟨.inl hb, rfl⟩) h2.1, h2.2⟩
        · subst hπ
          exact ⟨Rp.freeze (g' := ⟨g.st, g.B, fun b => g.fz b ∨ lentB g σ fr b⟩) t hng (fun b hb => ⟨.inl hb, rfl⟩) (fun b q hb => ⟨.inr ⟨h, p, m, hmem, hm, q, hb⟩, rfl⟩) hrv.1, hrv.2⟩) a (hC rfl))
      unfold Oper.wp
      rw [exec_callV (args := #[]) _ w hv ho hok]
      show Calls P gf (args.map (Act.eval ⟨tm, ds⟩) ++ caps) w _
      have harr : (args.toList.map (Act.eval ⟨tm, ds⟩)).toArray = args.map (Act.eval ⟨tm, ds⟩) := by
        apply Array.ext'; simp
      rw [← harr]
      refine hcalls.mono ?_
      rintro e w' ⟨us, fz2, rfl, hbel, hsub, hlt, hnew, hres⟩
      have hlent : selfT q = false → ∀ b, ¬ lentB g σ fr b := by
        rintro hs b ⟨h, p, m, hmem, _⟩
        rw [hself hs] at hmem; cases hmem
      have hgfz : ∀ b, g.fz b → (if selfT q = true then g.fz b else fz2 b) := by
        intro b hb
        split
        · exact hb
        · exact hsub b (.inl hb)
      have hk := fz_keeps (fz := fun b => if selfT q = true then g.fz b else fz2 b) hbel R.ok hgfz
      have hokg : GhOk w' ⟨g.st, g.B, fun b => if selfT q = true then g.fz b else fz2 b⟩ := by
        refine ⟨fun b r π hb => ?_, fun b hb => ?_⟩
        · have := R.own b r π hb
          refine ⟨Nat.lt_of_lt_of_le this.1 hbel.size, fun hf => ?_⟩
          simp only at hf
          split at hf
          · exact this.2 hf
          · rename_i hs
            rcases hnew b hf with h1 | h1
            · rcases h1 with h1 | h1
              · exact this.2 h1
              · exact hlent (by simpa using hs) b h1
            · omega
        · simp only at hb
          split at hb
          · exact Nat.lt_of_lt_of_le (R.fz b hb) hbel.size
          · exact hlt b hb
      have hE : Ext w g w' ⟨g.st, g.B, fun b => if selfT q = true then g.fz b else fz2 b⟩ := by
        refine ⟨hbel.os, hbel.tape, hbel.output, hbel.size, fun b hb hs => ⟨hbel.block b hb, hs⟩, hgfz, fun b hb => ?_⟩
        simp only at hb
        split at hb
        · exact .inl hb
        · rename_i hs
          rcases hnew b hb with h1 | h1
          · rcases h1 with h1 | h1
            · exact .inl h1
            · exact absurd h1 (hlent (by simpa using hs) b)
          · exact .inr (.inr h1)
      refine post_results (R.world hk hokg) (E.trans hE) hon hD hc h (fun hr => by cases hr) ?_
      obtain ⟨k1, k2⟩ := FrA.parts (g2 := ⟨g.st, g.B, fun b => if selfT q = true then g.fz b else fz2 b⟩) (self := selfT q) (fun hs b hb => by simp only [hs]; exact hb) q 0 (fun h => h) hres
      refine ⟨k1, fun j z u hz hu => ?_⟩
      have := k2 j z u hz hu
      rw [Nat.zero_add] at this
      exact this
  | false =>
    rw [if_neg (by simp)]
    have hce : c.isEmpty = false := by
      cases hc0 : c.isEmpty with
      | false => rfl
      | true => exact absurd (hcg hc0) (by simp)
    have hif : (if c.isEmpty = true then fv vs else if (false : Bool) = true then fv vs else some (dfltL q)) = some (dfltL q) := by simp [hce]
    rw [hif] at h
    simp only [Option.bind_some] at h
    have hK := fin_ok h
    obtain ⟨g2, R3, E3⟩ := R.arrive (dst := o.dst) (s := one false (parts q (dfltL q) (List.replicate q.len .fz))) (y := undef) 0 hD hc (fun σ' => by
      unfold one
      split
      · split <;> trivial
      · trivial) (fun g' σ' d k h1 => by rw [hon] at h1; cases h1) (fun _ => rfl)
    refine ⟨g2, _, ?_, E.trans E3, put_defers _ _ _ _, ?_, hK⟩
    · rw [put_tmps]; exact R3
    · rw [put_tmps, putT_size]

theorem oCallV_ok {x : Operand} {args : Array Operand} {as : Array TypeId} (hS : SoundC P C) (R : Rel P A w g tm σ) (hD : DstOk A σ c o.dst tm) (hc : Gd σ c) (hcg : c.isEmpty = true → σ.on c = true)
    (ho : o.op = .call { callee := .value x, args := args, argTypes := as }) (h : (oCallV C c (σ.on c) o x args.toList).run σ K = some r) : OpDoes P A o w g tm ds (σ.on c) K r Q := by
  unfold oCallV at h
  obtain ⟨i, s, h', H, hslot, hform⟩ := rd_ok R ds h
  clear h; have h := h'; clear h'
  split at h
  · rename_i a q sh fv
    obtain ⟨fr, vs, h', ha⟩ := fargs_ok ds hS R hc a args.toList h
    clear h; have h := h'; clear h'
    have H := H rfl
    have hx : σ.on c = true → Fr P (.fn a q) w g.fz fv (Act.eval ⟨tm, ds⟩ x).cells.toList ∧ isAggV (Act.eval ⟨tm, ds⟩ x) = false := fun hon => by
      have hm := H.mean hon
      exact ⟨Rp.fr _ H.light hm.1, hm.2⟩
    split at h
    · rename_i hs
      exact callV_ok hx R (Ext.refl _ _) rfl hD hc hcg ha (fun h0 => by rw [hs] at h0; cases h0) ho h
    · obtain ⟨g1, σ1, h', R1, M, E1, hsame, hk, hl⟩ := freezeAll_ok fr R h
      clear h; have h := h'; clear h'
      have hon1 : σ1.on c = σ.on c := M.on hc
      refine callV_ok (fr := []) (fun hon => ⟨Fr.mono _ hk.old (hx hon).1, (hx hon).2⟩) R1 E1 hon1 (hD.mild M) (M.gdOk hc) hcg (fun hon => ?_) (fun _ => rfl) ho h
      have fz : ∀ (ts : Tys) {x : DL ts} {vals : List Value}, FargsC P w g σ fr ts x vals → FargsC P w g1 σ1 [] ts x vals := by
        intro ts
        induction ts using Tys.rec (motive_1 := fun _ => True) with
        | nil => intro x vals h; exact h
        | cons t ts _ ih =>
          intro x vals h
          simp only [FargsC] at h ⊢
          obtain ⟨v, rest, h1, h2, h3⟩ := h
          exact ⟨v, rest, h1, .inl (hl _ _ _ h2), ih h3⟩
        | _ => trivial
      exact fz a (ha hon)
  · cases h

/-- The captured variables are frozen. -/
theorem caps_ok {α : Type} {K : α → Env → Option R'} (ds : List Deferred) : (xs : List Operand) → {k : List TV → Acc α} → {g : Gh} → {σ : Env} → Rel P A w g tm σ → (caps xs k).run σ K = some r →
    ∃ l g' σ', (k l).run σ' K = some r ∧ Rel P A w g' tm σ' ∧ Mild σ σ' ∧ Ext w g w g' ∧ Older w g.fz w g'.fz ∧ l.length = xs.length ∧ ∀ (j : Nat) x tv, xs[j]? = some x → l[j]? = some tv → EaR P w g'.fz tv.t tv.v (Act.eval ⟨tm, ds⟩ x)
  | [], k, g, σ, R, h => ⟨[], g, σ, h, R, Mild.refl _, Ext.refl _ _, Older.refl _ _, rfl, (fun j x tv hj => by simp at hj)⟩
  | .tmp i :: xs, k, g, σ, R, h => by
    simp only [caps, Acc.run] at h
    split at h
    · rename_i hgd
      have hon : σ.on (σ.get i).gd = true := by rw [isEmpty_nil hgd]; rfl
      have hsl := R.slot i hon
      split at h
      · rename_i u sh v hs
        split at h
        · rename_i hng
          simp only [Acc.run] at h
          split at h
          · rename_i hh
            rw [hs] at hsl
            obtain ⟨b, cs, te, hx, hB, hst, hc, hp⟩ := hsl
            have hne : (Sum.inl i : Root) ≠ .inr 1 := by simp
            have hk := turnG_keeps (g := g) (r0 := .inl i) (π0 := []) (sh' := .fz) (p := []) (fk := .inr 1) (τ := []) w
            have hk' : Keeps (fun r => ∃ n, r = .inl n ∧ n ≠ i) w g w (turnG g (.inl i) [] .fz [] (.inr 1) []) := hk.mono (by
              rintro r ⟨n, rfl, hn⟩
              exact ⟨by simpa using hn, by simp⟩)
            have hea : EaR P w (turnG g (.inl i) [] .fz [] (.inr 1) []).fz u v (tm.getD i undef) := by
              refine ⟨b, 0, hx, .inr ⟨[], hst, rfl⟩, ?_⟩
              have hrow : rowL w b = cs.toList := by simp only [rowL, hc]
              have hl : cs.toList.length = u.size := Rp.len _ hp
              rw [hrow, seg_all _ _ (by omega)]
              exact Rp.freeze u hng (turnG_older w) (fun b q hq => ⟨.inr ⟨[0] ++ q, by simpa using hq, rfl⟩, rfl⟩) hp
            have R1 : Rel P A w (turnG g (.inl i) [] .fz [] (.inr 1) []) tm (σ.turn i 1 0 (.ea u v)) := R.turn hh (Nat.le_refl 1) hk' (turnG_own R.own hne) (turnG_fz R.own R.fz) trivial (fun _ => hea)
            obtain ⟨l, g', σ', h, R2, M2, E2, O2, hlen, hall⟩ := caps_ok ds xs R1 h
            refine ⟨⟨u, v⟩ :: l, g', σ', h, R2, (Mild.turn hh).trans M2, (turnG_ext w).trans E2, (turnG_older w).trans O2, by simp [hlen], fun j x tv hj ht => ?_⟩
            cases j with
            | zero =>
              simp only [List.getElem?_cons_zero, Option.some.injEq] at hj ht
              subst hj; subst ht
              obtain ⟨b, o, h1, h2, h3⟩ := hea
              exact ⟨b, o, h1, (O2 b h2).1, Fr.mono u O2 h3⟩
            | succ j => exact hall j x tv (by simpa using hj) (by simpa using ht)
          · cases h
        · cases h
      · rename_i u v hs
        rw [hs] at hsl
        have hea : EaR P w g.fz u v (tm.getD i undef) := hsl
        obtain ⟨l, g', σ', h, R2, M2, E2, O2, hlen, hall⟩ := caps_ok ds xs R h
        refine ⟨⟨u, v⟩ :: l, g', σ', h, R2, M2, E2, O2, by simp [hlen], fun j x tv hj ht => ?_⟩
        cases j with
        | zero =>
          simp only [List.getElem?_cons_zero, Option.some.injEq] at hj ht
          subst hj; subst ht
          obtain ⟨b, o, h1, h2, h3⟩ := hea
          exact ⟨b, o, h1, (O2 b h2).1, Fr.mono u O2 h3⟩
        | succ j => exact hall j x tv (by simpa using hj) (by simpa using ht)
      · cases h
    · cases h
  | .const _ :: _, k, g, σ, R, h => by simp [caps, Acc.run] at h
  | .func _ :: _, k, g, σ, R, h => by simp [caps, Acc.run] at h
  | .global _ :: _, k, g, σ, R, h => by simp [caps, Acc.run] at h

theorem cast_ok {t u : Ty} {v : D u} {y : D t} (h : cast? t u v = some y) : ∃ e : u = t, y = e ▸ v := by
  unfold cast? at h
  split at h
  · rename_i e _
    simp only [Option.some.injEq] at h
    exact ⟨e, h.symm⟩
  · cases h

/-- The arguments of a function value, and what it captured. -/
theorem join_args {fz : Nat → Prop} {g1 : Gh} (hfz : g1.fz = fz) : (ps a : Tys) → (ms : List Md) → {x : DL a} → {l : List TV} → {y : DL ps} → {vs cv : List Value} → (n : Nat) → joinD ps a x l = some y → ms.length = ps.len → (ms.take a.len).all (· matches .fz) = true → (ms.drop a.len).all (· matches .efz) = true →
    FrA P a w fz x vs → cv.length = l.length → (∀ (j : Nat) z tv, cv[j]? = some z → l[j]? = some tv → EaR P w fz tv.t tv.v z) → ArgsR P w g1 ms ps y n (vs ++ cv)
  | .nil, .nil, ms, x, l, y, vs, cv, n, hj, hl, h1, h2, hf, hcl, hc => by
    cases l with
    | cons z l => simp [joinD] at hj
    | nil =>
      have hms : ms = [] := List.eq_nil_of_length_eq_zero (by simpa [Tys.len] using hl)
      subst hms
      simp only [FrA] at hf
      have hcv : cv = [] := List.eq_nil_of_length_eq_zero (by simpa using hcl)
      subst hf; subst hcv
      simp [ArgsR]
  | .cons t ts, .cons u us, ms, x, l, y, vs, cv, n, hj, hl, h1, h2, hf, hcl, hc => by
    simp only [joinD] at hj
    cases hc1 : cast? t u x.1 with
    | none => rw [hc1] at hj; cases hj
    | some y1 =>
      rw [hc1] at hj
      simp only [Option.bind_some] at hj
      cases hj2 : joinD ts us x.2 l with
      | none => rw [hj2] at hj; cases hj
      | some ys =>
        rw [hj2] at hj
        simp only [Option.bind_some, Option.some.injEq] at hj
        subst hj
        obtain ⟨e, rfl⟩ := cast_ok hc1
        subst e
        cases ms with
        | nil => simp [Tys.len] at hl
        | cons m ms =>
          simp only [Tys.len, List.length_cons, Nat.add_right_cancel_iff] at hl
          simp only [Tys.len, List.take_succ_cons, List.drop_succ_cons, List.all_cons, Bool.and_eq_true] at h1 h2
          simp only [FrA] at hf
          obtain ⟨v, rest, rfl, hv, hf⟩ := hf
          cases m with
          | fz =>
            simp only [List.cons_append, ArgsR]
            exact ⟨v, _, rfl, by rw [hfz]; exact hv, join_args hfz ts us ms (n + 1) hj2 hl h1.2 h2 hf hcl hc⟩
          | _ => simp at h1
  | .cons t ts, .nil, ms, x, l, y, vs, cv, n, hj, hl, h1, h2, hf, hcl, hc => by
    cases l with
    | nil => simp [joinD] at hj
    | cons z l =>
      simp only [joinD] at hj
      cases hc1 : cast? t z.t z.v with
      | none => rw [hc1] at hj; cases hj
      | some y1 =>
        rw [hc1] at hj
        simp only [Option.bind_some] at hj
        cases hj2 : joinD ts .nil x l with
        | none => rw [hj2] at hj; cases hj
        | some ys =>
          rw [hj2] at hj
          simp only [Option.bind_some, Option.some.injEq] at hj
          subst hj
          obtain ⟨e, rfl⟩ := cast_ok hc1
          cases ms with
          | nil => simp [Tys.len] at hl
          | cons m ms =>
            simp only [Tys.len, List.length_cons, Nat.add_right_cancel_iff] at hl
            simp only [Tys.len, List.drop_zero, List.all_cons, Bool.and_eq_true] at h2
            simp only [FrA] at hf
            subst hf
            cases cv with
            | nil => simp at hcl
            | cons c0 cv =>
              have hea := hc 0 c0 z rfl rfl
              cases m with
              | efz =>
                simp only [List.nil_append, ArgsR]
                obtain ⟨zt, zv⟩ := z
                simp only at e
                subst e
                refine ⟨c0, cv, rfl, by rw [hfz]; exact hea, ?_⟩
                have := join_args (vs := []) hfz ts .nil ms (n + 1) hj2 hl (by simp [Tys.len]) (by simpa [Tys.len] using h2.2) (by simp [FrA]) (by simpa using hcl) (fun j z tv h1 h2 => hc (j + 1) z tv (by simpa using h1) (by simpa using h2))
                simpa using this
              | _ => simp at h2
  | .nil, .cons _ _, ms, x, l, y, vs, cv, n, hj, hl, h1, h2, hf, hcl, hc => by simp [joinD] at hj

theorem oMakeFunc_ok {fn : Fn} {first cs : Array Operand} (hT : TOk P C.T = true) (hS : SoundC P C) (R : Rel P A w g tm σ) (hD : DstOk A σ c o.dst tm) (hc : Gd σ c) (ho : o.op = .makeFunc fn first cs)
    (h : (oMakeFunc C c o fn first.toList cs.toList).run σ K = some r) : OpDoes P A o w g tm ds (σ.on c) K r Q := by
  unfold oMakeFunc at h
  split at h
  · rename_i f a q hfirst hty
    split at h
    · rename_i sp hsp
      split at h
      · rename_i hh
        simp only [Bool.and_eq_true, beq_iff_eq, Bool.not_eq_true'] at hh
        obtain ⟨⟨⟨⟨⟨⟨h1, h2⟩, h3⟩, h4⟩, h5⟩, h6⟩, h7⟩ := hh
        obtain ⟨l, g1, σ1, h, R1, M, E, O1, hlen, hall⟩ := caps_ok ds cs.toList R h
        split at h
        · rename_i er _
          have hon1 : σ1.on c = σ.on c := M.on hc
          have hSd := hS.spec hsp
          refine does_light R1 E hon1 (hD.mild M) (M.gdOk hc) h rfl trivial (fun hon => ?_)
          refine ⟨.func (.func f) #[] (cs.map (Act.eval ⟨tm, ds⟩)), ?_, ?_, rfl⟩
          · have : first = #[] := by apply Array.ext'; exact hfirst
            subst this
            simp [execOp, ho, Instr.makeFunc]
          · refine Rp.of_fr _ ?_
            simp only [Fr]
            refine .inr ⟨f, cs.map (Act.eval ⟨tm, ds⟩), rfl, hSd.1, fun x y hxy w' fz' hold hfz vs ha => ?_⟩
            cases hj : joinD sp.ps a x l with
            | none => rw [hj] at hxy; cases hxy
            | some z =>
              rw [hj] at hxy
              simp only [Option.bind_some] at hxy
              subst er
              let g2 : Gh := { st := fun _ => none, B := fun _ _ => 0, fz := fz' }
              have hargs : ArgsR P w' g2 sp.ms sp.ps z 0 (vs ++ cs.toList.map (Act.eval ⟨tm, ds⟩)) := by
                refine join_args (fz := fz') rfl sp.ps a sp.ms 0 hj h3 h1 h2 ha (by simp [hlen]) (fun j v tv hv ht => ?_)
                simp only [List.getElem?_map, Option.map_eq_some_iff] at hv
                obtain ⟨xo, hxo, rfl⟩ := hv
                obtain ⟨b, o, k1, k2, k3⟩ := hall j xo tv hxo ht
                exact ⟨b, o, k1, (hold b k2).1, by rw [rowL_congr (hold b k2).2]; exact Fr.mono _ hold k3⟩
              have := hSd.2 z y hxy w' g2 _ ⟨fun b r π hb => (nomatch hb), hfz⟩ hargs
              have harr : (vs ++ cs.toList.map (Act.eval ⟨tm, ds⟩)).toArray = vs.toArray ++ cs.map (Act.eval ⟨tm, ds⟩) := by
                apply Array.ext'; simp
              rw [← harr]
              refine this.mono ?_
              rintro e w'' ⟨g', us, he, hok, hext, hres, _⟩
              refine ⟨us, g'.fz, he, ⟨hext.os, hext.tape, hext.output, hext.size, fun b hb => (hext.block b hb rfl).1⟩, fun b hb => hext.fz b hb, hok.fz, fun b hb => (hext.fzn b hb).imp id (fun h => h.resolve_left (fun h => h rfl)), ?_⟩
              rw [h4, List.take_of_length_le (by rw [parts_length]; exact Nat.le_refl _)] at hres
              refine res_fz (g := g') sp.rs sp.rsh 0 h5 (by omega) hres.1 fun j z u hj hu => ?_
              have := hres.2 j z u hj hu
              rw [h7] at this
              rw [Nat.zero_add]
              exact this
        · cases h
      · cases h
    · cases h
  · cases h
end
end Go.Ev

/- What an operation fills. -/
namespace Go.Ev

def Acc.fins {α : Type} (d0 : Option Nat) (c0 : G) : Acc α → Prop
  | .ret _ => True
  | .fail => True
  | .get s k => ∀ e, (k e).fins d0 c0
  | .hd s k => ∀ gd v s, (k gd v s).fins d0 c0
  | .shp s k => ∀ gd v s, (k gd v s).fins d0 c0
  | .set s dv dp x k => k.fins d0 c0
  | .mark s dp k => k.fins d0 c0
  | .fin d c x k => d0 = some d ∧ c = c0 ∧ k.fins d0 c0
  | .need c k => k.fins d0 c0
  | .ask o k => ∀ b, (k b).fins d0 c0

section
variable {α : Type} {d0 : Option Nat} {c0 : G}
theorem fins_fail : (Acc.fail : Acc α).fins d0 c0 := trivial
theorem fins_fin (s : S) : (fin c0 d0 s).fins d0 c0 := by
  cases d0 with
  | none => trivial
  | some d => exact ⟨rfl, rfl, trivial⟩
theorem fins_rd {c : G} {x : Operand} {k : Nat → S → Acc α} (h : ∀ i s, (k i s).fins d0 c0) : (rd c x k).fins d0 c0 := by
  cases x with
  | tmp i =>
    intro gd v s
    show (if sub gd c then k i s else .fail).fins d0 c0
    split
    · exact h i s
    · trivial
  | const v => exact h 0 _
  | func f => exact h 0 _
  | global n => trivial
theorem fins_homeS {s : S} {k : Home → Acc α} (h : ∀ m, (k m).fins d0 c0) : (homeS s k).fins d0 c0 := by
  cases s <;> first | exact h _ | trivial
theorem fins_homeA {c : G} {n ver : Nat} {k : Home → Acc α} (h : ∀ m, (k m).fins d0 c0) : (homeA c n ver k).fins d0 c0 := by
  intro e
  show (if _ then homeS e.s k else .fail).fins d0 c0
  split
  · exact fins_homeS h
  · trivial
theorem fins_homeR {c : G} {n ver pv : Nat} {t : Ty} {k : Home → Acc α} (h : ∀ m, (k m).fins d0 c0) : (homeR c n ver pv t k).fins d0 c0 := by
  intro e
  show (if _ then homeS e.s k else .fail).fins d0 c0
  split
  · exact fins_homeS h
  · trivial
theorem fins_fresh {c : G} {n ver : Nat} {k : Acc α} (h : k.fins d0 c0) : (fresh c n ver k).fins d0 c0 := by
  intro gd v s
  show (if _ then k else .fail).fins d0 c0
  split
  · exact h
  · trivial
theorem fins_put {m : Home} {n dv dp : Nat} {sh : Sh} {v : D m.t} {k : Acc α} (h : k.fins d0 c0) : (m.put n dv dp sh v k).fins d0 c0 := by
  unfold Home.put
  split
  · exact h
  · trivial
theorem fins_castK {u t : Ty} {v : D t} {k : D u → Acc α} (h : ∀ v, (k v).fins d0 c0) : (castK u t v k).fins d0 c0 := by
  unfold castK
  split
  · exact h _
  · trivial
theorem fins_look {c : G} {s : S} {k : PV → Acc α} (h : ∀ y, (k y).fins d0 c0) : (look c s k).fins d0 c0 := by
  unfold look
  split
  · exact h _
  · refine fins_homeR fun m => ?_
    split
    · exact h _
    · trivial
  · trivial
theorem fins_lookInt {c : G} {s : S} {k : Int → Acc α} (h : ∀ y, (k y).fins d0 c0) : (lookInt c s k).fins d0 c0 := by
  refine fins_look fun y => ?_
  split
  · exact h _
  · trivial
theorem fins_lookAs {c : G} {u : Ty} {s : S} {k : D u → Acc α} (h : ∀ y, (k y).fins d0 c0) : (lookAs c u s k).fins d0 c0 := fins_look fun y => fins_castK h
theorem fins_lookLen {c : G} {s : S} {k : Ty → Int → Acc α} (h : ∀ t y, (k t y).fins d0 c0) : (lookLen c s k).fins d0 c0 := by
  refine fins_look fun y => ?_
  split
  · exact h _ _
  · exact h _ _
  · trivial
theorem fins_take {c : G} {mv : Bool} {i : Nat} {s : S} {k : PV → Acc α} (h : ∀ y, (k y).fins d0 c0) : (take c mv i s k).fins d0 c0 := by
  unfold take
  split
  · exact h _
  · refine fins_homeR fun m => ?_
    split
    · split
      split
      · exact h _
      · split
        · split
          · exact fins_put (h _)
          · trivial
        · split
          · exact fins_put (h _)
          · trivial
    · trivial
  · trivial
theorem fins_takeAs {C : Ctx} {c : G} {mv : Bool} {u : Ty} {i : Nat} {s : S} {k : Sh → D u → Acc α} (h : ∀ sh y, (k sh y).fins d0 c0) : (takeAs C c mv u i s k).fins d0 c0 := by
  unfold takeAs
  split
  · exact h _ _
  · split
    · split
      · split
        · exact h _ _
        · trivial
      · trivial
    · trivial
  · exact fins_take fun x => fins_castK fun v => h _ _
theorem fins_borrow {C : Ctx} {c : G} {u : Ty} {i : Nat} {s : S} {k : List (Nat × Path) → D u → Acc α} (h : ∀ l y, (k l y).fins d0 c0) : (borrow C c u i s k).fins d0 c0 := by
  unfold borrow
  split
  · refine fins_homeR fun m => ?_
    split
    · exact fins_castK fun v => h _ _
    · trivial
  · exact fins_takeAs fun _ v => h _ _
theorem fins_freezeAll : (l : List (Nat × Path)) → {k : Acc α} → k.fins d0 c0 → (freezeAll l k).fins d0 c0
  | [], k, h => h
  | (n, p) :: r, k, h => by
    intro e
    refine fins_homeS fun m => ?_
    split
    · exact fins_put (fins_freezeAll r h)
    · trivial
theorem fins_nd {c : G} {g p : Bool} {k : Acc α} (h : k.fins d0 c0) : (nd c g p k).fins d0 c0 := h
theorem fins_rowOk {own : Bool} {t : Ty} {k : Acc α} (h : k.fins d0 c0) : (rowOk own t k).fins d0 c0 := by
  unfold rowOk
  split
  · exact h
  · split
    · split
      · exact h
      · trivial
    · trivial
theorem fins_args {C : Ctx} {c : G} {g : Bool} : (ms : List Md) → (ts : Tys) → (xs : List Operand) → {k : List (Nat × Path) → List Out → DL ts → Acc α} → (∀ l o v, (k l o v).fins d0 c0) → (args C c g ms ts xs k).fins d0 c0
  | [], .nil, [], k, h => h _ _ _
  | m :: ms, .cons t ts, x :: xs, k, h => by
    rw [args]
    refine fins_rd fun i s => ?_
    split
    · exact fins_borrow fun fr v => fins_args ms ts xs fun l o vs => h _ _ _
    · split
      · exact fins_castK fun v => fins_args ms ts xs fun l o vs => h _ _ _
      · trivial
    · split
      · split
        · exact fins_args ms ts xs fun l o vs => h _ _ _
        · trivial
      · trivial
    · split
      · refine fins_homeA fun m => ?_
        split
        · split
          · exact fins_castK fun v => fins_args ms ts xs fun l o vs => h _ _ _
          · trivial
        · trivial
      · trivial
    · split
      · refine fins_homeR fun m => ?_
        split
        · trivial
        · split
          · exact fins_castK fun v => fins_rowOk (fins_args ms ts xs fun l o vs => h _ _ _)
          · trivial
      · trivial
  | [], .nil, _ :: _, k, h => by simp [args, Acc.fins]
  | [], .cons _ _, _, k, h => by simp [args, Acc.fins]
  | _ :: _, .nil, _, k, h => by simp [args, Acc.fins]
  | _ :: _, .cons _ _, [], k, h => by simp [args, Acc.fins]
theorem fins_outs {c : G} {g : Bool} : (os : List Out) → (xs : List PV) → {k : Acc α} → k.fins d0 c0 → (outs c g os xs k).fins d0 c0
  | [], [], k, h => h
  | o :: os, x :: xs, k, h => by
    intro e
    refine fins_homeS fun m => fins_castK fun v => ?_
    split
    · exact fins_put (fins_outs os xs h)
    · trivial
  | [], _ :: _, k, h => trivial
  | _ :: _, [], k, h => trivial
theorem fins_fargs {C : Ctx} {c : G} : (ts : Tys) → (xs : List Operand) → {k : List (Nat × Path) → DL ts → Acc α} → (∀ l v, (k l v).fins d0 c0) → (fargs C c ts xs k).fins d0 c0
  | .nil, [], k, h => h _ _
  | .cons t ts, x :: xs, k, h => by
    rw [fargs]
    exact fins_rd fun i s => fins_borrow fun fr v => fins_fargs ts xs fun l vs => h _ _
  | .nil, _ :: _, k, h => by simp [fargs, Acc.fins]
  | .cons _ _, [], k, h => by simp [fargs, Acc.fins]
theorem fins_caps : (xs : List Operand) → {k : List TV → Acc α} → (∀ l, (k l).fins d0 c0) → (caps xs k).fins d0 c0
  | [], k, h => h _
  | .tmp i :: xs, k, h => by
    intro e
    show (if _ then _ else Acc.fail).fins d0 c0
    split
    · split
      · split
        · exact fins_caps xs fun l => h _
        · trivial
      · exact fins_caps xs fun l => h _
      · trivial
    · trivial
  | .const _ :: _, k, h => trivial
  | .func _ :: _, k, h => trivial
  | .global _ :: _, k, h => trivial
theorem fins_fill {C : Ctx} {c : G} {f : Tys} : (ps : List (Nat × Operand)) → {sh : Sh} → {v : DL f} → {k : Sh → DL f → Acc α} → (∀ sh v, (k sh v).fins d0 c0) → (fill C c f ps sh v k).fins d0 c0
  | [], sh, v, k, h => h _ _
  | (i, x) :: r, sh, v, k, h => by
    rw [fill]
    split
    · refine fins_rd fun j s => fins_takeAs fun s' x' => ?_
      split
      · exact fins_fill r h
      · trivial
    · trivial
theorem fins_elems {C : Ctx} {c : G} {t : Ty} : (ps : List (Nat × Operand)) → (n : Nat) → {k : List Sh → List (D t) → Acc α} → (∀ sh v, (k sh v).fins d0 c0) → (elems C c t n ps k).fins d0 c0
  | [], n, k, h => h _ _
  | (i, x) :: r, n, k, h => by
    rw [elems]
    split
    · exact fins_rd fun j s => fins_takeAs fun s' x' => fins_elems r (n + 1) fun l vs => h _ _
    · trivial
theorem fins_rdI {c : G} {y : Option Operand} {k : Option Int → Acc α} (h : ∀ a, (k a).fins d0 c0) : (rdI c y k).fins d0 c0 := by
  cases y with
  | none => exact h _
  | some y => exact fins_rd fun _ sy => fins_lookInt fun n => h _
theorem fins_askG {β : Type} {c : G} {g : Bool} {d : β} {o : Option β} {k : β → Acc α} (h : ∀ b, (k b).fins d0 c0) : (askG c g d o k).fins d0 c0 := fun b => h b
end

section
variable {C : Ctx} {o : Oper} {c : G} {g : Bool}
theorem fins_move {x : Operand} : (oMove C c o x).fins o.dst c := by
  unfold oMove
  refine fins_rd fun i s => ?_
  split
  · split <;> first | exact fins_fin _ | trivial
  · split
    · intro e
      show (if _ then Acc.set _ _ _ _ _ else Acc.fail).fins o.dst c
      split <;> first | exact fins_fin _ | trivial
    · trivial
  · trivial
  · split
    · exact fins_takeAs fun sh v => fins_fin _
    · trivial
  · exact fins_fin _
theorem fins_assign {x : Operand} : (oAssign C c o x).fins o.dst c := by
  unfold oAssign
  refine fins_rd fun i s => ?_
  split
  · split
    · split
      · intro e
        show (match e.s with | .box t sh v => Acc.set _ _ _ _ _ | _ => Acc.fail).fins o.dst c
        split <;> first | exact fins_fin _ | trivial
      · trivial
    · exact fins_fin _
  · exact fins_fin _
  · split <;> first | exact fins_fin _ | trivial
  · split
    · exact fins_takeAs fun sh v => fins_fin _
    · trivial
theorem fins_pick {x y z : Operand} : (oPick c o x y z).fins o.dst c := by
  unfold oPick
  refine fins_rd fun d s => ?_
  split
  · refine fins_rd fun _ sy => fins_rd fun _ sz => ?_
    split
    · split
      · exact fins_castK fun v => fins_fin _
      · trivial
    · trivial
  · trivial
theorem fins_loadA {h ver : Nat} {p : Path} {t : Ty} : (oLoadA c o h ver p t).fins o.dst c := by
  unfold oLoadA
  intro e
  show (if _ then homeS _ _ else Acc.fail).fins o.dst c
  split
  · refine fins_homeS fun m => ?_
    split
    · trivial
    · split
      split
      · exact fins_fin _
      · split <;> first | exact fins_fin _ | trivial
  · trivial
theorem fins_load {ty : TypeId} {x : Operand} : (oLoad C c o ty x).fins o.dst c := by
  unfold oLoad
  refine fins_rd fun d s => ?_
  split
  · split <;> first | exact fins_fin _ | trivial
  · split
    · split
      · intro gd v m
        dsimp only
        split
        · split
          · exact fins_fin _
          · exact fins_loadA
        · trivial
      · exact fins_loadA
    · trivial
  · trivial
theorem fins_store {ty : TypeId} {a x : Operand} : (oStore C c g o ty a x).fins o.dst c := by
  unfold oStore
  split
  · trivial
  · refine fins_rd fun j sx => fins_takeAs fun sh' x' => fins_rd fun i s => ?_
    split
    · split
      · refine fins_homeA fun m => ?_
        split
        · split
          · exact fins_put (fins_fin _)
          · trivial
        · split
          · split
            · exact fins_put (fins_fin _)
            · trivial
          · trivial
      · trivial
    · trivial
theorem fins_fieldAddr {ty : TypeId} {x : Operand} {f : Nat} : (oFieldAddr C c o ty x f).fins o.dst c := by
  unfold oFieldAddr
  refine fins_rd fun i s => ?_
  split
  · split
    · exact fins_fresh (fins_fin _)
    · trivial
  · split <;> first | exact fins_fin _ | trivial
  · trivial
theorem fins_field {ty : TypeId} {x : Operand} {f : Nat} : (oField C c o ty x f).fins o.dst c := by
  unfold oField
  refine fins_rd fun i s => ?_
  split
  · split <;> first | exact fins_fin _ | trivial
  · split
    · refine fins_homeR fun m => ?_
      split
      · trivial
      · split
        split
        · exact fins_fin _
        · split <;> first | exact fins_fin _ | trivial
    · trivial
  · trivial
theorem fins_indexAddr {ty : TypeId} {x y : Operand} : (oIndexAddr C c g o ty x y).fins o.dst c := by
  unfold oIndexAddr
  refine fins_rd fun _ sy => fins_lookInt fun n => fins_rd fun i s => ?_
  split
  · split
    · exact fins_nd (fins_fin _)
    · trivial
  · split
    · refine fins_homeR fun m => ?_
      split
      · exact fins_castK fun l => fins_nd (fins_fin _)
      · trivial
    · trivial
  · split
    · refine fins_homeA fun m => ?_
      split
      · exact fins_nd (fins_fin _)
      · trivial
    · trivial
  · split
    · exact fins_nd (fins_fin _)
    · trivial
  · trivial
theorem fins_index {ty : TypeId} {x y : Operand} : (oIndex C c g o ty x y).fins o.dst c := by
  unfold oIndex
  refine fins_rd fun _ sy => fins_lookInt fun n => fins_rd fun i s => ?_
  split
  · split
    · exact fins_nd (fins_fin _)
    · trivial
  · split
    · exact fins_nd (fins_fin _)
    · trivial
  · trivial
theorem fins_bin {op : BinOp} {ty : TypeId} {x y : Operand} : (oBin C c g o op ty x y).fins o.dst c := by
  unfold oBin
  refine fins_rd fun _ sx => fins_rd fun _ sy => ?_
  split
  · split
    · refine fins_look fun l => ?_
      split
      · split
        · split
          · exact fins_fin _
          · exact fins_nd (fins_fin _)
        · split
          · exact fins_fin _
          · exact fins_nd (fins_fin _)
        · trivial
      · trivial
    · trivial
  · refine fins_look fun a => fins_look fun b => ?_
    split
    · split
      · split
        · exact fins_nd (fins_fin _)
        · trivial
      · split
        · exact fins_nd (fins_fin _)
        · trivial
      · refine fins_castK fun n => ?_
        split
        · exact fins_nd (fins_fin _)
        · exact fins_nd (fins_fin _)
        · split
          · exact fins_fin _
          · split
            · exact fins_fin _
            · trivial
    · split
      · refine fins_castK fun n => ?_
        split <;> first | exact fins_fin _ | trivial
      · trivial
    · split
      · refine fins_castK fun n => ?_
        split <;> first | exact fins_fin _ | trivial
      · trivial
    · trivial
theorem fins_un {op : UnOp} {x : Operand} : (oUn c o op x).fins o.dst c := by
  unfold oUn
  refine fins_rd fun _ s => fins_look fun a => ?_
  split <;> first | exact fins_fin _ | trivial
theorem fins_convert {b : TypeId} {x : Operand} : (oConvert C c o b x).fins o.dst c := by
  unfold oConvert
  split
  · refine fins_rd fun _ s => fins_look fun a => ?_
    split <;> first | exact fins_fin _ | trivial
  · trivial
theorem fins_makeFunc {fn : Fn} {first cs : List Operand} : (oMakeFunc C c o fn first cs).fins o.dst c := by
  unfold oMakeFunc
  split
  · split
    · split
      · refine fins_caps _ fun l => ?_
        split <;> first | exact fins_fin _ | trivial
      · trivial
    · trivial
  · trivial
theorem fins_makeSlice {ty : TypeId} {x y : Operand} : (oMakeSlice C c g o ty x y).fins o.dst c := by
  unfold oMakeSlice
  split
  · exact fins_rd fun _ sx => fins_lookInt fun n => fins_rd fun _ sy => fins_lookInt fun m => fins_nd (fins_fin _)
  · trivial
theorem fins_buildSlice {ty : TypeId} {n : Nat} {ps : List (Nat × Operand)} : (oBuildSlice C c o ty n ps).fins o.dst c := by
  unfold oBuildSlice
  split
  · split
    · exact fins_elems _ _ fun l vs => fins_fin _
    · trivial
  · trivial
theorem fins_build {ty : TypeId} {ps : List (Nat × Operand)} : (oBuild C c o ty ps).fins o.dst c := by
  unfold oBuild
  split
  · exact fins_fill _ fun l vs => fins_fin _
  · trivial
theorem fins_extract {x : Operand} {j : Nat} : (oExtract c o x j).fins o.dst c := by
  unfold oExtract
  refine fins_rd fun i s => ?_
  split
  · split
    · split
      · exact fins_fin _
      · split
        · intro e
          show (if _ then Acc.fail else Acc.mark _ _ _).fins o.dst c
          split
          · trivial
          · exact fins_fin _
        · trivial
    · trivial
  · trivial
theorem fins_slice {ty : TypeId} {x : Operand} {lo hi : Option Operand} : (oSlice C c g o ty x lo hi).fins o.dst c := by
  unfold oSlice
  refine fins_rd fun i s => fins_rdI fun a => fins_rdI fun b => fins_look fun l => ?_
  split
  · split
    · exact fins_nd (fins_takeAs fun _ v => fins_fin _)
    · trivial
  · trivial
theorem fins_appTo {e : TypeId} {t : Ty} {i : Nat} {sx : S} {s' : Option Sh} {news : List (D t)} : (appTo C c g o e t i sx s' news).fins o.dst c := by
  unfold appTo
  split
  · exact fins_nd (fins_fin _)
  · refine fins_takeAs fun sh v => ?_
    split
    · exact fins_nd (fins_fin _)
    · exact fins_nd (fins_fin _)
    · trivial
  · trivial
theorem fins_append {x y : Operand} : (oAppend C c g o x y).fins o.dst c := by
  unfold oAppend
  split
  · refine fins_rd fun j sy => fins_rd fun i sx => ?_
    split
    · exact fins_lookAs fun news => fins_appTo
    · refine fins_takeAs fun sh v => ?_
      split <;> exact fins_appTo
  · trivial
theorem fins_cut {ty : TypeId} {x : Operand} {lo hi : Option Operand} : (oCut C c o ty x lo hi).fins o.dst c := by
  unfold oCut
  refine fins_rd fun i s => fins_rdI fun a => fins_rdI fun b => ?_
  split
  · split
    · intro e
      dsimp only
      split
      · split
        · exact fins_fin _
        · trivial
      · trivial
    · trivial
  · trivial
theorem fins_sliceX {ty : TypeId} {x : Operand} {lo hi : Option Operand} : (oSliceX C c g o ty x lo hi).fins o.dst c := by
  unfold oSliceX
  split
  · exact fins_cut
  · exact fins_slice
theorem fins_appS {x y : Operand} : (oAppS C c o x y).fins o.dst c := by
  unfold oAppS
  split
  · split
    · refine fins_rd fun j sy => fins_rd fun i sx => ?_
      split
      · unfold oAppS0
        split
        · intro en
          dsimp only
          split
          · split
            · exact fins_fin _
            · trivial
          · trivial
        · trivial
      · unfold oAppS2
        intro ei
        dsimp only
        split
        · intro en
          dsimp only
          split
          · split
            · exact fins_castK fun l => fins_castK fun v => fins_fin _
            · trivial
          · trivial
        · trivial
      · unfold oAppS1
        refine fins_takeAs fun sh v => ?_
        intro ei
        dsimp only
        split
        · split
          · exact fins_castK fun l => fins_fin _
          · trivial
        · trivial
      · trivial
    · trivial
  · trivial
theorem fins_appendX {x y : Operand} : (oAppendX C c g o x y).fins o.dst c := by
  unfold oAppendX
  split
  · exact fins_appS
  · exact fins_append
theorem fins_call {sp : FSpec} {xs : List Operand} : (call C c g o.dst sp xs).fins o.dst c := by
  have hk : ∀ os vs, (callK C c g o.dst sp os vs).fins o.dst c := by
    intro os vs
    unfold callK
    split
    · exact fins_askG fun r => fins_outs _ _ (fins_fin _)
    · trivial
  unfold call
  refine fins_args _ _ _ fun fr os vs => ?_
  split
  · split
    · exact hk _ _
    · exact fins_freezeAll _ (hk _ _)
  · trivial
theorem fins_callV {x : Operand} {xs : List Operand} : (oCallV C c g o x xs).fins o.dst c := by
  have hk : ∀ a r fv vs, (callV c g o a r fv vs).fins o.dst c := by
    intro a r fv vs
    exact fins_askG fun r => fins_fin _
  unfold oCallV
  refine fins_rd fun _ s => ?_
  split
  · refine fins_fargs _ _ fun fr vs => ?_
    split
    · exact hk _ _ _ _
    · exact fins_freezeAll _ (hk _ _ _ _)
  · trivial
theorem fins_oCall {cl : Call} : (oCall C c g o cl).fins o.dst c := by
  unfold oCall
  split
  · split
    · exact fins_call
    · trivial
  · exact fins_callV
  · split
    · exact fins_rd fun _ s => fins_lookLen fun t n => by
        split <;> first | exact fins_fin _ | trivial
    · trivial
  · refine fins_rd fun _ sx => fins_rd fun _ sy => fins_look fun a => ?_
    split
    · exact fins_lookAs fun n => fins_fin _
    · trivial
  · refine fins_rd fun _ sx => fins_rd fun _ sy => fins_look fun a => ?_
    split
    · exact fins_lookAs fun n => fins_fin _
    · trivial
  · split
    · split
      · exact fins_appendX
      · trivial
    · trivial
  · trivial
end

/-- An operation under a guard. -/
def opBody (C : Ctx) (o : Oper) (c : G) (g : Bool) : Acc Unit :=
  match o.op with
  | .move x => oMove C c o x
  | .assign x => oAssign C c o x
  | .pick x y z => oPick c o x y z
  | .alloc ty => (match C.ty ty with | some t => fin c o.dst (.box t (zsh t) (dflt t)) | none => .fail)
  | .box ty x => (match C.ty ty with
    | some t => rd c x fun i s => takeAs C c (C.mv.any (· == i)) t i s fun sh v => fin c o.dst (.box t sh v)
    | none => .fail)
  | .build ty ps => oBuild C c o ty ps.toList
  | .buildSlice ty n ps => oBuildSlice C c o ty n ps.toList
  | .load ty x => oLoad C c o ty x
  | .store ty a x => oStore C c g o ty a x
  | .nilCheck x => rd c x fun i s => (match s with
    | .addr h ver _ _ => fresh c h ver (fin c o.dst s)
    | .ea .. => fin c o.dst s
    | _ => .fail)
  | .fieldAddr ty x f => oFieldAddr C c o ty x f
  | .field ty x f => oField C c o ty x f
  | .indexAddr ty x y => oIndexAddr C c g o ty x y
  | .index ty x y => oIndex C c g o ty x y
  | .binOp op ty x y _ => oBin C c g o op ty x y
  | .unOp op ty x => oUn c o op x
  | .convert a b x => if (C.ty a).isSome then oConvert C c o b x else .fail
  | .makeFunc fn first cs => oMakeFunc C c o fn first.toList cs.toList
  | .makeSlice ty x y => oMakeSlice C c g o ty x y
  | .extract x j => oExtract c o x j
  | .slice ty x lo hi none => oSliceX C c g o ty x lo hi
  | .call cl => oCall C c g o cl
  | _ => .fail
theorem stepOp_eq (C : Ctx) (ops : Array Oper) (o : Oper) : stepOp C ops o = guardOf ops o fun c g => opBody C o c g := rfl

theorem opBody_fins {C : Ctx} {o : Oper} {c : G} {g : Bool} : (opBody C o c g).fins o.dst c := by
  unfold opBody
  split
  · exact fins_move
  · exact fins_assign
  · exact fins_pick
  · split <;> first | exact fins_fin _ | trivial
  · split
    · exact fins_rd fun i s => fins_takeAs fun sh v => fins_fin _
    · trivial
  · exact fins_build
  · exact fins_buildSlice
  · exact fins_load
  · exact fins_store
  · refine fins_rd fun i s => ?_
    split
    · exact fins_fresh (fins_fin _)
    · exact fins_fin _
    · trivial
  · exact fins_fieldAddr
  · exact fins_field
  · exact fins_indexAddr
  · exact fins_index
  · exact fins_bin
  · exact fins_un
  · split
    · exact fins_convert
    · trivial
  · exact fins_makeFunc
  · exact fins_makeSlice
  · exact fins_extract
  · exact fins_sliceX
  · exact fins_oCall
  · trivial
end Go.Ev

/- Operations under guards; regions in the order of their text. -/
namespace Go.Ev
open Go.RowKit
variable {P : Program}

structure CtxOk (P : Program) (C : Ctx) : Prop where
  T : TOk P C.T = true
  S : SoundC P C
  E : EqsOk P C
  strs : StrOk P C.strs = true

section
variable {R' : Type} {A : Nat → Value} {w w' : World} {g g' g0 : Gh} {tm : Array Value} {ds : List Deferred} {σ σ' : Env} {c : G} {K : Unit → Env → Option R'} {r : R'} {Q : Exit → Act → World → Prop} {o : Oper} {C : Ctx}

theorem oCall_ok {cl : Call} (hC : CtxOk P C) (R : Rel P A w g tm σ) (hD : DstOk A σ c o.dst tm) (hc : Gd σ c) (hcg : c.isEmpty = true → σ.on c = true) (ho : o.op = .call cl) (h : (oCall C c (σ.on c) o cl).run σ K = some r) : OpDoes P A o w g tm ds (σ.on c) K r Q := by
  obtain ⟨callee, args, as⟩ := cl
  unfold oCall at h
  simp only at h
  split at h
  · split at h
    · rename_i sp hsp
      exact call_ok hC.S (hC.S.specX hsp) R hD hc hcg ho h
    · cases h
  · exact oCallV_ok hC.S R hD hc hcg ho h
  · rename_i x heq2
    split at h
    · rename_i a ha
      have h1 : args = #[x] := by apply Array.ext'; exact heq2
      have h2 : as = #[a] := by apply Array.ext'; exact ha
      subst h1; subst h2
      exact oLen_ok hC.T R hD hc ho h
    · cases h
  · rename_i x y heq2
    have h1 : args = #[x, y] := by apply Array.ext'; exact heq2
    subst h1
    exact oMin_ok R hD hc ho h
  · rename_i x y heq2
    have h1 : args = #[x, y] := by apply Array.ext'; exact heq2
    subst h1
    exact oMax_ok R hD hc ho h
  · rename_i x y heq2
    split at h
    · rename_i a b ha
      split at h
      · rename_i hab
        simp only [Bool.and_eq_true, beq_iff_eq] at hab
        obtain ⟨e1, e2⟩ := hab
        subst e2
        have h1 : args = #[x, y] := by apply Array.ext'; exact heq2
        have h2 : as = #[o.type, o.type] := by apply Array.ext'; rw [← e1]; exact ha
        subst h1; subst h2
        unfold oAppendX at h
        split at h
        · exact oAppS_ok hC.S hC.T R hD hc hcg ho h
        · exact oAppend_ok hC.S hC.T R hD hc hcg ho h
      · cases h
    · cases h
  · cases h

theorem opBody_ok (hC : CtxOk P C) (R : Rel P A w g tm σ) (hD : DstOk A σ c o.dst tm) (hc : Gd σ c) (hcg : c.isEmpty = true → σ.on c = true) (h : (opBody C o c (σ.on c)).run σ K = some r) : OpDoes P A o w g tm ds (σ.on c) K r Q := by
  unfold opBody at h
  split at h
  · rename_i ho; exact oMove_ok hC.S R hD hc hcg ho h
  · rename_i ho; exact oAssign_ok hC.S R hD hc hcg ho h
  · rename_i ho; exact oPick_ok R hD hc ho h
  · rename_i ho
    split at h
    · rename_i hty; exact oAlloc_ok hC.T hty R hD hc ho h
    · cases h
  · rename_i ho
    split at h
    · exact oBox_ok hC.S R hD hc ho h
    · cases h
  · rename_i ho; exact oBuild_ok hC.T hC.S R hD hc ho h
  · rename_i ho; exact oBuildSlice_ok hC.T hC.S R hD hc ho h
  · rename_i ho; exact oLoad_ok hC.T R hD hc ho h
  · rename_i ho; exact oStore_ok hC.T hC.S R hD hc hcg ho h
  · rename_i ho; exact oNilCheck_ok R hD hc ho h
  · rename_i ho; exact oFieldAddr_ok hC.T R hD hc ho h
  · rename_i ho; exact oField_ok hC.T R hD hc ho h
  · rename_i ho; exact oIndexAddr_ok hC.T R hD hc hcg ho h
  · rename_i ho; exact oIndex_ok hC.T hC.strs R hD hc hcg ho h
  · rename_i ho; exact oBin_ok hC.T hC.E R hD hc hcg ho h
  · rename_i ho; exact oUn_ok R hD hc ho h
  · rename_i ho
    split at h
    · rename_i ha; exact oConvert_ok hC.T R hD hc ho ha h
    · cases h
  · rename_i ho; exact oMakeFunc_ok hC.T hC.S R hD hc ho h
  · rename_i ho; exact oMakeSlice_ok hC.T R hD hc hcg ho h
  · rename_i ho; exact oExtract_ok R hD hc hcg ho h
  · rename_i ho
    unfold oSliceX at h
    split at h
    · exact oCut_ok hC.T R hD hc hcg ho h
    · exact oSlice_ok hC.T hC.S R hD hc hcg ho h
  · rename_i ho; exact oCall_ok hC R hD hc hcg ho h
  · cases h
end

section
variable {α R' : Type}
theorem run_out : (a : Acc α) → {σ : Env} → {K : α → Env → Option R'} → {r : R'} → a.run σ K = some r → ∃ v τ, a.run σ (fun v τ => some (v, τ)) = some (v, τ) ∧ K v τ = some r
  | .ret a, σ, K, r, h => ⟨a, σ, rfl, h⟩
  | .fail, σ, K, r, h => by cases h
  | .get s k, σ, K, r, h => run_out (k (σ.get s)) h
  | .hd s k, σ, K, r, h => run_out (k _ _ _) h
  | .shp s k, σ, K, r, h => run_out (k _ _ _) h
  | .set s dv dp x k, σ, K, r, h => by
    simp only [Acc.run] at h ⊢
    split at h
    · rename_i hh; simp only [if_pos hh]; exact run_out k h
    · cases h
  | .mark s dp k, σ, K, r, h => by
    simp only [Acc.run] at h ⊢
    split at h
    · rename_i hh; simp only [if_pos hh]; exact run_out k h
    · cases h
  | .fin d c x k, σ, K, r, h => run_out k h
  | .need c k, σ, K, r, h => by
    simp only [Acc.run] at h ⊢
    split at h
    · rename_i hh; simp only [if_pos hh]; exact run_out k h
    · cases h
  | .ask o k, σ, K, r, h => by
    simp only [Acc.run] at h ⊢
    cases o with
    | none => cases h
    | some b => simp only [Option.bind_some] at h ⊢; exact run_out (k b) h
theorem run_of_out : (a : Acc α) → {σ : Env} → {K : α → Env → Option R'} → {v : α} → {τ : Env} → a.run σ (fun v τ => some (v, τ)) = some (v, τ) → a.run σ K = K v τ
  | .ret a, σ, K, v, τ, h => by cases h; rfl
  | .fail, σ, K, v, τ, h => by cases h
  | .get s k, σ, K, v, τ, h => run_of_out (k (σ.get s)) h
  | .hd s k, σ, K, v, τ, h => run_of_out (k _ _ _) h
  | .shp s k, σ, K, v, τ, h => run_of_out (k _ _ _) h
  | .set s dv dp x k, σ, K, v, τ, h => by
    simp only [Acc.run] at h ⊢
    split at h
    · rename_i hh; simp only [if_pos hh]; exact run_of_out k h
    · cases h
  | .mark s dp k, σ, K, v, τ, h => by
    simp only [Acc.run] at h ⊢
    split at h
    · rename_i hh; simp only [if_pos hh]; exact run_of_out k h
    · cases h
  | .fin d c x k, σ, K, v, τ, h => run_of_out k h
  | .need c k, σ, K, v, τ, h => by
    simp only [Acc.run] at h ⊢
    split at h
    · rename_i hh; simp only [if_pos hh]; exact run_of_out k h
    · cases h
  | .ask o k, σ, K, v, τ, h => by
    simp only [Acc.run] at h ⊢
    cases o with
    | none => cases h
    | some b => simp only [Option.bind_some] at h ⊢; exact run_of_out (k b) h
theorem out_gd {d0 : Option Nat} {c0 : G} : (a : Acc α) → {σ : Env} → {v : α} → {τ : Env} → a.fins d0 c0 → a.run σ (fun v τ => some (v, τ)) = some (v, τ) → ∀ n x, x ∈ (τ.get n).gd → x ∈ (σ.get n).gd ∨ (d0 = some n ∧ x ∈ c0)
  | .ret a, σ, v, τ, hf, h, n, x, hx => by cases h; exact .inl hx
  | .fail, σ, v, τ, hf, h, n, x, hx => by cases h
  | .get s k, σ, v, τ, hf, h, n, x, hx => out_gd (k (σ.get s)) (hf _) h n x hx
  | .hd s k, σ, v, τ, hf, h, n, x, hx => out_gd (k _ _ _) (hf _ _ _) h n x hx
  | .shp s k, σ, v, τ, hf, h, n, x, hx => out_gd (k _ _ _) (hf _ _ _) h n x hx
  | .set s dv dp y k, σ, v, τ, hf, h, n, x, hx => by
    simp only [Acc.run] at h
    split at h
    · have := out_gd k hf h n x hx
      rw [Env.turn_get] at this
      split at this
      · rename_i e; subst e; exact this
      · exact this
    · cases h
  | .mark s dp k, σ, v, τ, hf, h, n, x, hx => by
    simp only [Acc.run] at h
    split at h
    · have := out_gd k hf h n x hx
      rw [Env.turn_get] at this
      split at this
      · rename_i e; subst e; exact this
      · exact this
    · cases h
  | .fin d c y k, σ, v, τ, hf, h, n, x, hx => by
    obtain ⟨h1, h2, h3⟩ := hf
    subst h2
    have := out_gd k h3 h n x hx
    rw [Env.fin_get] at this
    split at this
    · rename_i e
      subst e
      rcases this with this | this
      · exact .inr ⟨h1, this⟩
      · exact .inr this
    · exact this
  | .need c k, σ, v, τ, hf, h, n, x, hx => by
    simp only [Acc.run] at h
    split at h
    · exact out_gd k hf h n x hx
    · cases h
  | .ask o k, σ, v, τ, hf, h, n, x, hx => by
    simp only [Acc.run] at h
    cases o with
    | none => cases h
    | some b => exact out_gd (k b) (hf b) h n x hx
end

/-- The guards of an operation, by what its guard's slot is guarded by. -/
def chainOf (σ : Env) (ops : Array Oper) (o : Oper) : G := match o.guard with
  | none => []
  | some (j, b) => match (ops[j]?).bind (·.dst) with
    | none => []
    | some d => (σ.get d).gd ++ [(d, b)]

section
variable {α R' : Type} {A : Nat → Value} {w w' : World} {g g' g0 : Gh} {tm : Array Value} {ds : List Deferred} {σ σ' : Env} {c : G} {K : α → Env → Option R'} {r : R'} {o : Oper} {C : Ctx} {ops : Array Oper}

theorem hdS_val' {i : Nat} {e : Ent} {t : Ty} {sh : Sh} {v : D t} (h : hdS i e = .val t sh v) : e.s = .val t sh v ∧ sh.isFz = true := by
  obtain ⟨gd, ver, pv, s⟩ := e
  cases s <;> simp only [hdS] at h <;> try (cases h; done)
  split at h
  · rename_i hf
    cases h
    exact ⟨rfl, hf⟩
  · cases h
theorem readG_ok : (c : G) → {k : List Bool → Acc α} → (readG c k).run σ K = some r → ∃ l, (k l).run σ K = some r ∧ conj l = σ.on c ∧ Gd σ c
  | [], k, h => ⟨[], h, rfl, Gd.nil σ⟩
  | (d, b) :: c, k, h => by
    simp only [readG, Acc.run] at h
    cases hs : hdS d (σ.get d) with
    | val t sh v =>
      rw [hs] at h
      cases t <;> simp only at h <;> try (cases h; done)
      obtain ⟨l, h, hl, hg⟩ := readG_ok c h
      obtain ⟨h1, h2⟩ := hdS_val' hs
      refine ⟨_, h, ?_, ?_⟩
      · have hh : σ.on ((d, b) :: c) = ((show Bool from v) == b && σ.on c) := by
          simp only [Env.on, List.all_cons, h1]
        rw [hh, ← hl]
        have hv : (if b = true then (show Bool from v) else !(show Bool from v)) = ((show Bool from v) == b) := by
          cases b <;> cases (show Bool from v) <;> rfl
        cases l with
        | nil => simp only [conj, Bool.and_true]; exact hv
        | cons a l => simp only [conj]; rw [← hv]
      · intro d' b' hm
        rcases List.mem_cons.1 hm with e | hm
        · cases e; exact ⟨sh, v, h1, h2⟩
        · exact hg d' b' hm
    | _ => rw [hs] at h; cases h

theorem wanted_on (R : Rel P A w g tm σ) {j : Nat} {b : Bool} {d : Nat} (hg : o.guard = some (j, b)) (hd : (ops[j]?).bind (·.dst) = some d) (hG : Gd σ ((σ.get d).gd ++ [(d, b)])) : Region.wanted o (yielded ops tm) = σ.on ((σ.get d).gd ++ [(d, b)]) := by
  obtain ⟨sh, v, hs, hf⟩ := hG d b (by simp)
  have hon : σ.on ((σ.get d).gd ++ [(d, b)]) = (σ.on (σ.get d).gd && ((show Bool from v) == b)) := by
    simp only [Env.on, List.all_append, List.all_cons, List.all_nil, Bool.and_true, hs]
  rw [hon]
  unfold Region.wanted
  rw [hg]
  simp only
  have hy : yielded ops tm j = match tm[d]? with | some (.bool b) => some b | _ => none := by
    unfold yielded; rw [hd]; rfl
  cases h1 : σ.on (σ.get d).gd with
  | true =>
    have hsl := R.slot d h1
    rw [hs] at hsl
    have hx : tm.getD d undef = .bool v := RpV.bool hsl (isFz_noGone _ hf)
    have hv : tm[d]? = some (.bool v) := by
      rw [Array.getD_eq_getD_getElem?] at hx
      cases ht : tm[d]? with
      | none => rw [ht] at hx; cases hx
      | some z => rw [ht] at hx; simp only [Option.getD_some] at hx; rw [hx]
    rw [hy, hv]
    simp only [Bool.true_and]
    cases b <;> cases (show Bool from v) <;> rfl
  | false =>
    have hoff := R.off d h1
    rw [hy]
    simp only [Bool.false_and]
    rw [Array.getD_eq_getD_getElem?] at hoff
    cases ht : tm[d]? with
    | none => rfl
    | some z =>
      rw [ht] at hoff
      simp only [Option.getD_some] at hoff
      subst hoff
      rfl

theorem guardOf_ok {k : G → Bool → Acc α} (R : Rel P A w g tm σ) (h : (guardOf ops o k).run σ K = some r) :
    (k (chainOf σ ops o) (σ.on (chainOf σ ops o))).run σ K = some r ∧ Gd σ (chainOf σ ops o) ∧ ((chainOf σ ops o).isEmpty = true → σ.on (chainOf σ ops o) = true) ∧ Region.wanted o (yielded ops tm) = σ.on (chainOf σ ops o) := by
  unfold guardOf at h
  unfold chainOf
  cases hg : o.guard with
  | none =>
    rw [hg] at h
    refine ⟨h, Gd.nil σ, fun _ => rfl, ?_⟩
    unfold Region.wanted
    rw [hg]; rfl
  | some jb =>
    obtain ⟨j, b⟩ := jb
    rw [hg] at h
    simp only at h ⊢
    cases hd : (ops[j]?).bind (·.dst) with
    | none => rw [hd] at h; cases h
    | some d =>
      rw [hd] at h
      simp only [Acc.run] at h ⊢
      obtain ⟨l, h, hl, hG⟩ := readG_ok _ h
      rw [hl] at h
      exact ⟨h, hG, fun he => by simp at he, wanted_on R hg hd hG⟩
end

section
variable {R' : Type} {A : Nat → Value} {w w' : World} {g g' g0 : Gh} {tm : Array Value} {ds : List Deferred} {σ σ' τ : Env} {Q : Exit → Act → World → Prop} {o : Oper} {C : Ctx} {ops : Array Oper}

/-- What is known behind an operation. -/
def After (P : Program) (A : Nat → Value) (w : World) (g : Gh) (ds : List Deferred) (n : Nat) (τ : Env) (a : Act) (w' : World) : Prop := ∃ g', Rel P A w' g' a.tmps τ ∧ Ext w g w' g' ∧ a.defers = ds ∧ a.tmps.size = n

theorem op_wp {i : Nat} (hC : CtxOk P C) (R : Rel P A w g tm σ) (hi : ops[i]? = some o) (hD : DstOk A σ (chainOf σ ops o) o.dst tm) (h : (stepOp C ops o).run σ (fun v τ => some (v, τ)) = some ((), τ)) :
    wpOp P ops Q i (After P A w g ds tm.size τ) ⟨tm, ds⟩ w := by
  rw [stepOp_eq] at h
  obtain ⟨h1, hG, hcg, hw⟩ := guardOf_ok R h
  have hdo := opBody_ok (Q := Q) (ds := ds) hC R hD hG hcg h1
  have post : ∀ a w', Post P A w g ds tm.size (fun v τ => some (v, τ)) ((), τ) a w' → After P A w g ds tm.size τ a w' := by
    rintro a w' ⟨g', σ', R', E', k1, k2, k3⟩
    simp only [Option.some.injEq, Prod.mk.injEq, true_and] at k3
    subst k3
    exact ⟨g', R', E', k1, k2⟩
  unfold wpOp
  rw [hi]
  simp only [hw]
  unfold OpDoes at hdo
  split
  · rename_i hon
    rw [if_pos hon] at hdo
    exact .inl (Oper.wp_mono post hdo)
  · rename_i hon
    rw [if_neg hon] at hdo
    exact post _ _ hdo

/-- Slots that guard are filled once, ahead of what they guard. -/
def regOk (ops : List Oper) : Bool := ops.zipIdx.all fun x => match x.1.guard with
  | none => true
  | some (j, _) => decide (j < x.2) && match (ops[j]?).bind (·.dst) with
    | none => false
    | some d => ops.zipIdx.all fun y => y.2 == j || !(y.1.dst == some d)
theorem regOk_spec {l : List Oper} (h : regOk l = true) {k j : Nat} {o : Oper} {b : Bool} (ho : l[k]? = some o) (hg : o.guard = some (j, b)) :
    j < k ∧ ∃ d, (l[j]?).bind (·.dst) = some d ∧ ∀ i o', l[i]? = some o' → o'.dst = some d → i = j := by
  simp only [regOk, List.all_eq_true] at h
  have hmem : (o, k) ∈ l.zipIdx := by
    rw [List.mem_zipIdx_iff_getElem?]; exact ho
  have := h _ hmem
  simp only [hg, Bool.and_eq_true, decide_eq_true_eq] at this
  obtain ⟨h1, h2⟩ := this
  cases hd : (l[j]?).bind (·.dst) with
  | none => rw [hd] at h2; cases h2
  | some d =>
    rw [hd] at h2
    refine ⟨h1, d, rfl, fun i o' ho' hdo => ?_⟩
    simp only [List.all_eq_true] at h2
    have := h2 (o', i) (by rw [List.mem_zipIdx_iff_getElem?]; exact ho')
    simp only [Bool.or_eq_true, beq_iff_eq, Bool.not_eq_true', beq_eq_false_iff_ne, ne_eq] at this
    rcases this with e | e
    · exact e
    · exact absurd hdo e

/-- A slot that guards, and whose operation lies ahead of the m-th. -/
def Wr (ops : Array Oper) (d m : Nat) : Prop := ∃ j, j < m ∧ (ops[j]?).bind (·.dst) = some d ∧ ∃ (k : Nat) (o : Oper) (b : Bool), ops[k]? = some o ∧ o.guard = some (j, b)
def GInv (ops : Array Oper) (m : Nat) (σ : Env) : Prop := ∀ n x, x ∈ (σ.get n).gd → Wr ops x.1 m
theorem Wr.mono {d m m' : Nat} (h : Wr ops d m) (hm : m ≤ m') : Wr ops d m' := by
  obtain ⟨j, h1, rest⟩ := h
  exact ⟨j, by omega, rest⟩
theorem Wr.not (hok : regOk ops.toList = true) {d m i : Nat} (h : Wr ops d m) (hi : (ops[i]?).bind (·.dst) = some d) : i < m := by
  obtain ⟨j, h1, h2, k, o, b, h3, h4⟩ := h
  obtain ⟨_, d', h5, h6⟩ := regOk_spec hok (by simpa using h3) h4
  have hd : d' = d := by
    have : (ops.toList[j]?).bind (·.dst) = (ops[j]?).bind (·.dst) := by simp
    rw [this, h2] at h5
    simpa using h5.symm
  subst hd
  cases ho : ops[i]? with
  | none => rw [ho] at hi; cases hi
  | some o' =>
    rw [ho] at hi
    have := h6 i o' (by simpa using ho) hi
    omega
theorem chain_wr (hok : regOk ops.toList = true) {m : Nat} (hI : GInv ops m σ) (hi : ops[m]? = some o) : ∀ x ∈ chainOf σ ops o, Wr ops x.1 m := by
  intro x hx
  unfold chainOf at hx
  cases hg : o.guard with
  | none => rw [hg] at hx; cases hx
  | some jb =>
    obtain ⟨j, b⟩ := jb
    rw [hg] at hx
    simp only at hx
    obtain ⟨hj, d, hd, _⟩ := regOk_spec hok (by simpa using hi) hg
    have hd' : (ops[j]?).bind (·.dst) = some d := by simpa using hd
    rw [hd'] at hx
    simp only at hx
    rcases List.mem_append.1 hx with hx | hx
    · exact hI d x hx
    · simp only [List.mem_singleton] at hx
      subst hx
      exact ⟨j, hj, hd', m, o, b, hi, hg⟩
theorem dst_ok (hok : regOk ops.toList = true) {m : Nat} (hI : GInv ops m σ) (hi : ops[m]? = some o) (hsz : ∀ d, o.dst = some d → d < tm.size ∧ A d = undef) : DstOk A σ (chainOf σ ops o) o.dst tm := by
  intro d hd
  have hdm : (ops[m]?).bind (·.dst) = some d := by rw [hi]; exact hd
  refine ⟨fun n b hx => ?_, fun b hx => ?_, hsz d hd⟩
  · have := Wr.not hok (hI n _ hx) hdm
    omega
  · have := Wr.not hok (chain_wr hok hI hi _ hx) hdm
    omega
theorem step_inv (hok : regOk ops.toList = true) {m : Nat} (R : Rel P A w g tm σ) (hI : GInv ops m σ) (hi : ops[m]? = some o) (h : (stepOp C ops o).run σ (fun v τ => some (v, τ)) = some ((), τ)) : GInv ops (m + 1) τ := by
  rw [stepOp_eq] at h
  obtain ⟨h1, _, _, _⟩ := guardOf_ok R h
  intro n x hx
  rcases out_gd _ opBody_fins h1 n x hx with hx | ⟨_, hx⟩
  · exact (hI n x hx).mono (by omega)
  · exact (chain_wr hok hI hi x hx).mono (by omega)

theorem After.trans {w1 : World} {g1 : Gh} {n : Nat} {a : Act} (E : Ext w g w1 g1) (h : After P A w1 g1 ds n τ a w') : After P A w g ds n τ a w' := by
  obtain ⟨g', h1, h2, h3⟩ := h
  exact ⟨g', h1, E.trans h2, h3⟩

/-- A region in the order of its text. -/
theorem steps_wp {n : Nat} (hC : CtxOk P C) (hok : regOk ops.toList = true) (hsz : ∀ (i : Nat) o d, ops[i]? = some o → o.dst = some d → d < n ∧ A d = undef) : (l : List Oper) → (m : Nat) → ops.toList.drop m = l → {w : World} → {g : Gh} → {tm : Array Value} → {σ : Env} → Rel P A w g tm σ → GInv ops m σ → tm.size = n →
    {K : Env → Option R'} → {r : R'} → steps C ops l σ K = some r → (∀ a w' τ, After P A w g ds n τ a w' → K τ = some r → Q .normal a w') → wpOps P ops Q (List.range' m l.length) ⟨tm, ds⟩ w
  | [], m, hl, w, g, tm, σ, R, hI, hn, K, r, h, hQ => hQ _ _ σ ⟨g, R, Ext.refl _ _, rfl, hn⟩ h
  | o :: l, m, hl, w, g, tm, σ, R, hI, hn, K, r, h, hQ => by
    have hi : ops[m]? = some o := by
      have := congrArg (fun l => l[0]?) hl
      simpa using this
    rw [List.length_cons, List.range'_succ, wpOps_cons]
    simp only [steps] at h
    obtain ⟨v, τ, ho, h⟩ := run_out _ h
    have hw := op_wp (Q := Q) (ds := ds) hC R hi (dst_ok hok hI hi (fun d hd => by rw [hn]; exact hsz m o d hi hd)) ho
    refine wpOp_mono ?_ hw
    rintro ⟨tm', ds'⟩ w' ⟨g', R', E', h1, h2⟩
    simp only at h1 h2 R'
    rw [h1]
    refine steps_wp hC hok hsz l (m + 1) (by rw [← List.drop_drop, hl]; rfl) R' (step_inv hok R hI hi ho) (by rw [h2, hn]) h (fun a w2 τ2 ha hk => hQ a w2 τ2 (ha.trans E') hk)
end
end Go.Ev

/- Regions that draw their order. -/
namespace Go.Ev
open Go.RowKit
variable {P : Program}

def Rec.nil : Rec := ⟨[], [], [], []⟩
structure Rec.le (a b : Rec) : Prop where
  c : ∀ x ∈ a.c, x ∈ b.c
  h : ∀ x ∈ a.h, x ∈ b.h
  wc : ∀ x ∈ a.wc, x ∈ b.wc
  wf : ∀ x ∈ a.wf, x ∈ b.wf
theorem Rec.le.refl (a : Rec) : a.le a := ⟨fun _ h => h, fun _ h => h, fun _ h => h, fun _ h => h⟩
theorem Rec.le.trans {a b c : Rec} (h : a.le b) (k : b.le c) : a.le c := ⟨fun x hx => k.c x (h.c x hx), fun x hx => k.h x (h.h x hx), fun x hx => k.wc x (h.wc x hx), fun x hx => k.wf x (h.wf x hx)⟩

def Same (s : Nat) (a b : Ent) : Prop := a.gd = b.gd ∧ a.ver = b.ver ∧ hdS s a = hdS s b ∧ shS a.s = shS b.s
theorem Same.refl (s : Nat) (a : Ent) : Same s a a := ⟨rfl, rfl, rfl, rfl⟩
theorem Same.trans {s : Nat} {a b c : Ent} (h : Same s a b) (k : Same s b c) : Same s a c := ⟨h.1.trans k.1, h.2.1.trans k.2.1, h.2.2.1.trans k.2.2.1, h.2.2.2.trans k.2.2.2⟩
theorem Same.symm {s : Nat} {a b : Ent} (h : Same s a b) : Same s b a := ⟨h.1.symm, h.2.1.symm, h.2.2.1.symm, h.2.2.2.symm⟩
theorem same_turn {s dv dp : Nat} {a : Ent} {x : S} (h : sameHd a dv dp x = true) : Same s ⟨a.gd, a.ver + dv, a.pv + dp, x⟩ a := by
  obtain ⟨gd, ver, pv, y⟩ := a
  unfold sameHd at h
  simp only [Bool.and_eq_true, beq_iff_eq] at h
  obtain ⟨rfl, h⟩ := h
  cases y <;> cases x <;> simp only at h <;> try (cases h; done)
  · simp only [Bool.and_eq_true, Bool.not_eq_true', decide_eq_true_eq, Bool.or_eq_true, beq_iff_eq] at h
    obtain ⟨⟨⟨⟨h1, h2⟩, rfl⟩, h4⟩, rfl⟩ := h
    refine ⟨rfl, rfl, ?_, rfl⟩
    simp only [hdS, h1]
    simp only [Bool.false_eq_true, if_false, Nat.add_zero]
    rcases h4 with h4 | rfl
    · rw [if_pos h4, if_pos h4]
    · rfl
  · simp only [Bool.and_eq_true, decide_eq_true_eq] at h
    obtain ⟨rfl, rfl⟩ := h
    refine ⟨rfl, rfl, ?_, rfl⟩
    simp only [hdS, Nat.add_zero]
  · simp only [Bool.and_eq_true, decide_eq_true_eq] at h
    obtain ⟨⟨rfl, rfl⟩, rfl⟩ := h
    refine ⟨rfl, rfl, ?_, rfl⟩
    simp only [hdS, Nat.add_zero]

section
variable {α R' : Type}
theorem runR_run : (a : Acc α) → {σ : Env} → {r0 : Rec} → {v : α} → {τ : Env} → {rc : Rec} → a.runR σ r0 (fun v τ rc => some (v, τ, rc)) = some (v, τ, rc) → a.run σ (fun v τ => some (v, τ)) = some (v, τ)
  | .ret a, σ, r0, v, τ, rc, h => by cases h; rfl
  | .fail, σ, r0, v, τ, rc, h => by cases h
  | .get s k, σ, r0, v, τ, rc, h => runR_run (k (σ.get s)) h
  | .hd s k, σ, r0, v, τ, rc, h => runR_run (k _ _ _) h
  | .shp s k, σ, r0, v, τ, rc, h => runR_run (k _ _ _) h
  | .set s dv dp x k, σ, r0, v, τ, rc, h => by
    simp only [Acc.runR, Acc.run] at h ⊢
    split at h
    · rename_i hh; simp only [if_pos hh]; exact runR_run k h
    · cases h
  | .mark s dp k, σ, r0, v, τ, rc, h => by
    simp only [Acc.runR, Acc.run] at h ⊢
    split at h
    · rename_i hh; simp only [if_pos hh]; exact runR_run k h
    · cases h
  | .fin d c x k, σ, r0, v, τ, rc, h => runR_run k h
  | .need c k, σ, r0, v, τ, rc, h => by
    simp only [Acc.runR, Acc.run] at h ⊢
    split at h
    · rename_i hh; simp only [if_pos hh]; exact runR_run k h
    · cases h
  | .ask o k, σ, r0, v, τ, rc, h => by
    simp only [Acc.runR, Acc.run] at h ⊢
    cases o with
    | none => cases h
    | some b => simp only [Option.bind_some] at h ⊢; exact runR_run (k b) h
theorem runR_out : (a : Acc α) → {σ : Env} → {r0 : Rec} → {K : α → Env → Rec → Option R'} → {r : R'} → a.runR σ r0 K = some r → ∃ v τ rc, a.runR σ r0 (fun v τ rc => some (v, τ, rc)) = some (v, τ, rc) ∧ K v τ rc = some r
  | .ret a, σ, r0, K, r, h => ⟨a, σ, r0, rfl, h⟩
  | .fail, σ, r0, K, r, h => by cases h
  | .get s k, σ, r0, K, r, h => runR_out (k (σ.get s)) h
  | .hd s k, σ, r0, K, r, h => runR_out (k _ _ _) h
  | .shp s k, σ, r0, K, r, h => runR_out (k _ _ _) h
  | .set s dv dp x k, σ, r0, K, r, h => by
    simp only [Acc.runR] at h ⊢
    split at h
    · rename_i hh; simp only [if_pos hh]; exact runR_out k h
    · cases h
  | .mark s dp k, σ, r0, K, r, h => by
    simp only [Acc.runR] at h ⊢
    split at h
    · rename_i hh; simp only [if_pos hh]; exact runR_out k h
    · cases h
  | .fin d c x k, σ, r0, K, r, h => runR_out k h
  | .need c k, σ, r0, K, r, h => by
    simp only [Acc.runR] at h ⊢
    split at h
    · rename_i hh; simp only [if_pos hh]; exact runR_out k h
    · cases h
  | .ask o k, σ, r0, K, r, h => by
    simp only [Acc.runR] at h ⊢
    cases o with
    | none => cases h
    | some b => simp only [Option.bind_some] at h ⊢; exact runR_out (k b) h

/-- What a run says of the slots that it does not speak of; and its record. -/
theorem runR_still : (a : Acc α) → {σ : Env} → {r0 : Rec} → {v : α} → {τ : Env} → {rc : Rec} → a.runR σ r0 (fun v τ rc => some (v, τ, rc)) = some (v, τ, rc) →
    r0.le rc ∧ (∀ s, s ∉ rc.wc → s ∉ rc.wf → τ.get s = σ.get s) ∧ (∀ s, s ∉ rc.wf → Same s (τ.get s) (σ.get s))
  | .ret a, σ, r0, v, τ, rc, h => by cases h; exact ⟨Rec.le.refl _, fun _ _ _ => rfl, fun s _ => Same.refl s _⟩
  | .fail, σ, r0, v, τ, rc, h => by cases h
  | .get s k, σ, r0, v, τ, rc, h => by
    obtain ⟨h1, h2, h3⟩ := runR_still (k (σ.get s)) h
    exact ⟨⟨fun x hx => h1.c x (List.mem_cons_of_mem _ hx), h1.h, h1.wc, h1.wf⟩, h2, h3⟩
  | .hd s k, σ, r0, v, τ, rc, h => by
    obtain ⟨h1, h2, h3⟩ := runR_still (k _ _ _) h
    exact ⟨⟨h1.c, fun x hx => h1.h x (List.mem_cons_of_mem _ hx), h1.wc, h1.wf⟩, h2, h3⟩
  | .shp s k, σ, r0, v, τ, rc, h => by
    obtain ⟨h1, h2, h3⟩ := runR_still (k _ _ _) h
    exact ⟨⟨h1.c, fun x hx => h1.h x (List.mem_cons_of_mem _ hx), h1.wc, h1.wf⟩, h2, h3⟩
  | .set s dv dp x k, σ, r0, v, τ, rc, h => by
    simp only [Acc.runR] at h
    split at h
    · obtain ⟨h1, h2, h3⟩ := runR_still k h
      by_cases hs : sameHd (σ.get s) dv dp x = true
      · rw [if_pos hs] at h1
        have hm : s ∈ rc.wc := h1.wc s List.mem_cons_self
        refine ⟨⟨h1.c, h1.h, fun x hx => h1.wc x (List.mem_cons_of_mem _ hx), h1.wf⟩, fun t ht1 ht2 => ?_, fun t ht => ?_⟩
        · rw [h2 t ht1 ht2, Env.turn_get, if_neg (fun e => by subst e; exact ht1 hm)]
        · refine (h3 t ht).trans ?_
          rw [Env.turn_get]
          split
          · rename_i e; subst e; exact same_turn hs
          · exact Same.refl _ _
      · rw [if_neg hs] at h1
        have hm : s ∈ rc.wf := h1.wf s List.mem_cons_self
        refine ⟨⟨h1.c, h1.h, h1.wc, fun x hx => h1.wf x (List.mem_cons_of_mem _ hx)⟩, fun t ht1 ht2 => ?_, fun t ht => ?_⟩
        · rw [h2 t ht1 ht2, Env.turn_get, if_neg (fun e => by subst e; exact ht2 hm)]
        · refine (h3 t ht).trans ?_
          rw [Env.turn_get, if_neg (fun e => by subst e; exact ht hm)]
          exact Same.refl _ _
    · cases h
  | .mark s dp k, σ, r0, v, τ, rc, h => by
    simp only [Acc.runR] at h
    split at h
    · rename_i ht
      obtain ⟨h1, h2, h3⟩ := runR_still k h
      have hm : s ∈ rc.wc := h1.wc s List.mem_cons_self
      refine ⟨⟨h1.c, h1.h, fun x hx => h1.wc x (List.mem_cons_of_mem _ hx), h1.wf⟩, fun t ht1 ht2 => ?_, fun t ht' => ?_⟩
      · rw [h2 t ht1 ht2, Env.turn_get, if_neg (fun e => by subst e; exact ht1 hm)]
      · refine (h3 t ht').trans ?_
        rw [Env.turn_get]
        split
        · rename_i e
          subst e
          refine ⟨rfl, rfl, ?_, rfl⟩
          generalize σ.get t = en at ht
          obtain ⟨gd, ver, pv, y⟩ := en
          unfold Ent.isTup at ht
          cases y <;> simp only at ht <;> try (cases ht; done)
          rfl
        · exact Same.refl _ _
    · cases h
  | .fin d c x k, σ, r0, v, τ, rc, h => by
    obtain ⟨h1, h2, h3⟩ := runR_still k h
    have hm : d ∈ rc.wf := h1.wf d List.mem_cons_self
    refine ⟨⟨h1.c, h1.h, h1.wc, fun x hx => h1.wf x (List.mem_cons_of_mem _ hx)⟩, fun t ht1 ht2 => ?_, fun t ht => ?_⟩
    · rw [h2 t ht1 ht2, Env.fin_get, if_neg (fun e => by subst e; exact ht2 hm)]
    · refine (h3 t ht).trans ?_
      rw [Env.fin_get, if_neg (fun e => by subst e; exact ht hm)]
      exact Same.refl _ _
  | .need c k, σ, r0, v, τ, rc, h => by
    simp only [Acc.runR] at h
    split at h
    · exact runR_still k h
    · cases h
  | .ask o k, σ, r0, v, τ, rc, h => by
    simp only [Acc.runR] at h
    cases o with
    | none => cases h
    | some b => exact runR_still (k b) h

/-- Two states that are alike where a run looks. -/
structure Agree (rc : Rec) (σ σ' : Env) : Prop where
  c : ∀ s ∈ rc.c, σ'.get s = σ.get s
  wc : ∀ s ∈ rc.wc, σ'.get s = σ.get s
  wf : ∀ s ∈ rc.wf, σ'.get s = σ.get s
  h : ∀ s ∈ rc.h, Same s (σ'.get s) (σ.get s)
theorem Agree.set {rc : Rec} {σ σ' τ τ' : Env} {s : Nat} {e : Ent} (a : Agree rc σ σ') (h1 : ∀ t, τ.get t = if t = s then e else σ.get t) (h2 : ∀ t, τ'.get t = if t = s then e else σ'.get t) : Agree rc τ τ' where
  c t ht := by rw [h1, h2]; split <;> first | rfl | exact a.c t ht
  wc t ht := by rw [h1, h2]; split <;> first | rfl | exact a.wc t ht
  wf t ht := by rw [h1, h2]; split <;> first | rfl | exact a.wf t ht
  h t ht := by rw [h1, h2]; split <;> first | exact Same.refl _ _ | exact a.h t ht

theorem runR_frame : (a : Acc α) → {σ σ' : Env} → {r0 : Rec} → {v : α} → {τ : Env} → {rc : Rec} → a.runR σ r0 (fun v τ rc => some (v, τ, rc)) = some (v, τ, rc) → Agree rc σ σ' →
    ∃ τ', a.runR σ' r0 (fun v τ rc => some (v, τ, rc)) = some (v, τ', rc) ∧ Agree rc τ τ' ∧ ∀ s, s ∉ rc.wc → s ∉ rc.wf → τ'.get s = σ'.get s
  | .ret a, σ, σ', r0, v, τ, rc, h, ag => by cases h; exact ⟨σ', rfl, ag, fun _ _ _ => rfl⟩
  | .fail, σ, σ', r0, v, τ, rc, h, ag => by cases h
  | .get s k, σ, σ', r0, v, τ, rc, h, ag => by
    have hm : s ∈ rc.c := (runR_still (k (σ.get s)) h).1.c s List.mem_cons_self
    simp only [Acc.runR] at h ⊢
    rw [ag.c s hm]
    exact runR_frame (k (σ.get s)) h ag
  | .hd s k, σ, σ', r0, v, τ, rc, h, ag => by
    have hm : s ∈ rc.h := (runR_still (k _ _ _) h).1.h s List.mem_cons_self
    simp only [Acc.runR] at h ⊢
    obtain ⟨e1, e2, e3, _⟩ := ag.h s hm
    rw [e1, e2, e3]
    exact runR_frame (k _ _ _) h ag
  | .shp s k, σ, σ', r0, v, τ, rc, h, ag => by
    have hm : s ∈ rc.h := (runR_still (k _ _ _) h).1.h s List.mem_cons_self
    simp only [Acc.runR] at h ⊢
    obtain ⟨e1, e2, _, e3⟩ := ag.h s hm
    rw [e1, e2, e3]
    exact runR_frame (k _ _ _) h ag
  | .set s dv dp x k, σ, σ', r0, v, τ, rc, h, ag => by
    simp only [Acc.runR] at h ⊢
    split at h
    · rename_i hh
      have hle := (runR_still k h).1
      have he : σ'.get s = σ.get s := by
        by_cases hs : sameHd (σ.get s) dv dp x = true
        · rw [if_pos hs] at hle
          exact ag.wc s (hle.wc s List.mem_cons_self)
        · rw [if_neg hs] at hle
          exact ag.wf s (hle.wf s List.mem_cons_self)
      have hms : s ∈ rc.wc ∨ s ∈ rc.wf := by
        by_cases hs : sameHd (σ.get s) dv dp x = true
        · rw [if_pos hs] at hle
          exact .inl (hle.wc s List.mem_cons_self)
        · rw [if_neg hs] at hle
          exact .inr (hle.wf s List.mem_cons_self)
      rw [he, if_pos hh]
      have ag' : Agree rc (σ.turn s dv dp x) (σ'.turn s dv dp x) := ag.set (s := s) (e := ⟨(σ.get s).gd, (σ.get s).ver + dv, (σ.get s).pv + dp, x⟩) (fun t => Env.turn_get _ _ _ _ _ _) (fun t => by rw [Env.turn_get, he])
      obtain ⟨τ', h1, h2, h3⟩ := runR_frame k h ag'
      refine ⟨τ', h1, h2, fun t ht1 ht2 => ?_⟩
      rw [h3 t ht1 ht2, Env.turn_get, if_neg]
      intro e; subst e
      rcases hms with hm | hm
      · exact ht1 hm
      · exact ht2 hm
    · cases h
  | .mark s dp k, σ, σ', r0, v, τ, rc, h, ag => by
    simp only [Acc.runR] at h ⊢
    split at h
    · rename_i hh
      have hm : s ∈ rc.wc := (runR_still k h).1.wc s List.mem_cons_self
      have he := ag.wc s hm
      rw [he, if_pos hh]
      have ag' : Agree rc (σ.turn s 0 dp (σ.get s).s) (σ'.turn s 0 dp (σ.get s).s) := ag.set (s := s) (e := ⟨(σ.get s).gd, (σ.get s).ver + 0, (σ.get s).pv + dp, (σ.get s).s⟩) (fun t => Env.turn_get _ _ _ _ _ _) (fun t => by rw [Env.turn_get, he])
      obtain ⟨τ', h1, h2, h3⟩ := runR_frame k h ag'
      refine ⟨τ', h1, h2, fun t ht1 ht2 => ?_⟩
      rw [h3 t ht1 ht2, Env.turn_get, if_neg]
      intro e; subst e; exact ht1 hm
    · cases h
  | .fin d c x k, σ, σ', r0, v, τ, rc, h, ag => by
    simp only [Acc.runR] at h ⊢
    have hm : d ∈ rc.wf := (runR_still k h).1.wf d List.mem_cons_self
    have he := ag.wf d hm
    have ag' : Agree rc (σ.fin d c x) (σ'.fin d c x) := ag.set (s := d) (e := ⟨c, (σ.get d).ver + 1, 0, x⟩) (fun t => Env.fin_get _ _ _ _ _) (fun t => by rw [Env.fin_get, he])
    obtain ⟨τ', h1, h2, h3⟩ := runR_frame k h ag'
    refine ⟨τ', h1, h2, fun t ht1 ht2 => ?_⟩
    rw [h3 t ht1 ht2, Env.fin_get, if_neg]
    intro e; subst e; exact ht2 hm
  | .need c k, σ, σ', r0, v, τ, rc, h, ag => by
    simp only [Acc.runR] at h ⊢
    split at h
    · rename_i hh; rw [if_pos hh]; exact runR_frame k h ag
    · cases h
  | .ask o k, σ, σ', r0, v, τ, rc, h, ag => by
    simp only [Acc.runR] at h ⊢
    cases o with
    | none => cases h
    | some b => simp only [Option.bind_some] at h ⊢; exact runR_frame (k b) h ag
end

theorem readG_rec {α : Type} {σ : Env} : (c : G) → {k : List Bool → Acc α} → {r0 : Rec} → {v : α} → {τ : Env} → {rc : Rec} → (readG c k).runR σ r0 (fun v τ rc => some (v, τ, rc)) = some (v, τ, rc) → ∀ x ∈ c, x.1 ∈ rc.h
  | [], k, r0, v, τ, rc, h, x, hx => by cases hx
  | (d, b) :: c, k, r0, v, τ, rc, h, x, hx => by
    simp only [readG, Acc.runR] at h
    have hle := (runR_still _ h).1
    rcases List.mem_cons.1 hx with e | hx
    · subst e; exact hle.h d List.mem_cons_self
    · split at h
      · exact readG_rec c h x hx
      · cases h
theorem chain_rec {C : Ctx} {ops : Array Oper} {o : Oper} {σ τ : Env} {rc : Rec} (h : (stepOp C ops o).runR σ Rec.nil (fun v τ rc => some (v, τ, rc)) = some ((), τ, rc)) : (∀ x ∈ chainOf σ ops o, x.1 ∈ rc.h) ∧ ∀ j b d, o.guard = some (j, b) → (ops[j]?).bind (·.dst) = some d → d ∈ rc.h := by
  rw [stepOp_eq] at h
  unfold guardOf at h
  unfold chainOf
  cases hg : o.guard with
  | none => exact ⟨(fun x hx => by cases hx), (fun j b d h _ => by cases h)⟩
  | some jb =>
    obtain ⟨j, b⟩ := jb
    rw [hg] at h
    simp only at h ⊢
    cases hd : (ops[j]?).bind (·.dst) with
    | none => rw [hd] at h; cases h
    | some d =>
      rw [hd] at h
      simp only [Acc.runR] at h ⊢
      have hle := (runR_still _ h).1
      refine ⟨fun x hx => readG_rec _ h x hx, fun j' b' d' e1 e2 => ?_⟩
      cases e1
      rw [hd] at e2
      cases e2
      exact hle.h _ List.mem_cons_self

/-- What must have come before. -/
theorem fold_bit (acc : List Nat) (i : Nat) : (es : List Edge) → (s : Nat) → (es.foldl (fun s e => if Region.binds .any e then s ||| (2 ^ e.on ||| acc.getD e.on 0) else s) s).testBit i = true →
    s.testBit i = true ∨ ∃ e ∈ es, Region.binds .any e = true ∧ (e.on = i ∨ (acc.getD e.on 0).testBit i = true)
  | [], s, h => .inl h
  | e :: es, s, h => by
    rw [List.foldl_cons] at h
    rcases fold_bit acc i es _ h with h | ⟨e', h1, h2⟩
    · split at h
      · rename_i hb
        rw [Nat.testBit_or, Nat.testBit_or, Bool.or_eq_true, Bool.or_eq_true] at h
        rcases h with h | h | h
        · exact .inl h
        · rw [Nat.testBit_two_pow] at h
          simp only [decide_eq_true_eq] at h
          exact .inr ⟨e, List.mem_cons_self, hb, .inl h⟩
        · exact .inr ⟨e, List.mem_cons_self, hb, .inr h⟩
      · exact .inl h
    · exact .inr ⟨e', List.mem_cons_of_mem _ h1, h2⟩
theorem preds_spec : (l : List Oper) → (acc : List Nat) → ∃ q, preds l acc = acc ++ q ∧ q.length = l.length ∧ ∀ j o i, l[j]? = some o → ((acc ++ q).getD (acc.length + j) 0).testBit i = true →
    ∃ e ∈ o.after.toList, Region.binds .any e = true ∧ (e.on = i ∨ (e.on < acc.length + j ∧ ((acc ++ q).getD e.on 0).testBit i = true))
  | [], acc => ⟨[], by simp [preds], rfl, fun j o i h => by simp at h⟩
  | o :: l, acc => by
    obtain ⟨q, h1, h2, h3⟩ := preds_spec l (acc ++ [o.after.toList.foldl (fun s e => if Region.binds .any e then s ||| (2 ^ e.on ||| acc.getD e.on 0) else s) 0])
    refine ⟨(o.after.toList.foldl (fun s e => if Region.binds .any e then s ||| (2 ^ e.on ||| acc.getD e.on 0) else s) 0) :: q, ?_, by simp [h2], fun j o' i ho hb => ?_⟩
    · rw [preds, h1]; simp
    · cases j with
      | zero =>
        simp only [List.getElem?_cons_zero, Option.some.injEq] at ho
        subst ho
        have hz : (acc ++ (o.after.toList.foldl (fun s e => if Region.binds .any e then s ||| (2 ^ e.on ||| acc.getD e.on 0) else s) 0) :: q).getD (acc.length + 0) 0 = o.after.toList.foldl (fun s e => if Region.binds .any e then s ||| (2 ^ e.on ||| acc.getD e.on 0) else s) 0 := by
          simp [List.getD_eq_getElem?_getD]
        rw [hz] at hb
        rcases fold_bit acc i _ _ hb with h | ⟨e, he, hbd, h⟩
        · simp at h
        · refine ⟨e, he, hbd, h.imp id fun h => ?_⟩
          have hlt : e.on < acc.length := by
            rcases Nat.lt_or_ge e.on acc.length with h' | h'
            · exact h'
            · rw [List.getD_eq_getElem?_getD, List.getElem?_eq_none h'] at h
              simp at h
          refine ⟨by omega, ?_⟩
          rw [List.getD_eq_getElem?_getD, List.getElem?_append_left hlt, ← List.getD_eq_getElem?_getD]
          exact h
      | succ j =>
        simp only [List.getElem?_cons_succ] at ho
        obtain ⟨e, he, hbd, h⟩ := h3 j o' i ho (by
          have e1 : acc ++ [o.after.toList.foldl (fun s e => if Region.binds .any e then s ||| (2 ^ e.on ||| acc.getD e.on 0) else s) 0] ++ q = acc ++ (o.after.toList.foldl (fun s e => if Region.binds .any e then s ||| (2 ^ e.on ||| acc.getD e.on 0) else s) 0) :: q := by simp
          rw [e1, List.length_append, List.length_singleton, show acc.length + 1 + j = acc.length + (j + 1) by omega]
          exact hb)
        refine ⟨e, he, hbd, h.imp id fun h => ?_⟩
        obtain ⟨h4, h5⟩ := h
        simp only [List.length_append, List.length_singleton] at h4
        refine ⟨by omega, ?_⟩
        have e1 : acc ++ [o.after.toList.foldl (fun s e => if Region.binds .any e then s ||| (2 ^ e.on ||| acc.getD e.on 0) else s) 0] ++ q = acc ++ (o.after.toList.foldl (fun s e => if Region.binds .any e then s ||| (2 ^ e.on ||| acc.getD e.on 0) else s) 0) :: q := by simp
        rw [e1] at h5
        exact h5
theorem freeJ_spec (m : Nat) (b : Rec) : (l : List Rec) → (k : Nat) → freeJ m b k l = true → ∀ i a, l[i]? = some a → m.testBit (k + i) = true ∨ a.apart b = true
  | [], k, h, i, a, ha => by simp at ha
  | x :: l, k, h, i, a, ha => by
    simp only [freeJ, Bool.and_eq_true, Bool.or_eq_true] at h
    cases i with
    | zero =>
      simp only [List.getElem?_cons_zero, Option.some.injEq] at ha
      subst ha
      exact h.1
    | succ i =>
      have := freeJ_spec m b l (k + 1) h.2 i a (by simpa using ha)
      rwa [show k + 1 + i = k + (i + 1) by omega] at this
theorem freeAll_spec : (ms : List Nat) → (bs seen : List Rec) → freeAll ms bs seen = true → ms.length = bs.length → ∀ j b m, bs[j]? = some b → ms[j]? = some m → ∀ i a, i < seen.length + j → (seen ++ bs)[i]? = some a → m.testBit i = true ∨ a.apart b = true
  | [], [], seen, h, hl, j, b, m, hb, hm, i, a, hi, ha => by simp at hb
  | x :: ms, y :: bs, seen, h, hl, j, b, m, hb, hm, i, a, hi, ha => by
    simp only [freeAll, Bool.and_eq_true] at h
    cases j with
    | zero =>
      simp only [List.getElem?_cons_zero, Option.some.injEq] at hb hm
      subst hb; subst hm
      have := freeJ_spec x y seen 0 h.1 i a (by rwa [List.getElem?_append_left (by omega)] at ha)
      rwa [Nat.zero_add] at this
    | succ j =>
      have := freeAll_spec ms bs (seen ++ [y]) h.2 (by simpa using hl) j b m (by simpa using hb) (by simpa using hm) i a (by simp; omega) (by simpa using ha)
      exact this
  | [], _ :: _, seen, h, hl, j, b, m, hb, hm, i, a, hi, ha => by simp at hl
  | _ :: _, [], seen, h, hl, j, b, m, hb, hm, i, a, hi, ha => by simp at hl
theorem not_meets {a b : List Nat} (h : meetsL a b = false) {x : Nat} (ha : x ∈ a) (hb : x ∈ b) : False := by
  simp only [meetsL, List.any_eq_false] at h
  have := h x ha
  simp only [List.any_eq_true, beq_iff_eq, not_exists, not_and] at this
  exact this x hb rfl
/-- Two runs that touch each other are ordered. -/
def Rec.W (a : Rec) (s : Nat) : Prop := s ∈ a.wc ∨ s ∈ a.wf
theorem apart_spec {a b : Rec} (h : a.apart b = true) : (∀ s, (s ∈ a.c ∨ a.W s) → ¬ b.W s) ∧ (∀ s, (s ∈ b.c ∨ b.W s) → ¬ a.W s) ∧ (∀ s ∈ a.h, s ∉ b.wf) ∧ ∀ s ∈ b.h, s ∉ a.wf := by
  simp only [Rec.apart, Bool.not_eq_true', Bool.or_eq_false_iff] at h
  obtain ⟨⟨⟨⟨⟨⟨⟨⟨⟨h1, h2⟩, h3⟩, h4⟩, h5⟩, h6⟩, h7⟩, h8⟩, h9⟩, h10⟩ := h
  refine ⟨?_, ?_, fun s h h' => not_meets h3 h h', fun s h h' => not_meets h6 h' h⟩
  · rintro s (hs | hs | hs) (hb | hb)
    · exact not_meets h1 hs hb
    · exact not_meets h2 hs hb
    · exact not_meets h7 hs hb
    · exact not_meets h8 hs hb
    · exact not_meets h9 hs hb
    · exact not_meets h10 hs hb
  · rintro s (hs | hs | hs) (hb | hb)
    · exact not_meets h4 hb hs
    · exact not_meets h5 hb hs
    · exact not_meets h7 hb hs
    · exact not_meets h9 hb hs
    · exact not_meets h8 hb hs
    · exact not_meets h10 hb hs
end Go.Ev

/- Regions that draw their order: every order. -/
namespace Go.Ev
open Go.RowKit
variable {P : Program}

theorem guardOf_run {α R' : Type} {K : α → Env → Option R'} {r : R'} {σ : Env} {ops : Array Oper} {o : Oper} {k : G → Bool → Acc α} (h : (guardOf ops o k).run σ K = some r) : ∃ g, (k (chainOf σ ops o) g).run σ K = some r := by
  unfold guardOf at h
  unfold chainOf
  cases hg : o.guard with
  | none => rw [hg] at h; exact ⟨true, h⟩
  | some jb =>
    obtain ⟨j, b⟩ := jb
    rw [hg] at h
    simp only at h ⊢
    cases hd : (ops[j]?).bind (·.dst) with
    | none => rw [hd] at h; cases h
    | some d =>
      rw [hd] at h
      simp only [Acc.run] at h ⊢
      obtain ⟨l, h, _, _⟩ := readG_ok _ h
      exact ⟨_, h⟩
theorem step_gd {C : Ctx} {ops : Array Oper} {o : Oper} {σ τ : Env} (h : (stepOp C ops o).run σ (fun v τ => some (v, τ)) = some ((), τ)) : ∀ n x, x ∈ (τ.get n).gd → x ∈ (σ.get n).gd ∨ (o.dst = some n ∧ x ∈ chainOf σ ops o) := by
  rw [stepOp_eq] at h
  obtain ⟨g, h⟩ := guardOf_run h
  exact out_gd _ opBody_fins h
theorem step_inv' {C : Ctx} {ops : Array Oper} {o : Oper} {σ τ : Env} (hok : regOk ops.toList = true) {m : Nat} (hI : GInv ops m σ) (hi : ops[m]? = some o) (h : (stepOp C ops o).run σ (fun v τ => some (v, τ)) = some ((), τ)) : GInv ops (m + 1) τ := by
  intro n x hx
  rcases step_gd h n x hx with hx | ⟨_, hx⟩
  · exact (hI n x hx).mono (by omega)
  · exact (chain_wr hok hI hi x hx).mono (by omega)

/-- The run in the order of the text, step by step. -/
structure Text (C : Ctx) (ops : Array Oper) (E : Nat → Env) (Rc : Nat → Rec) (n : Nat) : Prop where
  run : ∀ i o, i < n → ops[i]? = some o → ∃ rc, (stepOp C ops o).runR (E i) Rec.nil (fun v τ rc => some (v, τ, rc)) = some ((), E (i + 1), rc) ∧ Rc i = { rc with wf := o.dst.toList ++ rc.wf }

theorem stepsR_ok {C : Ctx} {ops : Array Oper} {R' : Type} {r : R'} : (l : List Oper) → (acc : List Rec) → {σ : Env} → {K : Env → List Rec → Option R'} → stepsR C ops l σ acc K = some r →
    ∃ (E : Nat → Env) (Rc : Nat → Rec), E 0 = σ ∧ (∀ i o, l[i]? = some o → ∃ rc, (stepOp C ops o).runR (E i) Rec.nil (fun v τ rc => some (v, τ, rc)) = some ((), E (i + 1), rc) ∧ Rc i = { rc with wf := o.dst.toList ++ rc.wf }) ∧
      K (E l.length) (((List.range l.length).map Rc).reverse ++ acc) = some r
  | [], acc, σ, K, h => ⟨fun _ => σ, fun _ => Rec.nil, rfl, (fun i o hi => by simp at hi), h⟩
  | o :: l, acc, σ, K, h => by
    simp only [stepsR] at h
    obtain ⟨v, τ, rc, h1, h2⟩ := runR_out _ h
    obtain ⟨E, Rc, e0, hr, hk⟩ := stepsR_ok l _ h2
    refine ⟨fun i => match i with | 0 => σ | i + 1 => E i, fun i => match i with | 0 => { rc with wf := o.dst.toList ++ rc.wf } | i + 1 => Rc i, rfl, fun i o' hi => ?_, ?_⟩
    · cases i with
      | zero =>
        simp only [List.getElem?_cons_zero, Option.some.injEq] at hi
        subst hi
        refine ⟨rc, ?_, rfl⟩
        show _ = some ((), E 0, rc)
        rw [e0]; exact h1
      | succ i => exact hr i o' (by simpa using hi)
    · show K (E l.length) _ = some r
      rw [← hk]
      congr 1
      rw [List.length_cons, List.range_succ_eq_map, List.map_cons, List.map_map, List.reverse_cons, List.append_assoc]
      rfl

/-- What is known of a region that draws. -/
structure Draw (C : Ctx) (ops : Array Oper) (E : Nat → Env) (Rc : Nat → Rec) (pm : Nat → Nat) : Prop where
  run : ∀ i o, ops[i]? = some o → ∃ rc, (stepOp C ops o).runR (E i) Rec.nil (fun v τ rc => some (v, τ, rc)) = some ((), E (i + 1), rc) ∧ Rc i = { rc with wf := o.dst.toList ++ rc.wf }
  conf : ∀ i j, i < j → j < ops.size → (pm j).testBit i = true ∨ (Rc i).apart (Rc j) = true
  pm : ∀ j o i, ops[j]? = some o → (pm j).testBit i = true → ∃ e ∈ o.after, Region.binds .any e = true ∧ (e.on = i ∨ (e.on < j ∧ (pm e.on).testBit i = true))
  back : ∀ j o e, ops[j]? = some o → e ∈ o.after → Region.binds .any e = true → e.on < j
  reg : regOk ops.toList = true
  bare : ∀ n, ((E 0).get n).gd = []

section
variable {C : Ctx} {ops : Array Oper} {E : Nat → Env} {Rc : Nat → Rec} {pm : Nat → Nat}
theorem Draw.lt {i : Nat} {o : Oper} (h : ops[i]? = some o) : i < ops.size := (Array.getElem?_eq_some_iff.1 h).1
theorem Draw.isOp {i : Nat} (h : i < ops.size) : ∃ o, ops[i]? = some o := ⟨_, Array.getElem?_eq_getElem h⟩
theorem Draw.ginv (D : Draw C ops E Rc pm) : ∀ i, i ≤ ops.size → GInv ops i (E i)
  | 0, _ => fun n x hx => by rw [D.bare n] at hx; cases hx
  | i + 1, h => by
    obtain ⟨o, ho⟩ := Draw.isOp (ops := ops) (i := i) (by omega)
    obtain ⟨rc, h1, _⟩ := D.run i o ho
    exact step_inv' D.reg (D.ginv i (by omega)) ho (runR_run _ h1)
theorem Draw.still (D : Draw C ops E Rc pm) {i : Nat} (hi : i < ops.size) : (∀ s, ¬ (Rc i).W s → (E (i + 1)).get s = (E i).get s) ∧ ∀ s, s ∉ (Rc i).wf → Same s ((E (i + 1)).get s) ((E i).get s) := by
  obtain ⟨o, ho⟩ := Draw.isOp (ops := ops) hi
  obtain ⟨rc, h1, h2⟩ := D.run i o ho
  obtain ⟨_, h3, h4⟩ := runR_still _ h1
  rw [h2]
  refine ⟨fun s hs => h3 s (fun h => hs (.inl h)) (fun h => hs (.inr (List.mem_append_right _ h))), fun s hs => h4 s (fun h => hs (List.mem_append_right _ h))⟩
theorem Draw.unch (D : Draw C ops E Rc pm) (s : Nat) : ∀ b a, a ≤ b → b ≤ ops.size → (∀ m, a ≤ m → m < b → ¬ (Rc m).W s) → (E b).get s = (E a).get s := by
  intro b
  induction b with
  | zero => intro a h _ _; rw [show a = 0 by omega]
  | succ b ih =>
    intro a h hb hn
    by_cases e : a = b + 1
    · rw [e]
    · rw [(D.still (i := b) (by omega)).1 s (hn b (by omega) (by omega))]
      exact ih a (by omega) (by omega) (fun m h1 h2 => hn m h1 (by omega))
theorem Draw.unchH (D : Draw C ops E Rc pm) (s : Nat) : ∀ b a, a ≤ b → b ≤ ops.size → (∀ m, a ≤ m → m < b → s ∉ (Rc m).wf) → Same s ((E b).get s) ((E a).get s) := by
  intro b
  induction b with
  | zero => intro a h _ _; rw [show a = 0 by omega]; exact Same.refl _ _
  | succ b ih =>
    intro a h hb hn
    by_cases e : a = b + 1
    · rw [e]; exact Same.refl _ _
    · exact ((D.still (i := b) (by omega)).2 s (hn b (by omega) (by omega))).trans (ih a (by omega) (by omega) (fun m h1 h2 => hn m h1 (by omega)))
/-- Who brought a guard to a slot. -/
theorem Draw.origin (D : Draw C ops E Rc pm) {n : Nat} {x : Nat × Bool} : ∀ b, b ≤ ops.size → x ∈ ((E b).get n).gd → ∃ k o, k < b ∧ ops[k]? = some o ∧ o.dst = some n ∧ x ∈ chainOf (E k) ops o := by
  intro b
  induction b with
  | zero => intro _ hx; rw [D.bare n] at hx; cases hx
  | succ b ih =>
    intro hb hx
    obtain ⟨o, ho⟩ := Draw.isOp (ops := ops) (i := b) (by omega)
    obtain ⟨rc, h1, _⟩ := D.run b o ho
    rcases step_gd (runR_run _ h1) n x hx with hx | ⟨h2, h3⟩
    · obtain ⟨k, o', k1, k2⟩ := ih (by omega) hx
      exact ⟨k, o', by omega, k2⟩
    · exact ⟨b, o, by omega, ho, h2, h3⟩

/-- A set of operations with all that must come before them. -/
structure Down (ops : Array Oper) (L : Nat → Prop) : Prop where
  lt : ∀ k, L k → k < ops.size
  close : ∀ k o e, L k → ops[k]? = some o → e ∈ o.after → Region.binds .any e = true → L e.on
theorem Draw.before (D : Draw C ops E Rc pm) {L : Nat → Prop} {i : Nat} : ∀ j o, ops[j]? = some o → (∀ e ∈ o.after, Region.binds .any e = true → L e.on) → (∀ k o e, L k → ops[k]? = some o → e ∈ o.after → Region.binds .any e = true → L e.on) → (pm j).testBit i = true → L i := by
  intro j
  induction j using Nat.strongRecOn with
  | _ j ih =>
    intro o ho hL hcl hb
    obtain ⟨e, he, hbd, h⟩ := D.pm j o i ho hb
    have hLe := hL e he hbd
    rcases h with rfl | ⟨hlt, hb2⟩
    · exact hLe
    · obtain ⟨o2, ho2⟩ := Draw.isOp (ops := ops) (i := e.on) (by have := Draw.lt ho; omega)
      exact ih e.on hlt o2 ho2 (fun e2 he2 hbd2 => hcl e.on o2 e2 hLe ho2 he2 hbd2) hcl hb2

def Cur (Rc : Nat → Rec) (E : Nat → Env) (L : Nat → Prop) (F : Env) : Prop :=
  ∀ s, (∃ k, L k ∧ (Rc k).W s ∧ (∀ k', L k' → (Rc k').W s → k' ≤ k) ∧ F.get s = (E (k + 1)).get s) ∨ ((∀ k, L k → ¬ (Rc k).W s) ∧ F.get s = (E 0).get s)

/-- Who touches what an operation touches comes before it if and only if it has come. -/
theorem Draw.side (D : Draw C ops E Rc pm) {L : Nat → Prop} (hL : Down ops L) {i : Nat} {o : Oper} (ho : ops[i]? = some o) (hni : ¬ L i) (hpre : ∀ e ∈ o.after, Region.binds .any e = true → L e.on) {k : Nat} (hk : k < ops.size) (hki : k ≠ i)
    (hc : (Rc k).apart (Rc i) = false ∧ (Rc i).apart (Rc k) = false) : (k < i → L k) ∧ (i < k → ¬ L k) := by
  refine ⟨fun h => ?_, fun h hLk => ?_⟩
  · rcases D.conf k i h (Draw.lt ho) with h1 | h1
    · exact D.before i o ho hpre hL.close h1
    · rw [hc.1] at h1; cases h1
  · obtain ⟨ok, hok⟩ := Draw.isOp (ops := ops) hk
    rcases D.conf i k h hk with h1 | h1
    · exact hni (D.before k ok hok (fun e he hb => hL.close k ok e hLk hok he hb) hL.close h1)
    · rw [hc.2] at h1; cases h1
/-- The like among operations that have come. -/
theorem Draw.inL (D : Draw C ops E Rc pm) {L : Nat → Prop} (hL : Down ops L) {k m : Nat} (hk : L k) (hmk : m < k) (hc : (Rc m).apart (Rc k) = false) : L m := by
  obtain ⟨ok, hok⟩ := Draw.isOp (ops := ops) (hL.lt k hk)
  rcases D.conf m k hmk (hL.lt k hk) with h1 | h1
  · exact D.before k ok hok (fun e he hb => hL.close k ok e hk hok he hb) hL.close h1
  · rw [hc] at h1; cases h1
theorem apart_WW {a b : Rec} {s : Nat} (ha : a.W s) (hb : b.W s) : a.apart b = false ∧ b.apart a = false := by
  refine ⟨?_, ?_⟩
  · cases h : a.apart b with
    | false => rfl
    | true => exact absurd hb ((apart_spec h).1 s (.inr ha))
  · cases h : b.apart a with
    | false => rfl
    | true => exact absurd ha ((apart_spec h).1 s (.inr hb))
theorem apart_cW {a b : Rec} {s : Nat} (ha : s ∈ a.c) (hb : b.W s) : a.apart b = false ∧ b.apart a = false := by
  refine ⟨?_, ?_⟩
  · cases h : a.apart b with
    | false => rfl
    | true => exact absurd hb ((apart_spec h).1 s (.inl ha))
  · cases h : b.apart a with
    | false => rfl
    | true => exact absurd hb ((apart_spec h).2.1 s (.inl ha))
theorem apart_hf {a b : Rec} {s : Nat} (ha : s ∈ a.h) (hb : s ∈ b.wf) : a.apart b = false ∧ b.apart a = false := by
  refine ⟨?_, ?_⟩
  · cases h : a.apart b with
    | false => rfl
    | true => exact absurd hb ((apart_spec h).2.2.1 s ha)
  · cases h : b.apart a with
    | false => rfl
    | true => exact absurd hb ((apart_spec h).2.2.2 s ha)

theorem Draw.agree (D : Draw C ops E Rc pm) {L : Nat → Prop} (hL : Down ops L) {F : Env} (hF : Cur Rc E L F) {i : Nat} {o : Oper} (ho : ops[i]? = some o) (hni : ¬ L i) (hpre : ∀ e ∈ o.after, Region.binds .any e = true → L e.on) :
    (∀ s, (s ∈ (Rc i).c ∨ (Rc i).W s) → F.get s = (E i).get s) ∧ ∀ s ∈ (Rc i).h, Same s (F.get s) ((E i).get s) := by
  have hi := Draw.lt ho
  have full : ∀ s, (∀ k, k < ops.size → k ≠ i → (Rc k).W s → (k < i → L k) ∧ (i < k → ¬ L k)) → F.get s = (E i).get s := by
    intro s hs
    rcases hF s with ⟨k, hk, hw, hlast, he⟩ | ⟨hno, he⟩
    · have hki : k ≠ i := fun e => hni (e ▸ hk)
      have hlt : k < i := by
        rcases Nat.lt_or_gt_of_ne hki with h | h
        · exact h
        · exact absurd hk ((hs k (hL.lt k hk) hki hw).2 h)
      rw [he]
      refine (D.unch s i (k + 1) (by omega) (by omega) (fun m h1 h2 hm => ?_)).symm
      have := hlast m ((hs m (by omega) (by omega) hm).1 h2) hm
      omega
    · rw [he]
      refine (D.unch s i 0 (by omega) (by omega) (fun m h1 h2 hm => ?_)).symm
      exact hno m ((hs m (by omega) (by omega) hm).1 h2) hm
  refine ⟨fun s hs => full s (fun k hk hki hw => D.side hL ho hni hpre hk hki ?_), fun s hs => ?_⟩
  · rcases hs with hs | hs
    · exact (apart_cW hs hw).symm
    · exact (apart_WW hs hw).symm
  · have hside : ∀ k, k < ops.size → k ≠ i → s ∈ (Rc k).wf → (k < i → L k) ∧ (i < k → ¬ L k) := fun k hk hki hw => D.side hL ho hni hpre hk hki (apart_hf hs hw).symm
    rcases hF s with ⟨k, hk, hw, hlast, he⟩ | ⟨hno, he⟩
    · have hki : k ≠ i := fun e => hni (e ▸ hk)
      rw [he]
      rcases Nat.lt_or_gt_of_ne hki with h | h
      · refine (D.unchH s i (k + 1) (by omega) (by omega) (fun m h1 h2 hm => ?_)).symm
        have := hlast m ((hside m (by omega) (by omega) hm).1 h2) (.inr hm)
        omega
      · have hks := hL.lt k hk
        refine D.unchH s (k + 1) i (by omega) (by omega) (fun m h1 h2 hm => ?_)
        by_cases hmi : m = i
        · subst hmi
          have := D.side hL ho hni hpre hks hki (apart_WW hw (.inr hm))
          exact this.2 h hk
        · by_cases hmk : m = k
          · subst hmk
            exact (hside m hks hki hm).2 h hk
          · have hLm := D.inL hL hk (show m < k by omega) (apart_WW (.inr hm) hw).1
            exact (hside m (by omega) hmi hm).2 (by omega) hLm
    · rw [he]
      refine (D.unchH s i 0 (by omega) (by omega) (fun m h1 h2 hm => ?_)).symm
      exact hno m ((hside m (by omega) (by omega) hm).1 h2) (.inr hm)

theorem mem_W {o : Oper} {rc : Rec} {s : Nat} : ({ rc with wf := o.dst.toList ++ rc.wf } : Rec).W s ↔ o.dst = some s ∨ s ∈ rc.wc ∨ s ∈ rc.wf := by
  simp only [Rec.W, List.mem_append]
  cases o.dst with
  | none => simp
  | some d => simp only [Option.toList_some, List.mem_singleton, Option.some.injEq]; constructor <;> rintro (h | h | h) <;> simp_all

/-- One more operation. -/
theorem Draw.next (D : Draw C ops E Rc pm) {L : Nat → Prop} (hL : Down ops L) {F : Env} (hF : Cur Rc E L F) {i : Nat} {o : Oper} (ho : ops[i]? = some o) (hni : ¬ L i) (hpre : ∀ e ∈ o.after, Region.binds .any e = true → L e.on) :
    ∃ F', (stepOp C ops o).run F (fun v τ => some (v, τ)) = some ((), F') ∧ Cur Rc E (fun k => L k ∨ k = i) F' ∧ chainOf F ops o = chainOf (E i) ops o := by
  obtain ⟨rc, hr, hrc⟩ := D.run i o ho
  obtain ⟨hfull, hhead⟩ := D.agree hL hF ho hni hpre
  rw [hrc] at hfull hhead
  have ag : Agree rc (E i) F := ⟨fun s hs => hfull s (.inl hs), fun s hs => hfull s (.inr (.inl hs)), fun s hs => hfull s (.inr (.inr (List.mem_append_right _ hs))), fun s hs => hhead s hs⟩
  obtain ⟨F', h1, h2, h3⟩ := runR_frame _ hr ag
  obtain ⟨hc1, hc2⟩ := chain_rec hr
  refine ⟨F', runR_run _ h1, fun s => ?_, ?_⟩
  · by_cases hw : (Rc i).W s
    · refine .inl ⟨i, .inr rfl, hw, fun k' hk' hw' => ?_, ?_⟩
      · rcases hk' with hk' | rfl
        · have hki : k' ≠ i := fun e => hni (e ▸ hk')
          rcases Nat.lt_or_gt_of_ne hki with h | h
          · omega
          · exact absurd hk' ((D.side hL ho hni hpre (hL.lt k' hk') hki (apart_WW hw' hw)).2 h)
        · exact Nat.le_refl _
      · rw [hrc, mem_W] at hw
        by_cases hw2 : s ∈ rc.wc ∨ s ∈ rc.wf
        · rcases hw2 with hw2 | hw2
          · exact h2.wc s hw2
          · exact h2.wf s hw2
        · rw [h3 s (fun h => hw2 (.inl h)) (fun h => hw2 (.inr h)), hfull s (.inr (by rw [mem_W]; exact hw))]
          exact ((runR_still _ hr).2.1 s (fun h => hw2 (.inl h)) (fun h => hw2 (.inr h))).symm
    · have he : F'.get s = F.get s := by
        rw [hrc, mem_W] at hw
        exact h3 s (fun h => hw (.inr (.inl h))) (fun h => hw (.inr (.inr h)))
      rcases hF s with ⟨k, hk, hwk, hlast, hg⟩ | ⟨hno, hg⟩
      · refine .inl ⟨k, .inl hk, hwk, fun k' hk' hw' => ?_, by rw [he, hg]⟩
        rcases hk' with hk' | rfl
        · exact hlast k' hk' hw'
        · exact absurd hw' hw
      · refine .inr ⟨fun k hk hwk => ?_, by rw [he, hg]⟩
        rcases hk with hk | rfl
        · exact hno k hk hwk
        · exact hw hwk
  · unfold chainOf
    cases hg : o.guard with
    | none => rfl
    | some jb =>
      obtain ⟨j, b⟩ := jb
      simp only
      cases hd : (ops[j]?).bind (·.dst) with
      | none => rfl
      | some d =>
        simp only
        rw [(hhead d (hc2 j b d hg hd)).1]

theorem Draw.dstOk {A : Nat → Value} (D : Draw C ops E Rc pm) {L : Nat → Prop} (hL : Down ops L) {F : Env} (hF : Cur Rc E L F) {i : Nat} {o : Oper} (ho : ops[i]? = some o) (hni : ¬ L i) (hpre : ∀ e ∈ o.after, Region.binds .any e = true → L e.on) (hch : chainOf F ops o = chainOf (E i) ops o)
    {tm : Array Value} (hsz : ∀ d, o.dst = some d → d < tm.size ∧ A d = undef) : DstOk A F (chainOf F ops o) o.dst tm := by
  intro d hd
  have hi := Draw.lt ho
  have hdi : (ops[i]?).bind (·.dst) = some d := by rw [ho]; exact hd
  refine ⟨fun n b hx => ?_, fun b hx => ?_, hsz d hd⟩
  · rcases hF n with ⟨k, hk, hw, hlast, he⟩ | ⟨hno, he⟩
    · rw [he] at hx
      have hks := hL.lt k hk
      obtain ⟨k', o', k1, k2, k3, k4⟩ := D.origin (k + 1) (by omega) hx
      have hW' : (Rc k').wf = _ ∧ True := ⟨rfl, trivial⟩
      obtain ⟨rc', hr', hrc'⟩ := D.run k' o' k2
      have hwn : (Rc k').W n := by rw [hrc', mem_W]; exact .inl k3
      have hLk' : L k' := by
        by_cases e : k' = k
        · rw [e]; exact hk
        · exact D.inL hL hk (by omega) (apart_WW hwn hw).1
      have hdh : d ∈ (Rc k').h := by rw [hrc']; exact (chain_rec hr').1 _ k4
      have hwd : d ∈ (Rc i).wf := by
        obtain ⟨rc, hr, hrc⟩ := D.run i o ho
        rw [hrc, hd]; simp
      have hlt : i < k' := Wr.not D.reg (chain_wr D.reg (D.ginv k' (by omega)) k2 _ k4) hdi
      exact hni (D.inL hL hLk' hlt (apart_hf hdh hwd).2)
    · rw [he, D.bare n] at hx; cases hx
  · rw [hch] at hx
    have := Wr.not D.reg (chain_wr D.reg (D.ginv i (by omega)) ho _ hx) hdi
    omega

theorem Draw.all (D : Draw C ops E Rc pm) {L : Nat → Prop} {F : Env} (hF : Cur Rc E L F) (hall : ∀ i, i < ops.size → L i) (hL : Down ops L) (s : Nat) : F.get s = (E ops.size).get s := by
  rcases hF s with ⟨k, hk, hw, hlast, he⟩ | ⟨hno, he⟩
  · rw [he]
    have := hL.lt k hk
    refine (D.unch s ops.size (k + 1) (by omega) (Nat.le_refl _) (fun m h1 h2 hm => ?_)).symm
    have := hlast m (hall m h2) hm
    omega
  · rw [he]
    exact (D.unch s ops.size 0 (by omega) (Nat.le_refl _) (fun m h1 h2 hm => hno m (hall m h2) hm)).symm
end

section
variable {R' : Type} {A : Nat → Value} {w w' : World} {g g' g0 : Gh} {tm : Array Value} {ds : List Deferred} {σ σ' τ : Env} {Q : Exit → Act → World → Prop} {o : Oper} {C : Ctx} {ops : Array Oper} {E : Nat → Env} {Rc : Nat → Rec} {pm : Nat → Nat}

theorem SR.congr {n pv : Nat} {s : S} {x : Value} (h : ∀ n, σ'.get n = σ.get n) (hs : SR P w g A σ n pv s x) : SR P w g A σ' n pv s x := by
  cases s <;> first | exact hs | skip
  · rename_i h' ver q p t
    intro h1 h2
    rw [h] at h1 h2 ⊢
    exact hs h1 h2
  · rename_i h' ver p t
    intro h1
    rw [h] at h1 ⊢
    exact hs h1
  · rename_i h' ver q lo hi e t
    intro h1 h2
    rw [h] at h1 h2 ⊢
    exact hs h1 h2
  · rename_i h' ver q hi e t s l
    obtain ⟨xs, h0, hs⟩ := hs
    refine ⟨xs, h0, ?_⟩
    intro h1 h2
    rw [h] at h1 h2 ⊢
    exact hs h1 h2
theorem VerOk.congr {s : S} (h : ∀ n, σ'.get n = σ.get n) (hs : VerOk σ s) : VerOk σ' s := by
  cases s <;> first | exact hs | skip
  · simp only [VerOk, Young] at hs ⊢; rw [h]; exact hs
  · simp only [VerOk, Young] at hs ⊢; rw [h]; exact hs
  · simp only [VerOk, Young] at hs ⊢; rw [h]; exact hs
  · simp only [VerOk, Young] at hs ⊢; rw [h]; exact hs
theorem Rel.congr (R : Rel P A w g tm σ) (h : ∀ n, σ'.get n = σ.get n) : Rel P A w g tm σ' := by
  have hon : ∀ c, σ'.on c = σ.on c := fun c => on_congr fun d b _ => by rw [h]
  refine ⟨fun n hn => ?_, fun n d b hb => ?_, fun n => ?_, fun n hn => ?_, R.own, R.fz, R.fix⟩
  · rw [h, hon] at hn
    rw [h]
    exact (R.slot n hn).congr h
  · rw [h] at hb ⊢
    exact R.gd n d b hb
  · rw [h]; exact (R.ver n).congr h
  · rw [h, hon] at hn
    exact R.off n hn

theorem draw_wp (hC : CtxOk P C) (D : Draw C ops E Rc pm) {n : Nat} (hsz : ∀ (i : Nat) o d, ops[i]? = some o → o.dst = some d → d < n ∧ A d = undef) : (fuel : Nat) → (listed : Array Bool) → {w : World} → {g : Gh} → {tm : Array Value} → {F : Env} → Rel P A w g tm F → tm.size = n →
    listed.size = ops.size → Down ops (fun k => listed.getD k false = true) → Cur Rc E (fun k => listed.getD k false = true) F → (∃ U : List Nat, U.length ≤ fuel ∧ ∀ i, i < ops.size → listed.getD i true = false → i ∈ U) →
    (∀ a w', After P A w g ds n (E ops.size) a w' → Q .normal a w') → wpAny P .any ops Q fuel listed ⟨tm, ds⟩ w
  | 0, listed, w, g, tm, F, R, hn, hls, hL, hF, hU, hQ => by
    obtain ⟨U, hU1, hU2⟩ := hU
    have hU0 : U = [] := List.eq_nil_of_length_eq_zero (by omega)
    subst hU0
    have hall : ∀ i, i < ops.size → listed.getD i false = true := by
      intro i hi
      have : listed.getD i true ≠ false := fun h => by have := hU2 i hi h; cases this
      rw [Array.getD_eq_getD_getElem?, Array.getElem?_eq_getElem (by omega)] at this ⊢
      simpa using this
    refine ⟨?_, hQ _ _ ⟨g, R.congr (fun s => (D.all hF hall hL s).symm), Ext.refl _ _, rfl, hn⟩⟩
    cases hr : Region.ready .any ops listed with
    | nil => rfl
    | cons j l =>
      have : j ∈ Region.ready .any ops listed := by rw [hr]; exact List.mem_cons_self
      obtain ⟨h1, o, ho, _⟩ := mem_ready.1 this
      have := hU2 j (Draw.lt ho) h1
      cases this
  | fuel + 1, listed, w, g, tm, F, R, hn, hls, hL, hF, hU, hQ => by
    refine ⟨fun hr => ?_, fun i hi => ?_⟩
    · have hall : ∀ i, i < ops.size → listed.getD i false = true := by
        intro i
        induction i using Nat.strongRecOn with
        | _ i ih =>
          intro hi
          obtain ⟨o, ho⟩ := Draw.isOp (ops := ops) hi
          cases hl : listed.getD i false with
          | true => rfl
          | false =>
            exfalso
            have : i ∈ Region.ready .any ops listed := by
              refine mem_ready.2 ⟨?_, o, ho, fun e he hb => ?_⟩
              · rw [Array.getD_eq_getD_getElem?, Array.getElem?_eq_getElem (by omega)] at hl ⊢
                simpa using hl
              · have hlt := D.back i o e ho he hb
                exact ih e.on hlt (by omega)
            rw [hr] at this; cases this
      exact hQ _ _ ⟨g, R.congr (fun s => (D.all hF hall hL s).symm), Ext.refl _ _, rfl, hn⟩
    · obtain ⟨h0, o, ho, hpre⟩ := mem_ready.1 hi
      have hi' := Draw.lt ho
      have hni : ¬ listed.getD i false = true := by
        rw [Array.getD_eq_getD_getElem?, Array.getElem?_eq_getElem (by omega)] at h0 ⊢
        simp at h0 ⊢; exact h0
      obtain ⟨F', h1, h2, h3⟩ := D.next hL hF ho hni hpre
      have hdst := D.dstOk hL hF ho hni hpre h3 (tm := tm) (fun d hd => by rw [hn]; exact hsz i o d ho hd)
      have hw := op_wp (Q := Q) (ds := ds) hC R ho hdst h1
      refine wpOp_mono ?_ hw
      rintro ⟨tm', ds'⟩ w' ⟨g', R', E', k1, k2⟩
      simp only at k1 k2 R'
      rw [k1]
      have hget : ∀ k, (listed.setIfInBounds i true).getD k false = true ↔ (listed.getD k false = true ∨ k = i) := by
        intro k
        by_cases e : k = i
        · subst e
          simp only [or_true, iff_true]
          rw [Array.getD_eq_getD_getElem?, Array.getElem?_setIfInBounds_self_of_lt (by omega)]; rfl
        · rw [getD_set_ne false (fun h => e h.symm)]
          simp only [e, or_false]
      refine draw_wp hC D hsz fuel _ R' (by rw [k2, hn]) (by simpa using hls) ⟨fun k hk => ?_, fun k ok e hk hok he hb => ?_⟩ ?_ ?_ (fun a w2 ha => hQ a w2 (ha.trans E'))
      · rcases (hget k).1 hk with hk | rfl
        · exact hL.lt k hk
        · exact hi'
      · refine (hget e.on).2 ?_
        rcases (hget k).1 hk with hk | rfl
        · exact .inl (hL.close k ok e hk hok he hb)
        · rw [ho] at hok
          cases hok
          exact .inl (hpre e he hb)
      · intro s
        rcases h2 s with ⟨k, c1, c2, c3, c4⟩ | ⟨c1, c2⟩
        · exact .inl ⟨k, (hget k).2 c1, c2, fun k' hk' hw' => c3 k' ((hget k').1 hk') hw', c4⟩
        · exact .inr ⟨fun k hk hw => c1 k ((hget k).1 hk) hw, c2⟩
      · obtain ⟨U, hU1, hU2⟩ := hU
        have him := hU2 i hi' h0
        refine ⟨U.erase i, by rw [List.length_erase_of_mem him]; omega, fun j hj hju => ?_⟩
        by_cases e : j = i
        · subst e
          rw [Array.getD_eq_getD_getElem?, Array.getElem?_setIfInBounds_self_of_lt (by omega)] at hju
          cases hju
        · rw [getD_set_ne true (fun h => e h.symm)] at hju
          exact (List.mem_erase_of_ne e).2 (hU2 j hj hju)
end
end Go.Ev

/- Code. -/
namespace Go.Ev
open Go.RowKit
variable {P : Program}

/-- What is asked of a text: slots that guard are filled once, what must come before lies ahead, the slots of the list stay. -/
def opsOk (n : Nat) (fixed : List Nat) (ops : List Oper) : Bool :=
  regOk ops && (ops.all (fun o => match o.dst with | none => true | some d => decide (d < n) && !fixed.contains d) && ops.zipIdx.all fun x => x.1.after.toList.all fun e => !Region.binds .any e || decide (e.on < x.2))
def codeOk (n : Nat) (fixed : List Nat) : Code → Bool
  | .skip => true
  | .region _ ops _ => opsOk n fixed ops.toList
  | .seq a b => codeOk n fixed a && codeOk n fixed b
  | .cond _ a b => codeOk n fixed a && codeOk n fixed b
  | .block _ b => codeOk n fixed b
  | .loop b => codeOk n fixed b
  | .exit _ => true
  | .ret => true
  | _ => false

def Bare (σ : Env) : Prop := ∀ n, (σ.get n).gd = []
theorem bare_get (σ : Env) (n : Nat) : σ.bare.get n = if (σ.get n).gd.isEmpty = true then σ.get n else ⟨[], (σ.get n).ver + 1, 0, .undef⟩ := by
  induction σ with
  | nil => rfl
  | cons x r ih =>
    obtain ⟨k, e⟩ := x
    simp only [Env.bare, List.map_cons] at ih ⊢
    by_cases hk : k = n
    · subst hk
      cases hg : e.gd.isEmpty <;> simp [Env.get, hg]
    · have hk' : (k == n) = false := by simpa using hk
      cases hg : e.gd.isEmpty <;> simp only [hg, if_true, if_false, Bool.false_eq_true, Env.get, hk'] <;> exact ih
theorem bare_bare (σ : Env) : Bare σ.bare := by
  intro n
  rw [bare_get]
  split
  · rename_i h; exact isEmpty_nil h
  · rfl

section
variable {R' : Type} {A : Nat → Value} {w w' w0 : World} {g g' g0 : Gh} {tm : Array Value} {ds : List Deferred} {σ σ' τ : Env} {c : G} {r : R'} {Q : Exit → Act → World → Prop} {o : Oper} {C : Ctx} {ops : Array Oper}

theorem Rel.bare (R : Rel P A w g tm σ) : Rel P A w g tm σ.bare := by
  refine ⟨fun n hn => ?_, fun n d b hb => ?_, fun n => ?_, fun n hn => ?_, R.own, R.fz, R.fix⟩
  · rw [bare_get] at hn ⊢
    split at hn
    · rename_i he
      rw [if_pos he]
      have hsl := R.slot n (by rw [isEmpty_nil he]; rfl)
      have hv := R.ver n
      generalize (σ.get n).s = s at hsl hv
      cases s with
      | ref h' ver q p t =>
        intro h1 h2
        rw [bare_get] at h1 h2 ⊢
        split at h1
        · rename_i hh
          rw [if_pos hh] at h2 ⊢
          exact hsl h1 h2
        · simp only [VerOk, Young] at hv
          simp only at h1
          omega
      | addr h' ver p t =>
        intro h1
        rw [bare_get] at h1 ⊢
        split at h1
        · rename_i hh
          rw [if_pos hh]
          exact hsl h1
        · simp only [VerOk, Young] at hv
          simp only at h1
          omega
      | cut h' ver q lo hi e t =>
        intro h1 h2
        rw [bare_get] at h1 h2 ⊢
        split at h1
        · rename_i hh
          rw [if_pos hh] at h2 ⊢
          exact hsl h1 h2
        · simp only [VerOk, Young] at hv
          simp only at h1
          omega
      | shal h' ver q hi e t s l =>
        obtain ⟨xs, h0, hsl⟩ := hsl
        refine ⟨xs, h0, ?_⟩
        intro h1 h2
        rw [bare_get] at h1 h2 ⊢
        split at h1
        · rename_i hh
          rw [if_pos hh] at h2 ⊢
          exact hsl h1 h2
        · simp only [VerOk, Young] at hv
          simp only at h1
          omega
      | _ => exact hsl
    · rename_i he
      rw [if_neg he]; trivial
  · rw [bare_bare] at hb; cases hb
  · have hver : ∀ j, (σ.get j).ver < (σ.bare.get j).ver ∨ ((σ.get j).ver = (σ.bare.get j).ver ∧ (σ.get j).pv ≤ (σ.bare.get j).pv) := by
      intro j
      rw [bare_get]
      split
      · exact .inr ⟨rfl, Nat.le_refl _⟩
      · left; show _ < _ + 1; omega
    have := (R.ver n).keep hver
    rw [bare_get]
    split
    · exact this
    · trivial
  · rw [bare_bare] at hn; cases hn

def S.alone : S → Bool
  | .val .. | .box .. | .rowp .. | .ea .. => true
  | _ => false
theorem SR.alone {s : S} {n pv pv' : Nat} {x : Value} (ha : s.alone = true) (k : Keeps (· = .inl n) w g w g') (h : SR P w g A σ n pv s x) : SR P w g' A σ' n pv' s x := by
  cases s with
  | val t sh v => simp only [SR] at h ⊢; exact HomeR.keep k rfl h
  | box t sh v => simp only [SR] at h ⊢; exact HomeR.keep k rfl h
  | rowp e t sh v => simp only [SR] at h ⊢; exact HomeR.keep k rfl h
  | ea t v =>
    obtain ⟨b, o, hx, hb, hf⟩ := h
    exact ⟨b, o, hx, (k.old b hb).1, by rw [rowL_congr (k.old b hb).2]; exact Fr.mono t k.old hf⟩
  | _ => simp [S.alone] at ha

/-- What a slot holds at a loop's head. -/
theorem keep1_ok {k : Keep} {K : Ent → Option R'} (R : (σ.get k.slot).gd.isEmpty = true → (σ.get k.slot).s.alone = true → SR P w g A σ k.slot (σ.get k.slot).pv (σ.get k.slot).s (tm.getD k.slot undef)) (ok : GhOk w g) (h : keep1 σ k K = some r) :
    ∃ e g', K e = some r ∧ e.gd = [] ∧ (∀ σ', VerOk σ' e.s) ∧ e.s.alone = true ∧ SR P w g' A σ k.slot e.pv e.s (tm.getD k.slot undef) ∧ GhOk w g' ∧ Ext w g w g' ∧ Keeps (fun r => ∃ n, r = .inl n ∧ n ≠ k.slot) w g w g' := by
  have hk : ∀ (m : Home) sh', Keeps (fun r => ∃ n, r = .inl n ∧ n ≠ k.slot) w g w (turnG g (.inl k.slot) m.k.base sh' [] (.inr 9) []) := fun m sh' => (turnG_keeps w).mono (by
    rintro r ⟨n, rfl, hn⟩
    exact ⟨by simpa using hn, by simp⟩)
  cases k with
  | val s t sh =>
    simp only [keep1] at h
    simp only [Keep.slot] at R hk ⊢
    split at h
    · rename_i u sh' v hs
      split at h
      · rename_i hh
        simp only [Bool.and_eq_true] at hh
        split at h
        · rename_i e _
          subst e
          rw [hs] at R
          exact ⟨_, _, h, rfl, (fun _ => trivial), rfl, HomeR.reshape (A := A) (m := ⟨.val, u, sh', v⟩) (sh' := sh) (p := []) (fk := .inr 9) (by simp) hh.1 (R hh.2 rfl), turnG_ok ok (by simp), turnG_ext w, hk ⟨.val, u, sh', v⟩ sh⟩
        · cases h
      · cases h
    · cases h
  | box s t sh =>
    simp only [keep1] at h
    simp only [Keep.slot] at R hk ⊢
    split at h
    · rename_i u sh' v hs
      split at h
      · rename_i hh
        simp only [Bool.and_eq_true] at hh
        split at h
        · rename_i e _
          subst e
          rw [hs] at R
          exact ⟨_, _, h, rfl, (fun _ => trivial), rfl, HomeR.reshape (A := A) (m := ⟨.box, u, sh', v⟩) (sh' := sh) (p := []) (fk := .inr 9) (by simp) hh.1 (R hh.2 rfl), turnG_ok ok (by simp), turnG_ext w, hk ⟨.box, u, sh', v⟩ sh⟩
        · cases h
      · cases h
    · cases h
  | row s e t sh =>
    simp only [keep1] at h
    simp only [Keep.slot] at R hk ⊢
    split at h
    · rename_i e' u sh' v hs
      split at h
      · rename_i hh
        simp only [Bool.and_eq_true, decide_eq_true_eq, beq_iff_eq] at hh
        obtain ⟨rfl, rfl, hg⟩ := hh
        split at h
        · rename_i e _
          subst e
          rw [hs] at R
          exact ⟨_, g, h, rfl, (fun _ => trivial), rfl, R hg rfl, ok, Ext.refl _ _, Keeps.refl _ _ _⟩
        · cases h
      · cases h
    · cases h
  | ea s t =>
    simp only [keep1] at h
    simp only [Keep.slot] at R hk ⊢
    split at h
    · rename_i u v hs
      split at h
      · rename_i hg
        split at h
        · rename_i e _
          subst e
          rw [hs] at R
          exact ⟨_, g, h, rfl, (fun _ => trivial), rfl, R hg rfl, ok, Ext.refl _ _, Keeps.refl _ _ _⟩
        · cases h
      · cases h
    · cases h

theorem keeps_ok : (ks : List Keep) → {g : Gh} → {K : Env → Option R'} → (∀ k ∈ ks, (σ.get k.slot).gd.isEmpty = true → (σ.get k.slot).s.alone = true → SR P w g A σ k.slot (σ.get k.slot).pv (σ.get k.slot).s (tm.getD k.slot undef)) → GhOk w g → keep σ ks K = some r →
    ∃ τ g', K τ = some r ∧ (∀ n, (τ.get n).gd = [] ∧ (∀ σ', VerOk σ' (τ.get n).s) ∧ ((∀ k ∈ ks, k.slot ≠ n) → (τ.get n).s = .undef) ∧ ((τ.get n).s = .undef ∨ (τ.get n).s.alone = true ∧ SR P w g' A σ n (τ.get n).pv (τ.get n).s (tm.getD n undef))) ∧ GhOk w g' ∧ Ext w g w g' ∧ Keeps (fun r => ∃ n, r = .inl n ∧ ∀ k ∈ ks, k.slot ≠ n) w g w g'
  | [], g, K, hs, ok, h => ⟨[], g, h, fun n => ⟨rfl, fun _ => trivial, fun _ => rfl, .inl rfl⟩, ok, Ext.refl _ _, Keeps.refl _ _ _⟩
  | k :: ks, g, K, hs, ok, h => by
    simp only [keep] at h
    split at h
    · cases h
    · rename_i hd
      have hd : ∀ j ∈ ks, j.slot ≠ k.slot := by
        intro j hj e
        apply hd
        simp only [List.any_eq_true, beq_iff_eq]
        exact ⟨j, hj, e⟩
      obtain ⟨e, g1, hk, he, hve, hal, hse, ok1, E1, K1⟩ := keep1_ok (k := k) (tm := tm) (A := A) (hs k List.mem_cons_self) ok h
      obtain ⟨τ, g2, hr, hall, ok2, E2, K2⟩ := keeps_ok ks (fun j hj hg ha => SR.alone ha (K1.mono (by rintro r rfl; exact ⟨_, rfl, hd j hj⟩)) (hs j (List.mem_cons_of_mem _ hj) hg ha)) ok1 hk
      refine ⟨_, g2, hr, fun n => ?_, ok2, E1.trans E2, (K1.mono ?_).trans (K2.mono ?_)⟩
      · by_cases hn : k.slot = n
        · subst hn
          have hget : Env.get ((k.slot, e) :: τ) k.slot = e := by simp [Env.get]
          rw [hget]
          exact ⟨he, hve, (fun h => absurd rfl (h k List.mem_cons_self)), .inr ⟨hal, SR.alone hal (K2.mono (by rintro r rfl; exact ⟨_, rfl, hd⟩)) hse⟩⟩
        · have hget : Env.get ((k.slot, e) :: τ) n = τ.get n := by
            have : (k.slot == n) = false := by simpa using hn
            simp [Env.get, this]
          rw [hget]
          obtain ⟨h1, h2, h3, h4⟩ := hall n
          exact ⟨h1, h2, fun h => h3 (fun j hj => h j (List.mem_cons_of_mem _ hj)), h4⟩
      · rintro r ⟨n, rfl, hn⟩
        exact ⟨n, rfl, fun e => hn k List.mem_cons_self e.symm⟩
      · rintro r ⟨n, rfl, hn⟩
        exact ⟨n, rfl, fun j hj => hn j (List.mem_cons_of_mem _ hj)⟩

theorem keep_ok {ks : List Keep} {K : Env → Option R'} (R : Rel P A w g tm σ) (h : keep σ ks K = some r) : ∃ τ g', K τ = some r ∧ Rel P A w g' tm τ ∧ Bare τ ∧ Ext w g w g' := by
  obtain ⟨τ, g', hr, hall, ok, E, _⟩ := keeps_ok ks (A := A) (tm := tm) (fun k _ hg _ => R.slot k.slot (by rw [isEmpty_nil hg]; rfl)) R.ok h
  refine ⟨τ, g', hr, ⟨fun n _ => ?_, fun n d b hb => ?_, fun n => (hall n).2.1 _, fun n hn => ?_, ok.own, ok.fz, R.fix⟩, fun n => (hall n).1, E⟩
  · rcases (hall n).2.2.2 with h | ⟨ha, h⟩
    · rw [h]; trivial
    · exact SR.alone ha (Keeps.refl _ _ _) h
  · rw [(hall n).1] at hb; cases hb
  · rw [(hall n).1] at hn; cases hn

/-- What is known where a code ends. -/
def St (P : Program) (A : Nat → Value) (w0 : World) (g0 : Gh) (ds : List Deferred) (n : Nat) (K : Ex → Env → Option R') (r : R') (ex : Ex) (a : Act) (w : World) : Prop :=
  ∃ g σ, Rel P A w g a.tmps σ ∧ Bare σ ∧ Ext w0 g0 w g ∧ a.defers = ds ∧ a.tmps.size = n ∧ K ex σ = some r
def Good (P : Program) (A : Nat → Value) (w0 : World) (g0 : Gh) (ds : List Deferred) (n : Nat) (K : Ex → Env → Option R') (r : R') : Exit → Act → World → Prop
  | .normal, a, w => St P A w0 g0 ds n K r .normal a w
  | .exit i, a, w => St P A w0 g0 ds n K r (.exit i) a w
  | .ret, a, w => St P A w0 g0 ds n K r .ret a w
  | _, _, _ => False

theorem region_ok {n : Nat} {id : Nat} {draw : Bool} {fixed : List Nat} {K : Ex → Env → Option R'} {L : List (Nat × List Keep)} (hC : CtxOk P C) (hm : P.follows .mixedOrders = true) (hok : opsOk n fixed ops.toList = true) (hfix : ∀ d, A d ≠ undef → d ∈ fixed) (R : Rel P A w g tm σ) (hb : Bare σ) (hn : tm.size = n)
    (h : ev C L (.region id ops draw) σ K = some r) : (Code.region id ops draw).wp P (Good P A w g ds n K r) ⟨tm, ds⟩ w := by
  simp only [opsOk, Bool.and_eq_true] at hok
  obtain ⟨hreg, hdst, hback⟩ := hok
  have hsz : ∀ (i : Nat) o d, ops[i]? = some o → o.dst = some d → d < n ∧ A d = undef := by
    intro i o d ho hd
    have := List.all_eq_true.1 hdst o (by have := List.mem_of_getElem? (l := ops.toList) (i := i) (a := o) (by simpa using ho); exact this)
    rw [hd] at this
    simp only [Bool.and_eq_true, decide_eq_true_eq, Bool.not_eq_true', List.contains_eq_mem, decide_eq_false_iff_not] at this
    refine ⟨this.1, Classical.byContradiction fun hA => this.2 (hfix d hA)⟩
  have hinv : GInv ops 0 σ := fun n x hx => by rw [hb n] at hx; cases hx
  cases draw with
  | false =>
    simp only [ev] at h
    refine wp_region ?_
    have := steps_wp (Q := Good P A w g ds n K r) (ds := ds) hC hreg hsz ops.toList 0 rfl R hinv hn h (fun a w' τ ⟨g', R', E', h1, h2⟩ hk => ⟨g', τ.bare, R'.bare, bare_bare τ, E', h1, h2, hk⟩)
    rw [List.range_eq_range']
    simpa using this
  | true =>
    simp only [ev] at h
    obtain ⟨E, Rc, e0, hrun, hk⟩ := stepsR_ok ops.toList [] h
    split at hk
    · rename_i hfree
      refine wp_region_any hm ?_
      obtain ⟨q, hq1, hq2, hq3⟩ := preds_spec ops.toList []
      simp only [List.nil_append, List.length_nil, Nat.zero_add] at hq1 hq3
      have hrev : ((List.map Rc (List.range ops.toList.length)).reverse ++ []).reverse = (List.range ops.size).map Rc := by simp
      rw [hrev] at hfree
      unfold free at hfree
      rw [hq1] at hfree
      have D : Draw C ops E Rc (fun j => q.getD j 0) := by
        refine ⟨fun i o ho => hrun i o (by simpa using ho), fun i j hij hj => ?_, fun j o i ho hb => ?_, fun j o e ho he hb => ?_, hreg, fun n => by rw [e0]; exact hb n⟩
        · have hqj : q[j]? = some (q.getD j 0) := getD_some (by rw [hq2]; simpa using hj)
          have := freeAll_spec q _ [] hfree (by rw [hq2]; simp) j (Rc j) (q.getD j 0) (by simp [hj]) hqj i (Rc i) (by simpa using hij) (by simp only [List.nil_append, List.getElem?_map, List.getElem?_range (show i < ops.size by omega), Option.map_some])
          exact this
        · obtain ⟨e, he, hbd, hx⟩ := hq3 j o i (by simpa using ho) hb
          exact ⟨e, by simpa using he, hbd, hx⟩
        · have hz : (o, j) ∈ ops.toList.zipIdx := by rw [List.mem_zipIdx_iff_getElem?]; simpa using ho
          have := List.all_eq_true.1 (List.all_eq_true.1 hback _ hz) e (by simpa using he)
          simp only [hb, Bool.not_true, Bool.false_or, decide_eq_true_eq] at this
          exact this
      have hE : Ext w g { w with drawn := w.drawn + 1 } g := ⟨rfl, rfl, rfl, Nat.le_refl _, fun _ _ h => ⟨rfl, h⟩, fun _ h => h, fun _ h => .inl h⟩
      have R2 : Rel P A { w with drawn := w.drawn + 1 } g tm σ := R.world ⟨fun b h => ⟨h, rfl⟩, fun r _ b π h => ⟨h, rfl⟩, fun _ _ => rfl⟩ ⟨R.own, R.fz⟩
      have hfalse : ∀ k, ¬ (Array.replicate ops.size false).getD k false = true := by
        intro k
        rw [Array.getD_eq_getD_getElem?, Array.getElem?_replicate]
        split <;> simp
      refine draw_wp (A := A) hC D hsz ops.size _ R2 hn (by simp) ⟨fun k hk => absurd hk (hfalse k), fun k o e hk => absurd hk (hfalse k)⟩ (fun s => .inr ⟨fun k hk => absurd hk (hfalse k), by rw [e0]⟩) ⟨List.range ops.size, by simp, fun i hi _ => by simpa using hi⟩ ?_
      rintro a w' ⟨g', R', E', h1, h2⟩
      have hsz2 : ops.toList.length = ops.size := by simp
      rw [hsz2] at hk
      exact ⟨g', (E ops.size).bare, R'.bare, bare_bare _, hE.trans E', h1, h2, hk⟩
    · cases hk

theorem Good.trans {n : Nat} {K : Ex → Env → Option R'} (E : Ext w g w' g') {e : Exit} {a : Act} {w2 : World} (h : Good P A w' g' ds n K r e a w2) : Good P A w g ds n K r e a w2 := by
  have st : ∀ ex, St P A w' g' ds n K r ex a w2 → St P A w g ds n K r ex a w2 := fun ex ⟨g2, σ, h1, h2, h3, h4⟩ => ⟨g2, σ, h1, h2, E.trans h3, h4⟩
  cases e <;> first | exact st _ h | exact h

/-- The evaluator speaks of the code. -/
theorem ev_wp {n : Nat} {fixed : List Nat} {L : List (Nat × List Keep)} (hC : CtxOk P C) (hm : P.follows .mixedOrders = true) (hfix : ∀ d, A d ≠ undef → d ∈ fixed) : (c : Code) → codeOk n fixed c = true → {w : World} → {g : Gh} → {tm : Array Value} → {σ : Env} → {K : Ex → Env → Option R'} → Rel P A w g tm σ → Bare σ → tm.size = n →
    ev C L c σ K = some r → c.wp P (Good P A w g ds n K r) ⟨tm, ds⟩ w
  | .skip, hok, w, g, tm, σ, K, R, hb, hn, h => wp_skip ⟨g, σ, R, hb, Ext.refl _ _, rfl, hn, h⟩
  | .region id ops draw, hok, w, g, tm, σ, K, R, hb, hn, h => region_ok hC hm hok hfix R hb hn h
  | .seq a b, hok, w, g, tm, σ, K, R, hb, hn, h => by
    simp only [codeOk, Bool.and_eq_true] at hok
    simp only [ev] at h
    refine wp_seq (wp_mono (ev_wp hC hm hfix a hok.1 R hb hn h) ?_)
    intro e a' w' hg
    cases e with
    | normal =>
      obtain ⟨g', τ, R', hb', E', h1, h2, h3⟩ := hg
      obtain ⟨tm', ds'⟩ := a'
      simp only at h1 h2 R' h3
      rw [h1]
      exact wp_mono (ev_wp hC hm hfix b hok.2 R' hb' h2 h3) (fun e a w2 hg => hg.trans E')
    | exit i => exact hg
    | ret => exact hg
    | _ => exact hg
  | .cond x a b, hok, w, g, tm, σ, K, R, hb, hn, h => by
    simp only [codeOk, Bool.and_eq_true] at hok
    simp only [ev] at h
    obtain ⟨i, s, h, H, hrest⟩ := rd_ok R ds h
    split at h
    · rename_i sh v
      simp only [Acc.run] at h
      have H := H rfl
      have hx : Act.eval ⟨tm, ds⟩ x = .bool v := RpV.bool (H.mean rfl) (isFz_noGone _ H.light)
      refine wp_cond hx ?_
      cases hv : (show Bool from v) with
      | true =>
        have hv' : v = true := hv
        subst hv'
        exact ev_wp hC hm hfix a hok.1 R hb hn h
      | false =>
        have hv' : v = false := hv
        subst hv'
        exact ev_wp hC hm hfix b hok.2 R hb hn h
    · cases h
  | .block i b, hok, w, g, tm, σ, K, R, hb, hn, h => by
    simp only [codeOk] at hok
    simp only [ev] at h
    refine wp_block (wp_mono (ev_wp hC hm hfix b hok R hb hn h) ?_)
    intro e a' w' hg
    cases e with
    | exit j =>
      obtain ⟨g', τ, R', hb', E', h1, h2, h3⟩ := hg
      simp only [Exit.inBlock]
      simp only at h3
      by_cases hj : j = i
      · subst hj
        rw [if_pos rfl]
        simp only [beq_self_eq_true, if_true] at h3
        exact ⟨g', τ, R', hb', E', h1, h2, h3⟩
      · rw [if_neg hj]
        rw [if_neg (by simpa using hj)] at h3
        exact ⟨g', τ, R', hb', E', h1, h2, h3⟩
    | normal => exact hg
    | ret => exact hg
    | _ => exact hg
  | .loop b, hok, w, g, tm, σ, K, R, hb, hn, h => by
    simp only [codeOk] at hok
    simp only [ev] at h
    split at h
    · rename_i ks _
      obtain ⟨τ, g1, h, R1, hb1, E1⟩ := keep_ok R h
      refine wp_loop_rounds C.fuel ?_
      have key : ∀ k {w' : World} {g' : Gh} {tm' : Array Value} {τ : Env}, Rel P A w' g' tm' τ → Bare τ → tm'.size = n → Ext w g w' g' → rounds (fun σ k => keep σ ks k) (ev C L b) k τ K = some r → Code.rounds P b (Good P A w g ds n K r) k ⟨tm', ds⟩ w' := by
        intro k
        induction k with
        | zero => intro w' g' tm' τ _ _ _ _ h; cases h
        | succ k ih =>
          intro w' g' tm' τ R' hb' hn' E' h
          rw [rounds_succ]
          simp only [rounds] at h
          refine wp_mono (ev_wp hC hm hfix b hok R' hb' hn' h) ?_
          intro e a' w2 hg
          cases e with
          | normal =>
            obtain ⟨g2, τ2, R2, hb2, E2, h1, h2, h3⟩ := hg
            obtain ⟨tm2, ds2⟩ := a'
            simp only at h1 h2 R2 h3
            rw [h1]
            obtain ⟨τ3, g3, h4, R3, hb3, E3⟩ := keep_ok R2 h3
            exact ih R3 hb3 h2 ((E'.trans E2).trans E3) h4
          | exit i => exact Good.trans E' hg
          | ret => exact Good.trans E' hg
          | _ => exact hg
      exact key C.fuel R1 hb1 hn E1 h
    · cases h
  | .exit i, hok, w, g, tm, σ, K, R, hb, hn, h => wp_exit ⟨g, σ, R, hb, Ext.refl _ _, rfl, hn, h⟩
  | .ret, hok, w, g, tm, σ, K, R, hb, hn, h => wp_ret ⟨g, σ, R, hb, Ext.refl _ _, rfl, hn, h⟩
  | .rangeFunc .., hok, w, g, tm, σ, K, R, hb, hn, h => by simp [ev] at h
  | .scope _, hok, w, g, tm, σ, K, R, hb, hn, h => by simp [ev] at h
  | .label _, hok, w, g, tm, σ, K, R, hb, hn, h => by simp [ev] at h
  | .goto _, hok, w, g, tm, σ, K, R, hb, hn, h => by simp [ev] at h
  | .refuse _, hok, w, g, tm, σ, K, R, hb, hn, h => by simp [ev] at h
end
end Go.Ev

/- Functions. -/
namespace Go.Ev
open Go.RowKit
variable {P : Program}

/-- The parameters that stay. -/
def fixedOf : List Md → Nat → List Nat
  | [], _ => []
  | .fz :: ms, n => fixedOf ms (n + 1)
  | .efz :: ms, n => fixedOf ms (n + 1)
  | .nilp :: ms, n => fixedOf ms (n + 1)
  | .mut _ :: ms, n => n :: fixedOf ms (n + 1)
  | .row _ :: ms, n => n :: fixedOf ms (n + 1)

section
variable {R' : Type} {A : Nat → Value} {w w' w0 : World} {g g' g0 : Gh} {tm : Array Value} {ds : List Deferred} {σ σ' τ : Env} {r : R'} {C : Ctx}

theorem get_cons (s : Nat) (e : Ent) (τ : Env) (n : Nat) : Env.get ((s, e) :: τ) n = if n = s then e else τ.get n := by
  by_cases h : n = s
  · subst h; simp [Env.get]
  · have : (s == n) = false := by simpa using fun e => h e.symm
    simp [Env.get, this, h]

theorem nilS_ok {σ : Env} {t : Ty} {k pv : Nat} {v : Value} (h : t.isSl = true ∧ v = .slice none 0 0) : SR P w g A σ k pv (nilS t) v := by
  obtain ⟨h1, rfl⟩ := h
  cases t <;> simp only [Ty.isSl] at h1 <;> try (cases h1; done)
  refine ⟨?_, rfl⟩
  rw [Rp]
  exact .inr (.inr (.inl ⟨rfl, rfl, rfl⟩))
theorem nilS_ver (t : Ty) (σ : Env) : VerOk σ (nilS t) := by cases t <;> trivial
/-- The slots at the entry. -/
theorem enter_ok : (ms : List Md) → (ts : Tys) → {x : DL ts} → (n : Nat) → {vs : List Value} → ArgsR P w g ms ts x n vs → (∀ i v, vs[i]? = some v → tm.getD (n + i) undef = v) → (∀ k ∈ fixedOf ms n, A k = tm.getD k undef) →
    vs.length = ms.length ∧ ∀ k, ((enter ms ts x n).get k).gd = [] ∧ (∀ σ', VerOk σ' ((enter ms ts x n).get k).s) ∧ ∀ σ', SR P w g A σ' k ((enter ms ts x n).get k).pv ((enter ms ts x n).get k).s (tm.getD k undef)
  | [], .nil, x, n, vs, h, ht, hA => by
    simp only [ArgsR] at h
    subst h
    exact ⟨rfl, fun k => ⟨rfl, fun _ => trivial, fun _ => trivial⟩⟩
  | .fz :: ms, .cons t ts, x, n, vs, h, ht, hA => by
    simp only [ArgsR] at h
    obtain ⟨v, rest, rfl, h1, h2⟩ := h
    obtain ⟨hl, hall⟩ := enter_ok ms ts (n + 1) h2 (fun i v hi => by have := ht (i + 1) v (by simpa using hi); rwa [show n + (i + 1) = n + 1 + i by omega] at this) hA
    refine ⟨by simp [hl], fun k => ?_⟩
    simp only [enter, get_cons]
    split
    · rename_i e
      subst e
      refine ⟨rfl, fun _ => trivial, fun _ => ?_⟩
      have h0 := ht 0 v rfl
      rw [Nat.add_zero] at h0
      rw [h0]
      exact ⟨Rp.of_fr t h1.1, h1.2⟩
    · exact hall k
  | .efz :: ms, .cons t ts, x, n, vs, h, ht, hA => by
    simp only [ArgsR] at h
    obtain ⟨v, rest, rfl, h1, h2⟩ := h
    obtain ⟨hl, hall⟩ := enter_ok ms ts (n + 1) h2 (fun i v hi => by have := ht (i + 1) v (by simpa using hi); rwa [show n + (i + 1) = n + 1 + i by omega] at this) hA
    refine ⟨by simp [hl], fun k => ?_⟩
    simp only [enter, get_cons]
    split
    · rename_i e
      subst e
      refine ⟨rfl, fun _ => trivial, fun _ => ?_⟩
      have h0 := ht 0 v rfl
      rw [Nat.add_zero] at h0
      rw [h0]
      exact h1
    · exact hall k
  | .nilp :: ms, .cons t ts, x, n, vs, h, ht, hA => by
    simp only [ArgsR] at h
    obtain ⟨v, rest, rfl, h1, h2⟩ := h
    obtain ⟨hl, hall⟩ := enter_ok ms ts (n + 1) h2 (fun i v hi => by have := ht (i + 1) v (by simpa using hi); rwa [show n + (i + 1) = n + 1 + i by omega] at this) hA
    refine ⟨by simp [hl], fun k => ?_⟩
    simp only [enter, get_cons]
    split
    · rename_i e
      subst e
      refine ⟨rfl, fun σ' => nilS_ver t σ', fun _ => ?_⟩
      have h0 := ht 0 v rfl
      rw [Nat.add_zero] at h0
      rw [h0]
      exact nilS_ok h1
    · exact hall k
  | .mut sh :: ms, .cons t ts, x, n, vs, h, ht, hA => by
    simp only [ArgsR] at h
    obtain ⟨v, rest, rfl, h1, h2⟩ := h
    obtain ⟨hl, hall⟩ := enter_ok ms ts (n + 1) h2 (fun i v hi => by have := ht (i + 1) v (by simpa using hi); rwa [show n + (i + 1) = n + 1 + i by omega] at this) (fun k hk => hA k (List.mem_cons_of_mem _ hk))
    refine ⟨by simp [hl], fun k => ?_⟩
    simp only [enter, get_cons]
    split
    · rename_i e
      subst e
      refine ⟨rfl, fun _ => trivial, fun _ => ?_⟩
      have h0 := ht 0 v rfl
      rw [Nat.add_zero] at h0
      rw [h0]
      exact h1
    · exact hall k
  | .row s :: ms, .cons (.sl e t) ts, x, n, vs, h, ht, hA => by
    simp only [ArgsR] at h
    obtain ⟨v, rest, rfl, h1, h2⟩ := h
    obtain ⟨hl, hall⟩ := enter_ok ms ts (n + 1) h2 (fun i v hi => by have := ht (i + 1) v (by simpa using hi); rwa [show n + (i + 1) = n + 1 + i by omega] at this) (fun k hk => hA k (List.mem_cons_of_mem _ hk))
    refine ⟨by simp [hl], fun k => ?_⟩
    simp only [enter, get_cons]
    split
    · rename_i e
      subst e
      refine ⟨rfl, fun _ => trivial, fun _ => ?_⟩
      have h0 := ht 0 v rfl
      rw [Nat.add_zero] at h0
      exact ⟨by rw [h0]; exact h1, (hA _ List.mem_cons_self).symm⟩
    · exact hall k
  | [], .cons _ _, x, n, vs, h, ht, hA => by simp only [ArgsR] at h
  | .fz :: _, .nil, x, n, vs, h, ht, hA => by simp only [ArgsR] at h
  | .efz :: _, .nil, x, n, vs, h, ht, hA => by simp only [ArgsR] at h
  | .nilp :: _, .nil, x, n, vs, h, ht, hA => by simp only [ArgsR] at h
  | .mut _ :: _, .nil, x, n, vs, h, ht, hA => by simp only [ArgsR] at h
  | .row _ :: _, .nil, x, n, vs, h, ht, hA => by simp only [ArgsR] at h
  | .row _ :: _, .cons (.int _) _, x, n, vs, h, ht, hA => by simp only [ArgsR] at h
  | .row _ :: _, .cons .bool _, x, n, vs, h, ht, hA => by simp only [ArgsR] at h
  | .row _ :: _, .cons (.agg _) _, x, n, vs, h, ht, hA => by simp only [ArgsR] at h
  | .row _ :: _, .cons (.arr _ _) _, x, n, vs, h, ht, hA => by simp only [ArgsR] at h
  | .row _ :: _, .cons (.fn _ _) _, x, n, vs, h, ht, hA => by simp only [ArgsR] at h

/-- One result. -/
def ResOne (P : Program) (w : World) (g : Gh) (rp : Bool) (ro : Root) (y : PV) (u : Value) : Prop := if rp then BoxR P w g ro y.t y.sh y.v u else RpV P w g ro y.t [] y.sh y.v u
theorem ResOne.go {rp : Bool} {ro ro' : Root} {y : PV} {u : Value} (k : Goes w g ro [] w' g' ro' []) (h : ResOne P w g rp ro y u) : ResOne P w' g' rp ro' y u := by
  unfold ResOne at h ⊢
  split
  · rename_i e; rw [if_pos e] at h; exact BoxR.go k h
  · rename_i e; rw [if_neg e] at h; exact RpV.go k h

def resV (tm : Array Value) : ResultVar → Sem Value
  | .tmp t => pure (tm.getD t undef)
  | .cell a t => do loadVar t (← asAddr (tm.getD a undef))

theorem box_weak {j : Nat} {t : Ty} {s sh : Sh} {v : D t} {u : Value} (hw : wk s sh = true) (h : BoxR P w g (.inr j) t s v u) : BoxR P w (turnG g (.inr j) [0] sh [] (.inr (j + 1)) []) (.inr j) t sh v u := by
  have hne : (Sum.inr j : Root) ≠ .inr (j + 1) := by simp
  obtain ⟨b, c, e, hx, hB, hst, hc, hp⟩ := h
  exact ⟨b, c, e, hx, by simp only [turnG, if_neg hne]; exact hB, turnG_other hne hst (by simp), hc, Rp.wk t hw (turnG_turns hne) hp⟩
theorem val_weak {j : Nat} {t : Ty} {s sh : Sh} {v : D t} {u : Value} (hw : wk s sh = true) (h : RpV P w g (.inr j) t [] s v u) : RpV P w (turnG g (.inr j) [] sh [] (.inr (j + 1)) []) (.inr j) t [] sh v u :=
  ⟨Rp.wk t hw (turnG_turns (by simp)) h.1, h.2⟩
theorem turn_low (j : Nat) {π : List Nat} {sh : Sh} : Keeps (fun r => ∃ i, r = .inr i ∧ i < j) w g w (turnG g (.inr j) π sh [] (.inr (j + 1)) []) := (turnG_keeps w).mono (by
  rintro r ⟨i, rfl, hi⟩
  exact ⟨by simp; omega, by simp; omega⟩)

theorem resK_ok {rp : Bool} (hT : TOk P C.T = true) (hS : SoundC P C) : (rs : List ResultVar) → (j : Nat) → {ts : Tys} → {shs : List Sh} → {g : Gh} → {σ : Env} → {K : (rest : Tys) → List Sh → (DL rest → DL ts) → Env → Option R'} → Rel P A w g tm σ → resK C rp rs ts shs σ K = some r →
    ∃ (l : List PV) (us : List Value) (rest : Tys) (sr : List Sh) (f : DL rest → DL ts) (τ : Env) (g' : Gh), K rest sr f τ = some r ∧ Rel P A w g' tm τ ∧ Ext w g w g' ∧ Keeps (fun r => ∃ i, r = .inr i ∧ i < j) w g w g' ∧ (∀ z, parts ts (f z) shs = l ++ parts rest z sr) ∧ l.length = rs.length ∧
      us.length = rs.length ∧ (rs.mapM (resV tm)).run P w = .ok us w ∧ ∀ (i : Nat) y u, l[i]? = some y → us[i]? = some u → ResOne P w g' rp (.inr (j + i)) y u
  | [], j, ts, shs, g, σ, K, R, h => ⟨[], [], ts, shs, id, σ, g, h, R, Ext.refl _ _, Keeps.refl _ _ _, (fun z => rfl), rfl, rfl, rfl, (fun i y u hi => by simp at hi)⟩
  | .tmp d :: rs, j, .cons t ts, sh :: shs, g, σ, K, R, h => by
    simp only [resK] at h
    have one : ∀ {v : D t} {g1 : Gh} {σ1 : Env} {K2 : (rest : Tys) → List Sh → (DL rest → DL ts) → Env → Option R'}, Rel P A w g1 tm σ1 → Ext w g w g1 → Keeps (fun r => ∃ i, r = .inr i ∧ i < j) w g w g1 → ResOne P w g1 rp (.inr j) ⟨t, sh, v⟩ (tm.getD d undef) →
        (K2 = fun rest sr f ρ => K rest sr (fun x => (v, f x)) ρ) → resK C rp rs ts shs σ1 K2 = some r →
        ∃ (l : List PV) (us : List Value) (rest : Tys) (sr : List Sh) (f : DL rest → DL (.cons t ts)) (τ : Env) (g' : Gh), K rest sr f τ = some r ∧ Rel P A w g' tm τ ∧ Ext w g w g' ∧ Keeps (fun r => ∃ i, r = .inr i ∧ i < j) w g w g' ∧ (∀ z, parts (.cons t ts) (f z) (sh :: shs) = l ++ parts rest z sr) ∧ l.length = (ResultVar.tmp d :: rs).length ∧
          us.length = (ResultVar.tmp d :: rs).length ∧ ((ResultVar.tmp d :: rs).mapM (resV tm)).run P w = .ok us w ∧ ∀ (i : Nat) y u, l[i]? = some y → us[i]? = some u → ResOne P w g' rp (.inr (j + i)) y u := by
      intro v g1 σ1 K2 R1 E1 K1 h1 hK h2
      subst hK
      obtain ⟨l, us, rest, sr, f, τ, g2, a1, a2, a3, a4, a5, a6, a7, a8, a9⟩ := resK_ok hT hS rs (j + 1) R1 h2
      refine ⟨⟨t, sh, v⟩ :: l, tm.getD d undef :: us, rest, sr, _, τ, g2, a1, a2, E1.trans a3, K1.trans (a4.mono (by rintro r ⟨i, rfl, hi⟩; exact ⟨i, rfl, by omega⟩)), fun z => ?_, by simp [a6], by simp [a7], ?_, fun i y u hi hu => ?_⟩
      · simp only [parts, a5 z, List.cons_append]
      · simp only [List.mapM_cons, resV, Sem.run_bind, Sem.run_pure, Result.andThen_ok]
        simp [a8]
      · cases i with
        | zero =>
          simp only [List.getElem?_cons_zero, Option.some.injEq] at hi hu
          subst hi; subst hu
          exact ResOne.go (a4.goes ⟨j, rfl, by omega⟩ []) h1
        | succ i =>
          have := a9 i y u (by simpa using hi) (by simpa using hu)
          rwa [show j + 1 + i = j + (i + 1) by omega] at this
    split at h
    · rename_i hrp
      split at h
      · rename_i u s v hs
        split at h
        · rename_i e _
          subst e
          split at h
          · rename_i hw
            have hh : (σ.get d).s.isHome = true := by rw [hs]; rfl
            have hsl := R.slot d (by rw [hs]; rfl)
            rw [hs] at hsl
            obtain ⟨R1, M, G1⟩ := R.leave hh j
            have hb : BoxR P w g (.inl d) u s v (tm.getD d undef) := hsl
            have hb := box_weak hw (BoxR.go G1 hb)
            refine one (R1.fly (i := j) (j := j + 1) (π0 := [0]) (sh' := sh) (p := []) (τ := []) (by omega)) (M.ext.trans (turnG_ext w)) ((M.fly.mono ?_).trans (turn_low j)) ?_ rfl h
            · rintro r ⟨i, rfl, hi⟩
              exact ⟨i, rfl, by omega⟩
            · unfold ResOne; rw [if_pos hrp]; exact hb
          · cases h
        · cases h
      · cases h
    · rename_i hrp
      obtain ⟨i, s, h', H, hslot, _⟩ := rd_ok (x := .tmp d) R [] h
      clear h; have h := h'; clear h'
      obtain ⟨s1, v, g1, σ1, h', R1, M, hng, hr⟩ := takeAs_ok j hS R (Gd.nil σ) (H (takeAs_tup h)) h
      clear h; have h := h'; clear h'
      simp only [Acc.run] at h
      split at h
      · rename_i hw
        have hv := val_weak hw (hr rfl)
        refine one (R1.fly (i := j) (j := j + 1) (π0 := []) (sh' := sh) (p := []) (τ := []) (by omega)) (M.ext.trans (turnG_ext w)) ((M.fly.mono ?_).trans (turn_low j)) ?_ rfl h
        · rintro r ⟨i, rfl, hi⟩
          exact ⟨i, rfl, by omega⟩
        · unfold ResOne; rw [if_neg hrp]; exact hv
      · cases h
  | .cell d ty :: rs, j, .cons t ts, sh :: shs, g, σ, K, R, h => by
    simp only [resK] at h
    split at h
    · cases h
    · rename_i hrp
      split at h
      · rename_i u s v hs
        split at h
        · rename_i e _
          subst e
          split at h
          · rename_i hw
            simp only [Bool.and_eq_true, decide_eq_true_eq] at hw
            obtain ⟨⟨hw, hng⟩, hty⟩ := hw
            have hh : (σ.get d).s.isHome = true := by rw [hs]; rfl
            have hsl := R.slot d (by rw [hs]; rfl)
            rw [hs] at hsl
            obtain ⟨b, c, te, hx, hB, hst, hc, hp⟩ := hsl
            have hne : (Sum.inl d : Root) ≠ .inr j := by simp
            have hk := turnG_keeps (g := g) (r0 := .inl d) (π0 := [0]) (sh' := .gone) (p := []) (fk := .inr j) (τ := []) w
            have R1 : Rel P A w (turnG g (.inl d) [0] .gone [] (.inr j) []) tm (σ.turn d 1 0 .undef) := R.turn hh (Nat.le_refl 1) (hk.mono (by
              rintro r ⟨n, rfl, hn⟩
              exact ⟨by simpa using hn, by simp⟩)) (turnG_own R.own hne) (turnG_fz R.own R.fz) trivial (fun _ => trivial)
            have hrow : rowL w b = c.toList := by simp only [rowL, hc]
            have hlen : c.toList.length = u.size := Rp.len _ hp
            have hseg : seg (rowL w b) 0 u.size = c.toList := by rw [hrow, seg_all _ _ (by omega)]
            have hng' : s ≠ .gone := by rintro rfl; simp [Sh.noGone] at hng
            obtain ⟨y, hy, hyc, hya⟩ := loadVar_ok (w := w) (b := b) (k := 0) (TOk.ty hT hty) (by rw [hseg, hlen]) (fun u' hu' ha => by
              rw [hseg] at hu'; rw [hu'] at hp; exact Rp.notAgg hp hng' ha)
            have hv : RpV P w (turnG g (.inl d) [0] .gone [] (.inr j) []) (.inr j) u [] s v y := by
              refine ⟨?_, hya⟩
              rw [hyc, hseg]
              have := Rp.go u (turnG_goes (g := g) (w := w) (π0 := [0]) (sh' := .gone) (p := []) (τ := []) hne fun q => rfl) (by simpa using hp)
              exact this
            have hv := val_weak hw hv
            have R2 := R1.fly (i := j) (j := j + 1) (π0 := []) (sh' := sh) (p := []) (τ := []) (by omega)
            obtain ⟨l, us, rest, sr, f, τ, g2, a1, a2, a3, a4, a5, a6, a7, a8, a9⟩ := resK_ok hT hS rs (j + 1) R2 h
            refine ⟨⟨u, sh, v⟩ :: l, y :: us, rest, sr, _, τ, g2, a1, a2, ((turnG_ext w).trans (turnG_ext w)).trans a3, ((hk.mono ?_).trans (turn_low j)).trans (a4.mono (by rintro r ⟨i, rfl, hi⟩; exact ⟨i, rfl, by omega⟩)), fun z => ?_, by simp [a6], by simp [a7], ?_, fun i y' u' hi hu => ?_⟩
            · rintro r ⟨i, rfl, hi⟩
              exact ⟨by simp, by simp; omega⟩
            · simp only [parts, a5 z, List.cons_append]
            · have hres : (resV tm (.cell d ty)).run P w = .ok y w := by
                simp [resV, hx, asAddr, hy]
              simp only [List.mapM_cons, Sem.run_bind, hres, Result.andThen_ok]
              simp [a8]
            · cases i with
              | zero =>
                simp only [List.getElem?_cons_zero, Option.some.injEq] at hi hu
                subst hi; subst hu
                refine ResOne.go (a4.goes ⟨j, rfl, by omega⟩ []) ?_
                unfold ResOne; rw [if_neg hrp]; exact hv
              | succ i =>
                have := a9 i y' u' (by simpa using hi) (by simpa using hu)
                rwa [show j + 1 + i = j + (i + 1) by omega] at this
          · cases h
        · cases h
      · cases h
  | .tmp _ :: _, j, .nil, shs, g, σ, K, R, h => by simp [resK] at h
  | .cell _ _ :: _, j, .nil, shs, g, σ, K, R, h => by simp [resK] at h
  | .tmp _ :: _, j, .cons _ _, [], g, σ, K, R, h => by simp [resK] at h
  | .cell _ _ :: _, j, .cons _ _, [], g, σ, K, R, h => by simp [resK] at h

theorem low_succ {M n : Nat} {r : Root} (h : (∃ i, r = .inr i ∧ i < M) ∨ ∃ m, r = .inl m ∧ m < n) : (∃ i, r = .inr i ∧ i < M) ∨ ∃ m, r = .inl m ∧ m < n + 1 := by
  rcases h with h | ⟨m, rfl, hm⟩
  · exact .inl h
  · exact .inr ⟨m, rfl, by omega⟩
theorem finK_ok (M : Nat) : (ms : List Md) → (ps : Tys) → {x : DL ps} → (n : Nat) → {ts : Tys} → {shs : List Sh} → {g : Gh} → {vs : List Value} → {K : DL ts → Option R'} → (∀ k, n ≤ k → (σ.get k).gd = [] → (σ.get k).s.alone = true → SR P w g A σ k (σ.get k).pv (σ.get k).s (tm.getD k undef)) → GhOk w g →
    vs.length = ms.length → (∀ i v, vs[i]? = some v → n + i ∈ fixedOf ms n → v = tm.getD (n + i) undef) → finK ms ps x n ts shs σ K = some r →
    ∃ z g', K z = some r ∧ GhOk w g' ∧ Ext w g w g' ∧ Keeps (fun r => (∃ i, r = .inr i ∧ i < M) ∨ ∃ m, r = .inl m ∧ m < n) w g w g' ∧ OutsR P w g' ms ps n vs (parts ts z shs)
  | [], .nil, x, n, .nil, shs, g, vs, K, hs, ok, hl, hv, h => by
    simp only [finK] at h
    have hvs : vs = [] := List.eq_nil_of_length_eq_zero (by simpa using hl)
    subst hvs
    exact ⟨(), g, h, ok, Ext.refl _ _, Keeps.refl _ _ _, by simp [OutsR, parts]⟩
  | .fz :: ms, .cons tp ps, x, n, ts, shs, g, vs, K, hs, ok, hl, hv, h => by
    simp only [finK] at h
    cases vs with
    | nil => simp at hl
    | cons v vs =>
      obtain ⟨z, g', a1, a2, a3, a4, a5⟩ := finK_ok M ms ps (n + 1) (fun k hk => hs k (by omega)) ok (by simpa using hl) (fun i v hi hm => by
        have := hv (i + 1) v (by simpa using hi) (by rw [show n + (i + 1) = n + 1 + i by omega]; exact hm)
        rwa [show n + (i + 1) = n + 1 + i by omega] at this) h
      exact ⟨z, g', a1, a2, a3, a4.mono (fun r h => low_succ h), by simp only [OutsR]; exact ⟨v, vs, rfl, a5⟩⟩
  | .efz :: ms, .cons tp ps, x, n, ts, shs, g, vs, K, hs, ok, hl, hv, h => by
    simp only [finK] at h
    cases vs with
    | nil => simp at hl
    | cons v vs =>
      obtain ⟨z, g', a1, a2, a3, a4, a5⟩ := finK_ok M ms ps (n + 1) (fun k hk => hs k (by omega)) ok (by simpa using hl) (fun i v hi hm => by
        have := hv (i + 1) v (by simpa using hi) (by rw [show n + (i + 1) = n + 1 + i by omega]; exact hm)
        rwa [show n + (i + 1) = n + 1 + i by omega] at this) h
      exact ⟨z, g', a1, a2, a3, a4.mono (fun r h => low_succ h), by simp only [OutsR]; exact ⟨v, vs, rfl, a5⟩⟩
  | .nilp :: ms, .cons tp ps, x, n, ts, shs, g, vs, K, hs, ok, hl, hv, h => by
    simp only [finK] at h
    cases vs with
    | nil => simp at hl
    | cons v vs =>
      obtain ⟨z, g', a1, a2, a3, a4, a5⟩ := finK_ok M ms ps (n + 1) (fun k hk => hs k (by omega)) ok (by simpa using hl) (fun i v hi hm => by
        have := hv (i + 1) v (by simpa using hi) (by rw [show n + (i + 1) = n + 1 + i by omega]; exact hm)
        rwa [show n + (i + 1) = n + 1 + i by omega] at this) h
      exact ⟨z, g', a1, a2, a3, a4.mono (fun r h => low_succ h), by simp only [OutsR]; exact ⟨v, vs, rfl, a5⟩⟩
  | .mut sh' :: ms, .cons tp ps, x, n, .cons t ts, sr :: shs, g, vs, K, hs, ok, hl, hv, h => by
    simp only [finK] at h
    split at h
    · rename_i u s v hsn
      split at h
      · rename_i e _
        subst e
        split at h
        · rename_i hh
          simp only [Bool.and_eq_true, decide_eq_true_eq] at hh
          obtain ⟨⟨hw, rfl⟩, rfl⟩ := hh
          cases vs with
          | nil => simp at hl
          | cons v0 vs =>
            have hsl := hs n (Nat.le_refl _) (by rw [hsn]) (by rw [hsn]; rfl)
            rw [hsn] at hsl
            have hne : (Sum.inl n : Root) ≠ .inr M := by simp
            have hre : HomeR P w (turnG g (.inl n) [0] sr [] (.inr M) []) A n ⟨.box, tp, sr, v⟩ (tm.getD n undef) := HomeR.reshape (A := A) (m := ⟨.box, tp, s, v⟩) (sh' := sr) (p := []) (fk := .inr M) (n := n) hne hw hsl
            have hk := turnG_keeps (g := g) (r0 := .inl n) (π0 := [0]) (sh' := sr) (p := []) (fk := .inr M) (τ := []) w
            have hv0 : v0 = tm.getD n undef := hv 0 v0 rfl (by simp [fixedOf])
            obtain ⟨z, g', a1, a2, a3, a4, a5⟩ := finK_ok M ms ps (n + 1) (g := turnG g (.inl n) [0] sr [] (.inr M) []) (fun k hk2 hg ha => SR.alone ha (hk.mono (by
              rintro r rfl
              exact ⟨by simp; omega, by simp⟩)) (hs k (by omega) hg ha)) (turnG_ok ok hne) (by simpa using hl) (fun i v hi hm => by
              have := hv (i + 1) v (by simpa using hi) (by rw [show n + (i + 1) = n + 1 + i by omega]; exact List.mem_cons_of_mem _ hm)
              rwa [show n + (i + 1) = n + 1 + i by omega] at this) h
            refine ⟨_, g', a1, a2, (turnG_ext w).trans a3, (hk.mono ?_).trans (a4.mono (fun r h => low_succ h)), ?_⟩
            · rintro r (⟨i, rfl, hi⟩ | ⟨m, rfl, hm⟩)
              · exact ⟨by simp, by simp; omega⟩
              · exact ⟨by simp; omega, by simp⟩
            · simp only [OutsR, parts]
              refine ⟨v0, vs, v, _, rfl, rfl, ?_, a5⟩
              have := HomeR.keep a4 (.inr ⟨n, rfl, by omega⟩) hre
              rw [hv0]
              exact this
        · cases h
      · cases h
    · cases h
  | .row sh' :: ms, .cons tp ps, x, n, .cons t ts, sr :: shs, g, vs, K, hs, ok, hl, hv, h => by
    simp only [finK] at h
    split at h
    · rename_i te u s v hsn
      split at h
      · rename_i e _
        subst e
        split at h
        · rename_i hh
          simp only [Bool.and_eq_true, decide_eq_true_eq] at hh
          obtain ⟨⟨rfl, rfl⟩, rfl⟩ := hh
          cases vs with
          | nil => simp at hl
          | cons v0 vs =>
            have hsl := hs n (Nat.le_refl _) (by rw [hsn]) (by rw [hsn]; rfl)
            rw [hsn] at hsl
            have hr : RpV P w g (.inl n) (.sl te u) [] (.own s) v (tm.getD n undef) := hsl.1
            have hv0 : v0 = tm.getD n undef := hv 0 v0 rfl (by simp [fixedOf])
            obtain ⟨z, g', a1, a2, a3, a4, a5⟩ := finK_ok M ms ps (n + 1) (fun k hk => hs k (by omega)) ok (by simpa using hl) (fun i v hi hm => by
              have := hv (i + 1) v (by simpa using hi) (by rw [show n + (i + 1) = n + 1 + i by omega]; exact List.mem_cons_of_mem _ hm)
              rwa [show n + (i + 1) = n + 1 + i by omega] at this) h
            refine ⟨_, g', a1, a2, a3, a4.mono (fun r h => low_succ h), ?_⟩
            simp only [OutsR, parts]
            refine ⟨v0, vs, v, _, rfl, rfl, ?_, a5⟩
            rw [hv0]
            exact RpV.go (a4.goes (.inr ⟨n, rfl, by omega⟩) []) hr
        · cases h
      · cases h
    · cases h
  | [], .nil, x, n, .cons _ _, shs, g, vs, K, hs, ok, hl, hv, h => by simp [finK] at h
  | [], .cons _ _, x, n, ts, shs, g, vs, K, hs, ok, hl, hv, h => by simp [finK] at h
  | .fz :: _, .nil, x, n, ts, shs, g, vs, K, hs, ok, hl, hv, h => by simp [finK] at h
  | .efz :: _, .nil, x, n, ts, shs, g, vs, K, hs, ok, hl, hv, h => by simp [finK] at h
  | .nilp :: _, .nil, x, n, ts, shs, g, vs, K, hs, ok, hl, hv, h => by simp [finK] at h
  | .mut _ :: _, .nil, x, n, ts, shs, g, vs, K, hs, ok, hl, hv, h => by simp [finK] at h
  | .row _ :: _, .nil, x, n, ts, shs, g, vs, K, hs, ok, hl, hv, h => by simp [finK] at h
  | .mut _ :: _, .cons _ _, x, n, .nil, shs, g, vs, K, hs, ok, hl, hv, h => by simp [finK] at h
  | .row _ :: _, .cons _ _, x, n, .nil, shs, g, vs, K, hs, ok, hl, hv, h => by simp [finK] at h
  | .mut _ :: _, .cons _ _, x, n, .cons _ _, [], g, vs, K, hs, ok, hl, hv, h => by simp [finK] at h
  | .row _ :: _, .cons _ _, x, n, .cons _ _, [], g, vs, K, hs, ok, hl, hv, h => by simp [finK] at h
end

theorem args_len : (ms : List Md) → (ts : Tys) → {x : DL ts} → (n : Nat) → {w : World} → {g : Gh} → {vs : List Value} → ArgsR P w g ms ts x n vs → vs.length = ms.length
  | [], .nil, x, n, w, g, vs, h => by simp only [ArgsR] at h; subst h; rfl
  | .fz :: ms, .cons t ts, x, n, w, g, vs, h => by
    simp only [ArgsR] at h
    obtain ⟨v, rest, rfl, _, h⟩ := h
    simp [args_len ms ts (n + 1) h]
  | .efz :: ms, .cons t ts, x, n, w, g, vs, h => by
    simp only [ArgsR] at h
    obtain ⟨v, rest, rfl, _, h⟩ := h
    simp [args_len ms ts (n + 1) h]
  | .nilp :: ms, .cons t ts, x, n, w, g, vs, h => by
    simp only [ArgsR] at h
    obtain ⟨v, rest, rfl, _, h⟩ := h
    simp [args_len ms ts (n + 1) h]
  | .mut sh :: ms, .cons t ts, x, n, w, g, vs, h => by
    simp only [ArgsR] at h
    obtain ⟨v, rest, rfl, _, h⟩ := h
    simp [args_len ms ts (n + 1) h]
  | .row s :: ms, .cons (.sl e t) ts, x, n, w, g, vs, h => by
    simp only [ArgsR] at h
    obtain ⟨v, rest, rfl, _, h⟩ := h
    simp [args_len ms ts (n + 1) h]
  | [], .cons _ _, x, n, w, g, vs, h => by simp only [ArgsR] at h
  | .fz :: _, .nil, x, n, w, g, vs, h => by simp only [ArgsR] at h
  | .efz :: _, .nil, x, n, w, g, vs, h => by simp only [ArgsR] at h
  | .nilp :: _, .nil, x, n, w, g, vs, h => by simp only [ArgsR] at h
  | .mut _ :: _, .nil, x, n, w, g, vs, h => by simp only [ArgsR] at h
  | .row _ :: _, .nil, x, n, w, g, vs, h => by simp only [ArgsR] at h
  | .row _ :: _, .cons (.int _) _, x, n, w, g, vs, h => by simp only [ArgsR] at h
  | .row _ :: _, .cons .bool _, x, n, w, g, vs, h => by simp only [ArgsR] at h
  | .row _ :: _, .cons (.agg _) _, x, n, w, g, vs, h => by simp only [ArgsR] at h
  | .row _ :: _, .cons (.arr _ _) _, x, n, w, g, vs, h => by simp only [ArgsR] at h
  | .row _ :: _, .cons (.fn _ _) _, x, n, w, g, vs, h => by simp only [ArgsR] at h
theorem fixed_val : (ms : List Md) → (ts : Tys) → {x : DL ts} → (n : Nat) → {w : World} → {g : Gh} → {vs : List Value} → ArgsR P w g ms ts x n vs → ∀ i v, vs[i]? = some v → n + i ∈ fixedOf ms n → v ≠ undef
  | [], .nil, x, n, w, g, vs, h => by simp only [ArgsR] at h; subst h; intro i v hi; simp at hi
  | .fz :: ms, .cons t ts, x, n, w, g, vs, h => by
    simp only [ArgsR] at h
    obtain ⟨v, rest, rfl, _, h⟩ := h
    intro i v' hi hm
    cases i with
    | zero =>
      exfalso
      have key : ∀ (ms : List Md) (n m : Nat), m ∈ fixedOf ms n → n ≤ m := by
        intro ms
        induction ms with
        | nil => intro n m h; cases h
        | cons d ms ih =>
          intro n m h
          cases d <;> simp only [fixedOf] at h
          · have := ih _ _ h; omega
          · have := ih _ _ h; omega
          · rcases List.mem_cons.1 h with h | h
            · omega
            · have := ih _ _ h; omega
          · rcases List.mem_cons.1 h with h | h
            · omega
            · have := ih _ _ h; omega
          · have := ih _ _ h; omega
      have := key ms (n + 1) (n + 0) hm
      omega
    | succ i =>
      exact fixed_val ms ts (n + 1) h i v' (by simpa using hi) (by rw [show n + 1 + i = n + (i + 1) by omega]; exact hm)
  | .efz :: ms, .cons t ts, x, n, w, g, vs, h => by
    simp only [ArgsR] at h
    obtain ⟨v, rest, rfl, _, h⟩ := h
    intro i v' hi hm
    cases i with
    | zero =>
      exfalso
      have key : ∀ (ms : List Md) (n m : Nat), m ∈ fixedOf ms n → n ≤ m := by
        intro ms
        induction ms with
        | nil => intro n m h; cases h
        | cons d ms ih =>
          intro n m h
          cases d <;> simp only [fixedOf] at h
          · have := ih _ _ h; omega
          · have := ih _ _ h; omega
          · rcases List.mem_cons.1 h with h | h
            · omega
            · have := ih _ _ h; omega
          · rcases List.mem_cons.1 h with h | h
            · omega
            · have := ih _ _ h; omega
          · have := ih _ _ h; omega
      have := key ms (n + 1) (n + 0) hm
      omega
    | succ i =>
      exact fixed_val ms ts (n + 1) h i v' (by simpa using hi) (by rw [show n + 1 + i = n + (i + 1) by omega]; exact hm)
  | .nilp :: ms, .cons t ts, x, n, w, g, vs, h => by
    simp only [ArgsR] at h
    obtain ⟨v, rest, rfl, _, h⟩ := h
    intro i v' hi hm
    cases i with
    | zero =>
      exfalso
      have key : ∀ (ms : List Md) (n m : Nat), m ∈ fixedOf ms n → n ≤ m := by
        intro ms
        induction ms with
        | nil => intro n m h; cases h
        | cons d ms ih =>
          intro n m h
          cases d <;> simp only [fixedOf] at h
          · have := ih _ _ h; omega
          · have := ih _ _ h; omega
          · rcases List.mem_cons.1 h with h | h
            · omega
            · have := ih _ _ h; omega
          · rcases List.mem_cons.1 h with h | h
            · omega
            · have := ih _ _ h; omega
          · have := ih _ _ h; omega
      have := key ms (n + 1) (n + 0) hm
      omega
    | succ i =>
      exact fixed_val ms ts (n + 1) h i v' (by simpa using hi) (by rw [show n + 1 + i = n + (i + 1) by omega]; exact hm)
  | .mut sh :: ms, .cons t ts, x, n, w, g, vs, h => by
    simp only [ArgsR] at h
    obtain ⟨v, rest, rfl, ⟨b, c, e, hx, _⟩, h⟩ := h
    intro i v' hi hm
    cases i with
    | zero =>
      simp only [List.getElem?_cons_zero, Option.some.injEq] at hi
      rw [← hi, hx]; simp [undef]
    | succ i =>
      refine fixed_val ms ts (n + 1) h i v' (by simpa using hi) ?_
      rw [show n + 1 + i = n + (i + 1) by omega]
      simp only [fixedOf] at hm
      rcases List.mem_cons.1 hm with h | h
      · omega
      · exact h
  | .row s :: ms, .cons (.sl e t) ts, x, n, w, g, vs, h => by
    simp only [ArgsR] at h
    obtain ⟨v, rest, rfl, hr, h⟩ := h
    intro i v' hi hm
    cases i with
    | zero =>
      simp only [List.getElem?_cons_zero, Option.some.injEq] at hi
      subst hi
      have h1 := hr.1
      rw [cells_one hr.2] at h1
      simp only [Rp] at h1
      rcases h1 with ⟨h1, _⟩ | ⟨h1, _⟩ | ⟨h1, _⟩ | ⟨s', hs, a, xs, hc, how, _⟩
      · cases h1
      · cases h1
      · cases h1
      · simp only [List.cons.injEq, and_true] at hc
        subst hc
        rcases how.2 with ⟨hv, _⟩ | ⟨b, cap, cur, hv, _⟩
        · rw [hv]; simp [undef]
        · rw [hv]; simp [undef]
    | succ i =>
      refine fixed_val ms ts (n + 1) h i v' (by simpa using hi) ?_
      rw [show n + 1 + i = n + (i + 1) by omega]
      simp only [fixedOf] at hm
      rcases List.mem_cons.1 hm with h | h
      · omega
      · exact h
  | [], .cons _ _, x, n, w, g, vs, h => by simp only [ArgsR] at h
  | .fz :: _, .nil, x, n, w, g, vs, h => by simp only [ArgsR] at h
  | .efz :: _, .nil, x, n, w, g, vs, h => by simp only [ArgsR] at h
  | .nilp :: _, .nil, x, n, w, g, vs, h => by simp only [ArgsR] at h
  | .mut _ :: _, .nil, x, n, w, g, vs, h => by simp only [ArgsR] at h
  | .row _ :: _, .nil, x, n, w, g, vs, h => by simp only [ArgsR] at h
  | .row _ :: _, .cons (.int _) _, x, n, w, g, vs, h => by simp only [ArgsR] at h
  | .row _ :: _, .cons .bool _, x, n, w, g, vs, h => by simp only [ArgsR] at h
  | .row _ :: _, .cons (.agg _) _, x, n, w, g, vs, h => by simp only [ArgsR] at h
  | .row _ :: _, .cons (.arr _ _) _, x, n, w, g, vs, h => by simp only [ArgsR] at h
  | .row _ :: _, .cons (.fn _ _) _, x, n, w, g, vs, h => by simp only [ArgsR] at h

theorem results_eq (fn : Func) (tm : Array Value) : Go.results fn tm = (do let vs ← fn.results.mapM (resV tm); pure (if h : vs.size = 1 then vs[0] else .tuple vs)) := by
  unfold Go.results
  congr 2

theorem fnOk_of {f : FuncId} {fn : Func} {b : Code} (hf : P.funcs[f]? = some fn) (hb : fn.body = some b) (hn : (fn.name == "runtime.NumGoroutine") = false) : FnOk P f = true := by
  unfold FnOk
  rw [hf]
  simp [hb, hn]

/-- A function's run is its contract. -/
theorem run_sound {f : FuncId} {fn : Func} {b : Code} {d : FDef} {T : List (TypeId × Ty)} {Γ : List (FuncId × FSpec)} {fuel : Nat} (hC : CtxOk P ⟨T, Γ, fuel, d.mv, d.eqs, d.strs⟩) (hm : P.follows .mixedOrders = true) (hf : P.funcs[f]? = some fn) (hb : fn.body = some b)
    (hname : (fn.name == "runtime.NumGoroutine") = false) (hok : codeOk fn.ntmps (fixedOf d.ms 0) b = true) (hsize : decide (d.ms.length ≤ fn.ntmps) = true) (hres : (fn.results.size == d.nres) = true) :
    Sound P fuel f (d.spec fun k x => run T Γ fn d k x) := by
  refine ⟨fnOk_of hf hb hname, fun (x : DL d.ps) (y : DL d.rs) hxy w g vs ok hargs => ?_⟩
  have hxy : run T Γ fn d fuel x = some y := hxy
  have hargs : ArgsR P w g d.ms d.ps x 0 vs := hargs
  show Calls P f vs.toArray w fun e w' => ∃ g' us, e = .returned (packV us) ∧ GhOk w' g' ∧ Ext w g w' g' ∧ ResR P w' g' d.rp ((parts d.rs y d.rsh).take d.nres) us ∧ OutsR P w' g' d.ms d.ps 0 vs ((parts d.rs y d.rsh).drop d.nres)
  unfold run at hxy
  rw [hb] at hxy
  simp only at hxy
  have hlen : vs.length = d.ms.length := args_len d.ms d.ps 0 hargs
  simp only [decide_eq_true_eq] at hsize
  have hn : (vs.toArray ++ Array.replicate (fn.ntmps - vs.toArray.size) undef).size = fn.ntmps := by simp; omega
  have htm : ∀ i v, vs[i]? = some v → (vs.toArray ++ Array.replicate (fn.ntmps - vs.toArray.size) undef).getD (0 + i) undef = v := by
    intro i v hi
    have hlt := (List.getElem?_eq_some_iff.1 hi).1
    rw [Nat.zero_add, Array.getD_eq_getD_getElem?, Array.getElem?_append_left (by simpa using hlt)]
    simp [hi]
  refine calls_of_wp hf hb ?_
  generalize htmE : (vs.toArray ++ Array.replicate (fn.ntmps - vs.toArray.size) undef) = tm at hn htm
  let A : Nat → Value := fun k => if k ∈ fixedOf d.ms 0 then tm.getD k undef else undef
  have hA : ∀ k ∈ fixedOf d.ms 0, A k = tm.getD k undef := fun k hk => if_pos hk
  have hA2 : ∀ k, A k ≠ undef → k ∈ fixedOf d.ms 0 := fun k hk => Classical.byContradiction fun h => hk (if_neg h)
  obtain ⟨_, henter⟩ := enter_ok (A := A) d.ms d.ps 0 hargs htm hA
  have R0 : Rel P A w g tm (enter d.ms d.ps x 0) := by
    refine ⟨fun n _ => (henter n).2.2 _, fun n d' b' hb' => ?_, fun n => (henter n).2.1 _, fun n hn => ?_, ok.own, ok.fz, fun n hn => (hA n (hA2 n hn)).symm⟩
    · rw [(henter n).1] at hb'; cases hb'
    · rw [(henter n).1] at hn; cases hn
  have hwp := ev_wp (ds := []) hC hm hA2 b hok R0 (fun n => (henter n).1) hn hxy
  refine wp_mono hwp ?_
  intro e a' w' hg
  have fin : ∀ ex, (∀ i, ex ≠ .exit i) → St P A w g [] fn.ntmps (done fn d ⟨T, Γ, fuel, d.mv, d.eqs, d.strs⟩ x) y ex a' w' → a'.defers = [] ∧ ∃ v, (results fn a'.tmps).run P w' = .ok v w' ∧ ∃ g' us, (Ending.returned v) = .returned (packV us) ∧ GhOk w' g' ∧ Ext w g w' g' ∧
      ResR P w' g' d.rp ((parts d.rs y d.rsh).take d.nres) us ∧ OutsR P w' g' d.ms d.ps 0 vs ((parts d.rs y d.rsh).drop d.nres) := by
    rintro ex hex ⟨g1, σ1, R1, B1, E1, hds, hsz, hk⟩
    have hk : resK ⟨T, Γ, fuel, d.mv, d.eqs, d.strs⟩ d.rp fn.results.toList d.rs d.rsh σ1 (fun rest sr f τ => finK d.ms d.ps x 0 rest sr τ fun r => some (f r)) = some y := by
      cases ex with
      | exit i => exact absurd rfl (hex i)
      | normal => exact hk
      | ret => exact hk
    obtain ⟨l, us, rest, sr, f, τ, g2, a1, a2, a3, a4, a5, a6, a7, a8, a9⟩ := resK_ok hC.T hC.S fn.results.toList 0 R1 hk
    have hfix : ∀ i v, vs[i]? = some v → 0 + i ∈ fixedOf d.ms 0 → v = a'.tmps.getD (0 + i) undef := by
      intro i v hi hmem
      have h1 := fixed_val d.ms d.ps 0 hargs i v hi hmem
      have h2 := htm i v hi
      have h3 : A (0 + i) = v := (hA _ hmem).trans h2
      have := a2.fix (0 + i) (by rw [h3]; exact h1)
      rw [this, h3]
    obtain ⟨z, g3, b1, b2, b3, b4, b5⟩ := finK_ok l.length d.ms d.ps 0 (fun k _ hg _ => a2.slot k (by rw [hg]; rfl)) a2.ok hlen hfix a1
    have b1 : f z = y := Option.some.inj b1
    have hparts := a5 z
    rw [b1] at hparts
    have hln : l.length = d.nres := by
      rw [a6]
      simp only [beq_iff_eq] at hres
      rw [← hres]; simp
    refine ⟨hds, packV us, ?_, g3, us, rfl, b2, (E1.trans a3).trans b3, ?_, ?_⟩
    · rw [results_eq, Sem.run_bind]
      have hmap : (fn.results.mapM (resV a'.tmps)).run P w' = .ok us.toArray w' := by
        rw [Array.mapM_eq_mapM_toList]
        simp [a8]
      rw [hmap]
      simp only [Result.andThen_ok]
      by_cases h1 : us.length = 1
      · obtain ⟨u, rfl⟩ := List.length_eq_one_iff.1 h1
        rfl
      · have hpk : packV us = .tuple us.toArray := by
          unfold packV
          split
          · exact absurd rfl h1
          · rfl
        rw [hpk, dif_neg (by simpa using h1)]
        rfl
    · rw [hparts, ← hln, List.take_left]
      refine ⟨by rw [a7, a6], fun j yv u hj hu => ?_⟩
      have h1 := a9 j yv u hj hu
      rw [Nat.zero_add] at h1
      have h2 := ResOne.go (b4.goes (.inl ⟨j, rfl, (List.getElem?_eq_some_iff.1 hj).1⟩) []) h1
      exact h2
    · rw [hparts, ← hln, List.drop_left]
      exact b5
  cases e with
  | normal =>
    obtain ⟨h1, v, h2, h3⟩ := fin .normal (fun i h => by cases h) hg
    exact ⟨h1, v, h2, h3⟩
  | ret =>
    obtain ⟨h1, v, h2, h3⟩ := fin .ret (fun i h => by cases h) hg
    exact ⟨h1, v, h2, h3⟩
  | exit i =>
    obtain ⟨g1, σ1, R1, B1, E1, hds, hsz, hk⟩ := hg
    simp [done] at hk
  | _ => exact hg.elim
end Go.Ev

/- Arguments that a caller hands over, as typed values: they never turn. -/
namespace Go.Ev
open Go.RowKit
variable {P : Program}

mutual
/-- Integers of their kinds, rows no longer than memory. -/
def WfD : (t : Ty) → D t → Prop
  | .int k, n => (Lit.int k n).wf = true
  | .bool, _ => True
  | .agg f, v => WfL f v
  | .sl _ t, l => List.length l ≤ maxLen ∧ ∀ x ∈ (show List (D t) from l), WfD t x
  | .arr n t, l => List.length l = n ∧ ∀ x ∈ (show List (D t) from l), WfD t x
  | .fn _ _, _ => True
def WfL : (ts : Tys) → DL ts → Prop
  | .nil, _ => True
  | .cons t ts, v => WfD t v.1 ∧ WfL ts v.2
end
mutual
/-- No functions. -/
def Ty.data : Ty → Bool
  | .int _ => true
  | .bool => true
  | .agg f => f.data
  | .sl _ t => t.data
  | .arr _ t => t.data
  | .fn _ _ => false
def Tys.data : Tys → Bool
  | .nil => true
  | .cons t ts => t.data && ts.data
end

theorem list_of {α : Type} {n : Nat} {p : Nat → α → Prop} (h : ∀ i, i < n → ∃ x, p i x) : ∃ l : List α, l.length = n ∧ ∀ i x, l[i]? = some x → p i x := by
  induction n with
  | zero => exact ⟨[], rfl, fun i x hx => by simp at hx⟩
  | succ n ih =>
    obtain ⟨l, hl, hp⟩ := ih (fun i hi => h i (by omega))
    obtain ⟨x, hx⟩ := h n (by omega)
    refine ⟨l ++ [x], by simp [hl], fun i y hy => ?_⟩
    rw [List.getElem?_append] at hy
    split at hy
    · exact hp i y hy
    · have hi : i - l.length = 0 := by
        have := (List.getElem?_eq_some_iff.1 hy).1
        simp at this; omega
      rw [hi] at hy
      simp at hy
      subst hy
      have : i = n := by omega
      subst this; exact hx

theorem cellsOf_info {tid : TypeId} {t : Ty} (h : tyOk P tid t = true) : P.cellsOf tid = t.size ∧ 0 < t.size := by
  obtain ⟨i, z, hi, hs, h0, _⟩ := (tyOk_info h).ex
  exact ⟨by simp [Program.cellsOf, hi, hs], h0⟩
theorem cells_seg {w : World} {base n : Nat} {b o : Nat} {cs : List Value} (hn : 0 < n) (h : w.cells? base ⟨b, o, none⟩ n = some cs) : b < w.heap.size ∧ cs = seg (rowL w b) o n := by
  obtain ⟨_, hl, hc⟩ := World.cells?_some h
  have h0 := hc 0 hn
  have hb : ∃ c e fr, w.heap[b]? = some (.cells c e fr) := by
    have : cs[0]? = some cs[0] := List.getElem?_eq_getElem (by omega)
    rw [this] at h0
    simp only [Addr.add, if_true, World.cell?] at h0
    split at h0
    · rename_i c e fr he
      exact ⟨c, e, fr, he⟩
    · cases h0
  obtain ⟨c, e, fr, he⟩ := hb
  refine ⟨(Array.getElem?_eq_some_iff.1 he).1, ?_⟩
  apply List.ext_getElem?
  intro i
  simp only [seg, rowL, he]
  by_cases hi : i < n
  · rw [List.getElem?_take_of_lt hi, List.getElem?_drop, ← hc i hi]
    have hs : ((Addr.add ⟨b, o, none⟩ i)) = ⟨b, o + i, none⟩ := by
      simp only [Addr.add]
      split
      · subst_vars; rfl
      · rfl
    rw [hs]
    simp [World.cell?, he]
  · rw [List.getElem?_take_eq_none (by omega), List.getElem?_eq_none (by omega)]
theorem cells_spot {w : World} {base n : Nat} {a : Addr} {cs : List Value} (hn : 0 < n) (h : w.cells? base a n = some cs) : a = ⟨a.block, a.off, none⟩ := by
  obtain ⟨_, hl, hc⟩ := World.cells?_some h
  have h0 := hc 0 hn
  have : cs[0]? = some cs[0] := List.getElem?_eq_getElem (by omega)
  rw [this] at h0
  simp only [Addr.add, if_true, World.cell?] at h0
  obtain ⟨b, o, s⟩ := a
  split at h0
  · split at h0
    · cases h0
    · cases s <;> simp_all
  · cases h0

section
variable {H : Type} {enc : TypeId × Value → H} {w : World} {base : Nat} {spare : Nat → Bool} {held : Bool}
mutual
theorem openFr : (t : Ty) → t.data = true → {tid : TypeId} → tyOk P tid t = true → {fuel : Nat} → {cs : List Value} → {x : DataW H × List MemPlace} → DataW.trod enc P w base spare held fuel tid cs = some x →
    ∃ v : D t, Fr P t w (fun b => b < w.heap.size) v cs ∧ WfD t v
  | .int k, hd, tid, ht, fuel, cs, x, h => by
    have hu : P.underlying tid = some (.int k) := by
      simp only [tyOk, Bool.and_eq_true] at ht
      split at ht
      · rename_i k' he
        rw [he]; have := of_decide_eq_true ht.2; rw [this]
      · simp at ht
    obtain ⟨n, h, hx, hw⟩ := DataW.trod_int hu h
    exact ⟨n, by simp only [Fr]; exact h, by simp only [WfD]; exact hw⟩
  | .bool, hd, tid, ht, fuel, cs, x, h => by
    have hu : P.underlying tid = some .bool := by
      simp only [tyOk, Bool.and_eq_true] at ht
      split at ht
      · assumption
      · simp at ht
    obtain ⟨b, h, _⟩ := DataW.trod_bool hu h
    exact ⟨b, by simp only [Fr]; exact h, by simp only [WfD]⟩
  | .fn a r, hd, tid, ht, fuel, cs, x, h => by simp [Ty.data] at hd
  | .sl e t, hd, tid, ht, fuel, cs, x, h => by
    simp only [tyOk, Bool.and_eq_true] at ht
    have hu : P.underlying tid = some (.slice e) := by
      have h2 := ht.1.2
      split at h2
      · rename_i e' he
        rw [he, eq_of_beq h2]
      · cases h2
    have hte := ht.2
    obtain ⟨hc, h0⟩ := cellsOf_info hte
    rcases DataW.trod_slice hu h with ⟨rfl, _⟩ | ⟨a, len, cap, elems, rest, n, _, rfl, _, hb, hl, hm, hlen, hel, _⟩
    · exact ⟨[], by simp only [Fr]; exact ⟨none, 0, rfl, Nat.le_refl _, .inl trivial⟩, by simp only [WfD]; exact ⟨Nat.zero_le _, fun x hx => by cases hx⟩⟩
    · have each : ∀ i, i < len → ∃ v : D t, a = ⟨a.block, a.off, none⟩ ∧ a.block < w.heap.size ∧ Fr P t w (fun b => b < w.heap.size) v (seg (rowL w a.block) (a.off + i * t.size) t.size) ∧ WfD t v := by
        intro i hi
        have h1 := hel i hi
        rw [List.getElem?_eq_getElem (by omega)] at h1
        obtain ⟨cs', h2, h3⟩ := Option.bind_eq_some_iff.1 h1
        obtain ⟨v, hv, hw⟩ := openFr t (by simpa [Ty.data] using hd) hte h3
        have hspot : a = ⟨a.block, a.off, none⟩ := by
          have h1 := hel 0 (by omega)
          rw [List.getElem?_eq_getElem (by omega)] at h1
          obtain ⟨cs', h2, h3⟩ := Option.bind_eq_some_iff.1 h1
          rw [hc, Nat.zero_mul] at h2
          exact cells_spot h0 (by simpa [Addr.add] using h2)
        rw [hc] at h2
        have ha : a.add (i * t.size) = ⟨a.block, a.off + i * t.size, none⟩ := by
          rw [hspot]
          simp only [Addr.add]
          split
          · rename_i he; rw [he]; rfl
          · rfl
        rw [ha] at h2
        obtain ⟨hlt, rfl⟩ := cells_seg h0 h2
        exact ⟨v, hspot, hlt, hv, hw⟩
      obtain ⟨l, hll, hp⟩ := list_of each
      refine ⟨l, ?_, ?_⟩
      · simp only [Fr]
        refine ⟨some a, cap, by rw [hll], by rw [hll]; exact hl, ?_⟩
        cases l with
        | nil => exact .inl rfl
        | cons y l =>
          obtain ⟨hs, hlt, _⟩ := hp 0 y rfl
          exact .inr ⟨a.block, a.off, congrArg some hs, hlt, fun i x hx => (hp i x hx).2.2.1⟩
      · simp only [WfD]
        refine ⟨by rw [hll]; omega, fun x hx => ?_⟩
        obtain ⟨i, hi, rfl⟩ := List.mem_iff_getElem.1 hx
        exact (hp i _ (List.getElem?_eq_getElem hi)).2.2.2
  | .arr n t, hd, tid, ht, fuel, cs, x, h => by
    have hinf := cellsOf_info ht
    simp only [tyOk, Bool.and_eq_true] at ht
    have h2 := ht.2
    split at h2
    · rename_i n' e he
      simp only [Bool.and_eq_true, beq_iff_eq] at h2
      obtain ⟨rfl, hte⟩ := h2
      obtain ⟨hc, h0⟩ := cellsOf_info hte
      obtain ⟨xs, m, _, _, hcl, hxl, hx⟩ := DataW.trod_array he h
      have each : ∀ i, i < n → ∃ v : D t, Fr P t w (fun b => b < w.heap.size) v (seg cs (i * t.size) t.size) ∧ WfD t v := by
        intro i hi
        have h1 := hx i hi
        rw [List.getElem?_eq_getElem (by omega), hc] at h1
        exact openFr t (by simpa [Ty.data] using hd) hte h1
      obtain ⟨l, hll, hp⟩ := list_of each
      refine ⟨l, ?_, ?_⟩
      · simp only [Fr]
        exact ⟨hll, by rw [hcl, hinf.1]; rfl, fun i x hx => (hp i x hx).1⟩
      · simp only [WfD]
        refine ⟨hll, fun x hx => ?_⟩
        obtain ⟨i, hi, rfl⟩ := List.mem_iff_getElem.1 hx
        exact (hp i _ (List.getElem?_eq_getElem hi)).2
    · cases h2
  | .agg f, hd, tid, ht, fuel, cs, x, h => by
    have hinf := cellsOf_info ht
    simp only [tyOk, Bool.and_eq_true] at ht
    have h2 := ht.2
    split at h2
    · rename_i fs he
      obtain ⟨xs, m, _, _, hcl, hxl, hx⟩ := DataW.trod_struct he h
      simp only [Fr, WfD]
      have := openFrL f (by simpa [Ty.data] using hd) fs.toList 0 h2 (CS := cs) (by rw [hcl, hinf.1]; simp [Ty.size]) (fun i (f : Field) hf => ⟨m, xs[i]'(by
        have := (List.getElem?_eq_some_iff.1 hf).1; simp at this; omega), by
        rw [hx i f (by simpa using hf), List.getElem?_eq_getElem]⟩)
      simpa using this
    · cases h2
theorem openFrL : (ts : Tys) → ts.data = true → (fs : List Field) → (o : Nat) → fieldsOk P fs ts o = true → {CS : List Value} → CS.length = o + ts.size →
    (∀ (i : Nat) (f : Field), fs[i]? = some f → ∃ fuel, ∃ x : DataW H × List MemPlace, DataW.trod enc P w base spare held fuel f.type ((CS.drop f.offset).take (P.cellsOf f.type)) = some x) →
    ∃ v : DL ts, FrL P ts w (fun b => b < w.heap.size) v (CS.drop o) ∧ WfL ts v
  | .nil, hd, fs, o, hf, CS, hl, h => ⟨(), by simp only [FrL]; exact List.drop_eq_nil_of_le (by simp [Tys.size] at hl; omega), by simp only [WfL]⟩
  | .cons t ts, hd, [], o, hf, CS, hl, h => by simp [fieldsOk] at hf
  | .cons t ts, hd, f :: fs, o, hf, CS, hl, h => by
    simp only [fieldsOk, Bool.and_eq_true, beq_iff_eq] at hf
    obtain ⟨⟨rfl, ht⟩, hf⟩ := hf
    simp only [Tys.data, Bool.and_eq_true] at hd
    obtain ⟨fuel, x, hx⟩ := h 0 f rfl
    rw [(cellsOf_info ht).1] at hx
    obtain ⟨v, hv, hw⟩ := openFr t hd.1 ht hx
    obtain ⟨vs, hvs, hws⟩ := openFrL ts hd.2 fs _ hf (CS := CS) (by simp only [Tys.size] at hl; omega) (fun i g hg => h (i + 1) g (by simpa using hg))
    refine ⟨(v, vs), ?_, ?_⟩
    · simp only [FrL]
      refine ⟨_, _, ?_, hv, hvs⟩
      rw [← List.drop_drop, List.take_append_drop]
    · simp only [WfL]; exact ⟨hw, hws⟩
end

theorem okWide_isAgg {r : Reach} {b0 : Nat} {tid : TypeId} {t : Ty} (ht : tyOk P tid t = true) (hd : t.data = true) {v : Value} (h : Value.okWide P w r b0 tid v) : isAggV v = t.isAgg := by
  cases t with
  | int k =>
    simp only [tyOk, Bool.and_eq_true] at ht
    have h2 := ht.2
    split at h2
    · rename_i k' he
      obtain ⟨n, rfl⟩ := Go.WideShapes.okWide_int he h; rfl
    · cases h2
  | bool =>
    simp only [tyOk, Bool.and_eq_true] at ht
    have h2 := ht.2
    split at h2
    · rename_i he
      obtain ⟨n, rfl⟩ := Go.WideShapes.okWide_bool he h; rfl
    · cases h2
  | sl e t =>
    simp only [tyOk, Bool.and_eq_true] at ht
    have h2 := ht.1.2
    split at h2
    · rename_i he
      obtain ⟨a, n, c, rfl⟩ := Go.WideShapes.okWide_slice he h; rfl
    · cases h2
  | fn a q => simp [Ty.data] at hd
  | arr n t =>
    simp only [tyOk, Bool.and_eq_true] at ht
    have h2 := ht.2
    split at h2
    · rename_i he
      unfold Value.okWide at h
      rw [he] at h
      obtain ⟨cs, rfl, _⟩ := h; rfl
    · cases h2
  | agg f =>
    simp only [tyOk, Bool.and_eq_true] at ht
    have h2 := ht.2
    split at h2
    · rename_i he
      unfold Value.okWide at h
      rw [he] at h
      obtain ⟨cs, rfl, _⟩ := h; rfl
    · cases h2

/-- An argument of a call from outside. -/
theorem openArg {r : Reach} {b0 : Nat} {tid : TypeId} {t : Ty} (hd : t.data = true) (ht : tyOk P tid t = true) {v : Value} {d : DataW H} {ps : List MemPlace} (hv : Value.okWide P w r b0 tid v) (h : DataW.Trod enc P w base spare held tid v d ps) :
    ∃ x : D t, FrV P t w (fun b => b < w.heap.size) x v ∧ WfD t x := by
  obtain ⟨fuel, h⟩ := h
  obtain ⟨x, hx, hw⟩ := openFr t hd ht h
  exact ⟨x, ⟨hx, okWide_isAgg ht hd hv⟩, hw⟩
end

/-- The caller's memory: nothing of it turns. -/
def Gh.out (w : World) : Gh := ⟨fun _ => none, fun _ _ => 0, fun b => b < w.heap.size⟩
theorem Gh.out_ok (w : World) : GhOk w (Gh.out w) := ⟨fun _ _ _ h => (by cases h), fun _ h => h⟩
theorem Ext.below {w w' : World} {g' : Gh} (h : Ext w (Gh.out w) w' g') : Below w.heap.size w w' :=
  ⟨h.os, h.tape, h.output, h.size, fun k hk => (h.block k hk rfl).1⟩

/-- A law: its contract, and that it answers true. -/
theorem law_calls {f : FuncId} {ps : Tys} {ms : List Md} {F : Nat → DL ps → Option (DL (.cons .bool .nil))} (hm : ms.all (· matches .fz) = true) (hl : ms.length = ps.len) {K : Nat}
    (hS : Sound P K f ⟨ms, ps, .cons .bool .nil, 1, [.fz], false, F⟩) {x : DL ps} (hx : F K x = some (true, ())) {W : World} {vs : List Value} (hA : FrA P ps W (fun b => b < W.heap.size) x vs) :
    Calls P f vs.toArray W fun e W' => e = .returned (.bool true) ∧ Below W.heap.size W W' := by
  have h := hS.2 x (true, ()) hx W (Gh.out W) vs (Gh.out_ok W) (args_fz ps ms hm hl hA)
  refine h.mono fun e W' hq => ?_
  obtain ⟨g', us, rfl, _, hE, hR, _⟩ := hq
  refine ⟨?_, hE.below⟩
  obtain ⟨hlen, hr⟩ := hR
  simp only [parts, List.take_succ_cons, List.take_zero, List.length_cons, List.length_nil] at hlen hr
  match us, hlen with
  | [u], _ =>
    have := hr 0 ⟨.bool, .fz, true⟩ u rfl rfl
    simp only [Bool.false_eq_true, if_false] at this
    have h1 := this.1
    have h2 := this.2
    simp only [Rp, Fr] at h1
    rcases h1 with ⟨_, h1⟩ | ⟨h9, _⟩
    · have hu : u = .bool true := by cases u <;> simp_all [Value.cells, isAggV, Ty.isAgg]
      rw [hu]; rfl
    · cases h9

end Go.Ev

/- Contracts out of closed facts. -/
namespace Go.Ev
variable {P : Program}

def FDef.ok (d : FDef) (fn : Func) : Bool := match fn.body with
  | some b => !(fn.name == "runtime.NumGoroutine") && codeOk fn.ntmps (fixedOf d.ms 0) b && decide (d.ms.length ≤ fn.ntmps) && fn.results.size == d.nres
  | none => false

theorem SoundC.nil {C : Ctx} (h : C.Γ = []) : SoundC P C := by
  intro f sp hf
  simp [h] at hf
theorem SoundC.cons {T : List (TypeId × Ty)} {Γ : List (FuncId × FSpec)} {K : Nat} {mv : List Nat} {eqs strs : List TypeId} {g : FuncId} {sp : FSpec} (h : Sound P K g sp) (hr : SoundC P ⟨T, Γ, K, mv, eqs, strs⟩) :
    SoundC P ⟨T, (g, sp) :: Γ, K, mv, eqs, strs⟩ := by
  intro f s hf
  rcases List.mem_cons.1 hf with hf | hf
  · cases hf; exact h
  · exact hr f s hf

theorem sound_of {f : FuncId} {fn : Func} {d : FDef} {T : List (TypeId × Ty)} {Γ : List (FuncId × FSpec)} {K : Nat} (hT : TOk P T = true) (hm : P.follows .mixedOrders = true) (hf : P.funcs[f]? = some fn) (hok : d.ok fn = true)
    (hS : SoundC P ⟨T, Γ, K, d.mv, d.eqs, d.strs⟩) (hE : EqsOk P ⟨T, Γ, K, d.mv, d.eqs, d.strs⟩) (hs : StrOk P d.strs = true) : Sound P K f (d.spec fun k x => run T Γ fn d k x) := by
  cases hb : fn.body with
  | none => simp [FDef.ok, hb] at hok
  | some b =>
    simp only [FDef.ok, hb, Bool.and_eq_true, Bool.not_eq_true'] at hok
    exact run_sound ⟨hT, hS, hE, hs⟩ hm hf hb hok.1.1.1 hok.1.1.2 hok.1.2 hok.2

theorem EqsOk.nil {C : Ctx} (h : C.eqs = []) : EqsOk P C := by
  intro e he
  rw [h] at he
  cases he

end Go.Ev

/- Structs that are compared. -/
namespace Go.Ev
variable {P : Program}

mutual
/-- Values of this type can be compared, part by part. -/
def eqOk (P : Program) : TypeId → Ty → Bool
  | _, .int _ => true
  | _, .bool => true
  | tid, .agg f => !P.stoodInHeld tid && eqOkL P (P.fieldsOf tid).toList f
  | _, _ => false
def eqOkL (P : Program) : List Field → Tys → Bool
  | [], .nil => true
  | f :: fs, .cons t ts => f.name != "_" && eqOk P f.type t && eqOkL P fs ts
  | _, _ => false
end
mutual
def Ty.rank : Ty → Nat
  | .agg f => f.rank + 1
  | _ => 1
def Tys.rank : Tys → Nat
  | .nil => 1
  | .cons t ts => max t.rank ts.rank
end
mutual
theorem equal_ok {w : World} {fz : Nat → Prop} : (t : Ty) → {tid : TypeId} → tyOk P tid t = true → eqOk P tid t = true → {m n : D t} → {x y : Value} → FrV P t w fz m x → FrV P t w fz n y → (d : Nat) → t.rank ≤ d →
    (Op.equalIn d tid x y).run P w = .ok (eqD t m n) w
  | .int k, tid, ht, he, m, n, x, y, hx, hy, d, hd => by
    obtain ⟨d, rfl⟩ : ∃ e, d = e + 1 := ⟨d - 1, by simp only [Ty.rank] at hd; omega⟩
    have hu : P.underlying tid = some (.int k) := by
      simp only [tyOk, Bool.and_eq_true] at ht
      split at ht
      · rename_i k' he
        rw [he]; have := of_decide_eq_true ht.2; rw [this]
      · simp at ht
    have h1 : ∀ {m : Int} {x : Value}, FrV P (.int k) w fz m x → x = .int k m := by
      intro m x h
      have h1 := h.1
      have h2 := h.2
      simp only [Fr] at h1
      cases x <;> simp_all [Value.cells, isAggV, Ty.isAgg]
    rw [h1 hx, h1 hy, run_equalIn_int w d tid k k m n hu]
    rfl
  | .bool, tid, ht, he, m, n, x, y, hx, hy, d, hd => by
    obtain ⟨d, rfl⟩ : ∃ e, d = e + 1 := ⟨d - 1, by simp only [Ty.rank] at hd; omega⟩
    have hu : P.underlying tid = some .bool := by
      simp only [tyOk, Bool.and_eq_true] at ht
      split at ht
      · assumption
      · simp at ht
    have h1 : ∀ {m : Bool} {x : Value}, FrV P .bool w fz m x → x = .bool m := by
      intro m x h
      have h1 := h.1
      have h2 := h.2
      simp only [Fr] at h1
      cases x <;> simp_all [Value.cells, isAggV, Ty.isAgg]
    rw [h1 hx, h1 hy, run_equalIn_bool' w d tid m n hu]
    rfl
  | .agg f, tid, ht, he, m, n, x, y, hx, hy, d, hd => by
    obtain ⟨d, rfl⟩ : ∃ e, d = e + 1 := ⟨d - 1, by simp only [Ty.rank] at hd; omega⟩
    simp only [eqOk, Bool.and_eq_true, Bool.not_eq_true'] at he
    have hsz := (tyOk_info ht)
    simp only [tyOk, Bool.and_eq_true] at ht
    have h2 := ht.2
    split at h2
    · rename_i fs hu
      have hfo : P.fieldsOf tid = fs := by simp [Program.fieldsOf, hu]
      have hagg : ∀ {m : D (.agg f)} {x : Value}, FrV P (.agg f) w fz m x → ∃ cs, x = .agg cs ∧ FrL P f w fz m cs.toList := by
        intro m x h
        have h1 := h.1
        have h2 := h.2
        simp only [Fr] at h1
        cases x <;> simp [isAggV, Ty.isAgg] at h2
        exact ⟨_, rfl, by simpa [Value.cells] using h1⟩
      obtain ⟨xs, rfl, hxs⟩ := hagg hx
      obtain ⟨ys, rfl, hys⟩ := hagg hy
      rw [run_equalIn_struct w d tid xs ys (by rw [hfo]; exact hu) he.1, hfo]
      rw [hfo] at he
      exact equalL_ok f fs.toList 0 h2 he.2 (by simpa using hxs) (by simpa using hys) (by have := FrL.len f hxs; simp at this; omega) (by have := FrL.len f hys; simp at this; omega) d (by simp only [Ty.rank] at hd; omega)
    · cases h2
  | .sl e t, tid, ht, he, m, n, x, y, hx, hy, d, hd => by simp [eqOk] at he
  | .arr k t, tid, ht, he, m, n, x, y, hx, hy, d, hd => by simp [eqOk] at he
  | .fn a r, tid, ht, he, m, n, x, y, hx, hy, d, hd => by simp [eqOk] at he
theorem equalL_ok {w : World} {fz : Nat → Prop} : (ts : Tys) → (fs : List Field) → (o : Nat) → fieldsOk P fs ts o = true → eqOkL P fs ts = true → {m n : DL ts} → {xs ys : Array Value} → FrL P ts w fz m (xs.toList.drop o) → FrL P ts w fz n (ys.toList.drop o) →
    o + ts.size ≤ xs.size → o + ts.size ≤ ys.size → (d : Nat) → ts.rank ≤ d → (Op.eqFields d xs ys fs).run P w = .ok (eqDL ts m n) w
  | .nil, [], o, hf, he, m, n, xs, ys, hx, hy, hlx, hly, d, hd => by simp [Op.eqFields, eqDL]
  | .nil, _ :: _, o, hf, he, m, n, xs, ys, hx, hy, hlx, hly, d, hd => by simp [eqOkL] at he
  | .cons _ _, [], o, hf, he, m, n, xs, ys, hx, hy, hlx, hly, d, hd => by simp [eqOkL] at he
  | .cons t ts, f :: fs, o, hf, he, m, n, xs, ys, hx, hy, hlx, hly, d, hd => by
    simp only [eqOkL, Bool.and_eq_true, bne_iff_ne, ne_eq] at he
    simp only [fieldsOk, Bool.and_eq_true, beq_iff_eq] at hf
    obtain ⟨⟨rfl, ht⟩, hf⟩ := hf
    simp only [Tys.rank] at hd
    simp only [Tys.size] at hlx hly
    simp only [FrL] at hx hy
    have part : ∀ {v : DL (.cons t ts)} {zs : Array Value}, (∃ c1 c2, zs.toList.drop f.offset = c1 ++ c2 ∧ Fr P t w fz v.1 c1 ∧ FrL P ts w fz v.2 c2) → f.offset + (t.size + ts.size) ≤ zs.size →
        (∃ z, (part f.type zs f.offset).run P w = .ok z w ∧ FrV P t w fz v.1 z) ∧ FrL P ts w fz v.2 (zs.toList.drop (f.offset + t.size)) := by
      intro v zs ⟨c1, c2, hc, h1, h2⟩ hl
      have hl1 := Fr.len t h1
      have hseg : seg zs.toList f.offset t.size = c1 := by
        unfold seg
        rw [hc, ← hl1, List.take_left']
        rfl
      obtain ⟨z, hz, hzc, hza⟩ := part_ok ht (cs := zs) (k := f.offset) (by omega) (fun u hu hna => by rw [hseg] at hu; rw [hu] at h1; exact Fr.notAgg h1 hna) w
      refine ⟨⟨z, hz, by rw [hzc, hseg]; exact h1, hza⟩, ?_⟩
      rw [← List.drop_drop, hc, ← hl1, List.drop_left']
      · exact h2
      · rfl
    obtain ⟨⟨zx, hzx, hvx⟩, hx2⟩ := part hx hlx
    obtain ⟨⟨zy, hzy, hvy⟩, hy2⟩ := part hy hly
    simp only [Op.eqFields]
    rw [if_pos he.1.1]
    rw [Sem.run_bind, hzx]
    simp only [Result.andThen_ok]
    rw [Sem.run_bind, hzy]
    simp only [Result.andThen_ok]
    rw [Sem.run_bind, equal_ok t ht he.1.2 hvx hvy d (by omega)]
    simp only [Result.andThen_ok, eqDL]
    cases hq : eqD t m.1 n.1 with
    | false => simp
    | true =>
      simp only [Bool.not_true, Bool.false_eq_true, if_false, Bool.true_and]
      exact equalL_ok ts fs _ hf he.2 hx2 hy2 (by omega) (by omega) d (by omega)
end

/-- All types of a list can be compared. -/
def eqsB (P : Program) (T : List (TypeId × Ty)) (l : List TypeId) : Bool := l.all fun e => !P.eqGuardType P.depth e && (match (T.find? (fun x => x.1 == e)).map (fun x => x.2) with
  | some (Ty.agg f) => eqOk P e (.agg f) && decide ((Ty.agg f).rank ≤ 10000)
  | _ => true)
theorem EqsOk.of {C : Ctx} (hT : TOk P C.T = true) (h : eqsB P C.T C.eqs = true) : EqsOk P C := by
  intro e he f hf w fz m n x y hx hy op a b
  have h1 := List.all_eq_true.1 h e he
  simp only [Bool.and_eq_true, Bool.not_eq_true'] at h1
  have hf' : (C.T.find? (fun x => x.1 == e)).map (fun x => x.2) = some (.agg f) := hf
  rw [hf'] at h1
  simp only [Bool.and_eq_true, decide_eq_true_eq] at h1
  have h2 := equal_ok (.agg f) (TOk.ty hT hf) h1.2.1 hx hy 10000 h1.2.2
  have hax := hx.2
  have hay := hy.2
  cases x <;> simp [isAggV, Ty.isAgg] at hax
  cases y <;> simp [isAggV, Ty.isAgg] at hay
  refine ⟨run_eqGuard_agg w op e a b _ _ h1.1, ?_⟩
  exact h2

end Go.Ev

/- A law of plain data that answers true: from its contract to the row. -/
namespace Go.Ev
open Go.ChangeShapes Go.WideShapes Go.ChangeAt Go.RowKit
variable {P : Program}

def tysOk (P : Program) : List TypeId → Tys → Bool
  | [], .nil => true
  | t :: ts, .cons u us => tyOk P t u && (P.readableRec t && (decide (t < P.types.size) && tysOk P ts us))
  | _, _ => false

section
variable {H : Type} {enc : TypeId × Value → H}
theorem openAll {r : Reach} {b0 : Nat} {w : World} {base : Nat} {spare : Nat → Bool} {held : Bool} : (us : Tys) → us.data = true → (ts : List TypeId) → tysOk P ts us = true → {vs : List Value} → {ds : List (DataW H)} → {ps : List MemPlace} →
    (∀ (j : Nat) t v, ts[j]? = some t → vs[j]? = some v → Value.okWide P w r b0 t v) → DataW.TrodAll enc P w base spare held ts vs ds ps → ∃ x : DL us, FrA P us w (fun b => b < w.heap.size) x vs ∧ WfL us x
  | .nil, hd, [], ht, vs, ds, ps, hv, h => by
    obtain ⟨rfl, rfl, rfl⟩ := trodAll_nil h
    exact ⟨(), by simp only [FrA], by simp only [WfL]⟩
  | .nil, hd, _ :: _, ht, vs, ds, ps, hv, h => by simp [tysOk] at ht
  | .cons u us, hd, [], ht, vs, ds, ps, hv, h => by simp [tysOk] at ht
  | .cons u us, hd, t :: ts, ht, vs, ds, ps, hv, h => by
    obtain ⟨v, vs, d, ds, a, b, rfl, rfl, rfl, h1, h2⟩ := trodAll_cons h
    simp only [tysOk, Bool.and_eq_true, decide_eq_true_eq] at ht
    simp only [Tys.data, Bool.and_eq_true] at hd
    obtain ⟨x, hx, hw⟩ := openArg hd.1 ht.1 (hv 0 t v rfl rfl) h1
    obtain ⟨xs, hxs, hws⟩ := openAll us hd.2 ts ht.2.2.2 (fun j t v hj hv' => hv (j + 1) t v (by simpa using hj) (by simpa using hv')) h2
    refine ⟨(x, xs), ?_, ?_⟩
    · simp only [FrA]; exact ⟨v, vs, rfl, hx, hxs⟩
    · simp only [WfL]; exact ⟨hw, hws⟩
theorem carryAll (hl : laidOutB P = true) {W W' : World} (hb : Below W.heap.size W W') : (us : Tys) → (ts : List TypeId) → tysOk P ts us = true → {vs : List Value} → {ds : List (DataW H)} → {ps : List MemPlace} →
    DataW.TrodAll enc P W 0 (fun _ => true) true ts vs ds ps → (∀ x ∈ ps, x.block < W.heap.size) → DataW.TrodAll enc P W' 0 (fun b => decide (b < W.heap.size)) true ts vs ds ps
  | .nil, [], ht, vs, ds, ps, h, hp => by
    obtain ⟨rfl, rfl, rfl⟩ := trodAll_nil h
    exact rfl
  | .nil, _ :: _, ht, vs, ds, ps, h, hp => by simp [tysOk] at ht
  | .cons _ _, [], ht, vs, ds, ps, h, hp => by simp [tysOk] at ht
  | .cons u us, t :: ts, ht, vs, ds, ps, h, hp => by
    obtain ⟨v, vs, d, ds, a, b, rfl, rfl, rfl, h1, h2⟩ := trodAll_cons h
    simp only [tysOk, Bool.and_eq_true, decide_eq_true_eq] at ht
    exact ⟨a, b, Below.trod hl ht.2.1 ht.2.2.1 h1 hb (fun x hx => hp x (List.mem_append_left _ hx)),
      carryAll hl hb us ts ht.2.2.2 h2 (fun x hx => hp x (List.mem_append_right _ hx)), rfl⟩
theorem trodAll_ds {w : World} {base : Nat} {spare : Nat → Bool} {held : Bool} : {ts : List TypeId} → {vs : List Value} → {ds : List (DataW H)} → {ps : List MemPlace} → DataW.TrodAll enc P w base spare held ts vs ds ps → ds.length = ts.length ∧ vs.length = ts.length
  | [], vs, ds, ps, h => by
    obtain ⟨rfl, rfl, rfl⟩ := trodAll_nil h
    exact ⟨rfl, rfl⟩
  | t :: ts, vs, ds, ps, h => by
    obtain ⟨v, vs, d, ds, a, b, rfl, rfl, rfl, h1, h2⟩ := trodAll_cons h
    have := trodAll_ds h2
    exact ⟨by simp [this.1], by simp [this.2]⟩

/-- THE LAW's RUN: its contract, its value, and that the caller's memory stays as it was. -/
theorem law_lifted {C : Checked} {os : Os} {f : FuncId} {fn : Func} {s : ChangeSpec} {conds : List PathCond} {us : Tys} {ms : List Md} {F : Nat → DL us → Option (DL (.cons .bool .nil))} {tb : TypeId}
    (own : ownKnob C.prog.godebug = none) (laid : laidOutB C.prog = true) (started : os.Started) (noInit : C.prog.inits.idxOf? f = none) (hfn : C.prog.funcs[f]? = some fn)
    (witness : ∃ (w : World) (tape : Tape) (i : Input), w.os = os ∧ (w.forCall tape i).Shaped C.prog ∧ i.vars = [] ∧ Input.okWide C.prog (w.forCall tape i) .any w.heap.size f i ∧
      s.pre6 enc C.prog fn conds false (w.forCall tape i).memory i.args ∧ Assume.holds {} C.prog (Go.lone (Frame.enter C.prog f i.args .normal) [] (w.forCall tape i)))
    (hvars : s.vars = []) (hspec : ∀ ds : List (DataW H), ds.length = fn.params.size → s.fn H ds = { results := [.lit (.bool true)], args := ds })
    (ht : tysOk C.prog fn.params.toList us = true) (hd : us.data = true) (hrt : fn.resultTypes = #[tb]) (hb : C.prog.underlying tb = some .bool)
    (hm : ms.all (· matches .fz) = true) (hl : ms.length = us.len) (hS : ∀ K, Sound C.prog K f ⟨ms, us, .cons .bool .nil, 1, [.fz], false, F⟩) (pure : ∀ x : DL us, WfL us x → ∃ K, F K x = some (true, ())) :
    ReturnsInHanded {} C os f .any (s.pre6 enc C.prog fn conds false) (s.post enc C.prog fn false true false false) := by
  refine returnsInHanded_of_change own started noInit hfn witness ?_
  intro W base args ds gs before hval hW hcnd _
  have hW' := hW
  obtain ⟨p, q, hA, hV, rfl, hfz, hnd⟩ := hW
  rw [hvars] at hV
  obtain ⟨rfl, rfl⟩ := trodVars_none hV
  have hlt : ∀ x ∈ p, x.block < W.heap.size := fun x hx => by simpa using hW'.lt x (List.mem_append_left _ hx)
  obtain ⟨x, hx, hw⟩ := openAll us hd fn.params.toList ht (vs := args.toList) (fun j t v hj hv => hval j t v (by simpa using hj) (by simpa using hv)) hA
  obtain ⟨K, hK⟩ := pure x hw
  have hc := law_calls hm hl (hS K) hK hx
  have ea : args.toList.toArray = args := by simp
  rw [ea] at hc
  refine hc.mono fun e W' ⟨he, hb'⟩ => ⟨_, he, ?_⟩
  have hlen := trodAll_ds hA
  have hsp := hspec ds (by rw [hlen.1]; simp)
  refine ⟨ds, [], p ++ [], [], p, [], hW', ?_, ?_, ?_, hb'.frame _, fun h => by cases h⟩
  · rw [List.append_nil, hsp, hrt]
    exact ⟨[], [], ⟨1, by simp [DataW.trod, Value.cells, hb]⟩, rfl, rfl⟩
  · rw [List.append_nil, hsp]
    exact carryAll laid hb' us fn.params.toList ht hA hlt
  · rw [List.append_nil, hsp, hvars]
    exact rfl
end
end Go.Ev
