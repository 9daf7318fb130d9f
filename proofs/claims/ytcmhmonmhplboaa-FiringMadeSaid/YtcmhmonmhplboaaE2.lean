/- The typed values of a run, and that a run of the evaluator is what the program does. No condition. -/
import Derived.Test.YtcmhmonmhplboaaE1
import Derived.Laws.Rows
import Derived.Laws.MakeOwn
import Derived.Great.BuildSlice
set_option linter.all false
set_option linter.unusedVariables false
set_option linter.unusedSimpArgs false
set_option linter.unnecessarySimpa false
set_option autoImplicit true
set_option relaxedAutoImplicit true
/- What the evaluator's parts do. -/
namespace Go.Ev
open Go.RowKit
variable {P : Program}

def Gd (σ : Env) (c : G) : Prop := ∀ d b, (d, b) ∈ c → ∃ sh v, (σ.get d).s = .val .bool sh v ∧ sh.isFz = true
theorem Gd.nil (σ : Env) : Gd σ [] := fun _ _ h => by cases h
theorem Mild.gdOk {σ σ' : Env} {c : G} (h : Mild σ σ') (hc : Gd σ c) : Gd σ' c := fun d b hb => by
  obtain ⟨sh, v, h1, h2⟩ := hc d b hb
  rw [h.same d (by rw [h1]; exact not_home h2)]
  exact ⟨sh, v, h1, h2⟩
theorem Mild.on {σ σ' : Env} {c : G} (h : Mild σ σ') (hc : Gd σ c) : σ'.on c = σ.on c := on_congr fun d b hb => by
  obtain ⟨sh, v, h1, h2⟩ := hc d b hb
  rw [h.same d (by rw [h1]; exact not_home h2)]
theorem on_sub {σ : Env} {a c : G} (h : sub a c = true) (hc : σ.on c = true) : σ.on a = true := by
  simp only [Env.on, List.all_eq_true] at hc ⊢
  simp only [sub, List.all_eq_true, List.any_eq_true, Bool.and_eq_true, beq_iff_eq] at h
  intro x hx
  obtain ⟨y, hy, h1, h2⟩ := h x hx
  have := hc y hy
  rw [← h1, ← h2] at this
  exact this

def S.isTup : S → Bool
  | .tup _ => true
  | _ => false
/-- An operand's meaning. -/
structure Held (P : Program) (A : Nat → Value) (w : World) (g : Gh) (σ : Env) (c : G) (s : S) (x : Value) : Prop where
  light : s.light = true
  ver : VerOk σ s
  mean : σ.on c = true → SR P w g A σ 0 0 s x
theorem Held.moved {A : Nat → Value} {w : World} {g g' : Gh} {σ σ' : Env} {c : G} {s : S} {x : Value} {K : Nat → Prop} (H : Held P A w g σ c s x) (m : Moved P A w K g σ g' σ') (hc : Gd σ c) : Held P A w g' σ' c s x :=
  have h := m.light s H.light H.ver
  ⟨H.light, h.1, fun ho => h.2 0 0 0 x (H.mean (by rwa [m.mild.on hc] at ho))⟩

theorem cells_one {x : Value} (h : isAggV x = false) : x.cells.toList = [x] := by
  cases x <;> first | rfl | (simp [isAggV] at h)
theorem cells_int {x : Value} {k : IntKind} {n : Int} (h : x.cells.toList = [.int k n]) (ha : isAggV x = false) : x = .int k n := by
  rw [cells_one ha] at h; simpa using h

theorem tyAt_nil (t : Ty) : tyAt t [] = some t := by cases t <;> rfl
/-- What can be seen of a slot means what the slot means. -/
theorem hdS_pv (t : Ty) (n : Nat) : (if t.isSl = true then 0 else n) ≤ n := by split <;> omega
theorem SR.head {A : Nat → Value} {w : World} {g : Gh} {σ : Env} {i : Nat} {x : Value} (h : SR P w g A σ i (σ.get i).pv (σ.get i).s x) : SR P w g A σ i (σ.get i).pv (hdS i (σ.get i)) x := by
  generalize he : (σ.get i).s = s at h
  cases s with
  | val t sh v =>
    simp only [hdS, he]
    split
    · exact h
    · rename_i hnf
      intro _ _
      have : shAt sh [] = sh := by cases sh <;> rfl
      refine ⟨_, by rw [he]; rfl, ?_⟩
      refine ⟨tyAt_nil _, by simp [Valid], ?_, by simpa [this] using hnf⟩
      rw [getP_nil]
      simp only [this]
      exact h
  | rowp e t sh v =>
    simp only [hdS, he]
    intro _ _
    refine ⟨_, by rw [he]; rfl, ?_⟩
    refine ⟨tyAt_nil _, by simp [Valid], ?_, rfl⟩
    rw [getP_nil]
    exact h.1
  | box t sh v =>
    simp only [hdS, he]
    intro _
    refine ⟨_, by rw [he]; rfl, ?_⟩
    obtain ⟨b, c, e, hx, hB, hs, hc, hp⟩ := h
    refine ⟨tyAt_nil _, by simp [Valid], b, 0, hx, ?_⟩
    rw [adrF_nil]
    simp only [HK.cur, hB]
  | shal => simp only [hdS, he]; trivial
  | _ => simp only [hdS, he]; exact h
theorem hdS_light {i : Nat} {e : Ent} (h : (hdS i e).isTup = false) : (hdS i e).light = true := by
  obtain ⟨gd, ver, pv, s⟩ := e
  cases s <;> simp only [hdS] at h ⊢ <;> first | rfl | (simp [S.isTup] at h; done) | skip
  split
  · rename_i hs; exact hs
  · rfl
theorem hdS_ver {σ : Env} {i : Nat} (h : VerOk σ (σ.get i).s) : VerOk σ (hdS i (σ.get i)) := by
  generalize he : (σ.get i).s = s at h
  cases s <;> simp only [hdS, he] <;> first | exact h | trivial | skip
  · split
    · trivial
    · exact .inr ⟨rfl, hdS_pv _ _⟩
  · exact .inr ⟨rfl, Nat.zero_le _⟩
  · exact .inr ⟨rfl, Nat.zero_le _⟩

theorem lit_held {A : Nat → Value} {w : World} {g : Gh} {σ : Env} {c : G} (v : Value) : Held P A w g σ c (lit v) v := by
  unfold lit
  split
  · refine ⟨rfl, trivial, fun _ => ⟨?_, rfl⟩⟩
    exact Rp.of_fr _ (by simp [Fr, Value.cells])
  · refine ⟨rfl, trivial, fun _ => ⟨?_, rfl⟩⟩
    exact Rp.of_fr _ (by simp [Fr, Value.cells])
  · exact ⟨rfl, trivial, fun _ => rfl⟩
  · exact ⟨rfl, trivial, fun _ => rfl⟩
  · exact ⟨rfl, trivial, fun _ => trivial⟩

section
variable {α R' : Type} {A : Nat → Value} {w : World} {g : Gh} {tm : Array Value} {σ : Env} {c : G} {K : α → Env → Option R'} {r : R'}

theorem rd_ok {x : Operand} {k : Nat → S → Acc α} (R : Rel P A w g tm σ) (ds : List Deferred) (h : (rd c x k).run σ K = some r) :
    ∃ i s, (k i s).run σ K = some r ∧ (s.isTup = false → Held P A w g σ c s (Act.eval ⟨tm, ds⟩ x)) ∧ (∀ j, x = .tmp j → i = j ∧ s = hdS j (σ.get j) ∧ sub (σ.get j).gd c = true) ∧ ((∃ j, x = .tmp j) ∨ (∃ v, s = lit v) ∨ ∃ f, s = .fnc f) := by
  cases x with
  | tmp i =>
    simp only [rd, Acc.run] at h
    split at h
    · rename_i hs
      refine ⟨i, _, h, fun ht => ⟨hdS_light ht, hdS_ver (R.ver i), fun ho => ?_⟩, ?_, .inl ⟨i, rfl⟩⟩
      · exact (R.slot i (on_sub hs ho)).head.light_n (hdS_light ht)
      · intro j hj; cases hj; exact ⟨rfl, rfl, hs⟩
    · cases h
  | const v => exact ⟨0, lit v, h, fun _ => lit_held v, (fun j hj => by cases hj), .inr (.inl ⟨v, rfl⟩)⟩
  | func f => exact ⟨0, .fnc f, h, fun _ => ⟨rfl, trivial, fun _ => rfl⟩, (fun j hj => by cases hj), .inr (.inr ⟨f, rfl⟩)⟩
  | global n => simp [rd, Acc.run] at h

theorem homeS_ok {s : S} {k : Home → Acc α} (h : (homeS s k).run σ K = some r) : ∃ m, homeOf s = some m ∧ (k m).run σ K = some r := by
  rw [homeS_eq] at h
  cases hm : homeOf s with
  | none => rw [hm] at h; cases h
  | some m => rw [hm] at h; exact ⟨m, rfl, h⟩
theorem homeA_ok {hn ver : Nat} {k : Home → Acc α} (h : (homeA c hn ver k).run σ K = some r) :
    ∃ m, homeOf (σ.get hn).s = some m ∧ (k m).run σ K = some r ∧ (σ.get hn).ver = ver ∧ sub (σ.get hn).gd c = true := by
  simp only [homeA, Acc.run] at h
  split at h
  · rename_i hc
    simp only [Bool.and_eq_true, beq_iff_eq] at hc
    obtain ⟨m, hm, h⟩ := homeS_ok h
    exact ⟨m, hm, h, hc.1, hc.2⟩
  · cases h
theorem homeR_ok {hn ver pv : Nat} {t : Ty} {k : Home → Acc α} (h : (homeR c hn ver pv t k).run σ K = some r) :
    ∃ m, homeOf (σ.get hn).s = some m ∧ (k m).run σ K = some r ∧ (σ.get hn).ver = ver ∧ (t.isSl = true ∨ (σ.get hn).pv = pv) ∧ sub (σ.get hn).gd c = true := by
  simp only [homeR, Acc.run] at h
  split at h
  · rename_i hc
    simp only [Bool.and_eq_true, beq_iff_eq, Bool.or_eq_true] at hc
    obtain ⟨m, hm, h⟩ := homeS_ok h
    exact ⟨m, hm, h, hc.1, hc.2.1, hc.2.2⟩
  · cases h
theorem put_ok {m : Home} {hn dv dp : Nat} {sh : Sh} {v : D m.t} {k : Acc α} (h : (m.put hn dv dp sh v k).run σ K = some r) :
    ∃ y, wrapS m.k m.t sh v = some y ∧ (σ.get hn).s.isHome = true ∧ k.run (σ.turn hn dv dp y) K = some r := by
  simp only [Home.put] at h
  cases hy : wrapS m.k m.t sh v with
  | none => rw [hy] at h; cases h
  | some y =>
    rw [hy] at h
    simp only [Acc.run] at h
    split at h
    · rename_i hh; exact ⟨y, rfl, hh, h⟩
    · cases h

theorem Held.ref {hn ver pv : Nat} {p : Path} {t : Ty} {x : Value} {m : Home} (H : Held P A w g σ c (.ref hn ver pv p t) x) (hm : homeOf (σ.get hn).s = some m) (hv : (σ.get hn).ver = ver)
    (hp : t.isSl = true ∨ (σ.get hn).pv = pv) (ho : σ.on c = true) : RefR P w g hn m p t x := by
  obtain ⟨m', hm', hr⟩ := H.mean ho hv hp
  rw [hm] at hm'
  cases hm'
  exact hr
theorem Held.addr {hn ver : Nat} {p : Path} {t : Ty} {x : Value} {m : Home} (H : Held P A w g σ c (.addr hn ver p t) x) (hm : homeOf (σ.get hn).s = some m) (hv : (σ.get hn).ver = ver) (ho : σ.on c = true) :
    AddrR g hn m p t x := by
  obtain ⟨m', hm', hr⟩ := H.mean ho hv
  rw [hm] at hm'
  cases hm'
  exact hr

theorem isFz_noGone : (s : Sh) → s.isFz = true → s.noGone = true
  | .fz, _ => rfl
  | .nil, _ => rfl
  | .cons s r, h => by
    simp only [Sh.isFz, Bool.and_eq_true] at h
    simp [Sh.noGone, isFz_noGone s h.1, isFz_noGone r h.2]
  | .gone, h => by simp [Sh.isFz] at h
  | .emp, h => by simp [Sh.isFz] at h
  | .own s, h => by simp [Sh.isFz] at h

theorem take_ok (fk : Nat) {mv : Bool} {i : Nat} {s : S} {x : Value} {k : PV → Acc α} (R : Rel P A w g tm σ) (hc : Gd σ c) (H : Held P A w g σ c s x) (h : (take c mv i s k).run σ K = some r) :
    ∃ y g' σ', (k y).run σ' K = some r ∧ Rel P A w g' tm σ' ∧ Moved P A w (· ≠ fk) g σ g' σ' ∧ y.sh.noGone = true ∧ (σ.on c = true → RpV P w g' (.inr fk) y.t [] y.sh y.v x) := by
  cases s with
  | val t sh v =>
    simp only [take] at h
    have hl : sh.isFz = true := H.light
    exact ⟨⟨t, sh, v⟩, g, σ, h, R, Moved.refl _ _ _ _ _, isFz_noGone _ hl, fun ho => ⟨Rp.fzgo t hl (Older.refl _ _) (H.mean ho).1, (H.mean ho).2⟩⟩
  | ref hn ver pv p t =>
    simp only [take] at h
    obtain ⟨m, hm, h, hv, hp, hs⟩ := homeR_ok h
    split at h
    · rename_i hng
      have hr := fun ho => H.ref hm hv hp ho
      unfold RefR at hr
      generalize getP m.t m.v p = tv at h hr
      obtain ⟨t', v'⟩ := tv
      simp only at h hr
      split at h
      · rename_i hfz
        refine ⟨⟨t', .fz, v'⟩, g, σ, h, R, Moved.refl _ _ _ _ _, rfl, fun ho => ?_⟩
        obtain ⟨e, _, hr, _⟩ := hr ho
        exact ⟨Rp.of_fr _ (Rp.fr _ hfz hr.1), hr.2⟩
      · split at h
        · cases hsh : setSh m.t m.sh p .gone with
          | none => rw [hsh] at h; cases h
          | some sh' =>
            rw [hsh] at h
            obtain ⟨y, hy, hh, h⟩ := put_ok h
            have hre := R.reshape hm hh hy (wk_setGone p hsh) (posP p) fk
            refine ⟨_, _, _, h, hre.1, hre.2, hng, fun ho => ?_⟩
            obtain ⟨e, _, hr, _⟩ := hr ho
            exact hr.go (turnG_goes (by simp) fun q => fate_gone p hsh)
        · cases hsh : weakSh m.sh p with
          | none => rw [hsh] at h; cases h
          | some sh' =>
            rw [hsh] at h
            obtain ⟨y, hy, hh, h⟩ := put_ok h
            have hre := R.reshape hm hh hy (wk_weak p hsh) (posP p) fk
            refine ⟨_, _, _, h, hre.1, hre.2, rfl, fun ho => ?_⟩
            obtain ⟨e, _, hr, _⟩ := hr ho
            exact ⟨Rp.of_fr _ (Rp.freeze _ hng (turnG_older w) (fun b q hb => ⟨turnG_frozen (fun q => fate_weak p hsh) b q hb, rfl⟩) hr.1), hr.2⟩
    · cases h
  | _ => simp [take, Acc.run] at h
end
end Go.Ev

/- Contracts of functions; operands at a type. -/
namespace Go.Ev
open Go.RowKit
variable {P : Program}

structure GhOk (w : World) (g : Gh) : Prop where
  own : ∀ b r π, g.st b = some (r, π) → b < w.heap.size ∧ ¬ g.fz b
  fz : ∀ b, g.fz b → b < w.heap.size
theorem Rel.ok {A : Nat → Value} {w : World} {g : Gh} {tm : Array Value} {σ : Env} (R : Rel P A w g tm σ) : GhOk w g := ⟨R.own, R.fz⟩

/-- A pointer to memory that never turns. -/
def EaR (P : Program) (w : World) (fz : Nat → Prop) (t : Ty) (v : D t) (x : Value) : Prop := ∃ b o, x = .pointer (some ⟨b, o, none⟩) ∧ fz b ∧ Fr P t w fz v (seg (rowL w b) o t.size)

/-- What a function asks of its arguments, from the n-th on. -/
def ArgsR (P : Program) (w : World) (g : Gh) : (ms : List Md) → (ts : Tys) → DL ts → Nat → List Value → Prop
  | [], .nil, _, _, vs => vs = []
  | .fz :: ms, .cons t ts, x, n, vs => ∃ v rest, vs = v :: rest ∧ FrV P t w g.fz x.1 v ∧ ArgsR P w g ms ts x.2 (n + 1) rest
  | .efz :: ms, .cons t ts, x, n, vs => ∃ v rest, vs = v :: rest ∧ EaR P w g.fz t x.1 v ∧ ArgsR P w g ms ts x.2 (n + 1) rest
  | .nilp :: ms, .cons t ts, x, n, vs => ∃ v rest, vs = v :: rest ∧ (t.isSl = true ∧ v = .slice none 0 0) ∧ ArgsR P w g ms ts x.2 (n + 1) rest
  | .mut sh :: ms, .cons t ts, x, n, vs => ∃ v rest, vs = v :: rest ∧ HomeR P w g (fun _ => undef) n ⟨.box, t, sh, x.1⟩ v ∧ ArgsR P w g ms ts x.2 (n + 1) rest
  | .row s :: ms, .cons (.sl e t) ts, x, n, vs => ∃ v rest, vs = v :: rest ∧ RpV P w g (.inl n) (.sl e t) [] (.own s) x.1 v ∧ ArgsR P w g ms ts x.2 (n + 1) rest
  | _, _, _, _, _ => False
/-- What the written parameters hold behind a call. -/
def OutsR (P : Program) (w : World) (g : Gh) : (ms : List Md) → (ps : Tys) → Nat → List Value → List PV → Prop
  | [], .nil, _, vs, l => vs = [] ∧ l = []
  | .fz :: ms, .cons t ts, n, vs, l => ∃ v rest, vs = v :: rest ∧ OutsR P w g ms ts (n + 1) rest l
  | .efz :: ms, .cons t ts, n, vs, l => ∃ v rest, vs = v :: rest ∧ OutsR P w g ms ts (n + 1) rest l
  | .nilp :: ms, .cons t ts, n, vs, l => ∃ v rest, vs = v :: rest ∧ OutsR P w g ms ts (n + 1) rest l
  | .mut sh :: ms, .cons t ts, n, vs, l => ∃ v rest y l', vs = v :: rest ∧ l = ⟨t, sh, y⟩ :: l' ∧ HomeR P w g (fun _ => undef) n ⟨.box, t, sh, y⟩ v ∧ OutsR P w g ms ts (n + 1) rest l'
  | .row s :: ms, .cons t ts, n, vs, l => ∃ v rest y l', vs = v :: rest ∧ l = ⟨t, .own s, y⟩ :: l' ∧ RpV P w g (.inl n) t [] (.own s) y v ∧ OutsR P w g ms ts (n + 1) rest l'
  | _, _, _, _, _ => False
/-- The results. -/
def ResR (P : Program) (w : World) (g : Gh) (rp : Bool) (l : List PV) (us : List Value) : Prop :=
  us.length = l.length ∧ ∀ j y u, l[j]? = some y → us[j]? = some u → if rp then
    (∃ b c e, u = .pointer (some ⟨b, 0, none⟩) ∧ g.B (.inr j) [] = b ∧ g.st b = some (.inr j, []) ∧ w.heap[b]? = some (.cells c e (0, 0)) ∧ Rp P w g (.inr j) y.t [0] y.sh y.v c.toList)
    else RpV P w g (.inr j) y.t [] y.sh y.v u

/-- A function does what its contract says. -/
def Sound (P : Program) (fuel : Nat) (f : FuncId) (sp : FSpec) : Prop :=
  FnOk P f = true ∧ ∀ (x : DL sp.ps) (y : DL sp.rs), sp.f fuel x = some y → ∀ (w : World) (g : Gh) (vs : List Value), GhOk w g → ArgsR P w g sp.ms sp.ps x 0 vs →
    Calls P f vs.toArray w fun e w' => ∃ g' us, e = .returned (packV us) ∧ GhOk w' g' ∧ Ext w g w' g' ∧
      ResR P w' g' sp.rp ((parts sp.rs y sp.rsh).take sp.nres) us ∧ OutsR P w' g' sp.ms sp.ps 0 vs ((parts sp.rs y sp.rsh).drop sp.nres)
def SoundC (P : Program) (C : Ctx) : Prop := ∀ f sp, (f, sp) ∈ C.Γ → Sound P C.fuel f sp
theorem find_mem {l : List (FuncId × FSpec)} {p : FuncId × FSpec → Bool} {f : FuncId} {sp : FSpec} (hp : ∀ x, p x = true → x.1 = f) (h : (l.find? p).map (·.2) = some sp) : (f, sp) ∈ l := by
  cases hf : l.find? p with
  | none => rw [hf] at h; cases h
  | some x =>
    rw [hf] at h
    simp only [Option.map_some, Option.some.injEq] at h
    have h1 := hp x (List.find?_some hf)
    have h2 := List.mem_of_find?_eq_some hf
    rw [← h1, ← h]; exact h2
theorem SoundC.spec {C : Ctx} {f : FuncId} {sp : FSpec} (hS : SoundC P C) (h : C.spec f = some sp) : Sound P C.fuel f sp := hS f sp (find_mem (fun x hx => by simpa using hx) h)
theorem SoundC.specX {C : Ctx} {f : FuncId} {sp : FSpec} {xs : List Operand} (hS : SoundC P C) (h : C.specX f xs = some sp) : Sound P C.fuel f sp := hS f sp (find_mem (fun x hx => by simp only [Bool.and_eq_true, beq_iff_eq] at hx; exact hx.1) h)

theorem args_fz {w : World} {g : Gh} : (ts : Tys) → (ms : List Md) → {x : DL ts} → {n : Nat} → {vs : List Value} → ms.all (· matches .fz) = true → ms.length = ts.len → FrA P ts w g.fz x vs → ArgsR P w g ms ts x n vs
  | .nil, [], x, n, vs, hm, hl, h => by simp only [FrA] at h; simp only [ArgsR]; exact h
  | .cons t ts, .fz :: ms, x, n, vs, hm, hl, h => by
    simp only [FrA] at h
    obtain ⟨v, rest, rfl, h1, h2⟩ := h
    simp only [ArgsR]
    exact ⟨v, rest, rfl, h1, args_fz ts ms (by simpa using hm) (by simpa [Tys.len] using hl) h2⟩
  | .nil, _ :: _, x, n, vs, hm, hl, h => by simp [Tys.len] at hl
  | .cons _ _, [], x, n, vs, hm, hl, h => by simp [Tys.len] at hl
  | .cons _ _, .efz :: ms, x, n, vs, hm, hl, h => by simp at hm
  | .cons _ _, .nilp :: ms, x, n, vs, hm, hl, h => by simp at hm
  | .cons _ _, .mut _ :: ms, x, n, vs, hm, hl, h => by simp at hm
  | .cons _ _, .row _ :: ms, x, n, vs, hm, hl, h => by simp at hm

theorem res_fz {w : World} {g : Gh} : (ts : Tys) → (shs : List Sh) → {y : DL ts} → {us : List Value} → (k : Nat) → shs.all (· == .fz) = true → ts.len ≤ shs.length →
    us.length = (parts ts y shs).length → (∀ j z u, (parts ts y shs)[j]? = some z → us[j]? = some u → RpV P w g (.inr (k + j)) z.t [] z.sh z.v u) → FrA P ts w g.fz y us
  | .nil, shs, y, us, k, hs, hl, hz, h => by
    simp only [parts, List.length_nil] at hz
    simp only [FrA]; exact List.eq_nil_of_length_eq_zero hz
  | .cons t ts, [], y, us, k, hs, hl, hz, h => by simp [Tys.len] at hl
  | .cons t ts, s :: shs, y, us, k, hs, hl, hz, h => by
    cases us with
    | nil => simp [parts] at hz
    | cons u us =>
      simp only [List.all_cons, Bool.and_eq_true, beq_iff_eq] at hs
      simp only [FrA]
      have h0 := h 0 ⟨t, s, y.1⟩ u (by simp [parts]) rfl
      obtain ⟨rfl, hs⟩ := hs
      refine ⟨u, us, rfl, ⟨Rp.fr t rfl h0.1, h0.2⟩, res_fz ts shs (k + 1) hs (by simpa [Tys.len] using hl) (by simpa [parts] using hz) fun j z u' hj hu => ?_⟩
      have := h (j + 1) z u' (by simpa [parts] using hj) (by simpa using hu)
      rwa [show k + (j + 1) = k + 1 + j by omega] at this

theorem parts_length : (ts : Tys) → (y : DL ts) → (shs : List Sh) → (parts ts y shs).length = ts.len
  | .nil, y, shs => rfl
  | .cons t ts, y, [] => by simp [parts, Tys.len, parts_length ts]
  | .cons t ts, y, s :: shs => by simp [parts, Tys.len, parts_length ts]

/-- A function as a value. -/
theorem Sound.value {fuel : Nat} {f : FuncId} {sp : FSpec} (h : Sound P fuel f sp) (hm : sp.ms.all (· matches .fz) = true) (hl : sp.ms.length = sp.ps.len) (hs : sp.rsh.all (· == .fz) = true) (hsl : sp.rs.len ≤ sp.rsh.length)
    (hn : sp.nres = sp.rs.len) (hp : sp.rp = false) (w : World) (fz : Nat → Prop) : Fr P (.fn sp.ps sp.rs) w fz (fun x => sp.f fuel x) [.func (.func f) #[] #[]] := by
  simp only [Fr]
  refine .inr ⟨f, #[], rfl, h.1, fun x y hxy w' fz' _ hfz vs ha => ?_⟩
  let g : Gh := { st := fun _ => none, B := fun _ _ => 0, fz := fz' }
  have := h.2 x y hxy w' g vs ⟨fun b r π hb => (nomatch hb), hfz⟩ (args_fz (g := g) sp.ps sp.ms hm hl ha)
  rw [Array.append_empty]
  refine this.mono ?_
  rintro e w'' ⟨g', us, he, hok, hext, hres, _⟩
  refine ⟨us, g'.fz, he, ⟨hext.os, hext.tape, hext.output, hext.size, fun b hb => (hext.block b hb rfl).1⟩, fun b hb => hext.fz b hb, hok.fz, fun b hb => (hext.fzn b hb).imp id (fun h => h.resolve_left (fun h => h rfl)), ?_⟩
  rw [hn, List.take_of_length_le (by rw [parts_length]; omega)] at hres
  refine res_fz (g := g') sp.rs sp.rsh 0 hs hsl hres.1 fun j z u hj hu => ?_
  have := hres.2 j z u hj hu
  rw [hp] at this
  rw [Nat.zero_add]
  exact this
end Go.Ev

/- Steps that turn no memory. -/
namespace Go.Ev
open Go.RowKit
variable {P : Program}

def putT (tm : Array Value) (dst : Option Nat) (y : Value) : Array Value := match dst with
  | some d => tm.setIfInBounds d y
  | none => tm
def finE (σ : Env) (dst : Option Nat) (c : G) (s : S) : Env := match dst with
  | some d => σ.fin d c s
  | none => σ
/-- A slot that may be filled. -/
def DstOk (A : Nat → Value) (σ : Env) (c : G) (dst : Option Nat) (tm : Array Value) : Prop := ∀ d, dst = some d → (∀ n b, (d, b) ∉ (σ.get n).gd) ∧ (∀ b, (d, b) ∉ c) ∧ d < tm.size ∧ A d = undef
theorem DstOk.mild {A : Nat → Value} {σ σ' : Env} {c : G} {dst : Option Nat} {tm : Array Value} (h : DstOk A σ c dst tm) (m : Mild σ σ') : DstOk A σ' c dst tm := fun d hd =>
  ⟨fun n b => by rw [m.gd n]; exact (h d hd).1 n b, (h d hd).2⟩

section
variable {α R' : Type} {A : Nat → Value} {w : World} {g : Gh} {tm : Array Value} {σ : Env} {c : G} {K : α → Env → Option R'} {r : R'}

theorem fin_ok {dst : Option Nat} {s : S} {K : Unit → Env → Option R'} (h : (fin c dst s).run σ K = some r) : K () (finE σ dst c s) = some r := by
  cases dst <;> exact h
theorem castK_ok {u t : Ty} {v : D t} {k : D u → Acc α} (h : (castK u t v k).run σ K = some r) : ∃ e : t = u, (k (e ▸ v)).run σ K = some r := by
  simp only [castK] at h
  cases hd : Ty.dec t u with
  | isTrue e => rw [hd] at h; exact ⟨e, h⟩
  | isFalse e => rw [hd] at h; cases h
theorem nd_ok {b p : Bool} {k : Acc α} (hcg : c.isEmpty = true → b = true) (h : (nd c b p k).run σ K = some r) : (b = true → p = true) ∧ k.run σ K = some r := by
  simp only [nd, Acc.run] at h
  by_cases he : c.isEmpty = true
  · rw [if_pos he] at h
    cases p
    · simp at h
    · exact ⟨fun _ => rfl, by simpa using h⟩
  · rw [if_neg he] at h
    cases b <;> cases p <;> simp_all

theorem getD_set {tm : Array Value} {d : Nat} {y : Value} (n : Nat) (hd : d < tm.size) : (tm.setIfInBounds d y).getD n undef = if n = d then y else tm.getD n undef := by
  simp only [Array.getD_eq_getD_getElem?, Array.getElem?_setIfInBounds]
  by_cases h : d = n
  · subst h; simp [hd]
  · rw [if_neg h, if_neg (fun e => h e.symm)]

theorem SR.light_fin {w' : World} {g' : Gh} {dst : Option Nat} {y s : S} {n pv : Nat} {x : Value} (hl : s.light = true) (hv : VerOk σ s)
    (k : Keeps (fun r => ∃ n, r = .inl n ∧ dst ≠ some n) w g w' g') (hs : SR P w g A σ n pv s x) : SR P w' g' A (finE σ dst c y) n pv s x := by
  have hg : ∀ j, dst ≠ some j → (finE σ dst c y).get j = σ.get j := by
    intro j hj
    cases dst with
    | none => rfl
    | some d => exact (Env.fin_get σ d c y j).trans (if_neg (fun e => hj (by rw [e])))
  have hgv : ∀ j, dst = some j → (σ.get j).ver < ((finE σ dst c y).get j).ver := by
    rintro j rfl
    simp only [finE, Env.fin_get, if_true]; omega
  cases s with
  | undef => trivial
  | nilc => exact hs
  | strc b => exact hs
  | fnc f => exact hs
  | val t sh v => exact ⟨Rp.fzgo t hl k.old hs.1, hs.2⟩
  | box t sh v => simp [S.light] at hl
  | rowp e t sh v => simp [S.light] at hl
  | tup l => simp [S.light] at hl
  | shal => simp [S.light] at hl
  | cut h' ver q lo hi e t =>
    by_cases e : dst = some h'
    · intro h1
      have := hgv h' e
      simp only [VerOk, Young] at hv
      omega
    · intro h1 h2
      rw [hg h' e] at h1 h2 ⊢
      exact (hs h1 h2).keep (k.base _ ⟨_, rfl, e⟩)
  | ea t v =>
    obtain ⟨b, o, hx, hb, hf⟩ := hs
    exact ⟨b, o, hx, (k.old b hb).1, by rw [rowL_congr (k.old b hb).2]; exact Fr.mono t k.old hf⟩
  | ref h' ver q p t =>
    by_cases e : dst = some h'
    · intro h1
      have := hgv h' e
      simp only [VerOk, Young] at hv
      omega
    · intro h1 h2
      rw [hg h' e] at h1 h2 ⊢
      obtain ⟨m, hm, hmr⟩ := hs h1 h2
      exact ⟨m, hm, RefR.keep k ⟨_, rfl, e⟩ hmr⟩
  | addr h' ver p t =>
    by_cases e : dst = some h'
    · intro h1
      have := hgv h' e
      simp only [VerOk, Young] at hv
      omega
    · intro h1
      rw [hg h' e] at h1 ⊢
      obtain ⟨m, hm, hmr⟩ := hs h1
      exact ⟨m, hm, AddrR.keep (k.base _ ⟨_, rfl, e⟩) hmr⟩

theorem VerOk.fin {dst : Option Nat} {y s : S} (h : VerOk σ s) : VerOk (finE σ dst c y) s := by
  cases dst with
  | none => exact h
  | some d =>
    refine h.keep fun j => ?_
    show _ < ((σ.fin d c y).get j).ver ∨ _ = ((σ.fin d c y).get j).ver ∧ _ ≤ ((σ.fin d c y).get j).pv
    rw [Env.fin_get]; split
    · rename_i e; left; rw [e]; show _ < _ + 1; omega
    · right; exact ⟨rfl, Nat.le_refl _⟩

/-- A slot is filled with something outside the homes; the world may have grown. -/
theorem Rel.light (R : Rel P A w g tm σ) {dst : Option Nat} {s : S} {y : Value} (hD : DstOk A σ c dst tm) (hc : Gd σ c) (hl : s.light = true) (hv : VerOk σ s)
    (hs : σ.on c = true → SR P w g A σ 0 0 s y) (hoff : σ.on c = false → y = undef) : Rel P A w g (putT tm dst y) (finE σ dst c s) := by
  cases dst with
  | none => exact R
  | some d =>
    obtain ⟨h1, h2, h3, hA⟩ := hD d rfl
    refine R.fin hA h1 h2 hc (Keeps.refl _ _ _) R.own R.fz (fun n hn => ?_) (fun ho => ?_) (hv.fin (dst := some d)) (fun ho => ?_)
    · simp only [putT, getD_set n h3, if_neg hn]
    · simp only [putT, getD_set d h3, if_true]; exact hoff ho
    · simp only [putT, getD_set d h3, if_true]
      exact (SR.light_fin (dst := some d) hl hv (Keeps.refl _ _ _) (hs ho)).light_n hl

/-- A slot is filled with a value under way. -/
theorem Rel.value (R : Rel P A w g tm σ) {dst : Option Nat} {t : Ty} {sh : Sh} {v : D t} {y : Value} (fk : Nat) (hD : DstOk A σ c dst tm) (hc : Gd σ c)
    (hs : σ.on c = true → RpV P w g (.inr fk) t [] sh v y) (hoff : σ.on c = false → y = undef) :
    ∃ g', Rel P A w g' (putT tm dst y) (finE σ dst c (.val t sh v)) ∧ Ext w g w g' := by
  cases dst with
  | none => exact ⟨g, R, Ext.refl _ _⟩
  | some d =>
    obtain ⟨h1, h2, h3, hA⟩ := hD d rfl
    have hne : (Sum.inr fk : Root) ≠ .inl d := by simp
    refine ⟨turnG g (.inr fk) [] .gone [] (.inl d) [], ?_, turnG_ext w⟩
    refine R.fin hA h1 h2 hc ((turnG_keeps w).mono ?_) (turnG_own R.own hne) (turnG_fz R.own R.fz) (fun n hn => ?_) (fun ho => ?_) trivial (fun ho => ?_)
    · rintro r ⟨n, rfl, hn⟩
      exact ⟨by simp, by simpa using hn⟩
    · simp only [putT, getD_set n h3, if_neg hn]
    · simp only [putT, getD_set d h3, if_true]; exact hoff ho
    · simp only [putT, getD_set d h3, if_true]
      exact (hs ho).go (turnG_goes (π0 := []) (p := []) hne fun q => rfl)

theorem look_ok {s : S} {x : Value} {k : PV → Acc α} (H : Held P A w g σ c s x) (h : (look c s k).run σ K = some r) :
    ∃ y, (k y).run σ K = some r ∧ y.sh.noGone = true ∧ (σ.on c = true → ∃ ro π, RpV P w g ro y.t π y.sh y.v x) := by
  cases s with
  | val t sh v => exact ⟨_, h, isFz_noGone _ H.light, fun ho => ⟨_, _, H.mean ho⟩⟩
  | ref hn ver pv p t =>
    simp only [look] at h
    obtain ⟨m, hm, h, hv, hp, hs⟩ := homeR_ok h
    split at h
    · rename_i hng
      have hr := fun ho => H.ref hm hv hp ho
      unfold RefR at hr
      generalize getP m.t m.v p = tv at h hr
      obtain ⟨t', v'⟩ := tv
      exact ⟨_, h, hng, fun ho => ⟨_, _, (hr ho).2.2.1⟩⟩
    · cases h
  | _ => simp [look, Acc.run] at h
theorem RpV.int {ro : Root} {π : List Nat} {kd : IntKind} {sh : Sh} {n : Int} {x : Value} (h : RpV P w g ro (.int kd) π sh n x) (hs : sh.noGone = true) : x = .int kd n := by
  obtain ⟨h, ha⟩ := h
  simp only [Rp] at h
  rcases h with ⟨_, h⟩ | ⟨rfl, _⟩
  · exact cells_int (by simpa only [Fr] using h) ha
  · simp [Sh.noGone] at hs
theorem RpV.bool {ro : Root} {π : List Nat} {sh : Sh} {b : Bool} {x : Value} (h : RpV P w g ro .bool π sh b x) (hs : sh.noGone = true) : x = .bool b := by
  obtain ⟨h, ha⟩ := h
  simp only [Rp] at h
  rcases h with ⟨_, h⟩ | ⟨rfl, _⟩
  · rw [cells_one ha] at h; simpa [Fr] using h
  · simp [Sh.noGone] at hs
theorem lookInt_ok {s : S} {x : Value} {k : Int → Acc α} (H : Held P A w g σ c s x) (h : (lookInt c s k).run σ K = some r) :
    ∃ n, (k n).run σ K = some r ∧ (σ.on c = true → ∃ kd, x = .int kd n) := by
  obtain ⟨y, h, hs, hy⟩ := look_ok H h
  obtain ⟨t, sh, v⟩ := y
  cases t <;> simp only at h <;> try (cases h; done)
  exact ⟨v, h, fun ho => by obtain ⟨ro, π, hr⟩ := hy ho; exact ⟨_, hr.int hs⟩⟩
theorem lookAs_ok {u : Ty} {s : S} {x : Value} {k : D u → Acc α} (H : Held P A w g σ c s x) (h : (lookAs c u s k).run σ K = some r) :
    ∃ sh v, (k v).run σ K = some r ∧ sh.noGone = true ∧ (σ.on c = true → ∃ ro π, RpV P w g ro u π sh v x) := by
  obtain ⟨y, h, hs, hy⟩ := look_ok H h
  obtain ⟨e, h⟩ := castK_ok h
  subst e
  exact ⟨_, _, h, hs, hy⟩
end
end Go.Ev

/- The types of a program as typed values see them. -/
namespace Go.Ev
open Go.RowKit
variable {P : Program}

mutual
def zeroCells : Ty → List Value
  | .int k => [.int k 0]
  | .bool => [.bool false]
  | .sl _ _ => [.slice none 0 0]
  | .fn _ _ => [.nilFunc]
  | .agg f => zeroCellsL f
  | .arr n t => (List.replicate n (zeroCells t)).flatten
def zeroCellsL : Tys → List Value
  | .nil => []
  | .cons t ts => zeroCells t ++ zeroCellsL ts
end
def eatN (f : List Value → Option (List Value)) : Nat → List Value → Option (List Value)
  | 0, l => some l
  | n + 1, l => (f l).bind (eatN f n)
mutual
/-- A zero at the head of the cells is taken off. -/
def zeroEat : Ty → List Value → Option (List Value)
  | .int k, .int k' n :: l => if k = k' ∧ n = 0 then some l else none
  | .bool, .bool false :: l => some l
  | .sl _ _, .slice none 0 0 :: l => some l
  | .fn _ _, .nilFunc :: l => some l
  | .agg f, l => zeroEatL f l
  | .arr n t, l => eatN (zeroEat t) n l
  | _, _ => none
def zeroEatL : Tys → List Value → Option (List Value)
  | .nil, l => some l
  | .cons t ts, l => (zeroEat t l).bind (zeroEatL ts)
end
theorem eatN_eq {f : List Value → Option (List Value)} {z : List Value} (h : ∀ l r, f l = some r → l = z ++ r) : (n : Nat) → (l r : List Value) → eatN f n l = some r → l = (List.replicate n z).flatten ++ r
  | 0, l, r, e => by simp only [eatN, Option.some.injEq] at e; subst e; rfl
  | n + 1, l, r, e => by
    simp only [eatN] at e
    cases hf : f l with
    | none => rw [hf] at e; cases e
    | some l' =>
      rw [hf] at e
      rw [h l l' hf, eatN_eq h n l' r e, List.replicate_succ, List.flatten_cons, List.append_assoc]
mutual
theorem zeroEat_eq : (t : Ty) → (l r : List Value) → zeroEat t l = some r → l = zeroCells t ++ r
  | .int k, l, r, e => by
    cases l with
    | nil => simp [zeroEat] at e
    | cons x l => cases x <;> simp_all [zeroEat, zeroCells]
  | .bool, l, r, e => by
    cases l with
    | nil => simp [zeroEat] at e
    | cons x l =>
      cases x <;> try (simp [zeroEat] at e; done)
      rename_i b
      cases b <;> simp_all [zeroEat, zeroCells]
  | .sl e' t, l, r, e => by
    cases l with
    | nil => simp [zeroEat] at e
    | cons x l =>
      cases x <;> try (simp [zeroEat] at e; done)
      rename_i a n c
      cases a <;> cases n <;> cases c <;> simp_all [zeroEat, zeroCells]
  | .fn _ _, l, r, e => by
    cases l with
    | nil => simp [zeroEat] at e
    | cons x l => cases x <;> simp_all [zeroEat, zeroCells]
  | .agg f, l, r, e => by
    have e : zeroEatL f l = some r := by cases l <;> exact e
    simp only [zeroCells]; exact zeroEatL_eq f l r e
  | .arr n t, l, r, e => by
    have e : eatN (zeroEat t) n l = some r := by cases l <;> exact e
    simp only [zeroCells]; exact eatN_eq (fun l r => zeroEat_eq t l r) n l r e
theorem zeroEatL_eq : (ts : Tys) → (l r : List Value) → zeroEatL ts l = some r → l = zeroCellsL ts ++ r
  | .nil, l, r, e => by simp only [zeroEatL, Option.some.injEq] at e; subst e; rfl
  | .cons t ts, l, r, e => by
    simp only [zeroEatL] at e
    cases hf : zeroEat t l with
    | none => rw [hf] at e; cases e
    | some l' =>
      rw [hf] at e
      rw [zeroEat_eq t l l' hf, zeroEatL_eq ts l' r e, zeroCellsL, List.append_assoc]
end

def infoOk (P : Program) (tid : TypeId) (t : Ty) : Bool := match P.info? tid with
  | some i => i.size == t.size && decide (0 < t.size) && decide (i.bytes ≤ bytesOf t) && (match i.zero with
    | some z => (match zeroEat t z.cells.toList with | some [] => true | _ => false) && isAggV z == t.isAgg
    | none => false)
  | none => false
mutual
/-- The program's type is the one that the values see. -/
def tyOk (P : Program) : TypeId → Ty → Bool
  | tid, .int k => infoOk P tid (.int k) && (match P.underlying tid with | some (.int k') => decide (k = k') | _ => false)
  | tid, .bool => infoOk P tid .bool && (match P.underlying tid with | some .bool => true | _ => false)
  | tid, .sl e t => infoOk P tid (.sl e t) && (match P.underlying tid with | some (.slice e') => e == e' | _ => false) && tyOk P e t
  | tid, .fn a r => infoOk P tid (.fn a r) && (match P.underlying tid with | some (.func ..) => true | _ => false)
  | tid, .arr n t => infoOk P tid (.arr n t) && (match P.underlying tid with | some (.array n' e) => n == n' && tyOk P e t | _ => false)
  | tid, .agg f => infoOk P tid (.agg f) && (match P.underlying tid with | some (.struct fs) => fieldsOk P fs.toList f 0 | _ => false)
def fieldsOk (P : Program) : List Field → Tys → Nat → Bool
  | [], .nil, _ => true
  | f :: fs, .cons t ts, o => f.offset == o && tyOk P f.type t && fieldsOk P fs ts (o + t.size)
  | _, _, _ => false
end
structure Info (P : Program) (tid : TypeId) (t : Ty) : Prop where
  ex : ∃ i z, P.info? tid = some i ∧ i.size = t.size ∧ 0 < t.size ∧ i.bytes ≤ bytesOf t ∧ i.zero = some z ∧ z.cells.toList = zeroCells t ∧ isAggV z = t.isAgg
theorem Info.of {tid : TypeId} {t : Ty} (h : infoOk P tid t = true) : Info P tid t := by
  unfold infoOk at h
  cases hi : P.info? tid with
  | none => rw [hi] at h; simp at h
  | some i =>
    rw [hi] at h
    simp only [Bool.and_eq_true, beq_iff_eq, decide_eq_true_eq] at h
    obtain ⟨⟨⟨h1, h0⟩, h2⟩, h3⟩ := h
    cases hz : i.zero with
    | none => rw [hz] at h3; simp at h3
    | some z =>
      rw [hz] at h3
      simp only [Bool.and_eq_true, beq_iff_eq] at h3
      obtain ⟨h3, h4⟩ := h3
      refine ⟨i, z, hi, h1, h0, h2, hz, ?_, h4⟩
      cases he : zeroEat t z.cells.toList with
      | none => rw [he] at h3; simp at h3
      | some l =>
        cases l with
        | nil => simpa using zeroEat_eq t _ _ he
        | cons _ _ => rw [he] at h3; simp at h3
theorem tyOk_info {tid : TypeId} {t : Ty} (h : tyOk P tid t = true) : Info P tid t := by
  cases t <;> simp only [tyOk, Bool.and_eq_true] at h
  · exact .of h.1
  · exact .of h.1
  · exact .of h.1
  · exact .of h.1.1
  · exact .of h.1
  · exact .of h.1
/-- What the program calls the type. -/
def UnderOk (P : Program) : Ty → TypeDesc → Prop
  | .int k, d => d = .int k
  | .bool, d => d = .bool
  | .sl e t, d => d = .slice e ∧ tyOk P e t = true
  | .fn _ _, d => ∃ a b c, d = .func a b c
  | .arr n t, d => ∃ e, d = .array n e ∧ tyOk P e t = true
  | .agg f, d => ∃ fs, d = .struct fs ∧ fieldsOk P fs.toList f 0 = true
theorem tyOk_under {tid : TypeId} {t : Ty} (h : tyOk P tid t = true) : ∃ d, P.underlying tid = some d ∧ UnderOk P t d := by
  cases hu : P.underlying tid with
  | none => cases t <;> simp [tyOk, hu] at h
  | some d =>
    refine ⟨d, rfl, ?_⟩
    cases t with
    | int k => cases d <;> simp_all [tyOk, UnderOk]
    | bool => cases d <;> simp_all [tyOk, UnderOk]
    | agg f => cases d <;> simp_all [tyOk, UnderOk]
    | sl e t =>
      cases d <;> simp only [tyOk, hu, Bool.and_eq_true, beq_iff_eq] at h <;> try (simp at h; done)
      obtain ⟨⟨_, rfl⟩, h⟩ := h
      exact ⟨rfl, h⟩
    | arr n t => cases d <;> simp_all [tyOk, UnderOk]
    | fn a r => cases d <;> simp_all [tyOk, UnderOk]
theorem fieldsOk_get : (fs : List Field) → (f : Tys) → (o : Nat) → fieldsOk P fs f o = true → (i : Nat) → i < f.len → ∃ x, fs[i]? = some x ∧ x.offset = o + f.off i ∧ tyOk P x.type (f.get i) = true
  | [], .nil, o, h, i, hi => by simp [Tys.len] at hi
  | x :: fs, .nil, o, h, i, hi => by simp [fieldsOk] at h
  | [], .cons t ts, o, h, i, hi => by simp [fieldsOk] at h
  | x :: fs, .cons t ts, o, h, i, hi => by
    simp only [fieldsOk, Bool.and_eq_true, beq_iff_eq] at h
    cases i with
    | zero => exact ⟨x, rfl, by simp [Tys.off, h.1.1], h.1.2⟩
    | succ i =>
      obtain ⟨y, h1, h2, h3⟩ := fieldsOk_get fs ts _ h.2 i (by simpa [Tys.len] using hi)
      exact ⟨y, by simpa using h1, by simp only [Tys.off]; omega, h3⟩

theorem run_sizeOf {tid : TypeId} {t : Ty} (h : Info P tid t) (w : World) : (sizeOf tid).run P w = .ok t.size w := by
  obtain ⟨i, z, hi, hs, _⟩ := h.ex
  simp [sizeOf, typeInfo, hi, hs]
theorem run_isAgg {tid : TypeId} {t : Ty} (h : tyOk P tid t = true) (w : World) : (isAgg tid).run P w = .ok t.isAgg w := by
  obtain ⟨d, hd, hu⟩ := tyOk_under h
  unfold isAgg
  rw [Sem.run_bind, run_underlying hd w]
  cases t <;> simp only [UnderOk] at hu
  · subst hu; rfl
  · subst hu; rfl
  · obtain ⟨fs, rfl, _⟩ := hu; rfl
  · obtain ⟨rfl, _⟩ := hu; rfl
  · obtain ⟨e, rfl, _⟩ := hu; rfl
  · obtain ⟨a, b, c, rfl⟩ := hu; rfl

/-- Every entry of a table of types is right. -/
def TOk (P : Program) (T : List (TypeId × Ty)) : Bool := T.all fun x => tyOk P x.1 x.2
theorem TOk.ty {C : Ctx} (h : TOk P C.T = true) {tid : TypeId} {t : Ty} (ht : C.ty tid = some t) : tyOk P tid t = true := by
  unfold Ctx.ty at ht
  cases hf : C.T.find? (fun x => x.1 == tid) with
  | none => rw [hf] at ht; cases ht
  | some x =>
    rw [hf] at ht
    simp only [Option.map_some, Option.some.injEq] at ht
    have h1 := List.find?_some hf
    have h2 := List.mem_of_find?_eq_some hf
    simp only [TOk, List.all_eq_true] at h
    have := h x h2
    simp only [beq_iff_eq] at h1
    rwa [h1, ht] at this
end Go.Ev

/- Operations, one by one. -/
namespace Go.Ev
open Go.RowKit
variable {P : Program}

def Post {R' : Type} (P : Program) (A : Nat → Value) (w : World) (g : Gh) (ds : List Deferred) (n : Nat) (K : Unit → Env → Option R') (r : R') (a' : Act) (w' : World) : Prop :=
  ∃ g' σ', Rel P A w' g' a'.tmps σ' ∧ Ext w g w' g' ∧ a'.defers = ds ∧ a'.tmps.size = n ∧ K () σ' = some r
def OpDoes {R' : Type} (P : Program) (A : Nat → Value) (o : Oper) (w : World) (g : Gh) (tm : Array Value) (ds : List Deferred) (on : Bool) (K : Unit → Env → Option R') (r : R')
    (Q : Exit → Act → World → Prop) : Prop :=
  if on = true then o.wp P ⟨tm, ds⟩ w (Post P A w g ds tm.size K r) Q else Post P A w g ds tm.size K r ((⟨tm, ds⟩ : Act).put o.dst undef) w

theorem put_tmps (tm : Array Value) (ds : List Deferred) (dst : Option Nat) (y : Value) : ((⟨tm, ds⟩ : Act).put dst y).tmps = putT tm dst y := by cases dst <;> rfl
theorem put_defers (tm : Array Value) (ds : List Deferred) (dst : Option Nat) (y : Value) : ((⟨tm, ds⟩ : Act).put dst y).defers = ds := by cases dst <;> rfl
theorem putT_size (tm : Array Value) (dst : Option Nat) (y : Value) : (putT tm dst y).size = tm.size := by cases dst <;> simp [putT]

section
variable {R' : Type} {A : Nat → Value} {w : World} {g g0 : Gh} {tm : Array Value} {ds : List Deferred} {σ : Env} {c : G} {K : Unit → Env → Option R'} {r : R'} {Q : Exit → Act → World → Prop} {o : Oper} {C : Ctx}

theorem does_light {s : S} {on : Bool} (R : Rel P A w g tm σ) (E : Ext w g0 w g) (hon : σ.on c = on) (hD : DstOk A σ c o.dst tm) (hc : Gd σ c) (h : (fin c o.dst s).run σ K = some r) (hl : s.light = true) (hv : VerOk σ s)
    (hs : σ.on c = true → ∃ y, (execOp (Act.eval ⟨tm, ds⟩) o).run P w = .ok (.value y) w ∧ SR P w g A σ 0 0 s y) : OpDoes P A o w g0 tm ds on K r Q := by
  unfold OpDoes
  have hK := fin_ok h
  split
  · rename_i ho
    rw [← hon] at ho
    obtain ⟨y, hr, hs⟩ := hs ho
    unfold Oper.wp
    rw [hr]
    refine ⟨g, _, ?_, E, put_defers _ _ _ _, ?_, hK⟩
    · rw [put_tmps]
      exact R.light hD hc hl hv (fun _ => hs) (fun hf => by rw [ho] at hf; cases hf)
    · rw [put_tmps, putT_size]
  · rename_i ho
    rw [← hon] at ho
    refine ⟨g, _, ?_, E, put_defers _ _ _ _, ?_, hK⟩
    · rw [put_tmps]
      exact R.light hD hc hl hv (fun h1 => absurd h1 ho) (fun _ => rfl)
    · rw [put_tmps, putT_size]
theorem does_value {t : Ty} {sh : Sh} {v : D t} {on : Bool} (fk : Nat) (R : Rel P A w g tm σ) (E : Ext w g0 w g) (hon : σ.on c = on) (hD : DstOk A σ c o.dst tm) (hc : Gd σ c) (h : (fin c o.dst (.val t sh v)).run σ K = some r)
    (hs : σ.on c = true → ∃ y, (execOp (Act.eval ⟨tm, ds⟩) o).run P w = .ok (.value y) w ∧ RpV P w g (.inr fk) t [] sh v y) : OpDoes P A o w g0 tm ds on K r Q := by
  unfold OpDoes
  have hK := fin_ok h
  split
  · rename_i ho
    rw [← hon] at ho
    obtain ⟨y, hr, hs⟩ := hs ho
    unfold Oper.wp
    rw [hr]
    obtain ⟨g', R', E'⟩ := R.value (dst := o.dst) (y := y) fk hD hc (fun _ => hs) (fun hf => by rw [ho] at hf; cases hf)
    refine ⟨g', _, ?_, E.trans E', put_defers _ _ _ _, ?_, hK⟩
    · rw [put_tmps]; exact R'
    · rw [put_tmps, putT_size]
  · rename_i ho
    rw [← hon] at ho
    obtain ⟨g', R', E'⟩ := R.value (dst := o.dst) (y := undef) (t := t) (sh := sh) (v := v) fk hD hc (fun h1 => absurd h1 ho) (fun _ => rfl)
    refine ⟨g', _, ?_, E.trans E', put_defers _ _ _ _, ?_, hK⟩
    · rw [put_tmps]; exact R'
    · rw [put_tmps, putT_size]

theorem SR_int (kd : IntKind) (n : Int) : SR P w g A σ 0 0 (.val (.int kd) .fz n) (.int kd n) := ⟨Rp.of_fr _ (by simp [Fr, Value.cells]), rfl⟩
theorem SR_bool (b : Bool) : SR P w g A σ 0 0 (.val .bool .fz b) (.bool b) := ⟨Rp.of_fr _ (by simp [Fr, Value.cells]), rfl⟩

theorem not_tup {α : Type} {s : S} {k : PV → Acc α} {K : α → Env → Option R'} (h : (look c s k).run σ K = some r) : s.isTup = false := by
  cases s <;> first | rfl | (simp [look, Acc.run] at h)

theorem oUn_ok {op : UnOp} {ty : TypeId} {x : Operand} (R : Rel P A w g tm σ) (hD : DstOk A σ c o.dst tm) (hc : Gd σ c) (ho : o.op = .unOp op ty x) (h : (oUn c o op x).run σ K = some r) :
    OpDoes P A o w g tm ds (σ.on c) K r Q := by
  unfold oUn at h
  obtain ⟨i, s, h, H, _⟩ := rd_ok R ds h
  obtain ⟨y, h, hng, hy⟩ := look_ok (H (not_tup h)) h
  obtain ⟨t, sh, v⟩ := y
  cases op <;> cases t <;> simp only at h <;> try (cases h; done)
  · refine does_light R (Ext.refl _ _) rfl hD hc h rfl trivial (fun hon => ?_)
    obtain ⟨ro, π, hr⟩ := hy hon
    refine ⟨_, ?_, SR_int _ _⟩
    simp [execOp, ho, hr.int hng, Op.unary, Op.intArith]
  · refine does_light R (Ext.refl _ _) rfl hD hc h rfl trivial (fun hon => ?_)
    obtain ⟨ro, π, hr⟩ := hy hon
    refine ⟨_, ?_, SR_bool _⟩
    simp [execOp, ho, hr.bool hng, Op.unary]

theorem oConvert_ok {a b : TypeId} {x : Operand} (hT : TOk P C.T = true) (R : Rel P A w g tm σ) (hD : DstOk A σ c o.dst tm) (hc : Gd σ c) (ho : o.op = .convert a b x) (ha : (C.ty a).isSome = true) (h : (oConvert C c o b x).run σ K = some r) :
    OpDoes P A o w g tm ds (σ.on c) K r Q := by
  unfold oConvert at h
  cases hb : C.ty b with
  | none => rw [hb] at h; cases h
  | some tb =>
    rw [hb] at h
    cases tb <;> simp only at h <;> try (cases h; done)
    rename_i k
    obtain ⟨i, s, h, H, _⟩ := rd_ok R ds h
    obtain ⟨y, h, hng, hy⟩ := look_ok (H (not_tup h)) h
    obtain ⟨t, sh, v⟩ := y
    cases t <;> simp only at h <;> try (cases h; done)
    refine does_light R (Ext.refl _ _) rfl hD hc h rfl trivial (fun hon => ?_)
    obtain ⟨ro, π, hr⟩ := hy hon
    refine ⟨_, ?_, SR_int _ _⟩
    obtain ⟨d, hd, hu⟩ := tyOk_under (TOk.ty hT hb)
    simp only [UnderOk] at hu
    subst hu
    obtain ⟨ta, hta⟩ := Option.isSome_iff_exists.1 ha
    obtain ⟨d', hd', _⟩ := tyOk_under (TOk.ty hT hta)
    simp [execOp, ho, hr.int hng, convert, run_underlying hd, run_underlying hd', Conv.intToInt]

theorem fresh_ok {α : Type} {K : α → Env → Option R'} {hn ver : Nat} {k : Acc α} (h : (fresh c hn ver k).run σ K = some r) : (σ.get hn).ver = ver ∧ sub (σ.get hn).gd c = true ∧ k.run σ K = some r := by
  simp only [fresh, Acc.run] at h
  split at h
  · rename_i hh
    simp only [Bool.and_eq_true, beq_iff_eq] at hh
    exact ⟨hh.1, hh.2, h⟩
  · cases h
theorem Held.addr' {hn ver : Nat} {p : Path} {t : Ty} {x : Value} (H : Held P A w g σ c (.addr hn ver p t) x) (hv : (σ.get hn).ver = ver) (ho : σ.on c = true) :
    ∃ m, homeOf (σ.get hn).s = some m ∧ AddrR g hn m p t x := H.mean ho hv

theorem oNilCheck_ok {x : Operand} (R : Rel P A w g tm σ) (hD : DstOk A σ c o.dst tm) (hc : Gd σ c) (ho : o.op = .nilCheck x)
    (h : (rd c x fun i s => (match s with | .addr h ver _ _ => fresh c h ver (fin c o.dst s) | .ea .. => fin c o.dst s | _ => .fail)).run σ K = some r) : OpDoes P A o w g tm ds (σ.on c) K r Q := by
  obtain ⟨i, s, h, H, _⟩ := rd_ok R ds h
  cases s <;> simp only at h <;> try (cases h; done)
  · have H := H rfl
    refine does_light R (Ext.refl _ _) rfl hD hc h rfl H.ver (fun hon => ⟨_, ?_, H.mean hon⟩)
    obtain ⟨b, k, hx, _⟩ := H.mean hon
    simp [execOp, ho, hx]
  · have H := H rfl
    obtain ⟨hv, _, h⟩ := fresh_ok h
    refine does_light R (Ext.refl _ _) rfl hD hc h rfl H.ver (fun hon => ⟨_, ?_, H.mean hon⟩)
    obtain ⟨m, _, _, _, b, k, hx, _⟩ := H.addr' hv hon
    simp [execOp, ho, hx]

theorem tyAt_cases {s : Step} {p : Path} {t u : Ty} (h : tyAt t (s :: p) = some u) :
    (∃ i f, s = .fld i ∧ t = .agg f ∧ i < f.len ∧ tyAt (f.get i) p = some u) ∨ (∃ i e t', s = .idx i ∧ t = .sl e t' ∧ tyAt t' p = some u) ∨ (∃ i n t', s = .idx i ∧ t = .arr n t' ∧ tyAt t' p = some u) := by
  cases s <;> cases t <;> simp only [tyAt] at h <;> try (cases h; done)
  · split at h
    · rename_i hi; exact .inl ⟨_, _, rfl, rfl, hi, h⟩
    · cases h
  · exact .inr (.inl ⟨_, _, _, rfl, rfl, h⟩)
  · exact .inr (.inr ⟨_, _, _, rfl, rfl, h⟩)
theorem getP_append : (p : Path) → {t u : Ty} → {v : D t} → tyAt t p = some u → (q : Path) → getP t v (p ++ q) = getP (getP t v p).t (getP t v p).v q
  | [], t, u, v, h, q => by rw [getP_nil]; rfl
  | s :: p, t, u, v, h, q => by
    rcases tyAt_cases h with ⟨i, f, rfl, rfl, hi, h⟩ | ⟨i, e, t', rfl, rfl, h⟩ | ⟨i, n, t', rfl, rfl, h⟩
    all_goals
      simp only [List.cons_append, getP]
      exact getP_append p h q
theorem getP_ty : (p : Path) → {t u : Ty} → {v : D t} → tyAt t p = some u → (getP t v p).t = u
  | [], t, u, v, h => by rw [getP_nil]; rw [tyAt_nil] at h; simpa using h
  | s :: p, t, u, v, h => by
    rcases tyAt_cases h with ⟨i, f, rfl, rfl, hi, h⟩ | ⟨i, e, t', rfl, rfl, h⟩ | ⟨i, n, t', rfl, rfl, h⟩
    all_goals
      simp only [getP]
      exact getP_ty p h
theorem tyAt_append : (p : Path) → {t u : Ty} → tyAt t p = some u → (q : Path) → tyAt t (p ++ q) = tyAt u q
  | [], t, u, h, q => by rw [tyAt_nil] at h; simp only [Option.some.injEq] at h; subst h; rfl
  | s :: p, t, u, h, q => by
    rcases tyAt_cases h with ⟨i, f, rfl, rfl, hi, h⟩ | ⟨i, e, t', rfl, rfl, h⟩ | ⟨i, n, t', rfl, rfl, h⟩
    · simp only [List.cons_append, tyAt, if_pos hi]; exact tyAt_append p h q
    · simp only [List.cons_append, tyAt]; exact tyAt_append p h q
    · simp only [List.cons_append, tyAt]; exact tyAt_append p h q
theorem shAt_append : (p : Path) → (sh : Sh) → (q : Path) → shAt sh (p ++ q) = shAt (shAt sh p) q
  | [], sh, q => by have : shAt sh [] = sh := by cases sh <;> rfl
                    rw [this]; rfl
  | s :: p, sh, q => by
    cases s with
    | fld i => rw [List.cons_append, shAt_fld, shAt_fld]; exact shAt_append p _ q
    | idx i =>
      cases sh <;> simp only [List.cons_append, shAt]
      · cases q with
        | nil => rfl
        | cons s q => cases s <;> rfl
      · cases q with
        | nil => rfl
        | cons s q => cases s <;> rfl
      · cases q with
        | nil => rfl
        | cons s q => cases s <;> rfl
      · exact shAt_append p _ q
      · cases q with
        | nil => rfl
        | cons s q => cases s <;> rfl
      · cases q with
        | nil => rfl
        | cons s q => cases s <;> rfl
theorem Valid_append : (p : Path) → {t u : Ty} → {sh : Sh} → {v : D t} → tyAt t p = some u → (q : Path) → (Valid t sh v (p ++ q) ↔ Valid t sh v p ∧ Valid (getP t v p).t (shAt sh p) (getP t v p).v q)
  | [], t, u, sh, v, h, q => by
    have : shAt sh [] = sh := by cases sh <;> rfl
    rw [getP_nil, this]
    simp [Valid]
  | s :: p, t, u, sh, v, h, q => by
    rcases tyAt_cases h with ⟨i, f, rfl, rfl, hi, h⟩ | ⟨i, e, t', rfl, rfl, h⟩ | ⟨i, n, t', rfl, rfl, h⟩
    · simp only [List.cons_append, Valid, getP, shAt_fld]
      rw [Valid_append p h q, and_assoc]
    · cases sh <;> simp only [List.cons_append, Valid, getP, shAt, false_and]
      rw [Valid_append p h q]; simp only [and_assoc]
    · simp only [List.cons_append, Valid, getP]
      rw [Valid_append p h q]
      constructor
      · rintro ⟨rfl, h1, h2, h3⟩
        have : shAt .fz p = .fz := by cases p with
          | nil => rfl
          | cons s p => cases s <;> rfl
        rw [this] at h3
        exact ⟨⟨rfl, h1, h2⟩, h3⟩
      · rintro ⟨⟨rfl, h1, h2⟩, h3⟩
        have : shAt .fz p = .fz := by cases p with
          | nil => rfl
          | cons s p => cases s <;> rfl
        rw [this]
        exact ⟨rfl, h1, h2, h3⟩
theorem adrF_append {g : Gh} {ro : Root} : (p : Path) → {t u : Ty} → {π : List Nat} → {cur : Option (Nat × Nat)} → tyAt t p = some u → (q : Path) →
    adrF g ro t π cur (p ++ q) = adrF g ro u (π ++ posP p) (adrF g ro t π cur p) q
  | [], t, u, π, cur, h, q => by
    rw [tyAt_nil] at h; simp only [Option.some.injEq] at h; subst h
    rw [adrF_nil]; simp [posP]
  | s :: p, t, u, π, cur, h, q => by
    rcases tyAt_cases h with ⟨i, f, rfl, rfl, hi, h⟩ | ⟨i, e, t', rfl, rfl, h⟩ | ⟨i, n, t', rfl, rfl, h⟩
    all_goals
      simp only [List.cons_append, adrF]
      rw [adrF_append p h q]
      simp [posP, posS]
theorem add_lit (b k n : Nat) : (⟨b, k, none⟩ : Addr).add n = ⟨b, k + n, none⟩ := by
  unfold Addr.add; split
  · rename_i h; rw [h]; rfl
  · rfl

theorem oFieldAddr_ok {ty : TypeId} {x : Operand} {f : Nat} (hT : TOk P C.T = true) (R : Rel P A w g tm σ) (hD : DstOk A σ c o.dst tm) (hc : Gd σ c) (ho : o.op = .fieldAddr ty x f)
    (h : (oFieldAddr C c o ty x f).run σ K = some r) : OpDoes P A o w g tm ds (σ.on c) K r Q := by
  unfold oFieldAddr at h
  obtain ⟨i, s, h, H, _⟩ := rd_ok R ds h
  have exec : ∀ {fs : Tys} (b k : Nat), f < fs.len → C.ty ty = some (.agg fs) → Act.eval ⟨tm, ds⟩ x = .pointer (some ⟨b, k, none⟩) →
      (execOp (Act.eval ⟨tm, ds⟩) o).run P w = .ok (.value (.pointer (some ⟨b, k + fs.off f, none⟩))) w := by
    intro fs b k hf hty hx
    obtain ⟨d, hd, hu⟩ := tyOk_under (TOk.ty hT hty)
    obtain ⟨fl, rfl, hfs⟩ := hu
    obtain ⟨fd, hfd, hoff, hft⟩ := fieldsOk_get _ _ _ hfs f hf
    have hfd' : fl[f]? = some fd := by simpa using hfd
    obtain ⟨i, z, _, _, hpos, _⟩ := (tyOk_info hft).ex
    have hsz := run_sizeOf (tyOk_info hft) w
    simp [execOp, ho, hx, Instr.fieldAt, Instr.sureAddr, run_underlying hd, hfd', fieldPlace, hsz, Nat.ne_of_gt hpos, hoff, add_lit]
  split at h
  · rename_i hn ver p fs _
    split at h
    · rename_i hh
      simp only [Bool.and_eq_true, decide_eq_true_eq] at hh
      obtain ⟨hv, _, h⟩ := fresh_ok h
      refine does_light R (Ext.refl _ _) rfl hD hc h rfl (H rfl).ver (fun hon => ?_)
      obtain ⟨m, hm, hty, hval, b, k, hx, hadr⟩ := (H rfl).addr' hv hon
      refine ⟨_, exec b k hh.1 hh.2 hx, fun _ => ⟨m, hm, ?_, ?_, b, _, rfl, ?_⟩⟩
      · rw [tyAt_append p hty]; simp only [tyAt, if_pos hh.1]
      · rw [Valid_append p hty]
        refine ⟨hval, ?_⟩
        have e := getP_ty (v := m.v) p hty
        generalize getP m.t m.v p = tv at e
        obtain ⟨t', v'⟩ := tv
        simp only at e
        subst e
        simp [Valid, hh.1]
      · rw [adrF_append p hty, hadr]
        simp only [adrF, Option.map_some]
    · cases h
  · rename_i fs v _
    split at h
    · rename_i hh
      simp only [Bool.and_eq_true, decide_eq_true_eq] at hh
      refine does_light R (Ext.refl _ _) rfl hD hc h rfl trivial (fun hon => ?_)
      obtain ⟨b, k, hx, hb, hf⟩ := (H rfl).mean hon
      refine ⟨_, exec b k hh.1 hh.2 hx, b, _, rfl, hb, ?_⟩
      have := FrL.get fs (by simpa only [Fr] using hf) f hh.1
      rwa [seg_seg _ _ _ _ _ (by simpa only [Ty.size] using Tys.off_le fs f hh.1)] at this
    · cases h
  · cases h
theorem cell_rowL (w : World) (b k : Nat) : w.cell? ⟨b, k, none⟩ = (rowL w b)[k]? := by
  unfold World.cell? rowL
  cases h : w.heap[b]? with
  | none => simp
  | some ob => cases ob <;> simp

theorem Fr.notAgg {t : Ty} {w : World} {fz : Nat → Prop} {v : D t} {u : Value} (h : Fr P t w fz v [u]) (ht : t.isAgg = false) : isAggV u = false := by
  cases t <;> simp only [Ty.isAgg] at ht <;> try (cases ht; done)
  · simp only [Fr, List.cons.injEq, and_true] at h; subst h; rfl
  · simp only [Fr, List.cons.injEq, and_true] at h; subst h; rfl
  · simp only [Fr] at h; obtain ⟨a, cap, h, _⟩ := h; simp only [List.cons.injEq, and_true] at h; subst h; rfl
  · simp only [Fr] at h
    rcases h with ⟨h, _⟩ | ⟨g, caps, h, _⟩
    · simp only [List.cons.injEq, and_true] at h; subst h; rfl
    · simp only [List.cons.injEq, and_true] at h; subst h; rfl
theorem Rp.notAgg {ro : Root} {t : Ty} {π : List Nat} {sh : Sh} {v : D t} {u : Value} (h : Rp P w g ro t π sh v [u]) (hs : sh ≠ .gone) (ht : t.isAgg = false) : isAggV u = false := by
  cases t <;> simp only [Ty.isAgg] at ht <;> try (cases ht; done)
  · simp only [Rp] at h
    rcases h with ⟨_, h⟩ | ⟨h, _⟩
    · exact Fr.notAgg h rfl
    · exact absurd h hs
  · simp only [Rp] at h
    rcases h with ⟨_, h⟩ | ⟨h, _⟩
    · exact Fr.notAgg h rfl
    · exact absurd h hs
  · simp only [Rp] at h
    rcases h with ⟨_, h⟩ | ⟨h, _⟩ | ⟨_, _, h⟩ | ⟨s, _, a, xs, h, how, _⟩
    · exact Fr.notAgg h rfl
    · exact absurd h hs
    · simp only [List.cons.injEq, and_true] at h; subst h; rfl
    · simp only [List.cons.injEq, and_true] at h; subst h
      rcases how.2 with ⟨rfl, _⟩ | ⟨b, cap, cur, rfl, _⟩ <;> rfl
  · simp only [Rp] at h
    rcases h with ⟨_, h⟩ | ⟨h, _⟩
    · exact Fr.notAgg h rfl
    · exact absurd h hs

theorem size_one {t : Ty} (h : t.isAgg = false) : t.size = 1 := by cases t <;> simp_all [Ty.isAgg, Ty.size]
theorem seg_one {l : List Value} {k : Nat} {u : Value} (h : l[k]? = some u) : seg l k 1 = [u] := by
  apply List.ext_getElem?
  intro i
  rw [seg_get]
  cases i with
  | zero => simp [h]
  | succ i => simp

theorem part_ok {tid : TypeId} {t : Ty} (ht : tyOk P tid t = true) {cs : Array Value} {k : Nat} (hl : k + t.size ≤ cs.size) (hn : ∀ u, seg cs.toList k t.size = [u] → t.isAgg = false → isAggV u = false) (w : World) :
    ∃ y, (part tid cs k).run P w = .ok y w ∧ y.cells.toList = seg cs.toList k t.size ∧ isAggV y = t.isAgg := by
  unfold part
  rw [Sem.run_bind, run_isAgg ht w]
  cases ha : t.isAgg with
  | true =>
    refine ⟨.agg (cs.extract k (k + t.size)), ?_, ?_, rfl⟩
    · simp [run_sizeOf (tyOk_info ht) w]
    · simp only [Value.cells, seg, Array.toList_extract, List.extract_eq_take_drop]
      congr 1; omega
  | false =>
    have h1 := size_one ha
    rw [h1] at hl hn ⊢
    have hk : cs.toList[k]? = some (cs[k]'(by omega)) := by simp [show k < cs.size by omega]
    have hk' : cs[k]? = some (cs[k]'(by omega)) := by simpa using hk
    have hs := seg_one hk
    have hna := hn _ hs ha
    refine ⟨_, ?_, ?_, hna⟩
    · simp [hk']
    · rw [hs, cells_one hna]

theorem loadVar_ok {tid : TypeId} {t : Ty} (ht : tyOk P tid t = true) {b k : Nat} (hl : (seg (rowL w b) k t.size).length = t.size) (hn : ∀ u, seg (rowL w b) k t.size = [u] → t.isAgg = false → isAggV u = false) :
    ∃ y, (loadVar tid ⟨b, k, none⟩).run P w = .ok y w ∧ y.cells.toList = seg (rowL w b) k t.size ∧ isAggV y = t.isAgg := by
  unfold loadVar
  rw [Sem.run_bind, run_isAgg ht w]
  have hcell : ∀ j v, (seg (rowL w b) k t.size)[j]? = some v → w.cell? ((⟨b, k, none⟩ : Addr).add j) = some v := by
    intro j v hj
    rw [add_lit, cell_rowL]
    rw [seg_get] at hj
    split at hj
    · exact hj
    · cases hj
  cases ha : t.isAgg with
  | true =>
    refine ⟨.agg (seg (rowL w b) k t.size).toArray, ?_, by simp [Value.cells], rfl⟩
    have := run_loadCells_list (P := P) w ⟨b, k, none⟩ _ hcell
    rw [hl] at this
    simp [run_sizeOf (tyOk_info ht) w, this]
  | false =>
    have h1 := size_one ha
    rw [h1] at hl hn hcell ⊢
    obtain ⟨u, hu⟩ : ∃ u, seg (rowL w b) k 1 = [u] := by
      cases hs : seg (rowL w b) k 1 with
      | nil => rw [hs] at hl; simp at hl
      | cons u l => cases l with
        | nil => exact ⟨u, rfl⟩
        | cons _ _ => rw [hs] at hl; simp at hl
    have hna := hn u hu ha
    have := hcell 0 u (by rw [hu]; rfl)
    rw [add_lit, Nat.add_zero] at this
    refine ⟨u, ?_, ?_, hna⟩
    · simp [run_load, this]
    · rw [hu, cells_one hna]

theorem Fr.sr {t : Ty} {v : D t} {y : Value} (h : Fr P t w g.fz v y.cells.toList) (ha : isAggV y = t.isAgg) : SR P w g A σ 0 0 (.val t .fz v) y := ⟨Rp.of_fr _ h, ha⟩

theorem load_mem {ty : TypeId} {x : Operand} {hn ver : Nat} {p : Path} {t : Ty} {m : Home} (hT : TOk P C.T = true) (R : Rel P A w g tm σ) (ho : o.op = .load ty x) (hty : C.ty ty = some t)
    (H : Held P A w g σ c (.addr hn ver p t) (Act.eval ⟨tm, ds⟩ x)) (hm : homeOf (σ.get hn).s = some m) (hver : (σ.get hn).ver = ver) (hsub : sub (σ.get hn).gd c = true) (hng : ¬ shAt m.sh p = .gone) :
    σ.on c = true → (tyAt m.t p = some t ∧ Valid m.t m.sh m.v p) ∧ ∃ y, (execOp (Act.eval ⟨tm, ds⟩) o).run P w = .ok (.value y) w ∧ RpV P w g (.inl hn) (getP m.t m.v p).t (m.k.base ++ posP p) (shAt m.sh p) (getP m.t m.v p).v y := by
  intro hon
  obtain ⟨hpt, hval, b, k, hx, hadr⟩ := H.addr hm hver hon
  have hs := R.slot hn (on_sub hsub hon)
  rw [SR_home hm] at hs
  have hroot : ∃ cs, Rp P w g (.inl hn) m.t m.k.base m.sh m.v cs ∧ (∀ b o, m.k.cur g hn = some (b, o) → cs = seg (rowL w b) o m.t.size) := by
    obtain ⟨mk, mt, msh, mv⟩ := m
    cases mk with
    | val => exact ⟨_, hs.1, fun b o hbo => by simp [HK.cur] at hbo⟩
    | rowp => exact ⟨_, hs.1.1, fun b o hbo => by simp [HK.cur] at hbo⟩
    | box =>
      obtain ⟨b0, c0, e0, _, hB, _, hc0, hp0⟩ := hs
      refine ⟨_, hp0, fun b o hbo => ?_⟩
      simp only [HK.cur, Option.some.injEq, Prod.mk.injEq] at hbo
      obtain ⟨rfl, rfl⟩ := hbo
      rw [hB]
      have : rowL w b0 = c0.toList := by simp only [rowL, hc0]
      rw [this]
      have hl := Rp.len _ hp0
      rw [seg_all _ _ (by omega)]
  obtain ⟨cs, hroot, hcur⟩ := hroot
  obtain ⟨cs', h1, h2⟩ := Rp.get p m.t hroot hval hcur
  have hcs := h2 b k hadr
  have e := getP_ty (v := m.v) p hpt
  refine ⟨⟨hpt, hval⟩, ?_⟩
  generalize getP m.t m.v p = tv at e h1 hcs
  obtain ⟨t', v'⟩ := tv
  simp only at e
  subst e
  obtain ⟨y, hy, hyc, hya⟩ := loadVar_ok (w := w) (b := b) (k := k) (TOk.ty hT hty) (by rw [← hcs]; exact Rp.len _ h1) (fun u hu ha => by
    rw [← hcs] at hu; rw [hu] at h1; exact Rp.notAgg h1 hng ha)
  refine ⟨y, by simp [execOp, ho, hx, Instr.loadAt, Instr.sureAddr, hy], ?_, hya⟩
  rw [hyc, ← hcs]; exact h1
theorem oLoadA_ok {ty : TypeId} {x : Operand} {hn ver : Nat} {p : Path} {t : Ty} (hT : TOk P C.T = true) (R : Rel P A w g tm σ) (hD : DstOk A σ c o.dst tm) (hc : Gd σ c) (ho : o.op = .load ty x) (hty : C.ty ty = some t)
    (H : Held P A w g σ c (.addr hn ver p t) (Act.eval ⟨tm, ds⟩ x)) (h : (oLoadA c o hn ver p t).run σ K = some r) : OpDoes P A o w g tm ds (σ.on c) K r Q := by
  unfold oLoadA at h
  simp only [Acc.run] at h
  split at h
  · rename_i hh
    simp only [Bool.and_eq_true, beq_iff_eq] at hh
    obtain ⟨m, hm, h⟩ := homeS_ok h
    split at h
    · cases h
    · rename_i hng
      have mem := load_mem hT R ho hty H hm hh.1 hh.2 hng
      split at h
      · rename_i hfz
        refine does_light R (Ext.refl _ _) rfl hD hc h rfl trivial (fun hon => ?_)
        obtain ⟨_, y, hy, hr⟩ := mem hon
        exact ⟨y, hy, Fr.sr (Rp.fr _ hfz hr.1) hr.2⟩
      · split at h
        · cases h
        · rename_i hfz hpl
          refine does_light R (Ext.refl _ _) rfl hD hc h rfl (.inr ⟨hh.1.symm, Nat.le_refl _⟩) (fun hon => ?_)
          obtain ⟨⟨hpt, hval⟩, y, hy, hr⟩ := mem hon
          exact ⟨y, hy, fun _ _ => ⟨m, hm, hpt, hval, hr, by simpa using hfz⟩⟩
  · cases h
theorem shS_home {s : S} {t0 : Ty} {sh0 : Sh} (h : shS s = some (t0, sh0)) : ∃ m, homeOf s = some m ∧ m.t = t0 ∧ m.sh = sh0 := by
  cases s <;> simp only [shS] at h <;> try (cases h; done)
  all_goals (cases h; exact ⟨_, rfl, rfl, rfl⟩)
theorem oLoad_ok {ty : TypeId} {x : Operand} (hT : TOk P C.T = true) (R : Rel P A w g tm σ) (hD : DstOk A σ c o.dst tm) (hc : Gd σ c) (ho : o.op = .load ty x)
    (h : (oLoad C c o ty x).run σ K = some r) : OpDoes P A o w g tm ds (σ.on c) K r Q := by
  unfold oLoad at h
  obtain ⟨i, s, h, H, _⟩ := rd_ok R ds h
  split at h
  · rename_i t v _
    split at h
    · rename_i hty
      refine does_light R (Ext.refl _ _) rfl hD hc h rfl trivial (fun hon => ?_)
      obtain ⟨b, k, hx, hb, hf⟩ := (H rfl).mean hon
      obtain ⟨y, hy, hyc, hya⟩ := loadVar_ok (w := w) (TOk.ty hT hty) (Fr.len t hf) (fun u hu ha => by rw [hu] at hf; exact Fr.notAgg hf ha)
      refine ⟨y, ?_, Fr.sr (by rw [hyc]; exact hf) hya⟩
      simp [execOp, ho, hx, Instr.loadAt, Instr.sureAddr, hy]
    · cases h
  · rename_i hn ver p t _
    split at h
    · rename_i hty
      split at h
      · rename_i hsl
        simp only [Acc.run] at h
        split at h
        · rename_i t0 sh0 hs
          split at h
          · rename_i hh
            simp only [Bool.and_eq_true, beq_iff_eq] at hh
            obtain ⟨⟨hv, hsub⟩, hown⟩ := hh
            obtain ⟨m, hm, _, hsh⟩ := shS_home hs
            subst hsh
            have hown' : (shAt m.sh p).isFz = false := by
              cases hx : shAt m.sh p <;> rw [hx] at hown <;> first | rfl | (simp [Sh.isOwn] at hown)
            refine does_light R (Ext.refl _ _) rfl hD hc h rfl (.inr ⟨hv.symm, Nat.zero_le _⟩) (fun hon => ?_)
            obtain ⟨⟨hpt, hval⟩, y, hy, hr⟩ := load_mem hT R ho hty (H rfl) hm hv hsub (by intro e; rw [e] at hown; simp [Sh.isOwn] at hown) hon
            exact ⟨y, hy, fun _ _ => ⟨m, hm, hpt, hval, hr, hown'⟩⟩
          · exact oLoadA_ok hT R hD hc ho hty (H rfl) h
        · cases h
      · exact oLoadA_ok hT R hD hc ho hty (H rfl) h
    · cases h
  · cases h
end
end Go.Ev

/- Operations: parts. -/
namespace Go.Ev
open Go.RowKit
variable {P : Program}
section
variable {R' : Type} {A : Nat → Value} {w : World} {g g0 : Gh} {tm : Array Value} {ds : List Deferred} {σ : Env} {c : G} {K : Unit → Env → Option R'} {r : R'} {Q : Exit → Act → World → Prop} {o : Oper} {C : Ctx}

theorem agg_of {x : Value} (h : isAggV x = true) : ∃ cs, x = .agg cs := by
  cases x <;> first | exact ⟨_, rfl⟩ | (simp [isAggV] at h)

theorem oField_ok {ty : TypeId} {x : Operand} {f : Nat} (hT : TOk P C.T = true) (R : Rel P A w g tm σ) (hD : DstOk A σ c o.dst tm) (hc : Gd σ c) (ho : o.op = .field ty x f)
    (h : (oField C c o ty x f).run σ K = some r) : OpDoes P A o w g tm ds (σ.on c) K r Q := by
  unfold oField at h
  obtain ⟨i, s, h, H, _⟩ := rd_ok R ds h
  have exec : ∀ {fs : Tys} (cs : Array Value), f < fs.len → C.ty ty = some (.agg fs) → Act.eval ⟨tm, ds⟩ x = .agg cs → cs.toList.length = fs.size →
      (∀ u, seg cs.toList (fs.off f) (fs.get f).size = [u] → (fs.get f).isAgg = false → isAggV u = false) →
      ∃ y, (execOp (Act.eval ⟨tm, ds⟩) o).run P w = .ok (.value y) w ∧ y.cells.toList = seg cs.toList (fs.off f) (fs.get f).size ∧ isAggV y = (fs.get f).isAgg := by
    intro fs cs hf hty hx hl hn
    obtain ⟨d, hd, hu⟩ := tyOk_under (TOk.ty hT hty)
    obtain ⟨fl, rfl, hfs⟩ := hu
    obtain ⟨fd, hfd, hoff, hft⟩ := fieldsOk_get _ _ _ hfs f hf
    have hfd' : fl[f]? = some fd := by simpa using hfd
    have hle := Tys.off_le fs f hf
    obtain ⟨y, hy, hyc, hya⟩ := part_ok hft (cs := cs) (k := fs.off f) (by simpa using (by omega : fs.off f + (fs.get f).size ≤ cs.toList.length)) hn w
    refine ⟨y, ?_, hyc, hya⟩
    simp [execOp, ho, hx, Instr.field, run_underlying hd, hfd', asAgg, hoff, hy]
  split at h
  · rename_i fs sh v _
    split at h
    · rename_i hh
      simp only [Bool.and_eq_true, decide_eq_true_eq] at hh
      refine does_light R (Ext.refl _ _) rfl hD hc h rfl trivial (fun hon => ?_)
      have hm := (H rfl).mean hon
      have hl : sh.isFz = true := (H rfl).light
      obtain ⟨hr, ha⟩ : RpV P w g (.inl 0) (.agg fs) [] sh v _ := hm
      obtain ⟨cs, hx⟩ := agg_of ha
      rw [hx] at hr
      have hfr : FrL P fs w g.fz v cs.toList := by have := Rp.fr _ hl hr; rw [Fr] at this; exact this
      have hpart := FrL.get fs hfr f hh.1
      obtain ⟨y, hy, hyc, hya⟩ := exec cs hh.1 hh.2 hx (FrL.len fs hfr) (fun u hu hna => by rw [hu] at hpart; exact Fr.notAgg hpart hna)
      exact ⟨y, hy, Fr.sr (by rw [hyc]; exact hpart) hya⟩
    · cases h
  · rename_i hn ver pv p fs _
    split at h
    · rename_i hh
      simp only [Bool.and_eq_true, decide_eq_true_eq] at hh
      obtain ⟨m, hm, h, hv, hp, hs⟩ := homeR_ok h
      split at h
      · cases h
      · rename_i hng
        have mem : σ.on c = true → (tyAt m.t (p ++ [.fld f]) = some (fs.get f) ∧ Valid m.t m.sh m.v (p ++ [.fld f])) ∧ ∃ y, (execOp (Act.eval ⟨tm, ds⟩) o).run P w = .ok (.value y) w ∧
            RpV P w g (.inl hn) (getP m.t m.v (p ++ [.fld f])).t (m.k.base ++ posP (p ++ [.fld f])) (shAt m.sh (p ++ [.fld f])) (getP m.t m.v (p ++ [.fld f])).v y := by
          intro hon
          obtain ⟨hpt, hval, ⟨hr, ha⟩, _⟩ := (H rfl).ref hm hv hp hon
          have hpt' : tyAt m.t (p ++ [.fld f]) = some (fs.get f) := by
            rw [tyAt_append p hpt]; simp only [tyAt, if_pos hh.1]
          rw [Valid_append p hpt, getP_append p hpt, shAt_append, posP_append, ← List.append_assoc]
          rw [shAt_append] at hng
          have e := getP_ty (v := m.v) p hpt
          generalize getP m.t m.v p = tv at e hr ha
          obtain ⟨t', v'⟩ := tv
          simp only at e
          subst e
          refine ⟨⟨hpt', hval, by simp [Valid, hh.1]⟩, ?_⟩
          obtain ⟨cs, hx⟩ := agg_of ha
          rw [hx] at hr
          have hr : Rp P w g (.inl hn) (.agg fs) (m.k.base ++ posP p) (shAt m.sh p) v' cs.toList := hr
          have hfld := Rp.fld (i := f) hr hh.1
          have hsh : shAt (shAt m.sh p) [.fld f] = shFld (shAt m.sh p) f := by
            rw [shAt_fld]; cases shFld (shAt m.sh p) f <;> rfl
          rw [hsh] at hng ⊢
          obtain ⟨y, hy, hyc, hya⟩ := exec cs hh.1 hh.2 hx (Rp.len _ hr) (fun u hu hna => by rw [hu] at hfld; exact Rp.notAgg hfld hng hna)
          refine ⟨y, hy, ?_, ?_⟩
          · simp only [getP]
            rw [hyc]; exact hfld
          · simp only [getP]; exact hya
        have h : (if (shAt m.sh (p ++ [.fld f])).isFz = true then fin c o.dst (.val (getP m.t m.v (p ++ [.fld f])).t .fz (getP m.t m.v (p ++ [.fld f])).v)
          else if (getP m.t m.v (p ++ [.fld f])).t.plain = true then .fail else fin c o.dst (.ref hn ver pv (p ++ [.fld f]) (fs.get f))).run σ K = some r := h
        split at h
        · rename_i hfz
          refine does_light R (Ext.refl _ _) rfl hD hc h rfl trivial (fun hon => ?_)
          obtain ⟨_, y, hy, hr⟩ := mem hon
          exact ⟨y, hy, Fr.sr (Rp.fr _ hfz hr.1) hr.2⟩
        · split at h
          · cases h
          · rename_i hfz hpl
            refine does_light R (Ext.refl _ _) rfl hD hc h rfl (H rfl).ver (fun hon => ?_)
            obtain ⟨⟨hpt, hval⟩, y, hy, hr⟩ := mem hon
            exact ⟨y, hy, fun _ _ => ⟨m, hm, hpt, hval, hr, by simpa using hfz⟩⟩
    · cases h
  · cases h

theorem toNat_lt {n : Int} {k : Nat} (h : 0 ≤ n ∧ n < (k : Int)) : n.toNat < k := by omega

theorem oIndexAddr_ok {ty : TypeId} {x y : Operand} (hT : TOk P C.T = true) (R : Rel P A w g tm σ) (hD : DstOk A σ c o.dst tm) (hc : Gd σ c) (hcg : c.isEmpty = true → σ.on c = true) (ho : o.op = .indexAddr ty x y)
    (h : (oIndexAddr C c (σ.on c) o ty x y).run σ K = some r) : OpDoes P A o w g tm ds (σ.on c) K r Q := by
  unfold oIndexAddr at h
  obtain ⟨iy, sy, h, Hy, _⟩ := rd_ok R ds h
  obtain ⟨n, h, hn⟩ := lookInt_ok (Hy (not_tup h)) h
  obtain ⟨i, s, h, H, _⟩ := rd_ok R ds h
  have bound : ∀ {k : Nat}, (decide (0 ≤ n) && decide (n < (k : Int))) = true → 0 ≤ n ∧ n < (k : Int) := by
    intro k hk; simpa using hk
  split at h
  · rename_i e t sh v _
    split at h
    · rename_i hty
      obtain ⟨hb, h⟩ := nd_ok hcg h
      refine does_light R (Ext.refl _ _) rfl hD hc h rfl trivial (fun hon => ?_)
      have hb := bound (hb hon)
      obtain ⟨kd, hy⟩ := hn hon
      have hm := (H rfl).mean hon
      obtain ⟨hr, ha⟩ : RpV P w g (.inl 0) (.sl e t) [] sh v _ := hm
      have hfr := Rp.fr _ (H rfl).light hr
      simp only [Fr] at hfr
      obtain ⟨a, cap, hx, hcap, hv⟩ := hfr
      rw [cells_one ha] at hx
      simp only [List.cons.injEq, and_true] at hx
      have hlt := toNat_lt hb
      rcases hv with hv | ⟨b, k, ha', hb', hel⟩
      · rw [hv] at hlt; simp at hlt
      · subst ha'
        obtain ⟨d, hd, hu⟩ := tyOk_under (TOk.ty hT hty)
        obtain ⟨rfl, hte⟩ := hu
        refine ⟨_, ?_, b, k + n.toNat * t.size, rfl, hb', hel n.toNat _ (getD_some hlt)⟩
        simp [execOp, ho, hx, hy, Instr.indexAt, asIntOf, run_underlying hd, hb, run_sizeOf (tyOk_info hte), add_lit]
    · cases h
  · rename_i hn' ver pv p e t _
    split at h
    · rename_i hty
      obtain ⟨m, hm, h, hv, hp, hs⟩ := homeR_ok h
      split at h
      · rename_i how
        have hr := fun ho => (H rfl).ref hm hv hp ho
        have key : ∀ (tv : TV), getP m.t m.v p = tv → (match tv with | ⟨u, l⟩ => castK (.sl e t) u l fun (l : List (D t)) => nd c (σ.on c) (decide (0 ≤ n) && decide (n < (l.length : Int))) (fin c o.dst (.addr hn' ver (p ++ [Step.idx n]) t))).run σ K = some r →
            OpDoes P A o w g tm ds (σ.on c) K r Q := by
          intro tv htv h
          obtain ⟨u, l⟩ := tv
          obtain ⟨eu, h⟩ := castK_ok h
          subst eu
          obtain ⟨hb, h⟩ := nd_ok hcg h
          refine does_light R (Ext.refl _ _) rfl hD hc h rfl (by
            have := (H rfl).ver
            simp only [VerOk, Young] at this ⊢
            omega) (fun hon => ?_)
          have hb := bound (hb hon)
          obtain ⟨kd, hy⟩ := hn hon
          obtain ⟨hpt, hval, ⟨hr, ha⟩, _⟩ := hr hon
          have hlt := toNat_lt hb
          obtain ⟨d, hd, hu⟩ := tyOk_under (TOk.ty hT hty)
          obtain ⟨rfl, hte⟩ := hu
          rw [htv] at hr ha
          cases hsh : shAt m.sh p <;> rw [hsh] at how <;> simp only [Sh.isOwn] at how <;> try (cases how; done)
          rename_i s0
          rw [hsh] at hr
          obtain ⟨cap, cu, hx, _⟩ := Rp.row (v := l) hr hlt
          rw [cells_one ha] at hx
          simp only [List.cons.injEq, and_true] at hx
          refine ⟨_, ?_, fun _ => ⟨m, hm, ?_, ?_, g.B (.inl hn') (m.k.base ++ posP p), n.toNat * t.size, rfl, ?_⟩⟩
          · simp [execOp, ho, hx, hy, Instr.indexAt, asIntOf, run_underlying hd, hb, run_sizeOf (tyOk_info hte), add_lit]
          · rw [tyAt_append p hpt]; simp only [tyAt]
          · rw [Valid_append p hpt, htv, hsh]
            exact ⟨hval, by simp [Valid, hb.1, hlt]⟩
          · rw [adrF_append p hpt]; simp only [adrF]
        exact key _ rfl h
      · cases h
    · cases h
  · rename_i hn' ver p k t _
    split at h
    · rename_i hty
      obtain ⟨m, hm, h, hv, _⟩ := homeA_ok h
      split at h
      · rename_i hsh
        obtain ⟨hb, h⟩ := nd_ok hcg h
        refine does_light R (Ext.refl _ _) rfl hD hc h rfl (H rfl).ver (fun hon => ?_)
        have hb := bound (hb hon)
        obtain ⟨kd, hy⟩ := hn hon
        obtain ⟨hpt, hval, b, k', hx, hadr⟩ := (H rfl).addr hm hv hon
        have hlt := toNat_lt hb
        obtain ⟨d, hd, hu⟩ := tyOk_under (TOk.ty hT hty)
        obtain ⟨e, rfl, hte⟩ := hu
        refine ⟨_, ?_, fun _ => ⟨m, hm, ?_, ?_, b, k' + n.toNat * t.size, rfl, ?_⟩⟩
        · simp [execOp, ho, hx, hy, Instr.indexAt, asIntOf, run_underlying hd, hb, run_sizeOf (tyOk_info hte), add_lit, Instr.sureAddr]
        · rw [tyAt_append p hpt]; simp only [tyAt]
        · rw [Valid_append p hpt, hsh]
          refine ⟨hval, ?_⟩
          have e := getP_ty (v := m.v) p hpt
          generalize getP m.t m.v p = tv at e
          obtain ⟨t', v'⟩ := tv
          simp only at e
          subst e
          simp [Valid, hb.1, hlt]
        · rw [adrF_append p hpt, hadr]; simp only [adrF, Option.map_some]
      · cases h
    · cases h
  · rename_i k t v _
    split at h
    · rename_i hty
      obtain ⟨hb, h⟩ := nd_ok hcg h
      refine does_light R (Ext.refl _ _) rfl hD hc h rfl trivial (fun hon => ?_)
      have hb := bound (hb hon)
      obtain ⟨kd, hy⟩ := hn hon
      obtain ⟨b, k', hx, hb', hf⟩ := (H rfl).mean hon
      simp only [Fr] at hf
      have hlt := toNat_lt hb
      obtain ⟨d, hd, hu⟩ := tyOk_under (TOk.ty hT hty)
      obtain ⟨e, rfl, hte⟩ := hu
      refine ⟨_, ?_, b, k' + n.toNat * t.size, rfl, hb', ?_⟩
      · simp [execOp, ho, hx, hy, Instr.indexAt, asIntOf, run_underlying hd, hb, run_sizeOf (tyOk_info hte), add_lit, Instr.sureAddr]
      · have := hf.2.2 n.toNat _ (getD_some (d := dflt t) (by rw [hf.1]; exact hlt))
        rwa [seg_seg _ _ _ _ _ (by simpa only [Ty.size] using mul_le t.size hlt)] at this
    · cases h
  · cases h
end
end Go.Ev

/- Operations: index, arithmetic. -/
namespace Go.Ev
open Go.RowKit
variable {P : Program}
section
variable {R' : Type} {A : Nat → Value} {w : World} {g g0 : Gh} {tm : Array Value} {ds : List Deferred} {σ : Env} {c : G} {K : Unit → Env → Option R'} {r : R'} {Q : Exit → Act → World → Prop} {o : Oper} {C : Ctx}

def StrOk (P : Program) (l : List TypeId) : Bool := l.all fun t => match P.underlying t with | some .string => true | _ => false

theorem oIndex_ok {ty : TypeId} {x y : Operand} (hT : TOk P C.T = true) (hst : StrOk P C.strs = true) (R : Rel P A w g tm σ) (hD : DstOk A σ c o.dst tm) (hc : Gd σ c) (hcg : c.isEmpty = true → σ.on c = true) (ho : o.op = .index ty x y)
    (h : (oIndex C c (σ.on c) o ty x y).run σ K = some r) : OpDoes P A o w g tm ds (σ.on c) K r Q := by
  unfold oIndex at h
  obtain ⟨iy, sy, h, Hy, _⟩ := rd_ok R ds h
  obtain ⟨n, h, hn⟩ := lookInt_ok (Hy (not_tup h)) h
  obtain ⟨i, s, h, H, _⟩ := rd_ok R ds h
  have bound : ∀ {k : Nat}, (decide (0 ≤ n) && decide (n < (k : Int))) = true → 0 ≤ n ∧ n < (k : Int) := by
    intro k hk; simpa using hk
  split at h
  · rename_i k t sh v _
    split at h
    · rename_i hty
      obtain ⟨hb, h⟩ := nd_ok hcg h
      refine does_light R (Ext.refl _ _) rfl hD hc h rfl trivial (fun hon => ?_)
      have hb := bound (hb hon)
      obtain ⟨kd, hy⟩ := hn hon
      have hm := (H rfl).mean hon
      obtain ⟨hr, ha⟩ : RpV P w g (.inl 0) (.arr k t) [] sh v _ := hm
      obtain ⟨cs, hx⟩ := agg_of ha
      rw [hx] at hr
      have hfr : Fr P (.arr k t) w g.fz v cs.toList := Rp.fr _ (H rfl).light hr
      simp only [Fr] at hfr
      obtain ⟨hl, hcl, hel⟩ := hfr
      have hlt := toNat_lt hb
      have hpart := hel n.toNat _ (getD_some (d := dflt t) (by rw [hl]; exact hlt))
      obtain ⟨d, hd, hu⟩ := tyOk_under (TOk.ty hT hty)
      obtain ⟨e, rfl, hte⟩ := hu
      have hmul := mul_le t.size hlt
      have hcs : cs.toList.length = cs.size := by simp
      obtain ⟨z, hz, hzc, hza⟩ := part_ok hte (cs := cs) (k := n.toNat * t.size) (by rw [← hcs]; omega) (fun u hu hna => by rw [hu] at hpart; exact Fr.notAgg hpart hna) w
      refine ⟨z, ?_, Fr.sr (by rw [hzc]; exact hpart) hza⟩
      simp [execOp, ho, hx, hy, Instr.index, asIntOf, run_underlying hd, hb, run_sizeOf (tyOk_info hte), hz]
    · cases h
  · rename_i b _
    split at h
    · rename_i hty
      obtain ⟨hb, h⟩ := nd_ok hcg h
      refine does_light R (Ext.refl _ _) rfl hD hc h rfl trivial (fun hon => ?_)
      have hb := bound (hb hon)
      obtain ⟨kd, hy⟩ := hn hon
      have hx : _ = _ := (H rfl).mean hon
      have hlt := toNat_lt hb
      simp only [List.any_eq_true, beq_iff_eq] at hty
      obtain ⟨ty', hmem, rfl⟩ := hty
      simp only [StrOk, List.all_eq_true] at hst
      have hu := hst _ hmem
      cases hd : P.underlying ty' with
      | none => rw [hd] at hu; simp at hu
      | some d =>
        rw [hd] at hu
        cases d <;> simp at hu
        refine ⟨_, ?_, SR_int _ _⟩
        have hsz : b.size = b.data.size := rfl
        have hget : b[n.toNat]? = some (b.data.toList.getD n.toNat 0) := by
          rw [getElem?_pos b n.toNat hlt]
          congr 1
          simp only [List.getD_eq_getElem?_getD]
          have : b.data.toList[n.toNat]? = some (b.data[n.toNat]'(by omega)) := by
            rw [Array.getElem?_toList, Array.getElem?_eq_getElem (by omega)]
          rw [this]; rfl
        simp [execOp, ho, hx, hy, Instr.index, asIntOf, run_underlying hd, hb.1, hget]
    · cases h
  · cases h

theorem binI_run {op : BinOp} {k : IntKind} {m n z : Int} (ty : TypeId) (h : binI op k m n = some z) (w : World) : (binOp op ty (.int k m) (.int k n)).run P w = .ok (.int k z) w := by
  cases op <;> simp only [binI, Option.some.injEq] at h <;> try (cases h; done)
  all_goals
    subst h
    simp [binOp, Op.intArith, Op.intBits]
theorem binB_run {op : BinOp} {k : IntKind} {m n : Int} {z : Bool} (ty : TypeId) (h : binB op m n = some z) (w : World) : (binOp op ty (.int k m) (.int k n)).run P w = .ok (.bool z) w := by
  cases op <;> simp only [binB, Option.some.injEq] at h <;> try (cases h; done)
  all_goals
    subst h
    simp [binOp, Op.intCmp]
theorem eqGuard_int (op : BinOp) (ty : TypeId) (x y : Operand) (k k' : IntKind) (m n : Int) (w : World) : (eqGuard op ty x y (.int k m) (.int k' n)).run P w = .ok () w := by
  cases op <;> simp [eqGuard]
theorem eqGuard_bool (op : BinOp) (ty : TypeId) (x y : Operand) (m n : Bool) (w : World) : (eqGuard op ty x y (.bool m) (.bool n)).run P w = .ok () w := by
  cases op <;> simp [eqGuard]
theorem eqGuard_slice (op : BinOp) (ty : TypeId) (x y : Operand) (a b : Option Addr) (i j k l : Nat) (w : World) : (eqGuard op ty x y (.slice a i j) (.slice b k l)).run P w = .ok () w := by
  cases op <;> simp [eqGuard]

theorem RpV.slice {ro : Root} {e : TypeId} {t : Ty} {π : List Nat} {sh : Sh} {v : List (D t)} {x : Value} (h : RpV P w g ro (.sl e t) π sh v x) (hs : sh.noGone = true) :
    ∃ a cap, x = .slice a v.length cap ∧ (0 < v.length → ∃ b, a = some b) := by
  obtain ⟨h, ha⟩ := h
  rw [cells_one ha] at h
  simp only [Rp] at h
  rcases h with ⟨_, h⟩ | ⟨rfl, _⟩ | ⟨_, hv, h⟩ | ⟨s, rfl, a, xs, h, how, _⟩
  · simp only [Fr] at h
    obtain ⟨a, cap, h, hcap, hv⟩ := h
    simp only [List.cons.injEq, and_true] at h
    refine ⟨a, cap, h, fun hp => ?_⟩
    rcases hv with rfl | ⟨b, k, rfl, _⟩
    · simp at hp
    · exact ⟨_, rfl⟩
  · simp [Sh.noGone] at hs
  · simp only [List.cons.injEq, and_true] at h
    subst hv
    exact ⟨none, 0, h, fun hp => by simp at hp⟩
  · simp only [List.cons.injEq, and_true] at h
    subst h
    rcases how.2 with ⟨rfl, hn⟩ | ⟨b, cap, cur, rfl, _⟩
    · exact ⟨none, 0, by rw [hn], fun hp => by omega⟩
    · exact ⟨_, cap, rfl, fun _ => ⟨_, rfl⟩⟩

theorem not_tup_len {α : Type} {s : S} {k : Ty → Int → Acc α} {K : α → Env → Option R'} (h : (lookLen c s k).run σ K = some r) : s.isTup = false := not_tup h

theorem lookLen_ok {α : Type} {K : α → Env → Option R'} {s : S} {x : Value} {k : Ty → Int → Acc α} (H : Held P A w g σ c s x) (h : (lookLen c s k).run σ K = some r) :
    ∃ y : PV, (match y with | ⟨.sl u t, _, l⟩ => (k (.sl u t) (List.length l : Int)).run σ K = some r | ⟨.arr n t, _, _⟩ => (k (.arr n t) (n : Int)).run σ K = some r | _ => False) ∧ y.sh.noGone = true ∧
      (σ.on c = true → ∃ ro π, RpV P w g ro y.t π y.sh y.v x) := by
  unfold lookLen at h
  obtain ⟨y, h, hs, hy⟩ := look_ok H h
  refine ⟨y, ?_, hs, hy⟩
  obtain ⟨t, sh, v⟩ := y
  cases t <;> simp only at h ⊢ <;> first | exact h | (cases h; done)
end
theorem equal_slice_nil {ty : TypeId} {e : TypeId} (hd : P.underlying ty = some (.slice e)) (a : Addr) (n cap : Nat) (w : World) :
    (Op.equal ty (.slice (some a) n cap) (.slice none 0 0)).run P w = .ok false w := by
  unfold Op.equal
  rw [show Op.maxDepth = 9999 + 1 from rfl]
  generalize 9999 = k
  rw [Op.equalIn, Sem.run_bind, run_underlying hd]
  rfl
theorem equal_bool {ty : TypeId} (hd : P.underlying ty = some .bool) (a b : Bool) (w : World) :
    (Op.equal ty (.bool a) (.bool b)).run P w = .ok (a == b) w := by
  unfold Op.equal
  rw [show Op.maxDepth = 9999 + 1 from rfl]
  generalize 9999 = k
  rw [Op.equalIn, Sem.run_bind, run_underlying hd]
  rfl
theorem binOp_slice_eql {ty e : TypeId} (hd : P.underlying ty = some (.slice e)) (a : Addr) (n cap : Nat) (w : World) : (binOp .eql ty (.slice (some a) n cap) (.slice none 0 0)).run P w = .ok (.bool false) w := by
  show ((Op.equal ty (.slice (some a) n cap) (.slice none 0 0)).bind fun b => Sem.pure (Value.bool b)).run P w = _
  rw [Sem.run_bind', equal_slice_nil hd]; rfl
theorem binOp_slice_neq {ty e : TypeId} (hd : P.underlying ty = some (.slice e)) (a : Addr) (n cap : Nat) (w : World) : (binOp .neq ty (.slice (some a) n cap) (.slice none 0 0)).run P w = .ok (.bool true) w := by
  show ((Op.equal ty (.slice (some a) n cap) (.slice none 0 0)).bind fun b => Sem.pure (Value.bool !b)).run P w = _
  rw [Sem.run_bind', equal_slice_nil hd]; rfl
theorem equal_nil_nil {ty e : TypeId} (hd : P.underlying ty = some (.slice e)) (w : World) : (Op.equal ty (.slice none 0 0) (.slice none 0 0)).run P w = .ok true w := by
  unfold Op.equal
  rw [show Op.maxDepth = 9999 + 1 from rfl]
  generalize 9999 = k
  rw [Op.equalIn, Sem.run_bind, run_underlying hd]
  rfl
theorem binOp_nil_eql {ty e : TypeId} (hd : P.underlying ty = some (.slice e)) (w : World) : (binOp .eql ty (.slice none 0 0) (.slice none 0 0)).run P w = .ok (.bool true) w := by
  show ((Op.equal ty (.slice none 0 0) (.slice none 0 0)).bind fun b => Sem.pure (Value.bool b)).run P w = _
  rw [Sem.run_bind', equal_nil_nil hd]; rfl
theorem binOp_nil_neq {ty e : TypeId} (hd : P.underlying ty = some (.slice e)) (w : World) : (binOp .neq ty (.slice none 0 0) (.slice none 0 0)).run P w = .ok (.bool false) w := by
  show ((Op.equal ty (.slice none 0 0) (.slice none 0 0)).bind fun b => Sem.pure (Value.bool !b)).run P w = _
  rw [Sem.run_bind', equal_nil_nil hd]; rfl
theorem binOp_bool_eql {ty : TypeId} (hd : P.underlying ty = some .bool) (a b : Bool) (w : World) : (binOp .eql ty (.bool a) (.bool b)).run P w = .ok (.bool (a == b)) w := by
  show ((Op.equal ty (.bool a) (.bool b)).bind fun b => Sem.pure (Value.bool b)).run P w = _
  rw [Sem.run_bind', equal_bool hd]; rfl
theorem binOp_bool_neq {ty : TypeId} (hd : P.underlying ty = some .bool) (a b : Bool) (w : World) : (binOp .neq ty (.bool a) (.bool b)).run P w = .ok (.bool !(a == b)) w := by
  show ((Op.equal ty (.bool a) (.bool b)).bind fun b => Sem.pure (Value.bool !b)).run P w = _
  rw [Sem.run_bind', equal_bool hd]; rfl
end Go.Ev

/- Operations: two operands. -/
namespace Go.Ev
open Go.RowKit
variable {P : Program}
section
variable {R' : Type} {A : Nat → Value} {w : World} {g g0 : Gh} {tm : Array Value} {ds : List Deferred} {σ : Env} {c : G} {K : Unit → Env → Option R'} {r : R'} {Q : Exit → Act → World → Prop} {o : Oper} {C : Ctx}

/-- Structs that are compared: what the comparison of two values says. -/
def EqsOk (P : Program) (C : Ctx) : Prop := ∀ e ∈ C.eqs, ∀ f, C.ty e = some (.agg f) → ∀ (w : World) (fz : Nat → Prop) (m n : DL f) (x y : Value), FrV P (.agg f) w fz m x → FrV P (.agg f) w fz n y → ∀ (op : BinOp) (a b : Operand),
  (eqGuard op e a b x y).run P w = .ok () w ∧ (Op.equal e x y).run P w = .ok (eqDL f m n) w

theorem oBin_ok {op : BinOp} {ty yt : TypeId} {x y : Operand} (hT : TOk P C.T = true) (hE : EqsOk P C) (R : Rel P A w g tm σ) (hD : DstOk A σ c o.dst tm) (hc : Gd σ c) (hcg : c.isEmpty = true → σ.on c = true)
    (ho : o.op = .binOp op ty x y yt) (h : (oBin C c (σ.on c) o op ty x y).run σ K = some r) : OpDoes P A o w g tm ds (σ.on c) K r Q := by
  unfold oBin at h
  obtain ⟨ix, sx, h, Hx, _⟩ := rd_ok R ds h
  obtain ⟨iy, sy, h, Hy, _⟩ := rd_ok R ds h
  split at h
  · split at h
    · rename_i hsl
      have hx := Hx (not_tup h)
      obtain ⟨z, h, hng, hz⟩ := look_ok hx h
      cases hty : C.ty ty with
      | none => rw [hty] at hsl; simp [isSlT] at hsl
      | some T0 =>
        rw [hty] at hsl
        cases T0 <;> simp [isSlT] at hsl
        rename_i e0 t0
        obtain ⟨d, hd, hu⟩ := tyOk_under (TOk.ty hT hty)
        obtain ⟨rfl, _⟩ := hu
        obtain ⟨t, sh, v⟩ := z
        cases t <;> simp only at h <;> try (cases h; done)
        · rename_i u t
          have main : ∀ (b : Bool), (op = .eql ∧ b = false ∨ op = .neq ∧ b = true) → (nd c (σ.on c) (decide (0 < (List.length v : Int))) (fin c o.dst (.val .bool .fz b))).run σ K = some r → OpDoes P A o w g tm ds (σ.on c) K r Q := by
            intro b hop h
            obtain ⟨hb, h⟩ := nd_ok hcg h
            refine does_light R (Ext.refl _ _) rfl hD hc h rfl trivial (fun hon => ?_)
            have hb : 0 < List.length v := by simpa using hb hon
            obtain ⟨ro, π, hr⟩ := hz hon
            obtain ⟨a, cap, hxv, hsome⟩ := hr.slice hng
            obtain ⟨ad, rfl⟩ := hsome hb
            have hyv : Act.eval ⟨tm, ds⟩ y = .slice none 0 0 := (Hy rfl).mean hon
            refine ⟨_, ?_, SR_bool b⟩
            rcases hop with ⟨rfl, rfl⟩ | ⟨rfl, rfl⟩
            · simp [execOp, ho, hxv, hyv, eqGuard_slice, binOp_slice_eql hd]
            · simp [execOp, ho, hxv, hyv, eqGuard_slice, binOp_slice_neq hd]
          have nilc : ∀ (b : Bool), sh = .emp → (op = .eql ∧ b = true ∨ op = .neq ∧ b = false) → (fin c o.dst (.val .bool .fz b)).run σ K = some r → OpDoes P A o w g tm ds (σ.on c) K r Q := by
            intro b hsh hop h2
            subst hsh
            refine does_light R (Ext.refl _ _) rfl hD hc h2 rfl trivial (fun hon => ?_)
            obtain ⟨ro, π, hr⟩ := hz hon
            have hxv : Act.eval ⟨tm, ds⟩ x = .slice none 0 0 := by
              have h1 := hr.1
              rw [cells_one hr.2] at h1
              simp only [Rp] at h1
              rcases h1 with ⟨h1, _⟩ | ⟨h1, _⟩ | ⟨_, _, h1⟩ | ⟨s', h1, _⟩
              · cases h1
              · cases h1
              · simpa using h1
              · cases h1
            have hyv : Act.eval ⟨tm, ds⟩ y = .slice none 0 0 := (Hy rfl).mean hon
            refine ⟨_, ?_, SR_bool b⟩
            rcases hop with ⟨rfl, rfl⟩ | ⟨rfl, rfl⟩
            · simp [execOp, ho, hxv, hyv, eqGuard_slice, binOp_nil_eql hd]
            · simp [execOp, ho, hxv, hyv, eqGuard_slice, binOp_nil_neq hd]
          cases op <;> simp only at h <;> try (cases h; done)
          · split at h
            · rename_i he; exact nilc true he (.inl ⟨rfl, rfl⟩) h
            · exact main false (.inl ⟨rfl, rfl⟩) h
          · split at h
            · rename_i he; exact nilc false he (.inr ⟨rfl, rfl⟩) h
            · exact main true (.inr ⟨rfl, rfl⟩) h
    · cases h
  · have hx := Hx (not_tup h)
    obtain ⟨za, h, hnga, hza⟩ := look_ok hx h
    have hy := Hy (not_tup h)
    obtain ⟨zb, h, hngb, hzb⟩ := look_ok hy h
    obtain ⟨ta, sha, va⟩ := za
    obtain ⟨tb, shb, vb⟩ := zb
    cases ta with
    | int k =>
      have bin : ∀ (n : Int) (s : S) (y' : Value), (fin c o.dst s).run σ K = some r → s.light = true → VerOk σ s → (∀ k', σ.on c = true → Act.eval ⟨tm, ds⟩ y = .int k' n →
          (binOp op ty (.int k va) (.int k' n)).run P w = .ok y' w ∧ SR P w g A σ 0 0 s y') → (σ.on c = true → ∃ k', Act.eval ⟨tm, ds⟩ y = .int k' n) → OpDoes P A o w g tm ds (σ.on c) K r Q := by
        intro n s y' h hl hv hrun hyn
        refine does_light R (Ext.refl _ _) rfl hD hc h hl hv (fun hon => ?_)
        obtain ⟨ro, π, hra⟩ := hza hon
        have hxv := hra.int hnga
        obtain ⟨k', hyv⟩ := hyn hon
        obtain ⟨hr, hs⟩ := hrun k' hon hyv
        refine ⟨y', ?_, hs⟩
        have hg := eqGuard_int (P := P) op ty x y k k' va n w
        simp [execOp, ho, hxv, hyv, hg, hr]
      have shf : ∀ (kb : IntKind) (n : Int), (⟨tb, shb, vb⟩ : PV) = ⟨.int kb, shb, n⟩ → σ.on c = true → Act.eval ⟨tm, ds⟩ y = .int kb n := by
        intro kb n e hon
        cases e
        obtain ⟨ro, π, hrb⟩ := hzb hon
        exact hrb.int hngb
      by_cases h1 : op = .shl
      · subst h1
        cases tb <;> simp only at h <;> try (cases h; done)
        obtain ⟨hb, h⟩ := nd_ok hcg h
        refine bin vb _ _ h rfl trivial (fun k' hon hyv => ⟨?_, SR_int _ _⟩) (fun hon => ⟨_, shf _ _ rfl hon⟩)
        have hb : 0 ≤ (vb : Int) := by simpa using hb hon
        simp only [binOp, Op.shift]
        rw [if_neg (Int.not_lt.2 hb)]
        rfl
      by_cases h2 : op = .shr
      · subst h2
        cases tb <;> simp only at h <;> try (cases h; done)
        obtain ⟨hb, h⟩ := nd_ok hcg h
        refine bin vb _ _ h rfl trivial (fun k' hon hyv => ⟨?_, SR_int _ _⟩) (fun hon => ⟨_, shf _ _ rfl hon⟩)
        have hb : 0 ≤ (vb : Int) := by simpa using hb hon
        simp only [binOp, Op.shift]
        rw [if_neg (Int.not_lt.2 hb)]
        rfl
      have h : (castK (.int k) tb vb fun n => (match op with
        | .quo => nd c (σ.on c) ((show Int from n) != 0) (fin c o.dst (.val (.int k) .fz (k.wrap (Int.tdiv va n))))
        | .rem => nd c (σ.on c) ((show Int from n) != 0) (fin c o.dst (.val (.int k) .fz (Int.tmod va n)))
        | op => (match binI op k va n with
          | some r => fin c o.dst (.val (.int k) .fz r)
          | none => (match binB op va n with
            | some r => fin c o.dst (.val .bool .fz r)
            | none => .fail)))).run σ K = some r := by
        cases op <;> first | exact h | (exact absurd rfl h1) | (exact absurd rfl h2)
      obtain ⟨e, h⟩ := castK_ok h
      subst e
      have hyv := fun hon => shf k vb rfl hon
      have gen : (match binI op k va vb with
          | some r => fin c o.dst (.val (.int k) .fz r)
          | none => (match binB op va vb with
            | some r => fin c o.dst (.val .bool .fz r)
            | none => .fail)).run σ K = some r → OpDoes P A o w g tm ds (σ.on c) K r Q := by
        intro h
        split at h
        · rename_i z hz
          refine bin vb _ _ h rfl trivial (fun k' hon hk => ⟨?_, SR_int _ _⟩) (fun hon => ⟨_, hyv hon⟩)
          rw [hyv hon] at hk
          simp only [Value.int.injEq] at hk
          rw [← hk.1]
          exact binI_run ty hz w
        · split at h
          · rename_i z hz
            refine bin vb _ _ h rfl trivial (fun k' hon hk => ⟨?_, SR_bool _⟩) (fun hon => ⟨_, hyv hon⟩)
            rw [hyv hon] at hk
            simp only [Value.int.injEq] at hk
            rw [← hk.1]
            exact binB_run ty hz w
          · cases h
      by_cases h3 : op = .quo
      · subst h3
        obtain ⟨hb, h⟩ := nd_ok hcg h
        refine bin vb _ _ h rfl trivial (fun k' hon hk => ⟨?_, SR_int _ _⟩) (fun hon => ⟨_, hyv hon⟩)
        have hb : (vb : Int) ≠ 0 := by simpa using hb hon
        rw [hyv hon] at hk
        simp only [Value.int.injEq] at hk
        rw [← hk.1]
        simp [binOp, Op.intDiv, hb]
      by_cases h4 : op = .rem
      · subst h4
        obtain ⟨hb, h⟩ := nd_ok hcg h
        refine bin vb _ _ h rfl trivial (fun k' hon hk => ⟨?_, SR_int _ _⟩) (fun hon => ⟨_, hyv hon⟩)
        have hb : (vb : Int) ≠ 0 := by simpa using hb hon
        rw [hyv hon] at hk
        simp only [Value.int.injEq] at hk
        rw [← hk.1]
        simp [binOp, Op.intDiv, hb]
      · exact gen (by cases op <;> first | exact h | (exact absurd rfl h3) | (exact absurd rfl h4))
    | bool =>
      simp only at h
      split at h
      · rename_i hty
        obtain ⟨e, h⟩ := castK_ok h
        subst e
        obtain ⟨d, hd, hu⟩ := tyOk_under (TOk.ty hT hty)
        simp only [UnderOk] at hu
        subst hu
        have vals : σ.on c = true → Act.eval ⟨tm, ds⟩ x = .bool va ∧ Act.eval ⟨tm, ds⟩ y = .bool vb := by
          intro hon
          obtain ⟨ro, π, hra⟩ := hza hon
          obtain ⟨ro', π', hrb⟩ := hzb hon
          exact ⟨hra.bool hnga, hrb.bool hngb⟩
        cases op <;> simp only at h <;> try (cases h; done)
        · refine does_light R (Ext.refl _ _) rfl hD hc h rfl trivial (fun hon => ⟨_, ?_, SR_bool _⟩)
          obtain ⟨hxv, hyv⟩ := vals hon
          simp [execOp, ho, hxv, hyv, eqGuard_bool, binOp_bool_eql hd]
        · refine does_light R (Ext.refl _ _) rfl hD hc h rfl trivial (fun hon => ⟨_, ?_, SR_bool _⟩)
          obtain ⟨hxv, hyv⟩ := vals hon
          simp [execOp, ho, hxv, hyv, eqGuard_bool, binOp_bool_neq hd]
      · cases h
    | agg f =>
      by_cases hh : ((sha.isFz && shb.isFz) && (C.eqs.any (fun e => e == ty) && decide (C.ty ty = some (.agg f)))) = true
      · have h5 : (castK (.agg f) tb vb fun n => (match op with
          | .eql => fin c o.dst (.val .bool .fz (eqD (.agg f) va n))
          | .neq => fin c o.dst (.val .bool .fz (!eqD (.agg f) va n))
          | _ => .fail)).run σ K = some r := by
          simp only at h
          rw [if_pos hh] at h
          exact h
        simp only [Bool.and_eq_true, decide_eq_true_eq, List.any_eq_true, beq_iff_eq] at hh
        obtain ⟨⟨hfa, hfb⟩, ⟨e, hmem, rfl⟩, hty⟩ := hh
        clear h
        obtain ⟨et, h⟩ := castK_ok h5
        subst et
        have vals : σ.on c = true → FrV P (.agg f) w g.fz va (Act.eval ⟨tm, ds⟩ x) ∧ FrV P (.agg f) w g.fz vb (Act.eval ⟨tm, ds⟩ y) := by
          intro hon
          obtain ⟨ro, π, hra⟩ := hza hon
          obtain ⟨ro', π', hrb⟩ := hzb hon
          exact ⟨⟨Rp.fr _ hfa hra.1, hra.2⟩, ⟨Rp.fr _ hfb hrb.1, hrb.2⟩⟩
        cases op <;> simp only at h <;> try (cases h; done)
        · refine does_light R (Ext.refl _ _) rfl hD hc h rfl trivial (fun hon => ⟨_, ?_, SR_bool _⟩)
          obtain ⟨hxv, hyv⟩ := vals hon
          obtain ⟨hg, he⟩ := hE e hmem f hty w g.fz va vb _ _ hxv hyv .eql x y
          obtain ⟨cx, hx'⟩ := agg_of hxv.2
          obtain ⟨cy, hy'⟩ := agg_of hyv.2
          rw [hx', hy'] at hg he
          have hb : (binOp .eql e (.agg cx) (.agg cy)).run P w = .ok (.bool (eqDL f va vb)) w := by
            show ((Op.equal e (.agg cx) (.agg cy)).bind fun b => Sem.pure (Value.bool b)).run P w = _
            rw [Sem.run_bind', he]; rfl
          simp [execOp, ho, hx', hy', hg, hb, eqD]
        · refine does_light R (Ext.refl _ _) rfl hD hc h rfl trivial (fun hon => ⟨_, ?_, SR_bool _⟩)
          obtain ⟨hxv, hyv⟩ := vals hon
          obtain ⟨hg, he⟩ := hE e hmem f hty w g.fz va vb _ _ hxv hyv .neq x y
          obtain ⟨cx, hx'⟩ := agg_of hxv.2
          obtain ⟨cy, hy'⟩ := agg_of hyv.2
          rw [hx', hy'] at hg he
          have hb : (binOp .neq e (.agg cx) (.agg cy)).run P w = .ok (.bool !(eqDL f va vb)) w := by
            show ((Op.equal e (.agg cx) (.agg cy)).bind fun b => Sem.pure (Value.bool !b)).run P w = _
            rw [Sem.run_bind', he]; rfl
          simp [execOp, ho, hx', hy', hg, hb, eqD]
      · simp only at h
        rw [if_neg hh] at h
        cases h
    | sl e t => cases h
    | arr n t => cases h
    | fn a q => cases h
end
end Go.Ev

/- Operations: copies. -/
namespace Go.Ev
open Go.RowKit
variable {P : Program}
section
variable {R' : Type} {A : Nat → Value} {w : World} {g g0 : Gh} {tm : Array Value} {ds : List Deferred} {σ : Env} {c : G} {K : Unit → Env → Option R'} {r : R'} {Q : Exit → Act → World → Prop} {o : Oper} {C : Ctx}

theorem takeAs_ok (fk : Nat) {mv : Bool} {u : Ty} {i : Nat} {s : S} {x : Value} {α : Type} {K : α → Env → Option R'} {k : Sh → D u → Acc α} (hS : SoundC P C) (R : Rel P A w g tm σ) (hc : Gd σ c) (H : Held P A w g σ c s x)
    (h : (takeAs C c mv u i s k).run σ K = some r) :
    ∃ sh v g' σ', (k sh v).run σ' K = some r ∧ Rel P A w g' tm σ' ∧ Moved P A w (· ≠ fk) g σ g' σ' ∧ sh.noGone = true ∧ (σ.on c = true → RpV P w g' (.inr fk) u [] sh v x) := by
  unfold takeAs at h
  split at h
  · rename_i e t _
    refine ⟨.emp, [], g, σ, h, R, Moved.refl _ _ _ _ _, rfl, fun hon => ?_⟩
    have hx : x = .slice none 0 0 := H.mean hon
    subst hx
    exact ⟨by rw [Rp]; exact .inr (.inr (.inl ⟨rfl, rfl, rfl⟩)), rfl⟩
  · rename_i a q f _
    split at h
    · rename_i sp hsp
      split at h
      · rename_i hh
        simp only [Bool.and_eq_true, beq_iff_eq, Bool.not_eq_true'] at hh
        obtain ⟨⟨⟨⟨⟨h1, h2⟩, h3⟩, h4⟩, h5⟩, h6⟩ := hh
        split at h
        · rename_i ea er _ _
          subst ea
          subst er
          refine ⟨.fz, _, g, σ, h, R, Moved.refl _ _ _ _ _, rfl, fun hon => ?_⟩
          have hx : x = .func (.func f) #[] #[] := H.mean hon
          subst hx
          exact ⟨Rp.of_fr _ ((hS.spec hsp).value h1 h2 h3 (by omega) h5 h6 w g.fz), rfl⟩
        · cases h
      · cases h
    · cases h
  · obtain ⟨y, g', σ', h, R', M, hng, hr⟩ := take_ok fk R hc H h
    obtain ⟨e, h⟩ := castK_ok h
    subst e
    exact ⟨_, _, g', σ', h, R', M, hng, hr⟩

theorem Moved.dst {K' : Nat → Prop} {g' : Gh} {σ' : Env} {dst : Option Nat} (M : Moved P A w K' g σ g' σ') (hD : DstOk A σ c dst tm) : DstOk A σ' c dst tm := hD.mild M.mild

theorem hdS_val {i : Nat} {e : Ent} {t : Ty} {sh : Sh} {v : D t} (h : hdS i e = .val t sh v) : e.s = .val t sh v := by
  obtain ⟨gd, ver, pv, s⟩ := e
  cases s <;> simp only [hdS] at h <;> try (cases h; done)
  · split at h
    · exact h
    · cases h

theorem oPick_ok {x y z : Operand} (R : Rel P A w g tm σ) (hD : DstOk A σ c o.dst tm) (hc : Gd σ c) (ho : o.op = .pick x y z) (h : (oPick c o x y z).run σ K = some r) : OpDoes P A o w g tm ds (σ.on c) K r Q := by
  unfold oPick at h
  obtain ⟨d, s, h, H, hslot, hform⟩ := rd_ok R ds h
  cases x with
  | tmp i =>
    obtain ⟨hdi, hs, _⟩ := hslot i rfl
    subst hdi
    split at h
    · rename_i sh0 b _ hx
      cases hx
      obtain ⟨iy, sy, h, Hy, _⟩ := rd_ok R ds h
      obtain ⟨iz, sz, h, Hz, _⟩ := rd_ok R ds h
      split at h
      · rename_i t sh v u sh' w' _ _ _
        split at h
        · rename_i hfz
          simp only [Bool.and_eq_true] at hfz
          obtain ⟨e, h⟩ := castK_ok h
          subst e
          refine does_light R (Ext.refl _ _) rfl hD hc h rfl trivial (fun hon => ?_)
          have hxb : Act.eval ⟨tm, ds⟩ (.tmp d) = .bool b := RpV.bool ((H rfl).mean hon) (isFz_noGone _ (H rfl).light)
          have hsd := hdS_val hs.symm
          have hon' : ∀ b' : Bool, b = b' → σ.on (c ++ [(d, b')]) = true := by
            intro b' hb'
            simp only [Env.on, List.all_append, Bool.and_eq_true] at hon ⊢
            refine ⟨hon, ?_⟩
            simp only [List.all_cons, List.all_nil, Bool.and_true, hsd]
            rw [hb']; simp
          cases hb : b with
          | true =>
            have hm := (Hy rfl).mean (hon' true hb)
            refine ⟨Act.eval ⟨tm, ds⟩ y, ?_, ?_⟩
            · rw [hb] at hxb
              simp [execOp, ho, hxb, asBool]
            · obtain ⟨hr, ha⟩ : RpV P w g (.inl 0) _ [] sh v _ := hm
              simp only [if_true]
              exact Fr.sr (Rp.fr _ hfz.1 hr) ha
          | false =>
            have hm := (Hz rfl).mean (hon' false hb)
            refine ⟨Act.eval ⟨tm, ds⟩ z, ?_, ?_⟩
            · rw [hb] at hxb
              simp [execOp, ho, hxb, asBool]
            · obtain ⟨hr, ha⟩ : RpV P w g (.inl 0) _ [] sh' w' _ := hm
              simp only [Bool.false_eq_true, if_false]
              exact Fr.sr (Rp.fr _ hfz.2 hr) ha
        · cases h
      · cases h
    · cases h
  | const v => split at h <;> first | (rename_i hx; cases hx; done) | cases h
  | func f => split at h <;> first | (rename_i hx; cases hx; done) | cases h
  | global n => split at h <;> first | (rename_i hx; cases hx; done) | cases h
end
end Go.Ev

/- Operations: moves. -/
namespace Go.Ev
open Go.RowKit
variable {P : Program}
section
variable {R' : Type} {A : Nat → Value} {w : World} {g g0 : Gh} {tm : Array Value} {ds : List Deferred} {σ : Env} {c : G} {K : Unit → Env → Option R'} {r : R'} {Q : Exit → Act → World → Prop} {o : Oper} {C : Ctx}

/-- A value is taken over into a slot. -/
theorem assign_val {x : Operand} {i : Nat} {s : S} {u : Ty} {mv : Bool} (hS : SoundC P C) (R : Rel P A w g tm σ) (hD : DstOk A σ c o.dst tm) (hc : Gd σ c) (H : Held P A w g σ c s (Act.eval ⟨tm, ds⟩ x))
    (he : (execOp (Act.eval ⟨tm, ds⟩) o).run P w = .ok (.value (Act.eval ⟨tm, ds⟩ x)) w) (h : (takeAs C c mv u i s fun sh v => fin c o.dst (.val u sh v)).run σ K = some r) :
    OpDoes P A o w g tm ds (σ.on c) K r Q := by
  obtain ⟨sh, v, g', σ', h, R', M, hng, hr⟩ := takeAs_ok 0 hS R hc H h
  exact does_value 0 R' M.ext (M.mild.on hc) (hD.mild M.mild) (M.mild.gdOk hc) h fun hon => ⟨_, he, hr (by rwa [M.mild.on hc] at hon)⟩

/-- A pointer to a variable that the root r owns. -/
def BoxR (P : Program) (w : World) (g : Gh) (ro : Root) (t : Ty) (sh : Sh) (v : D t) (x : Value) : Prop :=
  ∃ b c e, x = .pointer (some ⟨b, 0, none⟩) ∧ g.B ro [] = b ∧ g.st b = some (ro, []) ∧ w.heap[b]? = some (.cells c e (0, 0)) ∧ Rp P w g ro t [0] sh v c.toList
theorem BoxR.go {w w' : World} {g g' : Gh} {ro ro' : Root} {t : Ty} {sh : Sh} {v : D t} {x : Value} (k : Goes w g ro [] w' g' ro' []) (h : BoxR P w g ro t sh v x) : BoxR P w' g' ro' t sh v x := by
  obtain ⟨b, c, e, hx, hB, hs, hc, hp⟩ := h
  have h1 := k.own b [] hs
  have h2 := k.base []
  exact ⟨b, c, e, hx, by rw [← hB]; exact h2.symm, h1.1, h1.2.trans hc, Rp.go t (k.sub [0]) hp⟩

/-- All that a root owns is under way. -/
theorem Rel.leave (R : Rel P A w g tm σ) {i : Nat} (hh : (σ.get i).s.isHome = true) (fk : Nat) :
    Rel P A w (turnG g (.inl i) [] .gone [] (.inr fk) []) tm (σ.turn i 1 0 .undef) ∧ Moved P A w (· ≠ fk) g σ (turnG g (.inl i) [] .gone [] (.inr fk) []) (σ.turn i 1 0 .undef) ∧
    Goes w g (.inl i) [] w (turnG g (.inl i) [] .gone [] (.inr fk) []) (.inr fk) [] := by
  have hne : (Sum.inl i : Root) ≠ .inr fk := by simp
  have hk := turnG_keeps (g := g) (r0 := .inl i) (π0 := []) (sh' := .gone) (p := []) (fk := .inr fk) (τ := []) w
  have hk' : Keeps (fun r => ∃ n, r = .inl n ∧ n ≠ i) w g w (turnG g (.inl i) [] .gone [] (.inr fk) []) := hk.mono (by
    rintro r ⟨n, rfl, hn⟩
    exact ⟨by simpa using hn, by simp⟩)
  refine ⟨R.turn hh (Nat.le_refl 1) hk' (turnG_own R.own hne) (turnG_fz R.own R.fz) trivial (fun _ => trivial), ⟨Mild.turn hh, turnG_ext w, hk.mono ?_, fun s hl hv => ⟨hv.keep (Mild.turn hh).ver, fun n n' pv x hs => ?_⟩⟩, turnG_goes (π0 := []) (p := []) hne fun q => rfl⟩
  · rintro r ⟨j, rfl, hj⟩
    exact ⟨by simp, by simpa using hj⟩
  · exact (hs.light_turn hl hv (Nat.le_refl 1) hk').light_n hl

/-- A slot takes over all that is under way at one root. -/
theorem Rel.arrive (R : Rel P A w g tm σ) {dst : Option Nat} {s : S} {y : Value} (fk : Nat) (hD : DstOk A σ c dst tm) (hc : Gd σ c) (hv : ∀ σ', VerOk σ' s)
    (hs : ∀ g' σ' d, Goes w g (.inr fk) [] w g' (.inl d) [] → σ.on c = true → SR P w g' A σ' d 0 s y) (hoff : σ.on c = false → y = undef) :
    ∃ g', Rel P A w g' (putT tm dst y) (finE σ dst c s) ∧ Ext w g w g' := by
  cases dst with
  | none => exact ⟨g, R, Ext.refl _ _⟩
  | some d =>
    obtain ⟨h1, h2, h3, hA⟩ := hD d rfl
    have hne : (Sum.inr fk : Root) ≠ .inl d := by simp
    refine ⟨turnG g (.inr fk) [] .gone [] (.inl d) [], ?_, turnG_ext w⟩
    refine R.fin hA h1 h2 hc ((turnG_keeps w).mono ?_) (turnG_own R.own hne) (turnG_fz R.own R.fz) (fun n hn => ?_) (fun ho => ?_) (hv _) (fun ho => ?_)
    · rintro r ⟨n, rfl, hn⟩
      exact ⟨by simp, by simpa using hn⟩
    · simp only [putT, getD_set n h3, if_neg hn]
    · simp only [putT, getD_set d h3, if_true]; exact hoff ho
    · simp only [putT, getD_set d h3, if_true]
      exact hs _ _ d (turnG_goes (π0 := []) (p := []) hne fun q => rfl) ho

theorem does_arrive {s : S} {on : Bool} (fk : Nat) (R : Rel P A w g tm σ) (E : Ext w g0 w g) (hon : σ.on c = on) (hD : DstOk A σ c o.dst tm) (hc : Gd σ c) (h : (fin c o.dst s).run σ K = some r) (hv : ∀ σ', VerOk σ' s)
    (hs : σ.on c = true → ∃ y, (execOp (Act.eval ⟨tm, ds⟩) o).run P w = .ok (.value y) w ∧ ∀ g' σ' d, Goes w g (.inr fk) [] w g' (.inl d) [] → SR P w g' A σ' d 0 s y) : OpDoes P A o w g0 tm ds on K r Q := by
  unfold OpDoes
  have hK := fin_ok h
  split
  · rename_i ho
    rw [← hon] at ho
    obtain ⟨y, hr, hs⟩ := hs ho
    unfold Oper.wp
    rw [hr]
    obtain ⟨g', R', E'⟩ := R.arrive (dst := o.dst) (s := s) (y := y) fk hD hc hv (fun g' σ' d k _ => hs g' σ' d k) (fun hf => by rw [ho] at hf; cases hf)
    refine ⟨g', _, ?_, E.trans E', put_defers _ _ _ _, ?_, hK⟩
    · rw [put_tmps]; exact R'
    · rw [put_tmps, putT_size]
  · rename_i ho
    rw [← hon] at ho
    obtain ⟨g', R', E'⟩ := R.arrive (dst := o.dst) (s := s) (y := undef) fk hD hc hv (fun g' σ' d k h1 => absurd h1 ho) (fun _ => rfl)
    refine ⟨g', _, ?_, E.trans E', put_defers _ _ _ _, ?_, hK⟩
    · rw [put_tmps]; exact R'
    · rw [put_tmps, putT_size]
end
end Go.Ev

/- Operations: moves and assignments. -/
namespace Go.Ev
open Go.RowKit
variable {P : Program}
section
variable {R' : Type} {A : Nat → Value} {w : World} {g g0 : Gh} {tm : Array Value} {ds : List Deferred} {σ : Env} {c : G} {K : Unit → Env → Option R'} {r : R'} {Q : Exit → Act → World → Prop} {o : Oper} {C : Ctx}

theorem on_nil (σ : Env) : σ.on [] = true := rfl
theorem isEmpty_nil {c : G} (h : c.isEmpty = true) : c = [] := by cases c <;> first | rfl | cases h
theorem sub_nil {a : G} (h : sub a [] = true) : a = [] := by
  cases a with
  | nil => rfl
  | cons x r => simp [sub] at h

theorem oAssign_ok {x : Operand} (hS : SoundC P C) (R : Rel P A w g tm σ) (hD : DstOk A σ c o.dst tm) (hc : Gd σ c) (hcg : c.isEmpty = true → σ.on c = true) (ho : o.op = .assign x)
    (h : (oAssign C c o x).run σ K = some r) : OpDoes P A o w g tm ds (σ.on c) K r Q := by
  have he : (execOp (Act.eval ⟨tm, ds⟩) o).run P w = .ok (.value (Act.eval ⟨tm, ds⟩ x)) w := by simp [execOp, ho]
  unfold oAssign at h
  obtain ⟨i, s, h', H, hslot, hform⟩ := rd_ok R ds h
  clear h; have h := h'; clear h'
  split at h
  · rename_i hn ver p u _
    split at h
    · split at h
      · rename_i hce
        have hx : ∃ j, x = .tmp j := by
          rcases hform with hx | ⟨v, hv⟩ | ⟨f, hf⟩
          · exact hx
          · unfold lit at hv; split at hv <;> cases hv
          · cases hf
        obtain ⟨j, rfl⟩ := hx
        obtain ⟨rfl, _, hsub⟩ := hslot j rfl
        have hon : σ.on (σ.get i).gd = true := by
          rw [isEmpty_nil hce] at hsub
          rw [sub_nil hsub]; rfl
        have hslot := R.slot i hon
        simp only [Acc.run] at h
        split at h
        · rename_i t sh v hbox
          simp only [Acc.run] at h
          split at h
          · rename_i hh
            obtain ⟨R1, M, G1⟩ := R.leave hh 0
            rw [hbox] at hslot
            have hb : BoxR P w g (.inl i) t sh v (tm.getD i undef) := hslot
            have hb := BoxR.go G1 hb
            refine does_arrive 0 R1 M.ext (M.mild.on hc) (hD.mild M.mild) (M.mild.gdOk hc) h (fun _ => trivial) (fun hon => ⟨_, he, fun g' σ' d k => ?_⟩)
            exact BoxR.go k hb
          · cases h
        · cases h
      · cases h
    · have H := H rfl
      exact does_light R (Ext.refl _ _) rfl hD hc h rfl H.ver (fun hon => ⟨_, he, H.mean hon⟩)
  · have H := H rfl
    exact does_light R (Ext.refl _ _) rfl hD hc h rfl H.ver (fun hon => ⟨_, he, H.mean hon⟩)
  · split at h
    · exact does_light R (Ext.refl _ _) rfl hD hc h rfl trivial (fun hon => ⟨_, he, trivial⟩)
    · cases h
  · split at h
    · rename_i t ht
      have hnt : s.isTup = false := by
        cases s <;> first | rfl | (simp [takeAs, take, Acc.run] at h) | skip
        all_goals (cases t <;> simp [takeAs, take, Acc.run] at h)
      exact assign_val hS R hD hc (H hnt) he h
    · cases h

theorem hdS_tup {i : Nat} {e : Ent} {l : List PV} (h : S.tup l = hdS i e) : e.s = .tup l := by
  obtain ⟨gd, ver, pv, s⟩ := e
  cases s <;> simp only [hdS] at h <;> try (cases h; done)
  · split at h <;> cases h
  · exact h.symm

theorem tup_slot {x : Operand} {l : List PV} {i : Nat} (hslot : ∀ j, x = .tmp j → i = j ∧ S.tup l = hdS j (σ.get j) ∧ sub (σ.get j).gd c = true) (hform : (∃ j, x = .tmp j) ∨ (∃ v, S.tup l = lit v) ∨ ∃ f, S.tup l = .fnc f) :
    x = .tmp i ∧ (σ.get i).s = .tup l ∧ sub (σ.get i).gd c = true := by
  have hx : ∃ j, x = .tmp j := by
    rcases hform with hx | ⟨v, hv⟩ | ⟨f, hf⟩
    · exact hx
    · unfold lit at hv; split at hv <;> cases hv
    · cases hf
  obtain ⟨j, rfl⟩ := hx
  obtain ⟨rfl, h1, h2⟩ := hslot j rfl
  exact ⟨rfl, hdS_tup h1, h2⟩

theorem oMove_ok {x : Operand} (hS : SoundC P C) (R : Rel P A w g tm σ) (hD : DstOk A σ c o.dst tm) (hc : Gd σ c) (hcg : c.isEmpty = true → σ.on c = true) (ho : o.op = .move x)
    (h : (oMove C c o x).run σ K = some r) : OpDoes P A o w g tm ds (σ.on c) K r Q := by
  have he : (execOp (Act.eval ⟨tm, ds⟩) o).run P w = .ok (.value (Act.eval ⟨tm, ds⟩ x)) w := by simp [execOp, ho]
  unfold oMove at h
  obtain ⟨i, s, h', H, hslot, hform⟩ := rd_ok R ds h
  clear h; have h := h'; clear h'
  split at h
  · split at h
    · rename_i e t _
      refine does_value 0 R (Ext.refl _ _) rfl hD hc h (fun hon => ⟨_, he, ?_⟩)
      have hx : Act.eval ⟨tm, ds⟩ x = .slice none 0 0 := (H rfl).mean hon
      rw [hx]
      exact ⟨by rw [Rp]; exact .inr (.inr (.inl ⟨rfl, rfl, rfl⟩)), rfl⟩
    · cases h
  · rename_i l
    split at h
    · rename_i hce
      obtain ⟨rfl, hs, hsub⟩ := tup_slot hslot hform
      have hon : σ.on (σ.get i).gd = true := by
        rw [isEmpty_nil hce] at hsub
        rw [sub_nil hsub]; rfl
      have hslot := R.slot i hon
      simp only [Acc.run] at h
      split at h
      · rename_i hpv
        simp only [beq_iff_eq] at hpv
        simp only [Acc.run] at h
        split at h
        · rename_i hh
          obtain ⟨R1, M, G1⟩ := R.leave hh 0
          rw [hs, hpv] at hslot
          obtain ⟨vs, hx, hz, hl⟩ := hslot
          refine does_arrive 0 R1 M.ext (M.mild.on hc) (hD.mild M.mild) (M.mild.gdOk hc) h (fun _ => trivial) (fun hon => ⟨_, he, fun g' σ' d k => ?_⟩)
          refine ⟨vs, hx, hz, fun j y hj hb => ?_⟩
          obtain ⟨z, h1, h2⟩ := hl j y hj hb
          exact ⟨z, h1, RpV.go (k.sub [j]) (RpV.go (G1.sub [j]) h2)⟩
        · cases h
      · cases h
    · cases h
  · cases h
  · rename_i f
    split at h
    · rename_i a q _
      exact assign_val hS R hD hc (H rfl) he h
    · cases h
  · rename_i h1 h2 h3 h4
    have hnt : s.isTup = false := by
      cases s <;> first | rfl | exact absurd rfl (h2 _)
    have H := H hnt
    exact does_light R (Ext.refl _ _) rfl hD hc h H.light H.ver (fun hon => ⟨_, he, (H.mean hon)⟩)

theorem testBit_add_self {x j : Nat} (h : x.testBit j = false) : (x + 2 ^ j).testBit j = true := by
  rw [Nat.add_comm, Nat.testBit_two_pow_add_eq, h]; rfl
theorem testBit_add_ne {x j k : Nat} (h : x.testBit j = false) (hk : k ≠ j) : (x + 2 ^ j).testBit k = x.testBit k := by
  rcases Nat.lt_or_gt_of_ne hk with hk | hk
  · rw [Nat.add_comm, Nat.testBit_two_pow_add_gt hk]
  · have hp : 0 < 2 ^ j := Nat.two_pow_pos j
    have h0 : x / 2 ^ j % 2 = 0 := by
      rw [Nat.testBit_eq_decide_div_mod_eq] at h
      simp at h; exact h
    have h1 : (x + 2 ^ j) / 2 ^ (j + 1) = x / 2 ^ (j + 1) := by
      rw [Nat.pow_succ, ← Nat.div_div_eq_div_mul, ← Nat.div_div_eq_div_mul, Nat.add_div_right _ hp]
      omega
    obtain ⟨d, rfl⟩ : ∃ d, k = j + 1 + d := ⟨k - (j + 1), by omega⟩
    rw [Nat.testBit_eq_decide_div_mod_eq, Nat.testBit_eq_decide_div_mod_eq]
    have h2 : ∀ y, y / 2 ^ (j + 1 + d) = y / 2 ^ (j + 1) / 2 ^ d := fun y => by rw [Nat.pow_add, Nat.div_div_eq_div_mul]
    rw [h2, h2, h1]

/-- A part of a tuple is handed on. -/
theorem Rel.mark (R : Rel P A w g tm σ) {i j : Nat} {l : List PV} (hs : (σ.get i).s = .tup l) (hb : (σ.get i).pv.testBit j = false) (fk : Nat) :
    Rel P A w (turnG g (.inl i) [j] .gone [] (.inr fk) []) tm (σ.turn i 0 (2 ^ j) (.tup l)) ∧ Mild σ (σ.turn i 0 (2 ^ j) (.tup l)) ∧
    Goes w g (.inl i) [j] w (turnG g (.inl i) [j] .gone [] (.inr fk) []) (.inr fk) [] := by
  have hne : (Sum.inl i : Root) ≠ .inr fk := by simp
  have hh : (σ.get i).s.isHome = true := by rw [hs]; rfl
  have hk := turnG_keeps (g := g) (r0 := .inl i) (π0 := [j]) (sh' := .gone) (p := []) (fk := .inr fk) (τ := []) w
  have hk' : Keeps (fun r => ∃ n, r = .inl n ∧ n ≠ i) w g w (turnG g (.inl i) [j] .gone [] (.inr fk) []) := hk.mono (by
    rintro r ⟨n, rfl, hn⟩
    exact ⟨by simpa using hn, by simp⟩)
  refine ⟨?_, Mild.turn hh, by have := turnG_goes (g := g) (w := w) (π0 := [j]) (sh' := .gone) (p := []) (τ := []) hne fun q => rfl; simpa using this⟩
  have hgd : ∀ n d b, (d, b) ∈ (σ.get n).gd → d ≠ i := by
    intro n d b hb e
    obtain ⟨sh, v, h1, h2⟩ := R.gd n d b hb
    rw [← e, h1, not_home h2] at hh
    cases hh
  have hgt : ∀ n, ((σ.turn i 0 (2 ^ j) (.tup l)).get n).gd = (σ.get n).gd := by
    intro n; rw [Env.turn_get]; split
    · rename_i e; rw [e]
    · rfl
  have hon : ∀ n, (σ.turn i 0 (2 ^ j) (.tup l)).on (σ.get n).gd = σ.on (σ.get n).gd := fun n => on_congr fun d b hb => by
    rw [Env.turn_get, if_neg (hgd n d b hb)]
  have hver : ∀ j', (σ.get j').ver < ((σ.turn i 0 (2 ^ j) (.tup l)).get j').ver ∨ ((σ.get j').ver = ((σ.turn i 0 (2 ^ j) (.tup l)).get j').ver ∧ (σ.get j').pv ≤ ((σ.turn i 0 (2 ^ j) (.tup l)).get j').pv) := (Mild.turn hh).ver
  refine ⟨?_, ?_, ?_, fun n hn => R.off n (by rw [hgt, hon] at hn; exact hn), turnG_own R.own hne, turnG_fz R.own R.fz, R.fix⟩
  · intro n hn
    rw [hgt, hon] at hn
    have hsl := R.slot n hn
    by_cases e : n = i
    · subst e
      rw [Env.turn_get, if_pos rfl]
      rw [hs] at hsl
      obtain ⟨vs, hx, hz, hl⟩ := hsl
      refine ⟨vs, hx, hz, fun k y hk2 hb2 => ?_⟩
      by_cases hf : y.sh.isFz = true
      · obtain ⟨z, h1, h2⟩ := hl k y hk2 (.inr hf)
        exact ⟨z, h1, Rp.fzgo _ hf (turnG_older w) h2.1, h2.2⟩
      · rcases hb2 with hb2 | hb2
        · have hkj : k ≠ j := by
            intro e; subst e
            have : ((σ.get n).pv + 2 ^ k).testBit k = false := hb2
            rw [testBit_add_self hb] at this; cases this
          obtain ⟨z, h1, h2⟩ := hl k y hk2 (.inl (by
            have : ((σ.get n).pv + 2 ^ j).testBit k = false := hb2
            rwa [testBit_add_ne hb hkj] at this))
          refine ⟨z, h1, RpV.go ⟨turnG_older w, fun b q hq => ⟨turnG_other hne hq ?_, rfl⟩, fun q => ?_⟩ h2⟩
          · simp only [List.singleton_append, List.cons_prefix_cons, List.nil_prefix, and_true]
            exact fun e => hkj e.symm
          · simp [turnG, hne]
        · exact absurd hb2 hf
    · rw [Env.turn_get, if_neg e]
      generalize hsn : (σ.get n).s = s at hsl
      have hR : (fun r : Root => ∃ n, r = .inl n ∧ n ≠ i) (.inl n) := ⟨n, rfl, e⟩
      cases s with
      | undef => trivial
      | nilc => exact hsl
      | strc b => exact hsl
      | fnc f => exact hsl
      | val t sh v => simp only [SR] at hsl ⊢; exact HomeR.keep hk' hR hsl
      | box t sh v => simp only [SR] at hsl ⊢; exact HomeR.keep hk' hR hsl
      | rowp e t sh v => simp only [SR] at hsl ⊢; exact HomeR.keep hk' hR hsl
      | ea t v =>
        obtain ⟨b, o, hx, hb, hf⟩ := hsl
        exact ⟨b, o, hx, (hk'.old b hb).1, Fr.mono t hk'.old hf⟩
      | ref h' ver q p t =>
        intro h1 h2
        by_cases e2 : h' = i
        · subst e2
          rw [Env.turn_get, if_pos rfl] at h1 h2
          have hv := R.ver n
          rw [hsn] at hv
          simp only [VerOk, Young] at hv
          obtain ⟨m, hm, _⟩ := hsl h1 (h2.imp id (fun h2 => by
            have h2 : (σ.get h').pv + 2 ^ j = q := h2
            have h1 : (σ.get h').ver = ver := h1
            have := Nat.two_pow_pos j
            omega))
          rw [hs] at hm; cases hm
        · rw [Env.turn_get, if_neg e2] at h1 h2 ⊢
          obtain ⟨m, hm, hmr⟩ := hsl h1 h2
          exact ⟨m, hm, RefR.keep hk' ⟨_, rfl, e2⟩ hmr⟩
      | addr h' ver p t =>
        intro h1
        by_cases e2 : h' = i
        · subst e2
          rw [Env.turn_get, if_pos rfl] at h1
          obtain ⟨m, hm, _⟩ := hsl h1
          rw [hs] at hm; cases hm
        · rw [Env.turn_get, if_neg e2] at h1 ⊢
          obtain ⟨m, hm, hmr⟩ := hsl h1
          exact ⟨m, hm, AddrR.keep (hk'.base _ ⟨_, rfl, e2⟩) hmr⟩
      | tup l2 =>
        obtain ⟨vs, hx, hz, hl⟩ := hsl
        refine ⟨vs, hx, hz, fun j y hy hb => ?_⟩
        obtain ⟨z, h1, h2⟩ := hl j y hy hb
        exact ⟨z, h1, RpV.go (hk'.goes hR _) h2⟩
      | cut h' ver q lo hi e t =>
        intro h1 h2
        by_cases e2 : h' = i
        · subst e2
          rw [Env.turn_get, if_pos rfl] at h1 h2
          have hv := R.ver n
          rw [hsn] at hv
          simp only [VerOk, Young] at hv
          have h1 : (σ.get h').ver + 0 = ver := h1
          have h2 : (σ.get h').pv + 2 ^ j = q := h2
          have := Nat.two_pow_pos j
          omega
        · rw [Env.turn_get, if_neg e2] at h1 h2 ⊢
          exact (hsl h1 h2).keep (hk'.base _ ⟨_, rfl, e2⟩)
      | shal h' ver q hi e t s l =>
        obtain ⟨xs, h1, h2⟩ := hsl
        refine ⟨xs, h1.keep hk' hR, ?_⟩
        intro h3 h4
        by_cases e2 : h' = i
        · subst e2
          rw [Env.turn_get, if_pos rfl] at h3 h4
          have hv := R.ver n
          rw [hsn] at hv
          simp only [VerOk, Young] at hv
          have h3 : (σ.get h').ver + 0 = ver := h3
          have h4 : (σ.get h').pv + 2 ^ j = q := h4
          have := Nat.two_pow_pos j
          omega
        · rw [Env.turn_get, if_neg e2] at h3 h4 ⊢
          exact (h2 h3 h4).keep hk' ⟨_, rfl, e2⟩
  · intro n d b hb
    rw [hgt] at hb
    rw [Env.turn_get, if_neg (hgd n d b hb)]
    exact R.gd n d b hb
  · intro n
    rw [Env.turn_get]
    split
    · trivial
    · exact (R.ver n).keep hver

theorem oExtract_ok {x : Operand} {j : Nat} (R : Rel P A w g tm σ) (hD : DstOk A σ c o.dst tm) (hc : Gd σ c) (hcg : c.isEmpty = true → σ.on c = true) (ho : o.op = .extract x j)
    (h : (oExtract c o x j).run σ K = some r) : OpDoes P A o w g tm ds (σ.on c) K r Q := by
  unfold oExtract at h
  obtain ⟨i, s, h', H, hslot, hform⟩ := rd_ok R ds h
  clear h; have h := h'; clear h'
  split at h
  · rename_i l
    obtain ⟨rfl, hs, hsub⟩ := tup_slot hslot hform
    have tupR : σ.on c = true → SR P w g A σ i (σ.get i).pv (.tup l) (tm.getD i undef) := fun hon => by
      have := R.slot i (on_sub hsub hon)
      rwa [hs] at this
    have exec : ∀ vs : Array Value, tm.getD i undef = .tuple vs → ∀ z, vs[j]? = some z → (execOp (Act.eval ⟨tm, ds⟩) o).run P w = .ok (.value z) w := by
      intro vs hx z hz
      have hx : Act.eval ⟨tm, ds⟩ (.tmp i) = .tuple vs := hx
      simp [execOp, ho, hx, Instr.extract, hz]
    split at h
    · rename_i p hp
      split at h
      · rename_i hf
        refine does_light R (Ext.refl _ _) rfl hD hc h hf trivial (fun hon => ?_)
        obtain ⟨vs, hx, hz, hl⟩ := tupR hon
        obtain ⟨z, h1, h2⟩ := hl j p hp (.inr hf)
        exact ⟨z, exec vs hx z h1, Rp.fzgo _ hf (Older.refl _ _) h2.1, h2.2⟩
      · split at h
        · rename_i hce
          simp only [Bool.and_eq_true] at hce
          simp only [Acc.run] at h
          split at h
          · cases h
          · rename_i hb
            simp only [Bool.not_eq_true] at hb
            simp only [Acc.run] at h
            split at h
            · rename_i ht
              rw [hs] at h
              obtain ⟨R1, M, G1⟩ := R.mark hs hb 0
              refine does_value 0 R1 (turnG_ext w) (M.on hc) (hD.mild M) (M.gdOk hc) h (fun hon => ?_)
              obtain ⟨vs, hx, hz, hl⟩ := tupR (by rwa [M.on hc] at hon)
              obtain ⟨z, h1, h2⟩ := hl j p hp (.inl hb)
              exact ⟨z, exec vs hx z h1, RpV.go G1 h2⟩
            · cases h
        · cases h
    · cases h
  · cases h
end
end Go.Ev

/- Operations that make memory: variables, rows of zeros. -/
namespace Go.Ev
open Go.RowKit
variable {P : Program}
section
variable {R' : Type} {A : Nat → Value} {w w' : World} {g g' g0 : Gh} {tm : Array Value} {ds : List Deferred} {σ : Env} {c : G} {K : Unit → Env → Option R'} {r : R'} {Q : Exit → Act → World → Prop} {o : Oper} {C : Ctx}

/-- The world grows: nothing of the slots turns. -/
theorem SR.world {s : S} {n pv : Nat} {x : Value} (k : Keeps (fun r => ∃ n, r = .inl n) w g w' g') (h : SR P w g A σ n pv s x) : SR P w' g' A σ n pv s x := by
  have hR : (fun r : Root => ∃ n, r = .inl n) (.inl n) := ⟨n, rfl⟩
  cases s with
  | undef => trivial
  | nilc => exact h
  | strc b => exact h
  | fnc f => exact h
  | val t sh v => simp only [SR] at h ⊢; exact HomeR.keep k hR h
  | box t sh v => simp only [SR] at h ⊢; exact HomeR.keep k hR h
  | rowp e t sh v => simp only [SR] at h ⊢; exact HomeR.keep k hR h
  | ea t v =>
    obtain ⟨b, o, hx, hb, hf⟩ := h
    exact ⟨b, o, hx, (k.old b hb).1, by rw [rowL_congr (k.old b hb).2]; exact Fr.mono t k.old hf⟩
  | ref h' ver q p t =>
    intro h1 h2
    obtain ⟨m, hm, hmr⟩ := h h1 h2
    exact ⟨m, hm, RefR.keep k ⟨_, rfl⟩ hmr⟩
  | addr h' ver p t =>
    intro h1
    obtain ⟨m, hm, hmr⟩ := h h1
    exact ⟨m, hm, AddrR.keep (k.base _ ⟨_, rfl⟩) hmr⟩
  | tup l =>
    obtain ⟨vs, hx, hz, hl⟩ := h
    refine ⟨vs, hx, hz, fun j y hy hb => ?_⟩
    obtain ⟨z, h1, h2⟩ := hl j y hy hb
    exact ⟨z, h1, RpV.go (k.goes hR _) h2⟩
  | cut h' ver q lo hi e t =>
    intro h1 h2
    exact (h h1 h2).keep (k.base _ ⟨_, rfl⟩)
  | shal h' ver q hi e t s l =>
    obtain ⟨xs, h1, h2⟩ := h
    exact ⟨xs, h1.keep k hR, fun h3 h4 => (h2 h3 h4).keep k ⟨_, rfl⟩⟩
theorem Rel.world (R : Rel P A w g tm σ) (k : Keeps (fun r => ∃ n, r = .inl n) w g w' g') (ok : GhOk w' g') : Rel P A w' g' tm σ :=
  ⟨fun n hn => (R.slot n hn).world k, R.gd, R.ver, R.off, ok.own, ok.fz, R.fix⟩

/-- A new block. -/
def newG (g : Gh) (ro : Root) (ρ : List Nat) (b : Nat) : Gh where
  st x := if x = b then some (ro, ρ) else g.st x
  B r := if r = ro then fun q => if q = ρ then b else g.B r q else g.B r
  fz := g.fz
section
variable {ro : Root} {ρ : List Nat} {b : Nat}
theorem newG_keeps (ok : GhOk w g) (gr : w.grownBy w' none) (hb : w.heap.size ≤ b) : Keeps (· ≠ ro) w g w' (newG g ro ρ b) where
  old x hx := ⟨hx, gr.block x (ok.fz x hx) (by simp)⟩
  own r hr x π hx := by
    have hlt := (ok.own x r π hx).1
    exact ⟨by simp only [newG]; rw [if_neg (by omega)]; exact hx, gr.block x hlt (by simp)⟩
  base r hr := by simp only [newG, if_neg hr]
theorem newG_goes (ok : GhOk w g) (gr : w.grownBy w' none) (hb : w.heap.size ≤ b) {π : List Nat} (hπ : ∀ q, π ++ q ≠ ρ) : Goes w g ro π w' (newG g ro ρ b) ro π where
  old x hx := ⟨hx, gr.block x (ok.fz x hx) (by simp)⟩
  own x q hx := by
    have hlt := (ok.own x _ _ hx).1
    exact ⟨by simp only [newG]; rw [if_neg (by omega)]; exact hx, gr.block x hlt (by simp)⟩
  base q := by simp only [newG, if_true, if_neg (hπ q)]
theorem newG_ok (ok : GhOk w g) (gr : w.grownBy w' none) (hb : w.heap.size ≤ b) (hb' : b < w'.heap.size) : GhOk w' (newG g ro ρ b) where
  own x r π hx := by
    simp only [newG] at hx
    by_cases e : x = b
    · subst e
      refine ⟨hb', fun hf => ?_⟩
      have := ok.fz x hf
      omega
    · rw [if_neg e] at hx
      have := ok.own x r π hx
      exact ⟨Nat.lt_of_lt_of_le this.1 gr.size, this.2⟩
  fz x hx := Nat.lt_of_lt_of_le (ok.fz x hx) gr.size
theorem newG_ext (gr : w.grownBy w' none) (hb : w.heap.size ≤ b) : Ext w g w' (newG g ro ρ b) where
  os := gr.os
  tape := gr.tape
  output := gr.output
  size := gr.size
  block x hx hs := ⟨gr.block x hx (by simp), by simp only [newG]; rw [if_neg (by omega)]; exact hs⟩
  fz x hx := hx
  fzn x hx := .inl hx
theorem newG_st : (newG g ro ρ b).st b = some (ro, ρ) := by simp [newG]
theorem newG_B : (newG g ro ρ b).B ro ρ = b := by simp [newG]
end
theorem alloc_grown (w : World) (ob : Obj) : w.grownBy (w.alloc ob) none := World.grownBy_alloc w ob none
theorem alloc_size (w : World) (ob : Obj) : w.heap.size < (w.alloc ob).heap.size := by show _ < (w.heap.push ob).size; simp
theorem alloc_new (w : World) (ob : Obj) : (w.alloc ob).heap[w.heap.size]? = some ob := by show (w.heap.push ob)[w.heap.size]? = _; simp

theorem turnG_ok {r0 fk : Root} {π0 : List Nat} {sh' : Sh} {p τ : List Nat} (ok : GhOk w g) (hne : r0 ≠ fk) : GhOk w (turnG g r0 π0 sh' p fk τ) := ⟨turnG_own ok.own hne, turnG_fz ok.own ok.fz⟩

/-- The slots under way alone turn. -/
theorem Rel.fly (R : Rel P A w g tm σ) {i j : Nat} {π0 : List Nat} {sh' : Sh} {p τ : List Nat} (hij : i ≠ j) : Rel P A w (turnG g (.inr i) π0 sh' p (.inr j) τ) tm σ :=
  R.world ((turnG_keeps w).mono (by rintro r ⟨n, rfl⟩; exact ⟨by simp, by simp⟩)) (turnG_ok R.ok (by simpa using hij))

/-- A slot takes over what is under way at one root, in a world that has grown. -/
theorem does_grown {s : S} {on : Bool} (fk : Nat) (hon : σ.on c = on) (hD : DstOk A σ c o.dst tm) (hc : Gd σ c) (h : (fin c o.dst s).run σ K = some r) (hv : ∀ σ', VerOk σ' s)
    (off : on = false → ∃ g1, Rel P A w g1 tm σ ∧ Ext w g0 w g1)
    (onn : on = true → ∃ w1 g1 y, Rel P A w1 g1 tm σ ∧ Ext w g0 w1 g1 ∧ (execOp (Act.eval ⟨tm, ds⟩) o).run P w = .ok (.value y) w1 ∧ ∀ g' σ' d, Goes w1 g1 (.inr fk) [] w1 g' (.inl d) [] → SR P w1 g' A σ' d 0 s y) :
    OpDoes P A o w g0 tm ds on K r Q := by
  unfold OpDoes
  have hK := fin_ok h
  split
  · rename_i ho
    obtain ⟨w1, g1, y, R, E, hr, hs⟩ := onn ho
    rw [← hon] at ho
    unfold Oper.wp
    rw [hr]
    obtain ⟨g', R', E'⟩ := R.arrive (dst := o.dst) (s := s) (y := y) fk hD hc hv (fun g' σ' d k _ => hs g' σ' d k) (fun hf => by rw [ho] at hf; cases hf)
    refine ⟨g', _, ?_, E.trans E', put_defers _ _ _ _, ?_, hK⟩
    · rw [put_tmps]; exact R'
    · rw [put_tmps, putT_size]
  · rename_i ho
    obtain ⟨g1, R, E⟩ := off (by simpa using ho)
    rw [← hon] at ho
    obtain ⟨g', R', E'⟩ := R.arrive (dst := o.dst) (s := s) (y := undef) fk hD hc hv (fun g' σ' d k h1 => absurd h1 ho) (fun _ => rfl)
    refine ⟨g', _, ?_, E.trans E', put_defers _ _ _ _, ?_, hK⟩
    · rw [put_tmps]; exact R'
    · rw [put_tmps, putT_size]

mutual
theorem zeroCells_len : (t : Ty) → (zeroCells t).length = t.size
  | .int _ => rfl
  | .bool => rfl
  | .sl _ _ => rfl
  | .fn _ _ => rfl
  | .agg f => by simp only [zeroCells, Ty.size]; exact zeroCellsL_len f
  | .arr n t => by
    have := zeroCells_len t
    simp [zeroCells, Ty.size, this]
theorem zeroCellsL_len : (ts : Tys) → (zeroCellsL ts).length = ts.size
  | .nil => rfl
  | .cons t ts => by simp only [zeroCellsL, Tys.size, List.length_append, zeroCells_len t, zeroCellsL_len ts]
end
theorem seg_flat {z : List Value} : (n : Nat) → (i : Nat) → i < n → seg (List.replicate n z).flatten (i * z.length) z.length = z
  | 0, i, h => by omega
  | n + 1, 0, h => by
    rw [List.replicate_succ, List.flatten_cons, Nat.zero_mul]
    exact seg_append_left _ _ _ rfl
  | n + 1, i + 1, h => by
    rw [List.replicate_succ, List.flatten_cons, seg_right _ _ _ _ (by rw [Nat.succ_mul]; omega), Nat.succ_mul, Nat.add_sub_cancel]
    exact seg_flat n i (by omega)
mutual
theorem zeroFr (w : World) (fz : Nat → Prop) : (t : Ty) → Fr P t w fz (dflt t) (zeroCells t)
  | .int _ => by simp [Fr, dflt, zeroCells]
  | .bool => by simp [Fr, dflt, zeroCells]
  | .sl _ _ => by simp [Fr, dflt, zeroCells]
  | .fn _ _ => by simp [Fr, dflt, zeroCells]
  | .agg f => by simp only [Fr, dflt, zeroCells]; exact zeroFrL w fz f
  | .arr n t => by
    simp only [Fr, dflt, zeroCells]
    refine ⟨by simp, by simp [zeroCells_len], fun i x hx => ?_⟩
    rw [List.getElem?_replicate] at hx
    split at hx
    · rename_i hi
      simp only [Option.some.injEq] at hx
      subst hx
      have := seg_flat (z := zeroCells t) n i hi
      rw [zeroCells_len] at this
      rw [this]
      exact zeroFr w fz t
    · cases hx
theorem zeroFrL (w : World) (fz : Nat → Prop) : (ts : Tys) → FrL P ts w fz (dfltL ts) (zeroCellsL ts)
  | .nil => by simp [FrL, zeroCellsL]
  | .cons t ts => by
    simp only [FrL, dfltL, zeroCellsL]
    exact ⟨_, _, rfl, zeroFr w fz t, zeroFrL w fz ts⟩
end
mutual
theorem zeroRp (w : World) (g : Gh) (ro : Root) : (t : Ty) → (π : List Nat) → Rp P w g ro t π (zsh t) (dflt t) (zeroCells t)
  | .int k, π => Rp.of_fr _ (zeroFr w g.fz (.int k))
  | .bool, π => Rp.of_fr _ (zeroFr w g.fz .bool)
  | .fn a q, π => Rp.of_fr _ (zeroFr w g.fz (.fn a q))
  | .arr n t, π => Rp.of_fr _ (zeroFr w g.fz (.arr n t))
  | .sl e t, π => by rw [Rp]; exact .inr (.inr (.inl ⟨rfl, rfl, rfl⟩))
  | .agg f, π => by rw [Rp]; exact .inr (.inr (zeroRpL w g ro f π 0))
theorem zeroRpL (w : World) (g : Gh) (ro : Root) : (ts : Tys) → (π : List Nat) → (k : Nat) → RpL P w g ro ts π k (zsh.zshL ts) (dfltL ts) (zeroCellsL ts)
  | .nil, π, k => by simp [RpL, zsh.zshL, zeroCellsL]
  | .cons t ts, π, k => by
    simp only [RpL, zsh.zshL, dfltL, zeroCellsL]
    exact ⟨_, _, rfl, _, _, rfl, zeroRp w g ro t _, zeroRpL w g ro ts π (k + 1)⟩
end

theorem ghost_off (R : Rel P A w g tm σ) : ∃ g1, Rel P A w g1 tm σ ∧ Ext w g w g1 := ⟨g, R, Ext.refl _ _⟩

/-- A variable that has been made. -/
theorem box_new {w : World} {g : Gh} {fk : Nat} {t : Ty} {sh : Sh} {v : D t} {cs : Array Value} {e : TypeId} (ok : GhOk w g) (h : Rp P w g (.inr fk) t [0] sh v cs.toList) :
    BoxR P (w.alloc (.cells cs e)) (newG g (.inr fk) [] w.heap.size) (.inr fk) t sh v (.pointer (some ⟨w.heap.size, 0, none⟩)) :=
  ⟨_, cs, e, rfl, newG_B, newG_st, alloc_new w _, Rp.go t (newG_goes ok (alloc_grown w _) (Nat.le_refl _) (by simp)) h⟩

theorem oAlloc_ok {ty : TypeId} {t : Ty} (hT : TOk P C.T = true) (hty : C.ty ty = some t) (R : Rel P A w g tm σ) (hD : DstOk A σ c o.dst tm) (hc : Gd σ c) (ho : o.op = .alloc ty)
    (h : (fin c o.dst (.box t (zsh t) (dflt t))).run σ K = some r) : OpDoes P A o w g tm ds (σ.on c) K r Q := by
  refine does_grown 0 rfl hD hc h (fun _ => trivial) (fun _ => ghost_off R) (fun hon => ?_)
  obtain ⟨i, z, hi, hs, h0, hb, hz, hzc, hza⟩ := (tyOk_info (TOk.ty hT hty)).ex
  refine ⟨w.alloc (.cells z.cells ty), newG g (.inr 0) [] w.heap.size, .pointer (some ⟨w.heap.size, 0, none⟩), R.world ((newG_keeps R.ok (alloc_grown w _) (Nat.le_refl _)).mono (by rintro r ⟨n, rfl⟩; simp)) (newG_ok R.ok (alloc_grown w _) (Nat.le_refl _) (alloc_size w _)),
    newG_ext (alloc_grown w _) (Nat.le_refl _), ?_, fun g' σ' d k => BoxR.go k (box_new R.ok ?_)⟩
  · simp [execOp, ho, Instr.alloc, zeroValue, typeInfo, hi, hz, newVar, newRow]
  · rw [hzc]; exact zeroRp w g _ t _

theorem oBox_ok {ty : TypeId} {t : Ty} {x : Operand} (hS : SoundC P C) (R : Rel P A w g tm σ) (hD : DstOk A σ c o.dst tm) (hc : Gd σ c) (ho : o.op = .box ty x)
    (h : (rd c x fun i s => takeAs C c (C.mv.any (· == i)) t i s fun sh v => fin c o.dst (.box t sh v)).run σ K = some r) : OpDoes P A o w g tm ds (σ.on c) K r Q := by
  obtain ⟨i, s, h', H, hslot, hform⟩ := rd_ok R ds h
  clear h; have h := h'; clear h'
  have hnt : s.isTup = false := by
    cases s <;> first | rfl | (cases t <;> simp [takeAs, take, Acc.run] at h)
  obtain ⟨sh, v, g1, σ1, h, R1, M, hng, hr⟩ := takeAs_ok 0 hS R hc (H hnt) h
  refine does_grown 1 (M.mild.on hc) (hD.mild M.mild) (M.mild.gdOk hc) h (fun _ => trivial) (fun _ => ⟨g1, R1, M.ext⟩) (fun hon => ?_)
  have hr := hr hon
  have R2 := R1.fly (i := 0) (j := 1) (π0 := []) (sh' := .gone) (p := []) (τ := [0]) (by omega)
  refine ⟨w.alloc (.cells (Act.eval ⟨tm, ds⟩ x).cells ty), newG (turnG g1 (.inr 0) [] .gone [] (.inr 1) [0]) (.inr 1) [] w.heap.size, .pointer (some ⟨w.heap.size, 0, none⟩),
    R2.world ((newG_keeps R2.ok (alloc_grown w _) (Nat.le_refl _)).mono (by rintro r ⟨n, rfl⟩; simp)) (newG_ok R2.ok (alloc_grown w _) (Nat.le_refl _) (alloc_size w _)),
    (M.ext.trans (turnG_ext w)).trans (newG_ext (alloc_grown w _) (Nat.le_refl _)), ?_, fun g' σ' d k => BoxR.go k (box_new R2.ok ?_)⟩
  · simp [execOp, ho, Instr.box, newVar, newRow]
  · exact Rp.go t (turnG_goes (π0 := []) (p := []) (by simp) fun q => rfl) hr.1

theorem madeCells_flat {z : List Value} (hz : 0 < z.length) (n : Nat) : (madeCells z.toArray (n * z.length)).toList = (List.replicate n z).flatten := by
  apply List.ext_getElem?
  intro i
  have hl : (List.replicate n z).flatten.length = n * z.length := by simp
  have hm : (madeCells z.toArray (n * z.length)).toList.length = n * z.length := by simp [size_madeCells]
  by_cases hi : i < n * z.length
  · have hd : i / z.length < n := by rw [Nat.div_lt_iff_lt_mul hz]; exact hi
    have hmod := Nat.mod_lt i hz
    have hs := seg_flat (z := z) n (i / z.length) hd
    have h1 : (List.replicate n z).flatten[i]? = z[i % z.length]? := by
      have := congrArg (fun l => l[i % z.length]?) hs
      simp only [seg_get, if_pos hmod] at this
      rw [← this]
      congr 1
      have := Nat.div_add_mod i z.length
      rw [Nat.mul_comm]; exact this.symm
    rw [h1]
    simp [madeCells, hi, hmod]
  · rw [List.getElem?_eq_none (by omega), List.getElem?_eq_none (by omega)]

theorem oMakeSlice_ok {ty : TypeId} {x y : Operand} (hT : TOk P C.T = true) (R : Rel P A w g tm σ) (hD : DstOk A σ c o.dst tm) (hc : Gd σ c) (hcg : c.isEmpty = true → σ.on c = true) (ho : o.op = .makeSlice ty x y)
    (h : (oMakeSlice C c (σ.on c) o ty x y).run σ K = some r) : OpDoes P A o w g tm ds (σ.on c) K r Q := by
  unfold oMakeSlice at h
  split at h
  · rename_i e t hty
    obtain ⟨ix, sx, h, Hx, _⟩ := rd_ok R ds h
    obtain ⟨n, h, hn⟩ := lookInt_ok (Hx (not_tup h)) h
    obtain ⟨iy, sy, h, Hy, _⟩ := rd_ok R ds h
    obtain ⟨m, h, hm⟩ := lookInt_ok (Hy (not_tup h)) h
    obtain ⟨hb, h⟩ := nd_ok hcg h
    refine does_grown 0 rfl hD hc h (fun _ => trivial) (fun _ => ghost_off R) (fun hon => ?_)
    have hb := hb hon
    simp only [Bool.and_eq_true, decide_eq_true_eq] at hb
    obtain ⟨rfl, h0, hlim⟩ := hb
    obtain ⟨kn, hx⟩ := hn hon
    obtain ⟨km, hy⟩ := hm hon
    obtain ⟨d, hd, hu⟩ := tyOk_under (TOk.ty hT hty)
    obtain ⟨rfl, hte⟩ := hu
    obtain ⟨i, z, hi, hs, hs0, hib, hz, hzc, hza⟩ := (tyOk_info hte).ex
    obtain ⟨k, rfl⟩ : ∃ k : Nat, m = k := ⟨m.toNat, by omega⟩
    have hk : k < LIM (bytesOf t) := by omega
    have hbytes : i.bytes * k ≤ 281474976710656 := by
      unfold LIM at hk
      have h1 : k * bytesOf t ≤ 140737488355328 := by
        have := Nat.div_mul_le_self 140737488355328 (bytesOf t)
        have h2 := Nat.mul_le_mul_right (bytesOf t) (Nat.le_of_lt hk)
        omega
      have h2 : i.bytes * k ≤ bytesOf t * k := Nat.mul_le_mul_right _ hib
      rw [Nat.mul_comm] at h1; omega
    have hk63 : k ≤ 140737488355328 := by
      unfold LIM at hk
      have := Nat.div_le_self 140737488355328 (bytesOf t)
      omega
    have hrun := run_make (P := P) w ty e i z hd hi hz kn km (k : Int) (k : Int) h0 (Int.le_refl _) (by omega) (by omega)
    rw [Int.toNat_natCast] at hrun
    refine ⟨w.alloc (.cells (madeCells z.cells (k * i.size)) e), newG g (.inr 0) [] w.heap.size, .slice (some ⟨w.heap.size, 0, none⟩) k k, R.world ((newG_keeps R.ok (alloc_grown w _) (Nat.le_refl _)).mono (by rintro r ⟨n, rfl⟩; simp)) (newG_ok R.ok (alloc_grown w _) (Nat.le_refl _) (alloc_size w _)),
      newG_ext (alloc_grown w _) (Nat.le_refl _), ?_, ?_⟩
    · simp [execOp, ho, hx, hy, hrun]
    · intro g' σ' d' kk
      refine RpV.go kk ⟨?_, rfl⟩
      have hzl : z.cells.toList.length = t.size := by rw [hzc, zeroCells_len]
      have hcells : (madeCells z.cells (k * i.size)).toList = (List.replicate k (zeroCells t)).flatten := by
        have := madeCells_flat (z := zeroCells t) (by rw [zeroCells_len]; exact hs0) k
        rw [← hzc] at this ⊢
        rw [hzl] at this
        rw [hs]; exact this
      rw [Rp]
      refine .inr (.inr (.inr ⟨_, rfl, _, (List.replicate k (zeroCells t)).flatten, rfl, ⟨?_, .inr ⟨w.heap.size, k, _, ?_, Nat.zero_le _, alloc_new w _, ?_, ?_, ?_, ?_⟩⟩, ?_, ?_⟩))
      · simp [zeroCells_len]
      · simp
      · simp
      · simp only [maxLen]; omega
      · rw [size_madeCells, hs]
      · rw [hcells]
        exact List.take_of_length_le (by simp [zeroCells_len])
      · intro b hb
        simp only [Value.ownBlock, Option.some.injEq] at hb
        subst hb
        exact ⟨newG_B, newG_st⟩
      · intro j y hy
        rw [List.getElem?_replicate] at hy
        split at hy
        · rename_i hj
          simp only [Option.some.injEq] at hy
          subst hy
          have := seg_flat (z := zeroCells t) k j (by simpa using hj)
          rw [zeroCells_len] at this
          rw [this]
          exact zeroRp _ _ _ t _
        · cases hy
  · cases h
end
end Go.Ev

/- Operations that build structs and rows of parts. -/
namespace Go.Ev
open Go.RowKit
variable {P : Program}

theorem fold_set : (l : List Value) → (off j : Nat) → (cs : Array Value) → off + j + l.length ≤ cs.size →
    (l.zipIdx j).foldl (fun (cs : Array Value) (x : Value × Nat) => cs.setIfInBounds (off + x.2) x.1) cs = (splice cs.toList (off + j) l).toArray
  | [], off, j, cs, h => by
    simp only [List.zipIdx_nil, List.foldl_nil]
    apply Array.ext'
    simp only [splice, List.append_nil, List.length_nil, Nat.add_zero, List.take_append_drop]
  | c :: l, off, j, cs, h => by
    simp only [List.length_cons] at h
    rw [List.zipIdx_cons, List.foldl_cons, fold_set l off (j + 1) _ (by simpa using (by omega : off + (j + 1) + l.length ≤ cs.size))]
    apply Array.ext'
    show splice _ _ _ = splice _ _ _
    apply List.ext_getElem?
    intro i
    rw [splice_get _ _ _ (by simp; omega), splice_get _ _ _ (by simp; omega)]
    simp only [Array.toList_setIfInBounds, List.length_cons]
    by_cases h1 : off + (j + 1) ≤ i ∧ i < off + (j + 1) + l.length
    · rw [if_pos h1, if_pos (by omega)]
      obtain ⟨d, hd⟩ : ∃ d, i = off + j + (d + 1) := ⟨i - (off + j) - 1, by omega⟩
      subst hd
      rw [show off + j + (d + 1) - (off + (j + 1)) = d by omega, show off + j + (d + 1) - (off + j) = d + 1 by omega]
      rfl
    · rw [if_neg h1]
      by_cases h2 : i = off + j
      · subst h2
        rw [if_pos (by omega), List.getElem?_set_self (by simpa using (by omega : off + j < cs.size))]
        simp
      · rw [if_neg (by omega), List.getElem?_set_ne (by omega)]

theorem fill_cons {place : Nat → Option (Nat × Nat)} {cells : Array Value} {i : Nat} {v : Value} {rest : List (Nat × Value)} {off size : Nat} (hp : place i = some (off, size)) (hs : v.cells.toList.length = size) (hl : off + size ≤ cells.size) :
    Instr.fill place cells ((i, v) :: rest) = Instr.fill place (splice cells.toList off v.cells.toList).toArray rest := by
  have hs' : v.cells.size = size := by simpa using hs
  rw [Instr.fill, hp]
  simp only
  rw [if_neg (by rw [hs']; simp; omega)]
  congr 1
  have := fold_set v.cells.toList off 0 cells (by simpa using (by omega : off + v.cells.size ≤ cells.size))
  rw [Nat.add_zero] at this
  rw [← this, ← Array.foldl_toList, Array.toList_zipIdx]

section
variable {R' : Type} {A : Nat → Value} {w w' : World} {g g' g0 : Gh} {tm : Array Value} {ds : List Deferred} {σ : Env} {c : G} {K : Unit → Env → Option R'} {r : R'} {Q : Exit → Act → World → Prop} {o : Oper} {C : Ctx}

theorem takeAs_tup {α : Type} {K : α → Env → Option R'} {mv : Bool} {u : Ty} {i : Nat} {s : S} {k : Sh → D u → Acc α} (h : (takeAs C c mv u i s k).run σ K = some r) : s.isTup = false := by
  cases s <;> first | rfl | (cases u <;> simp [takeAs, take, Acc.run] at h)

theorem fillE_ok {f : Tys} {α : Type} {K : α → Env → Option R'} {k : Sh → DL f → Acc α} {pl : Nat → Option (Nat × Nat)} (hS : SoundC P C) (hpl : ∀ i, i < f.len → pl i = some (f.off i, (f.get i).size)) :
    (ps : List (Nat × Operand)) → {sh : Sh} → {v : DL f} → {g : Gh} → {σ : Env} → (cs : List Value) → Rel P A w g tm σ → Gd σ c → cs.length = f.size → (σ.on c = true → RpL P w g (.inr 0) f [] 0 sh v cs) →
    (fill C c f ps sh v k).run σ K = some r →
    ∃ sh' v' g' σ', (k sh' v').run σ' K = some r ∧ Rel P A w g' tm σ' ∧ Mild σ σ' ∧ Ext w g w g' ∧
      (σ.on c = true → ∃ cs', RpL P w g' (.inr 0) f [] 0 sh' v' cs' ∧ Instr.fill pl cs.toArray (ps.map fun x => (x.1, Act.eval ⟨tm, ds⟩ x.2)) = some cs'.toArray)
  | [], sh, v, g, σ, cs, R, hc, hl, hr, h => ⟨sh, v, g, σ, h, R, Mild.refl _, Ext.refl _ _, fun hon => ⟨cs, hr hon, rfl⟩⟩
  | (i, x) :: ps, sh, v, g, σ, cs, R, hc, hl, hr, h => by
    rw [fill] at h
    split at h
    · rename_i hi
      obtain ⟨j, s, h', H, hslot, hform⟩ := rd_ok R ds h
      clear h; have h := h'; clear h'
      obtain ⟨s', x', g1, σ1, h, R1, M, hng, hrx⟩ := takeAs_ok 1 hS R hc (H (takeAs_tup h)) h
      split at h
      · rename_i sh1 hsh
        have R2 := R1.fly (i := 1) (j := 0) (π0 := []) (sh' := .gone) (p := []) (τ := [i]) (by omega)
        have hM := M.mild
        have E2 : Ext w g w (turnG g1 (.inr 1) [] .gone [] (.inr 0) [i]) := M.ext.trans (turnG_ext w)
        by_cases hon : σ.on c = true
        · have hrx := hrx hon
          have hlx : (Act.eval ⟨tm, ds⟩ x).cells.toList.length = (f.get i).size := Rp.len _ hrx.1
          have hle := Tys.off_le f i hi
          have hrl := hr hon
          have hnew : RpL P w (turnG g1 (.inr 1) [] .gone [] (.inr 0) [i]) (.inr 0) f [] 0 sh1 (DL.set f v i x') (splice cs (f.off i) (Act.eval ⟨tm, ds⟩ x).cells.toList) := by
            refine RpL.set f hrl i hi hsh ?_ (fun j hj => ?_)
            · have := Rp.go (f.get i) (turnG_goes (g := g1) (w := w) (r0 := .inr 1) (fk := .inr 0) (π0 := []) (sh' := .gone) (p := []) (τ := [i]) (by simp) fun q => rfl) hrx.1
              simpa using this
            · have k1 : Goes w g (.inr 0) [0 + j] w g1 (.inr 0) [0 + j] := M.fly.goes ⟨0, rfl, by simp⟩ _
              have k2 := turnG_beside (g := g1) (w := w) (r0 := .inr 1) (fk := .inr 0) (π0 := []) (sh' := .gone) (p := []) (τ := [i]) (by simp) (ρ := [0 + j]) (by
                intro q
                simp only [List.singleton_append, List.cons_prefix_cons, List.nil_prefix, and_true]
                omega)
              have k3 : Goes w g (.inr 0) [0 + j] w (turnG g1 (.inr 1) [] .gone [] (.inr 0) [i]) (.inr 0) [0 + j] :=
                ⟨k1.old.trans k2.old, fun b q hb => ⟨(k2.own b q (k1.own b q hb).1).1, rfl⟩, fun q => (k1.base q).trans (k2.base q)⟩
              simpa using k3
          have hlen : (splice cs (f.off i) (Act.eval ⟨tm, ds⟩ x).cells.toList).length = f.size := by
            rw [splice_length _ _ _ (by omega), hl]
          obtain ⟨sh', v', g', σ', h, R', M', E', hf⟩ := fillE_ok hS hpl ps _ R2 (hM.gdOk hc) hlen (fun _ => hnew) h
          refine ⟨sh', v', g', σ', h, R', hM.trans M', E2.trans E', fun _ => ?_⟩
          obtain ⟨cs', h1, h2⟩ := hf (by rw [hM.on hc]; exact hon)
          refine ⟨cs', h1, ?_⟩
          rw [List.map_cons, fill_cons (hpl i hi) hlx (by simpa using (by omega : f.off i + (f.get i).size ≤ cs.length))]
          exact h2
        · obtain ⟨sh', v', g', σ', h, R', M', E', hf⟩ := fillE_ok hS hpl ps cs R2 (hM.gdOk hc) hl (fun h1 => absurd (by rwa [hM.on hc] at h1) hon) h
          exact ⟨sh', v', g', σ', h, R', hM.trans M', E2.trans E', fun h1 => absurd h1 hon⟩
      · cases h
    · cases h

theorem places_ok : (fs : List Field) → (f : Tys) → (o : Nat) → fieldsOk P fs f o = true → ∃ pl : List (Nat × Nat), fs.mapM (fun f => (P.info? f.type).map fun i => (f.offset, i.size)) = some pl ∧ ∀ i, i < f.len → pl[i]? = some (o + f.off i, (f.get i).size)
  | [], .nil, o, h => ⟨[], rfl, fun i hi => by simp [Tys.len] at hi⟩
  | x :: fs, .nil, o, h => by simp [fieldsOk] at h
  | [], .cons t ts, o, h => by simp [fieldsOk] at h
  | x :: fs, .cons t ts, o, h => by
    simp only [fieldsOk, Bool.and_eq_true, beq_iff_eq] at h
    obtain ⟨pl, h1, h2⟩ := places_ok fs ts _ h.2
    obtain ⟨i, z, hi, hs, _⟩ := (tyOk_info h.1.2).ex
    refine ⟨(x.offset, i.size) :: pl, ?_, fun j hj => ?_⟩
    · simp only [List.mapM_cons, hi, h1, Option.map_some]; rfl
    · cases j with
      | zero => simp [Tys.off, h.1.1, hs, Tys.get]
      | succ j =>
        have := h2 j (by simpa [Tys.len] using hj)
        simp only [List.getElem?_cons_succ, this, Tys.off, Tys.get]
        rw [show o + t.size + ts.off j = o + (t.size + ts.off j) by omega]

theorem oBuild_ok {ty : TypeId} {ps : Array (Nat × Operand)} (hT : TOk P C.T = true) (hS : SoundC P C) (R : Rel P A w g tm σ) (hD : DstOk A σ c o.dst tm) (hc : Gd σ c) (ho : o.op = .build ty ps)
    (h : (oBuild C c o ty ps.toList).run σ K = some r) : OpDoes P A o w g tm ds (σ.on c) K r Q := by
  unfold oBuild at h
  split at h
  · rename_i f hty
    obtain ⟨d, hd, hu⟩ := tyOk_under (TOk.ty hT hty)
    obtain ⟨fl, rfl, hfs⟩ := hu
    obtain ⟨pl, hpl, hplg⟩ := places_ok _ _ _ hfs
    obtain ⟨i, z, hi, hs, hs0, hib, hz, hzc, hza⟩ := (tyOk_info (TOk.ty hT hty)).ex
    obtain ⟨sh, v, g1, σ1, h, R1, M, E, hf⟩ := fillE_ok (ds := ds) (pl := fun (i : Nat) => (pl[i]? : Option (Nat × Nat))) hS (fun i hi => by rw [hplg i hi, Nat.zero_add]) ps.toList (zeroCellsL f) R hc (zeroCellsL_len f) (fun _ => zeroRpL w g _ f [] 0) h
    refine does_value 0 R1 E (M.on hc) (hD.mild M) (M.gdOk hc) h (fun hon => ?_)
    obtain ⟨cs', h1, h2⟩ := hf (by rwa [M.on hc] at hon)
    refine ⟨.agg cs'.toArray, ?_, ?_, rfl⟩
    · have : (Instr.build ty (ps.map fun (i, x) => (i, Act.eval ⟨tm, ds⟩ x))).run P w = .ok (.agg cs'.toArray) w := by
        refine run_build w ty _ _ ?_
        simp only [Program.built, hi, hd, hz, hpl, Array.toList_map]
        have hzz : z.cells = (zeroCellsL f).toArray := by
          apply Array.ext'; rw [hzc]; rfl
        rw [hzz]
        have e : (fun (i : Nat) => pl.toArray[i]?) = fun (i : Nat) => pl[i]? := by funext i; simp
        rw [e]
        exact h2
      simp only [execOp, ho, this, Sem.run_bind]
      rfl
    · rw [Rp]; exact .inr (.inr h1)
  · cases h

/-- The elements of a row that is built. -/
theorem elems_ok {t : Ty} {α : Type} {K : α → Env → Option R'} {e : TypeId} (hS : SoundC P C) :
    (ps : List (Nat × Operand)) → {k : List Sh → List (D t) → Acc α} → (n : Nat) → {g : Gh} → {σ : Env} → Rel P A w g tm σ → Gd σ c → (elems C c t n ps k).run σ K = some r →
    ∃ l vs g' σ', (k l vs).run σ' K = some r ∧ Rel P A w g' tm σ' ∧ Mild σ σ' ∧ Ext w g w g' ∧ l.length = ps.length ∧ vs.length = ps.length ∧ (∀ s ∈ l, s.noGone = true) ∧
      (∀ j, j < n → Goes w g (.inr 0) [j] w g' (.inr 0) [j]) ∧
      (σ.on c = true → ∀ j x, ps[j]? = some x → x.1 = n + j ∧ ∃ s v, l[j]? = some s ∧ vs[j]? = some v ∧ RpV P w g' (.inr 0) t [n + j] s v (Act.eval ⟨tm, ds⟩ x.2))
  | [], k, n, g, σ, R, hc, h => ⟨[], [], g, σ, h, R, Mild.refl _, Ext.refl _ _, rfl, rfl, (fun s hs => by cases hs), (fun j _ => ⟨Older.refl _ _, fun b q hb => ⟨hb, rfl⟩, fun q => rfl⟩), (fun _ j x hx => by simp at hx)⟩
  | (i, x) :: ps, k, n, g, σ, R, hc, h => by
    rw [elems] at h
    split at h
    · rename_i hi
      subst hi
      obtain ⟨j, s, h', H, hslot, hform⟩ := rd_ok R ds h
      clear h; have h := h'; clear h'
      obtain ⟨s', x', g1, σ1, h, R1, M, hng, hrx⟩ := takeAs_ok 1 hS R hc (H (takeAs_tup h)) h
      have R2 := R1.fly (i := 1) (j := 0) (π0 := []) (sh' := .gone) (p := []) (τ := [i]) (by omega)
      have hM := M.mild
      have E2 : Ext w g w (turnG g1 (.inr 1) [] .gone [] (.inr 0) [i]) := M.ext.trans (turnG_ext w)
      have kept : ∀ j, j ≠ i → Goes w g (.inr 0) [j] w (turnG g1 (.inr 1) [] .gone [] (.inr 0) [i]) (.inr 0) [j] := by
        intro j hj
        have k1 : Goes w g (.inr 0) [j] w g1 (.inr 0) [j] := M.fly.goes ⟨0, rfl, by simp⟩ _
        have k2 := turnG_beside (g := g1) (w := w) (r0 := .inr 1) (fk := .inr 0) (π0 := []) (sh' := .gone) (p := []) (τ := [i]) (by simp) (ρ := [j]) (by
          intro q
          simp only [List.singleton_append, List.cons_prefix_cons, List.nil_prefix, and_true]
          omega)
        exact ⟨k1.old.trans k2.old, fun b q hb => ⟨(k2.own b q (k1.own b q hb).1).1, rfl⟩, fun q => (k1.base q).trans (k2.base q)⟩
      obtain ⟨l, vs, g', σ', h, R', M', E', hl1, hl2, hl3, hg, hf⟩ := elems_ok (e := e) hS ps (i + 1) R2 (hM.gdOk hc) h
      refine ⟨s' :: l, x' :: vs, g', σ', h, R', hM.trans M', E2.trans E', by simp [hl1], by simp [hl2], ?_, ?_, ?_⟩
      · intro s hs
        rcases List.mem_cons.1 hs with rfl | hs
        · exact hng
        · exact hl3 s hs
      · intro j hj
        have k1 := kept j (by omega)
        have k2 := hg j (by omega)
        exact ⟨k1.old.trans k2.old, fun b q hb => ⟨(k2.own b q (k1.own b q hb).1).1, rfl⟩, fun q => (k1.base q).trans (k2.base q)⟩
      · intro hon j y hy
        cases j with
        | zero =>
          simp only [List.getElem?_cons_zero, Option.some.injEq] at hy
          subst hy
          refine ⟨rfl, s', x', rfl, rfl, ?_⟩
          have h1 := hrx hon
          have h2 := RpV.go (turnG_goes (g := g1) (w := w) (r0 := .inr 1) (fk := .inr 0) (π0 := []) (sh' := .gone) (p := []) (τ := [i]) (by simp) fun q => rfl) h1
          exact RpV.go (hg i (by omega)) h2
        | succ j =>
          simp only [List.getElem?_cons_succ] at hy
          obtain ⟨h1, s, v, h2, h3, h4⟩ := hf (by rw [hM.on hc]; exact hon) j y hy
          refine ⟨by rw [h1]; omega, s, v, by simpa using h2, by simpa using h3, ?_⟩
          rwa [show i + 1 + j = i + (j + 1) by omega] at h4
    · cases h

theorem meets_spec : (l : List Sh) → (∀ s ∈ l, s = meets l) ∨ meets l = .fz
  | [] => .inr rfl
  | [s] => .inl (fun x hx => by rw [List.mem_singleton.1 hx]; rfl)
  | s :: s2 :: l => by
    simp only [meets]
    have ih := meets_spec (s2 :: l)
    unfold meet
    split
    · rename_i he
      rcases ih with ih | ih
      · refine .inl fun x hx => ?_
        rcases List.mem_cons.1 hx with rfl | hx
        · rfl
        · rw [ih x hx, he]
      · exact .inr (he.trans ih)
    · exact .inr rfl

theorem fill_row {t : Ty} : (ps : List (Nat × Value)) → (n : Nat) → (cs : List Value) → (N : Nat) → cs.length = N * t.size → n + ps.length ≤ N → (∀ j x, ps[j]? = some x → x.1 = n + j ∧ x.2.cells.toList.length = t.size) →
    ∃ cs', Instr.fill (fun i => some (i * t.size, t.size)) cs.toArray ps = some cs'.toArray ∧ cs'.length = cs.length ∧ (∀ j x, ps[j]? = some x → seg cs' ((n + j) * t.size) t.size = x.2.cells.toList) ∧
      (∀ j, j < n → seg cs' (j * t.size) t.size = seg cs (j * t.size) t.size)
  | [], n, cs, N, hl, hn, hp => ⟨cs, rfl, rfl, (fun j x hx => by simp at hx), (fun j _ => rfl)⟩
  | (i, x) :: ps, n, cs, N, hl, hn, hp => by
    obtain ⟨h1, h2⟩ := hp 0 (i, x) rfl
    simp only [Nat.add_zero] at h1 h2
    subst h1
    simp only [List.length_cons] at hn
    have hle : i * t.size + t.size ≤ cs.length := by rw [hl]; exact mul_le t.size (by omega)
    have hsl : (splice cs (i * t.size) x.cells.toList).length = cs.length := splice_length _ _ _ (by omega)
    obtain ⟨cs', e1, e2, e3, e4⟩ := fill_row (t := t) ps (i + 1) (splice cs (i * t.size) x.cells.toList) N (by rw [hsl, hl]) (by omega) (fun j y hy => by
      obtain ⟨h3, h4⟩ := hp (j + 1) y (by simpa using hy)
      exact ⟨by omega, h4⟩)
    refine ⟨cs', ?_, by rw [e2, hsl], ?_, ?_⟩
    · rw [fill_cons (off := i * t.size) (size := t.size) rfl h2 (by simpa using hle)]
      exact e1
    · intro j y hy
      cases j with
      | zero =>
        simp only [List.getElem?_cons_zero, Option.some.injEq] at hy
        subst hy
        rw [Nat.add_zero, e4 i (by omega)]
        have := seg_splice_in cs (i * t.size) 0 t.size x.cells.toList (by omega) hle
        rw [Nat.add_zero] at this
        rw [this, splice_whole _ _ (by rw [seg_length _ _ _ hle, h2])]
      | succ j =>
        simp only [List.getElem?_cons_succ] at hy
        have := e3 j y hy
        rwa [show i + 1 + j = i + (j + 1) by omega] at this
    · intro j hj
      rw [e4 j (by omega)]
      exact seg_splice_off _ _ _ _ _ (by omega) (.inl (mul_far t.size hj))

theorem oBuildSlice_ok {ty : TypeId} {n : Nat} {ps : Array (Nat × Operand)} (hT : TOk P C.T = true) (hS : SoundC P C) (R : Rel P A w g tm σ) (hD : DstOk A σ c o.dst tm) (hc : Gd σ c) (ho : o.op = .buildSlice ty n ps)
    (h : (oBuildSlice C c o ty n ps.toList).run σ K = some r) : OpDoes P A o w g tm ds (σ.on c) K r Q := by
  unfold oBuildSlice at h
  split at h
  · rename_i e t hty
    split at h
    · rename_i hn
      simp only [Bool.and_eq_true, beq_iff_eq, decide_eq_true_eq] at hn
      obtain ⟨hn, h24⟩ := hn
      obtain ⟨l, vs, g1, σ1, h, R1, M, E, hl1, hl2, hl3, _, hf⟩ := elems_ok (ds := ds) (e := e) hS ps.toList 0 R hc h
      obtain ⟨d, hd, hu⟩ := tyOk_under (TOk.ty hT hty)
      obtain ⟨rfl, hte⟩ := hu
      obtain ⟨i, z, hi, hs, hs0, hib, hz, hzc, hza⟩ := (tyOk_info hte).ex
      -- the elements as of one shape
      have hsame : ∃ g2, Rel P A w g2 tm σ1 ∧ Ext w g w g2 ∧ (σ.on c = true → ∀ j x, ps.toList[j]? = some x → x.1 = 0 + j ∧ ∃ v, vs[j]? = some v ∧ RpV P w g2 (.inr 0) t [0 + j] (meets l) v (Act.eval ⟨tm, ds⟩ x.2)) := by
        rcases meets_spec l with hm | hm
        · refine ⟨g1, R1, E, fun hon j x hx => ?_⟩
          obtain ⟨h1, s, v, h2, h3, h4⟩ := hf hon j x hx
          rw [hm s (List.mem_of_getElem? h2)] at h4
          exact ⟨h1, v, h3, h4⟩
        · refine ⟨turnG g1 (.inr 0) [] .fz [] (.inr 1) [], R1.fly (by omega), E.trans (turnG_ext w), fun hon j x hx => ?_⟩
          obtain ⟨h1, s, v, h2, h3, h4⟩ := hf hon j x hx
          refine ⟨h1, v, h3, ?_, h4.2⟩
          rw [hm]
          exact Rp.of_fr _ (Rp.freeze _ (hl3 s (List.mem_of_getElem? h2)) (turnG_older w) (fun b q hb => ⟨.inr ⟨[0 + j] ++ q, by simpa using hb, rfl⟩, rfl⟩) h4.1)
      obtain ⟨g2, R2, E2, hf⟩ := hsame
      refine does_grown 0 (M.on hc) (hD.mild M) (M.gdOk hc) h (fun _ => trivial) (fun _ => ⟨g2, R2, E2⟩) (fun hon => ?_)
      have hf := hf hon
      have hlen : ps.toList.length = n := hn
      obtain ⟨cs', e1, e2, e3, _⟩ := fill_row (t := t) (ps.toList.map fun x => (x.1, Act.eval ⟨tm, ds⟩ x.2)) 0 (List.replicate n (zeroCells t)).flatten n (by simp [zeroCells_len]) (by rw [List.length_map, hlen]; omega) (fun j x hx => by
        simp only [List.getElem?_map, Option.map_eq_some_iff] at hx
        obtain ⟨y, hy, rfl⟩ := hx
        obtain ⟨h1, v, _, h4⟩ := hf j y hy
        exact ⟨h1, Rp.len _ h4.1⟩)
      have hzl : z.cells.toList.length = t.size := by rw [hzc, zeroCells_len]
      have hcells : madeCells z.cells (n * i.size) = (List.replicate n (zeroCells t)).flatten.toArray := by
        apply Array.ext'
        have := madeCells_flat (z := zeroCells t) (by rw [zeroCells_len]; exact hs0) n
        rw [← hzc] at this ⊢
        rw [hzl] at this
        rw [hs]; exact this
      have hrun : (Instr.buildSlice ty n (ps.map fun (i, x) => (i, Act.eval ⟨tm, ds⟩ x))).run P w = .ok (.slice (some ⟨w.heap.size, 0, none⟩) n n) (w.alloc (.cells cs'.toArray e)) := by
        by_cases hn0 : n * i.size = 0
        · have hn00 : n = 0 := by
            rw [hs] at hn0
            rcases Nat.mul_eq_zero.1 hn0 with h | h
            · exact h
            · omega
          subst hn00
          have hps : ps = #[] := by
            apply Array.ext'
            exact List.eq_nil_of_length_eq_zero hlen
          subst hps
          have hcs : cs' = [] := List.eq_nil_of_length_eq_zero (by rw [e2]; simp)
          subst hcs
          simp [Instr.buildSlice, run_underlying hd, sizeOf, typeInfo, hi, newRow, Instr.fill]
          congr 2
          apply Array.eq_empty_of_size_eq_zero
          simp
        · refine run_buildSlice w ty e n _ cs'.toArray i z hd hi hz (by rw [hs]; omega) hn0 ?_
          rw [show (Array.range (n * i.size)).map (z.cells[· % z.cells.size]!) = madeCells z.cells (n * i.size) from rfl, hcells, hs, Array.toList_map]
          exact e1
      refine ⟨w.alloc (.cells cs'.toArray e), newG g2 (.inr 0) [] w.heap.size, .slice (some ⟨w.heap.size, 0, none⟩) n n, R2.world ((newG_keeps R2.ok (alloc_grown w _) (Nat.le_refl _)).mono (by rintro r ⟨n, rfl⟩; simp)) (newG_ok R2.ok (alloc_grown w _) (Nat.le_refl _) (alloc_size w _)),
        E2.trans (newG_ext (alloc_grown w _) (Nat.le_refl _)), ?_, ?_⟩
      · simp only [execOp, ho, hrun, Sem.run_bind]; rfl
      · intro g' σ' d' kk
        refine RpV.go kk ⟨?_, rfl⟩
        have hvl : vs.length = n := by rw [hl2, hlen]
        have hcl : cs'.length = n * t.size := by rw [e2]; simp [zeroCells_len]
        rw [Rp]
        refine .inr (.inr (.inr ⟨_, rfl, .slice (some ⟨w.heap.size, 0, none⟩) n n, cs', rfl, ⟨?_, .inr ⟨w.heap.size, n, cs'.toArray, ?_, Nat.zero_le _, alloc_new w _, ?_, ?_, ?_, ?_⟩⟩, ?_, ?_⟩))
        · rw [hvl]; exact hcl
        · rw [hvl]
        · rw [hvl]; exact Nat.le_refl _
        · have : n ≤ n * t.size := Nat.le_mul_of_pos_right _ hs0
          simp only [maxLen]; omega
        · simpa using hcl
        · rw [hvl]; exact List.take_of_length_le (by simp [hcl])
        · intro b hb
          simp only [Value.ownBlock, Option.some.injEq] at hb
          subst hb
          exact ⟨newG_B, newG_st⟩
        · intro j y hy
          have hj : j < ps.toList.length := by rw [← hl2]; exact (List.getElem?_eq_some_iff.1 hy).1
          obtain ⟨x, hx⟩ : ∃ x, ps.toList[j]? = some x := ⟨_, List.getElem?_eq_getElem hj⟩
          obtain ⟨_, v, h3, h4⟩ := hf j x hx
          have hvy : v = y := by
            have : vs[j]? = some y := hy
            rw [h3] at this; simpa using this
          subst hvy
          have := e3 j (x.1, Act.eval ⟨tm, ds⟩ x.2) (by simp [hx])
          rw [Nat.zero_add] at this
          rw [this]
          have := Rp.go t (newG_goes (w' := w.alloc (.cells cs'.toArray e)) (ρ := []) R2.ok (alloc_grown w _) (Nat.le_refl _) (π := [0 + j]) (by simp)) h4.1
          rw [Nat.zero_add] at this
          exact this
    · cases h
  · cases h
end
end Go.Ev
