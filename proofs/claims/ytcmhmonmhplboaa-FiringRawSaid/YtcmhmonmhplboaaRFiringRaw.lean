/- The law's row: for every input the call answers true, and each argument reads as it did. No condition. -/
import Derived.Test.YtcmhmonmhplboaaE4
import Derived.Test.YtcmhmonmhplboaaC2
import Derived.Test.YtcmhmonmhplboaaP3
import Derived.Test.YtcmhmonmhplboaaRows
set_option linter.all false
set_option linter.unusedVariables false
set_option linter.unusedSimpArgs false
set_option linter.unnecessarySimpa false
set_option autoImplicit true
set_option relaxedAutoImplicit true
namespace Go.Proofs.Ytcmhmonmhplboaa
open Go.ChangeShapes Go.WideShapes Go.ChangeAt Go.RowKit Go.Ev

theorem Try.own : ownKnob Try.prog.godebug = none := by kernel_rfl
theorem Try.laidOut : laidOutB Try.prog = true := by kernel_rfl

set_option maxRecDepth 100000 in
theorem firingRaw_lifted (os : Os) (started : os.Started) (H : Type) (enc : TypeId × Value → H) :
    ReturnsInHanded {} Try.checked os 7 .any (Rows.firingRawSpec.pre6 enc Try.prog Try.f7 Rows.firingRawRow.domain false) (Rows.firingRawSpec.post enc Try.prog Try.f7 false true false false) :=
  law_lifted (C := Try.checked) (us := .cons (.sl 3 Fs.I) (.cons Fs.t57 (.cons Fs.t59 .nil))) (ms := [.fz, .fz, .fz]) (F := Fs.f7) (tb := 4) Try.own Try.laidOut started (by kernel_rfl) Try.func7
    (ChangeSpec.witness6 (enc := enc) (C := Try.checked) false ⟨#[], #[.slice none 0 0, .agg #[.slice none 0 0, .int .i64 0, .int .i64 0], .agg #[.int .i64 0, .int .i64 0, .int .i64 0, .int .i64 0]], []⟩ 8 (by kernel_rfl) (by kernel_rfl) (by kernel_rfl) (by kernel_rfl))
    rfl (fun ds h => by match ds, h with | [d0, d1, d2], _ => rfl) (by kernel_rfl) (by kernel_rfl) (by kernel_rfl) (by kernel_rfl) (by kernel_rfl) (by kernel_rfl) (fun K => Fs.s7 K) (fun x _ => ⟨Fs.KK, Fs.firingRaw_true (Nat.le_refl _) x.1 x.2.1 x.2.2.1⟩)

theorem firingRaw_holds : Rows.FiringRawSaid :=
  OpenClaim.holds_of_wide 7 Try.f7 rfl rfl rfl rfl rfl rfl rfl ⟨rfl, rfl, rfl, rfl, rfl⟩ rfl rfl rfl rfl rfl (by kernel_rfl) Try.func7 (by kernel_rfl)
    (of_decide_eq_true (by kernel_rfl)) (by unfold Func.isWrapper; first | (rw [if_pos (by decide +kernel)]; kernel_rfl) | (rw [if_neg (by decide +kernel)]; exact ⟨rfl, rfl⟩))
    (fun os started H enc _ => firingRaw_lifted os started H enc)
end Go.Proofs.Ytcmhmonmhplboaa
