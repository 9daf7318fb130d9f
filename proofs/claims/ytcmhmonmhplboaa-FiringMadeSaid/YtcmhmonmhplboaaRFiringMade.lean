/- The law's row: for every input the call answers true, and each argument reads as it did. No condition. -/
import Derived.Test.YtcmhmonmhplboaaE4
import Derived.Test.YtcmhmonmhplboaaC2
import Derived.Test.YtcmhmonmhplboaaP3
import Derived.Test.YtcmhmonmhplboaaRows
set_option linter.all false
set_option linter.unusedVariables false
set_option linter.unusedSimpArgs false
set_option linter.unnecessarySimpa false
set_option autoImplicit true
set_option relaxedAutoImplicit true
namespace Go.Proofs.Ytcmhmonmhplboaa
open Go.ChangeShapes Go.WideShapes Go.ChangeAt Go.RowKit Go.Ev

theorem Try.own : ownKnob Try.prog.godebug = none := by kernel_rfl
theorem Try.laidOut : laidOutB Try.prog = true := by kernel_rfl

set_option maxRecDepth 100000 in
theorem firingMade_lifted (os : Os) (started : os.Started) (H : Type) (enc : TypeId × Value → H) :
    ReturnsInHanded {} Try.checked os 8 .any (Rows.firingMadeSpec.pre6 enc Try.prog Try.f8 Rows.firingMadeRow.domain false) (Rows.firingMadeSpec.post enc Try.prog Try.f8 false true false false) :=
  law_lifted (C := Try.checked) (us := .cons (.sl 3 Fs.I) .nil) (ms := [.fz]) (F := Fs.f8) (tb := 4) Try.own Try.laidOut started (by kernel_rfl) Try.func8
    (ChangeSpec.witness6 (enc := enc) (C := Try.checked) false ⟨#[], #[.slice none 0 0], []⟩ 8 (by kernel_rfl) (by kernel_rfl) (by kernel_rfl) (by kernel_rfl))
    rfl (fun ds h => by match ds, h with | [d0], _ => rfl) (by kernel_rfl) (by kernel_rfl) (by kernel_rfl) (by kernel_rfl) (by kernel_rfl) (by kernel_rfl) (fun K => Fs.s8 K) (fun x _ => ⟨Fs.KK, Fs.firingMade_true (Nat.le_refl _) x.1⟩)

theorem firingMade_holds : Rows.FiringMadeSaid :=
  OpenClaim.holds_of_wide 8 Try.f8 rfl rfl rfl rfl rfl rfl rfl ⟨rfl, rfl, rfl, rfl, rfl⟩ rfl rfl rfl rfl rfl (by kernel_rfl) Try.func8 (by kernel_rfl)
    (of_decide_eq_true (by kernel_rfl)) (by unfold Func.isWrapper; first | (rw [if_pos (by decide +kernel)]; kernel_rfl) | (rw [if_neg (by decide +kernel)]; exact ⟨rfl, rfl⟩))
    (fun os started H enc _ => firingMade_lifted os started H enc)
end Go.Proofs.Ytcmhmonmhplboaa
