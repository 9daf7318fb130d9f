/-
  No cell of these rows narrows 'for every input' (looked for: loops, veiled, ifaces, maps, wideKeys, modest, calm, conditions, laid).
  DERIVED. THE GIVEN ROWS OF THIS SEAT. 10 by the template 'for every input the law returns true; each argument reads behind the call as it read before'; 0 by the template 'total and deterministic' (their statements: YtcmhmonmhplboaaTotals.lean).
  GIVEN WITH THE SEED: the statements are not yours to turn. If you find one false, say at which input.
  Laid BY PROGRAM, IN A SANDBOX (cutbox-rows.mjs): the forced cells as the released guide's own fill.sh prints them over the translation 56ec09028d17dc43… (all of the seat's roots in one cut). By AI agents, Wed Nov 11 2026. No macro, syntax, notation, axiom, sorry.
-/
import Derived.Test.YtcmhmonmhplboaaChecked
import GoSem.Claim
import GoSem.ClaimJoined
import GoSem.ClaimMapViews
import Derived.JoinedTies
import Derived.KernelRfl
namespace Go.Proofs.Ytcmhmonmhplboaa
/- THE CELL 'sum', in the pinned program and in every row, IS THE sha256 OF THE DUMP (.gsa) THAT YtcmhmonmhplboaaProg.lean LOADS. Nothing in Lean hashes anything: it is a label: what it is worth is what the hold of that sum in a sandbox is worth. -/
noncomputable def Try.pinned : Pinned := { name := "ytcmhmonmhplboaa", sum := "56ec09028d17dc43d7855e8f887b87b6c8730ac44fa7892a0a5d4333554c1d97", checked := Try.checked }
namespace Rows
def none {H : Type} : Left H := { results := [], args := [] }

/-- 'minecontrollaw27.HeadsMore': WHATEVER THE INPUT: true; the input reads as it did. -/
def headsMoreSpec : ChangeSpec := { name := "headsMore", fn := fun _ => fun
  | [d] => { results := [.lit (.bool true)], args := [d] }
  | _ => none }
def headsMoreRow : OpenClaim := { program := "ytcmhmonmhplboaa", sum := "56ec09028d17dc43d7855e8f887b87b6c8730ac44fa7892a0a5d4333554c1d97", func := "minecontrol/minecontrollaw27.HeadsMore", spec := "headsMore", unfollowed := true, recurses := true, apart := false }
def HeadsMoreSaid : Prop := headsMoreRow.holds Try.pinned (OpenSpec.ofChange headsMoreSpec)

/-- ITS FALSE NEIGHBOUR: 'it returns false'. Refute it at one input. -/
def headsMoreWrong : ChangeSpec := { name := "headsMore", fn := fun _ => fun
  | [d] => { results := [.lit (.bool false)], args := [d] }
  | _ => none }
def HeadsMoreWrongFalsely : Prop := headsMoreRow.holds Try.pinned (OpenSpec.ofChange headsMoreWrong)

/-- 'minecontrollaw27.HeadsSplit': WHATEVER THE INPUT: true; the input reads as it did. -/
def headsSplitSpec : ChangeSpec := { name := "headsSplit", fn := fun _ => fun
  | [d] => { results := [.lit (.bool true)], args := [d] }
  | _ => none }
def headsSplitRow : OpenClaim := { program := "ytcmhmonmhplboaa", sum := "56ec09028d17dc43d7855e8f887b87b6c8730ac44fa7892a0a5d4333554c1d97", func := "minecontrol/minecontrollaw27.HeadsSplit", spec := "headsSplit", unfollowed := true, recurses := true, apart := false }
def HeadsSplitSaid : Prop := headsSplitRow.holds Try.pinned (OpenSpec.ofChange headsSplitSpec)

/-- ITS FALSE NEIGHBOUR: 'it returns false'. Refute it at one input. -/
def headsSplitWrong : ChangeSpec := { name := "headsSplit", fn := fun _ => fun
  | [d] => { results := [.lit (.bool false)], args := [d] }
  | _ => none }
def HeadsSplitWrongFalsely : Prop := headsSplitRow.holds Try.pinned (OpenSpec.ofChange headsSplitWrong)

/-- 'minecontrollaw27.HeadsAll': WHATEVER THE INPUT: true; the input reads as it did. -/
def headsAllSpec : ChangeSpec := { name := "headsAll", fn := fun _ => fun
  | [d1, d2, d3] => { results := [.lit (.bool true)], args := [d1, d2, d3] }
  | _ => none }
def headsAllRow : OpenClaim := { program := "ytcmhmonmhplboaa", sum := "56ec09028d17dc43d7855e8f887b87b6c8730ac44fa7892a0a5d4333554c1d97", func := "minecontrol/minecontrollaw27.HeadsAll", spec := "headsAll", unfollowed := true, recurses := true, apart := false }
def HeadsAllSaid : Prop := headsAllRow.holds Try.pinned (OpenSpec.ofChange headsAllSpec)

/-- ITS FALSE NEIGHBOUR: 'it returns false'. Refute it at one input. -/
def headsAllWrong : ChangeSpec := { name := "headsAll", fn := fun _ => fun
  | [d1, d2, d3] => { results := [.lit (.bool false)], args := [d1, d2, d3] }
  | _ => none }
def HeadsAllWrongFalsely : Prop := headsAllRow.holds Try.pinned (OpenSpec.ofChange headsAllWrong)

/-- 'minecontrollaw27.HeadsTrue': WHATEVER THE INPUT: true; the input reads as it did. -/
def headsTrueSpec : ChangeSpec := { name := "headsTrue", fn := fun _ => fun
  | [d] => { results := [.lit (.bool true)], args := [d] }
  | _ => none }
def headsTrueRow : OpenClaim := { program := "ytcmhmonmhplboaa", sum := "56ec09028d17dc43d7855e8f887b87b6c8730ac44fa7892a0a5d4333554c1d97", func := "minecontrol/minecontrollaw27.HeadsTrue", spec := "headsTrue", unfollowed := true, recurses := true, apart := false }
def HeadsTrueSaid : Prop := headsTrueRow.holds Try.pinned (OpenSpec.ofChange headsTrueSpec)

/-- ITS FALSE NEIGHBOUR: 'it returns false'. Refute it at one input. -/
def headsTrueWrong : ChangeSpec := { name := "headsTrue", fn := fun _ => fun
  | [d] => { results := [.lit (.bool false)], args := [d] }
  | _ => none }
def HeadsTrueWrongFalsely : Prop := headsTrueRow.holds Try.pinned (OpenSpec.ofChange headsTrueWrong)

/-- 'minecontrollaw34.FiringRaw': WHATEVER THE INPUT: true; the input reads as it did. -/
def firingRawSpec : ChangeSpec := { name := "firingRaw", fn := fun _ => fun
  | [d1, d2, d3] => { results := [.lit (.bool true)], args := [d1, d2, d3] }
  | _ => none }
def firingRawRow : OpenClaim := { program := "ytcmhmonmhplboaa", sum := "56ec09028d17dc43d7855e8f887b87b6c8730ac44fa7892a0a5d4333554c1d97", func := "minecontrol/minecontrollaw34.FiringRaw", spec := "firingRaw", unfollowed := true, recurses := true, apart := false }
def FiringRawSaid : Prop := firingRawRow.holds Try.pinned (OpenSpec.ofChange firingRawSpec)

/-- ITS FALSE NEIGHBOUR: 'it returns false'. Refute it at one input. -/
def firingRawWrong : ChangeSpec := { name := "firingRaw", fn := fun _ => fun
  | [d1, d2, d3] => { results := [.lit (.bool false)], args := [d1, d2, d3] }
  | _ => none }
def FiringRawWrongFalsely : Prop := firingRawRow.holds Try.pinned (OpenSpec.ofChange firingRawWrong)

/-- 'minecontrollaw34.FiringMade': WHATEVER THE INPUT: true; the input reads as it did. -/
def firingMadeSpec : ChangeSpec := { name := "firingMade", fn := fun _ => fun
  | [d] => { results := [.lit (.bool true)], args := [d] }
  | _ => none }
def firingMadeRow : OpenClaim := { program := "ytcmhmonmhplboaa", sum := "56ec09028d17dc43d7855e8f887b87b6c8730ac44fa7892a0a5d4333554c1d97", func := "minecontrol/minecontrollaw34.FiringMade", spec := "firingMade", unfollowed := true, recurses := true, apart := false }
def FiringMadeSaid : Prop := firingMadeRow.holds Try.pinned (OpenSpec.ofChange firingMadeSpec)

/-- ITS FALSE NEIGHBOUR: 'it returns false'. Refute it at one input. -/
def firingMadeWrong : ChangeSpec := { name := "firingMade", fn := fun _ => fun
  | [d] => { results := [.lit (.bool false)], args := [d] }
  | _ => none }
def FiringMadeWrongFalsely : Prop := firingMadeRow.holds Try.pinned (OpenSpec.ofChange firingMadeWrong)

/-- 'minecontrollaw34.FiringNeeds': WHATEVER THE INPUT: true; the input reads as it did. -/
def firingNeedsSpec : ChangeSpec := { name := "firingNeeds", fn := fun _ => fun
  | [d] => { results := [.lit (.bool true)], args := [d] }
  | _ => none }
def firingNeedsRow : OpenClaim := { program := "ytcmhmonmhplboaa", sum := "56ec09028d17dc43d7855e8f887b87b6c8730ac44fa7892a0a5d4333554c1d97", func := "minecontrol/minecontrollaw34.FiringNeeds", spec := "firingNeeds", unfollowed := true, recurses := true, apart := false }
def FiringNeedsSaid : Prop := firingNeedsRow.holds Try.pinned (OpenSpec.ofChange firingNeedsSpec)

/-- ITS FALSE NEIGHBOUR: 'it returns false'. Refute it at one input. -/
def firingNeedsWrong : ChangeSpec := { name := "firingNeeds", fn := fun _ => fun
  | [d] => { results := [.lit (.bool false)], args := [d] }
  | _ => none }
def FiringNeedsWrongFalsely : Prop := firingNeedsRow.holds Try.pinned (OpenSpec.ofChange firingNeedsWrong)

/-- 'minecontrollaw33.KeysMade': WHATEVER THE INPUT: true; the input reads as it did. -/
def keysMadeSpec : ChangeSpec := { name := "keysMade", fn := fun _ => fun
  | [d] => { results := [.lit (.bool true)], args := [d] }
  | _ => none }
def keysMadeRow : OpenClaim := { program := "ytcmhmonmhplboaa", sum := "56ec09028d17dc43d7855e8f887b87b6c8730ac44fa7892a0a5d4333554c1d97", func := "minecontrol/minecontrollaw33.KeysMade", spec := "keysMade", unfollowed := true, recurses := true, apart := false }
def KeysMadeSaid : Prop := keysMadeRow.holds Try.pinned (OpenSpec.ofChange keysMadeSpec)

/-- ITS FALSE NEIGHBOUR: 'it returns false'. Refute it at one input. -/
def keysMadeWrong : ChangeSpec := { name := "keysMade", fn := fun _ => fun
  | [d] => { results := [.lit (.bool false)], args := [d] }
  | _ => none }
def KeysMadeWrongFalsely : Prop := keysMadeRow.holds Try.pinned (OpenSpec.ofChange keysMadeWrong)

/-- 'minecontrollaw33.KeysSafe': WHATEVER THE INPUT: true; the input reads as it did. -/
def keysSafeSpec : ChangeSpec := { name := "keysSafe", fn := fun _ => fun
  | [d] => { results := [.lit (.bool true)], args := [d] }
  | _ => none }
def keysSafeRow : OpenClaim := { program := "ytcmhmonmhplboaa", sum := "56ec09028d17dc43d7855e8f887b87b6c8730ac44fa7892a0a5d4333554c1d97", func := "minecontrol/minecontrollaw33.KeysSafe", spec := "keysSafe", unfollowed := true, recurses := true, apart := false }
def KeysSafeSaid : Prop := keysSafeRow.holds Try.pinned (OpenSpec.ofChange keysSafeSpec)

/-- ITS FALSE NEIGHBOUR: 'it returns false'. Refute it at one input. -/
def keysSafeWrong : ChangeSpec := { name := "keysSafe", fn := fun _ => fun
  | [d] => { results := [.lit (.bool false)], args := [d] }
  | _ => none }
def KeysSafeWrongFalsely : Prop := keysSafeRow.holds Try.pinned (OpenSpec.ofChange keysSafeWrong)

/-- 'minecontrollaw33.KeysBack': WHATEVER THE INPUT: true; the input reads as it did. -/
def keysBackSpec : ChangeSpec := { name := "keysBack", fn := fun _ => fun
  | [d] => { results := [.lit (.bool true)], args := [d] }
  | _ => none }
def keysBackRow : OpenClaim := { program := "ytcmhmonmhplboaa", sum := "56ec09028d17dc43d7855e8f887b87b6c8730ac44fa7892a0a5d4333554c1d97", func := "minecontrol/minecontrollaw33.KeysBack", spec := "keysBack", unfollowed := true, recurses := true, apart := false }
def KeysBackSaid : Prop := keysBackRow.holds Try.pinned (OpenSpec.ofChange keysBackSpec)

/-- ITS FALSE NEIGHBOUR: 'it returns false'. Refute it at one input. -/
def keysBackWrong : ChangeSpec := { name := "keysBack", fn := fun _ => fun
  | [d] => { results := [.lit (.bool false)], args := [d] }
  | _ => none }
def KeysBackWrongFalsely : Prop := keysBackRow.holds Try.pinned (OpenSpec.ofChange keysBackWrong)

/- THE SECOND FORM. 'bulk': how many values and letters a reading holds, each counted each time it is reached (what is shared counts as often as it is met; a slice's spare places count too). A statement '..UptoSaid' is the law's where the arguments, and the package variables that the reading takes, are together of bulk at most 1048576: NARROWER than '..Said'. Prove '..Said' where nothing that the law and all that it calls make is longer than what came in: it says more and counts as full. Else prove '..UptoSaid'. A law counts once. -/
mutual
def uptoBulk {H : Type} : DataW H → Nat
  | .lit (.string bytes) => bytes.length + 1
  | .lit _ => 1
  | .nil => 1
  | .ptr d => uptoBulk d + 1
  | .slice elems spare => uptoBulkAll elems + uptoBulkAll spare + 1
  | .agg parts => uptoBulkAll parts + 1
  | .iface _ d => uptoBulk d + 1
  | .map entries => uptoBulkEntries entries + 1
  | .held _ => 1
def uptoBulkAll {H : Type} : List (DataW H) → Nat
  | [] => 0
  | d :: r => uptoBulk d + uptoBulkAll r
def uptoBulkEntries {H : Type} : List (Lit × DataW H) → Nat
  | [] => 0
  | x :: r => uptoBulkEntry x + uptoBulkEntries r
def uptoBulkEntry {H : Type} : Lit × DataW H → Nat
  | (.string bytes, d) => bytes.length + uptoBulk d + 1
  | (_, d) => uptoBulk d + 1
 end
def uptoSmall : (H : Type) → List (DataW H) → Bool := fun _ ds => decide (uptoBulkAll ds ≤ 1048576)
def OpenSpec.upto (s : _root_.Go.ChangeSpec) : _root_.Go.OpenSpec := { _root_.Go.OpenSpec.ofChange s with cond := some uptoSmall }

/-- 'minecontrollaw27.HeadsMore', WHERE WHAT IT READS IS OF BULK AT MOST 1048576: true; the input reads as it did. -/
def headsMoreUptoRow : OpenClaim := { program := "ytcmhmonmhplboaa", sum := "56ec09028d17dc43d7855e8f887b87b6c8730ac44fa7892a0a5d4333554c1d97", func := "minecontrol/minecontrollaw27.HeadsMore", spec := "headsMore", unfollowed := true, recurses := true, apart := false, narrowed := true }
def HeadsMoreUptoSaid : Prop := headsMoreUptoRow.holds Try.pinned (OpenSpec.upto headsMoreSpec)

/-- 'minecontrollaw27.HeadsSplit', WHERE WHAT IT READS IS OF BULK AT MOST 1048576: true; the input reads as it did. -/
def headsSplitUptoRow : OpenClaim := { program := "ytcmhmonmhplboaa", sum := "56ec09028d17dc43d7855e8f887b87b6c8730ac44fa7892a0a5d4333554c1d97", func := "minecontrol/minecontrollaw27.HeadsSplit", spec := "headsSplit", unfollowed := true, recurses := true, apart := false, narrowed := true }
def HeadsSplitUptoSaid : Prop := headsSplitUptoRow.holds Try.pinned (OpenSpec.upto headsSplitSpec)

/-- 'minecontrollaw27.HeadsAll', WHERE WHAT IT READS IS OF BULK AT MOST 1048576: true; the input reads as it did. -/
def headsAllUptoRow : OpenClaim := { program := "ytcmhmonmhplboaa", sum := "56ec09028d17dc43d7855e8f887b87b6c8730ac44fa7892a0a5d4333554c1d97", func := "minecontrol/minecontrollaw27.HeadsAll", spec := "headsAll", unfollowed := true, recurses := true, apart := false, narrowed := true }
def HeadsAllUptoSaid : Prop := headsAllUptoRow.holds Try.pinned (OpenSpec.upto headsAllSpec)

/-- 'minecontrollaw27.HeadsTrue', WHERE WHAT IT READS IS OF BULK AT MOST 1048576: true; the input reads as it did. -/
def headsTrueUptoRow : OpenClaim := { program := "ytcmhmonmhplboaa", sum := "56ec09028d17dc43d7855e8f887b87b6c8730ac44fa7892a0a5d4333554c1d97", func := "minecontrol/minecontrollaw27.HeadsTrue", spec := "headsTrue", unfollowed := true, recurses := true, apart := false, narrowed := true }
def HeadsTrueUptoSaid : Prop := headsTrueUptoRow.holds Try.pinned (OpenSpec.upto headsTrueSpec)

/-- 'minecontrollaw34.FiringRaw', WHERE WHAT IT READS IS OF BULK AT MOST 1048576: true; the input reads as it did. -/
def firingRawUptoRow : OpenClaim := { program := "ytcmhmonmhplboaa", sum := "56ec09028d17dc43d7855e8f887b87b6c8730ac44fa7892a0a5d4333554c1d97", func := "minecontrol/minecontrollaw34.FiringRaw", spec := "firingRaw", unfollowed := true, recurses := true, apart := false, narrowed := true }
def FiringRawUptoSaid : Prop := firingRawUptoRow.holds Try.pinned (OpenSpec.upto firingRawSpec)

/-- 'minecontrollaw34.FiringMade', WHERE WHAT IT READS IS OF BULK AT MOST 1048576: true; the input reads as it did. -/
def firingMadeUptoRow : OpenClaim := { program := "ytcmhmonmhplboaa", sum := "56ec09028d17dc43d7855e8f887b87b6c8730ac44fa7892a0a5d4333554c1d97", func := "minecontrol/minecontrollaw34.FiringMade", spec := "firingMade", unfollowed := true, recurses := true, apart := false, narrowed := true }
def FiringMadeUptoSaid : Prop := firingMadeUptoRow.holds Try.pinned (OpenSpec.upto firingMadeSpec)

/-- 'minecontrollaw34.FiringNeeds', WHERE WHAT IT READS IS OF BULK AT MOST 1048576: true; the input reads as it did. -/
def firingNeedsUptoRow : OpenClaim := { program := "ytcmhmonmhplboaa", sum := "56ec09028d17dc43d7855e8f887b87b6c8730ac44fa7892a0a5d4333554c1d97", func := "minecontrol/minecontrollaw34.FiringNeeds", spec := "firingNeeds", unfollowed := true, recurses := true, apart := false, narrowed := true }
def FiringNeedsUptoSaid : Prop := firingNeedsUptoRow.holds Try.pinned (OpenSpec.upto firingNeedsSpec)

/-- 'minecontrollaw33.KeysMade', WHERE WHAT IT READS IS OF BULK AT MOST 1048576: true; the input reads as it did. -/
def keysMadeUptoRow : OpenClaim := { program := "ytcmhmonmhplboaa", sum := "56ec09028d17dc43d7855e8f887b87b6c8730ac44fa7892a0a5d4333554c1d97", func := "minecontrol/minecontrollaw33.KeysMade", spec := "keysMade", unfollowed := true, recurses := true, apart := false, narrowed := true }
def KeysMadeUptoSaid : Prop := keysMadeUptoRow.holds Try.pinned (OpenSpec.upto keysMadeSpec)

/-- 'minecontrollaw33.KeysSafe', WHERE WHAT IT READS IS OF BULK AT MOST 1048576: true; the input reads as it did. -/
def keysSafeUptoRow : OpenClaim := { program := "ytcmhmonmhplboaa", sum := "56ec09028d17dc43d7855e8f887b87b6c8730ac44fa7892a0a5d4333554c1d97", func := "minecontrol/minecontrollaw33.KeysSafe", spec := "keysSafe", unfollowed := true, recurses := true, apart := false, narrowed := true }
def KeysSafeUptoSaid : Prop := keysSafeUptoRow.holds Try.pinned (OpenSpec.upto keysSafeSpec)

/-- 'minecontrollaw33.KeysBack', WHERE WHAT IT READS IS OF BULK AT MOST 1048576: true; the input reads as it did. -/
def keysBackUptoRow : OpenClaim := { program := "ytcmhmonmhplboaa", sum := "56ec09028d17dc43d7855e8f887b87b6c8730ac44fa7892a0a5d4333554c1d97", func := "minecontrol/minecontrollaw33.KeysBack", spec := "keysBack", unfollowed := true, recurses := true, apart := false, narrowed := true }
def KeysBackUptoSaid : Prop := keysBackUptoRow.holds Try.pinned (OpenSpec.upto keysBackSpec)

end Rows
end Go.Proofs.Ytcmhmonmhplboaa
