/-
  No cell of these rows narrows 'for every input' (looked for: loops, veiled, ifaces, maps, wideKeys, modest, calm, conditions, laid).
  DERIVED. THE GIVEN ROWS OF THIS SEAT. 5 by the template 'for every input the law returns true; each argument reads behind the call as it read before'; 0 by the template 'total and deterministic' (their statements: YtgniegpeeaphlaaTotals.lean).
  GIVEN WITH THE SEED: the statements are not yours to turn. If you find one false, say at which input.
  Laid BY PROGRAM, IN A SANDBOX (cutbox-rows.mjs): the forced cells as the released guide's own fill.sh prints them over the translation c7b4a949f76586b5… (all of the seat's roots in one cut). By AI agents, Wed Nov 11 2026. No macro, syntax, notation, axiom, sorry.
-/
import Derived.Test.YtgniegpeeaphlaaChecked
import GoSem.Claim
import GoSem.ClaimJoined
import GoSem.ClaimMapViews
import Derived.JoinedTies
import Derived.KernelRfl
namespace Go.Proofs.Ytgniegpeeaphlaa
/- THE CELL 'sum', in the pinned program and in every row, IS THE sha256 OF THE DUMP (.gsa) THAT YtgniegpeeaphlaaProg.lean LOADS. Nothing in Lean hashes anything: it is a label: what it is worth is what the hold of that sum in a sandbox is worth. -/
noncomputable def Try.pinned : Pinned := { name := "ytgniegpeeaphlaa", sum := "c7b4a949f76586b5f653c2de1490347a2786e2247e00abe4e9d6c14205e27489", checked := Try.checked }
namespace Rows
def none {H : Type} : Left H := { results := [], args := [] }

/-- 'minecontrollaw42.ControlRoomFacts': WHATEVER THE INPUT: true; the input reads as it did. -/
def controlRoomFactsSpec : ChangeSpec := { name := "controlRoomFacts", fn := fun _ => fun
  | [d] => { results := [.lit (.bool true)], args := [d] }
  | _ => none }
def controlRoomFactsRow : OpenClaim := { program := "ytgniegpeeaphlaa", sum := "c7b4a949f76586b5f653c2de1490347a2786e2247e00abe4e9d6c14205e27489", func := "minecontrol/minecontrollaw42.ControlRoomFacts", spec := "controlRoomFacts", inPlace := ["slices.overlaps[int]", "slices.overlaps[[2]int]"], unfollowed := true, recurses := true, apart := false }
def ControlRoomFactsSaid : Prop := controlRoomFactsRow.holds Try.pinned (OpenSpec.ofChange controlRoomFactsSpec)

/-- ITS FALSE NEIGHBOUR: 'it returns false'. Refute it at one input. -/
def controlRoomFactsWrong : ChangeSpec := { name := "controlRoomFacts", fn := fun _ => fun
  | [d] => { results := [.lit (.bool false)], args := [d] }
  | _ => none }
def ControlRoomFactsWrongFalsely : Prop := controlRoomFactsRow.holds Try.pinned (OpenSpec.ofChange controlRoomFactsWrong)

/-- 'minecontrollaw42.ControlRoomBytes': WHATEVER THE INPUT: true; the input reads as it did. -/
def controlRoomBytesSpec : ChangeSpec := { name := "controlRoomBytes", fn := fun _ => fun
  | [d1, d2, d3] => { results := [.lit (.bool true)], args := [d1, d2, d3] }
  | _ => none }
def controlRoomBytesRow : OpenClaim := { program := "ytgniegpeeaphlaa", sum := "c7b4a949f76586b5f653c2de1490347a2786e2247e00abe4e9d6c14205e27489", func := "minecontrol/minecontrollaw42.ControlRoomBytes", spec := "controlRoomBytes", inPlace := ["slices.overlaps[int]", "slices.overlaps[[2]int]"], unfollowed := true, recurses := true, apart := false }
def ControlRoomBytesSaid : Prop := controlRoomBytesRow.holds Try.pinned (OpenSpec.ofChange controlRoomBytesSpec)

/-- ITS FALSE NEIGHBOUR: 'it returns false'. Refute it at one input. -/
def controlRoomBytesWrong : ChangeSpec := { name := "controlRoomBytes", fn := fun _ => fun
  | [d1, d2, d3] => { results := [.lit (.bool false)], args := [d1, d2, d3] }
  | _ => none }
def ControlRoomBytesWrongFalsely : Prop := controlRoomBytesRow.holds Try.pinned (OpenSpec.ofChange controlRoomBytesWrong)

/-- 'minecontrollaw42.ControlRoomRaw': WHATEVER THE INPUT: true; the input reads as it did. -/
def controlRoomRawSpec : ChangeSpec := { name := "controlRoomRaw", fn := fun _ => fun
  | [d1, d2, d3] => { results := [.lit (.bool true)], args := [d1, d2, d3] }
  | _ => none }
def controlRoomRawRow : OpenClaim := { program := "ytgniegpeeaphlaa", sum := "c7b4a949f76586b5f653c2de1490347a2786e2247e00abe4e9d6c14205e27489", func := "minecontrol/minecontrollaw42.ControlRoomRaw", spec := "controlRoomRaw", inPlace := ["slices.overlaps[int]", "slices.overlaps[[2]int]"], unfollowed := true, recurses := true, apart := false }
def ControlRoomRawSaid : Prop := controlRoomRawRow.holds Try.pinned (OpenSpec.ofChange controlRoomRawSpec)

/-- ITS FALSE NEIGHBOUR: 'it returns false'. Refute it at one input. -/
def controlRoomRawWrong : ChangeSpec := { name := "controlRoomRaw", fn := fun _ => fun
  | [d1, d2, d3] => { results := [.lit (.bool false)], args := [d1, d2, d3] }
  | _ => none }
def ControlRoomRawWrongFalsely : Prop := controlRoomRawRow.holds Try.pinned (OpenSpec.ofChange controlRoomRawWrong)

/-- 'minecontrollaw42.ControlRoomMade': WHATEVER THE INPUT: true; the input reads as it did. -/
def controlRoomMadeSpec : ChangeSpec := { name := "controlRoomMade", fn := fun _ => fun
  | [d1, d2, d3] => { results := [.lit (.bool true)], args := [d1, d2, d3] }
  | _ => none }
def controlRoomMadeRow : OpenClaim := { program := "ytgniegpeeaphlaa", sum := "c7b4a949f76586b5f653c2de1490347a2786e2247e00abe4e9d6c14205e27489", func := "minecontrol/minecontrollaw42.ControlRoomMade", spec := "controlRoomMade", inPlace := ["slices.overlaps[int]", "slices.overlaps[[2]int]"], unfollowed := true, recurses := true, apart := false }
def ControlRoomMadeSaid : Prop := controlRoomMadeRow.holds Try.pinned (OpenSpec.ofChange controlRoomMadeSpec)

/-- ITS FALSE NEIGHBOUR: 'it returns false'. Refute it at one input. -/
def controlRoomMadeWrong : ChangeSpec := { name := "controlRoomMade", fn := fun _ => fun
  | [d1, d2, d3] => { results := [.lit (.bool false)], args := [d1, d2, d3] }
  | _ => none }
def ControlRoomMadeWrongFalsely : Prop := controlRoomMadeRow.holds Try.pinned (OpenSpec.ofChange controlRoomMadeWrong)

/-- 'minecontrollaw42.ControlRoomKeeps': WHATEVER THE INPUT: true; the input reads as it did. -/
def controlRoomKeepsSpec : ChangeSpec := { name := "controlRoomKeeps", fn := fun _ => fun
  | [d1, d2, d3] => { results := [.lit (.bool true)], args := [d1, d2, d3] }
  | _ => none }
def controlRoomKeepsRow : OpenClaim := { program := "ytgniegpeeaphlaa", sum := "c7b4a949f76586b5f653c2de1490347a2786e2247e00abe4e9d6c14205e27489", func := "minecontrol/minecontrollaw42.ControlRoomKeeps", spec := "controlRoomKeeps", inPlace := ["slices.overlaps[int]", "slices.overlaps[[2]int]"], unfollowed := true, recurses := true, apart := false }
def ControlRoomKeepsSaid : Prop := controlRoomKeepsRow.holds Try.pinned (OpenSpec.ofChange controlRoomKeepsSpec)

/-- ITS FALSE NEIGHBOUR: 'it returns false'. Refute it at one input. -/
def controlRoomKeepsWrong : ChangeSpec := { name := "controlRoomKeeps", fn := fun _ => fun
  | [d1, d2, d3] => { results := [.lit (.bool false)], args := [d1, d2, d3] }
  | _ => none }
def ControlRoomKeepsWrongFalsely : Prop := controlRoomKeepsRow.holds Try.pinned (OpenSpec.ofChange controlRoomKeepsWrong)

/- THE SECOND FORM. 'bulk': how many values and letters a reading holds, each counted each time it is reached (what is shared counts as often as it is met; a slice's spare places count too). A statement '..UptoSaid' is the law's where the arguments, and the package variables that the reading takes, are together of bulk at most 1048576: NARROWER than '..Said'. Prove '..Said' where nothing that the law and all that it calls make is longer than what came in: it says more and counts as full. Else prove '..UptoSaid'. A law counts once. -/
mutual
def uptoBulk {H : Type} : DataW H → Nat
  | .lit (.string bytes) => bytes.length + 1
  | .lit _ => 1
  | .nil => 1
  | .ptr d => uptoBulk d + 1
  | .slice elems spare => uptoBulkAll elems + uptoBulkAll spare + 1
  | .agg parts => uptoBulkAll parts + 1
  | .iface _ d => uptoBulk d + 1
  | .map entries => uptoBulkEntries entries + 1
  | .held _ => 1
def uptoBulkAll {H : Type} : List (DataW H) → Nat
  | [] => 0
  | d :: r => uptoBulk d + uptoBulkAll r
def uptoBulkEntries {H : Type} : List (Lit × DataW H) → Nat
  | [] => 0
  | x :: r => uptoBulkEntry x + uptoBulkEntries r
def uptoBulkEntry {H : Type} : Lit × DataW H → Nat
  | (.string bytes, d) => bytes.length + uptoBulk d + 1
  | (_, d) => uptoBulk d + 1
 end
def uptoSmall : (H : Type) → List (DataW H) → Bool := fun _ ds => decide (uptoBulkAll ds ≤ 1048576)
def OpenSpec.upto (s : _root_.Go.ChangeSpec) : _root_.Go.OpenSpec := { _root_.Go.OpenSpec.ofChange s with cond := some uptoSmall }

/-- 'minecontrollaw42.ControlRoomFacts', WHERE WHAT IT READS IS OF BULK AT MOST 1048576: true; the input reads as it did. -/
def controlRoomFactsUptoRow : OpenClaim := { program := "ytgniegpeeaphlaa", sum := "c7b4a949f76586b5f653c2de1490347a2786e2247e00abe4e9d6c14205e27489", func := "minecontrol/minecontrollaw42.ControlRoomFacts", spec := "controlRoomFacts", inPlace := ["slices.overlaps[int]", "slices.overlaps[[2]int]"], unfollowed := true, recurses := true, apart := false, narrowed := true }
def ControlRoomFactsUptoSaid : Prop := controlRoomFactsUptoRow.holds Try.pinned (OpenSpec.upto controlRoomFactsSpec)

/-- 'minecontrollaw42.ControlRoomBytes', WHERE WHAT IT READS IS OF BULK AT MOST 1048576: true; the input reads as it did. -/
def controlRoomBytesUptoRow : OpenClaim := { program := "ytgniegpeeaphlaa", sum := "c7b4a949f76586b5f653c2de1490347a2786e2247e00abe4e9d6c14205e27489", func := "minecontrol/minecontrollaw42.ControlRoomBytes", spec := "controlRoomBytes", inPlace := ["slices.overlaps[int]", "slices.overlaps[[2]int]"], unfollowed := true, recurses := true, apart := false, narrowed := true }
def ControlRoomBytesUptoSaid : Prop := controlRoomBytesUptoRow.holds Try.pinned (OpenSpec.upto controlRoomBytesSpec)

/-- 'minecontrollaw42.ControlRoomRaw', WHERE WHAT IT READS IS OF BULK AT MOST 1048576: true; the input reads as it did. -/
def controlRoomRawUptoRow : OpenClaim := { program := "ytgniegpeeaphlaa", sum := "c7b4a949f76586b5f653c2de1490347a2786e2247e00abe4e9d6c14205e27489", func := "minecontrol/minecontrollaw42.ControlRoomRaw", spec := "controlRoomRaw", inPlace := ["slices.overlaps[int]", "slices.overlaps[[2]int]"], unfollowed := true, recurses := true, apart := false, narrowed := true }
def ControlRoomRawUptoSaid : Prop := controlRoomRawUptoRow.holds Try.pinned (OpenSpec.upto controlRoomRawSpec)

/-- 'minecontrollaw42.ControlRoomMade', WHERE WHAT IT READS IS OF BULK AT MOST 1048576: true; the input reads as it did. -/
def controlRoomMadeUptoRow : OpenClaim := { program := "ytgniegpeeaphlaa", sum := "c7b4a949f76586b5f653c2de1490347a2786e2247e00abe4e9d6c14205e27489", func := "minecontrol/minecontrollaw42.ControlRoomMade", spec := "controlRoomMade", inPlace := ["slices.overlaps[int]", "slices.overlaps[[2]int]"], unfollowed := true, recurses := true, apart := false, narrowed := true }
def ControlRoomMadeUptoSaid : Prop := controlRoomMadeUptoRow.holds Try.pinned (OpenSpec.upto controlRoomMadeSpec)

/-- 'minecontrollaw42.ControlRoomKeeps', WHERE WHAT IT READS IS OF BULK AT MOST 1048576: true; the input reads as it did. -/
def controlRoomKeepsUptoRow : OpenClaim := { program := "ytgniegpeeaphlaa", sum := "c7b4a949f76586b5f653c2de1490347a2786e2247e00abe4e9d6c14205e27489", func := "minecontrol/minecontrollaw42.ControlRoomKeeps", spec := "controlRoomKeeps", inPlace := ["slices.overlaps[int]", "slices.overlaps[[2]int]"], unfollowed := true, recurses := true, apart := false, narrowed := true }
def ControlRoomKeepsUptoSaid : Prop := controlRoomKeepsUptoRow.holds Try.pinned (OpenSpec.upto controlRoomKeepsSpec)

end Rows
end Go.Proofs.Ytgniegpeeaphlaa
