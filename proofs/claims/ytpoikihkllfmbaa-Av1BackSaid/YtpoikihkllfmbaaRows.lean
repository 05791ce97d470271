/-
  No cell of these rows narrows 'for every input' (looked for: loops, veiled, ifaces, maps, wideKeys, modest, calm, conditions, laid).
  DERIVED. THE GIVEN ROWS OF THIS SEAT. 3 by the template 'for every input the law returns true; each argument reads behind the call as it read before'; 0 by the template 'total and deterministic' (their statements: YtpoikihkllfmbaaTotals.lean).
  GIVEN WITH THE SEED: the statements are not yours to turn. If you find one false, say at which input.
  Laid BY PROGRAM, IN A SANDBOX (cutbox-rows.mjs): the forced cells as the released guide's own fill.sh prints them over the translation 416f7bdfe75bbf1c… (all of the seat's roots in one cut). By AI agents, Wed Nov 11 2026. No macro, syntax, notation, axiom, sorry.
-/
import Derived.Test.YtpoikihkllfmbaaChecked
import GoSem.Claim
import GoSem.ClaimJoined
import GoSem.ClaimMapViews
import Derived.JoinedTies
import Derived.KernelRfl
namespace Go.Proofs.Ytpoikihkllfmbaa
/- THE CELL 'sum', in the pinned program and in every row, IS THE sha256 OF THE DUMP (.gsa) THAT YtpoikihkllfmbaaProg.lean LOADS. Nothing in Lean hashes anything: it is a label: what it is worth is what the hold of that sum in a sandbox is worth. -/
noncomputable def Try.pinned : Pinned := { name := "ytpoikihkllfmbaa", sum := "416f7bdfe75bbf1cf641cf323e5881a0a05f95efb2e2698c8e801bff7d94c6b5", checked := Try.checked }
namespace Rows
def none {H : Type} : Left H := { results := [], args := [] }

/-- 'crossbarlaw27.Av1Right': WHATEVER THE INPUT: true; the input reads as it did. -/
def av1RightSpec : ChangeSpec := { name := "av1Right", fn := fun _ => fun
  | [d1, d2, d3] => { results := [.lit (.bool true)], args := [d1, d2, d3] }
  | _ => none }
def av1RightRow : OpenClaim := { program := "ytpoikihkllfmbaa", sum := "416f7bdfe75bbf1cf641cf323e5881a0a05f95efb2e2698c8e801bff7d94c6b5", func := "crossbar/crossbarlaw27.Av1Right", spec := "av1Right", unfollowed := true, recurses := true, apart := false }
def Av1RightSaid : Prop := av1RightRow.holds Try.pinned (OpenSpec.ofChange av1RightSpec)

/-- ITS FALSE NEIGHBOUR: 'it returns false'. Refute it at one input. -/
def av1RightWrong : ChangeSpec := { name := "av1Right", fn := fun _ => fun
  | [d1, d2, d3] => { results := [.lit (.bool false)], args := [d1, d2, d3] }
  | _ => none }
def Av1RightWrongFalsely : Prop := av1RightRow.holds Try.pinned (OpenSpec.ofChange av1RightWrong)

/-- 'crossbarlaw27.Av1Back': WHATEVER THE INPUT: true; the input reads as it did. -/
def av1BackSpec : ChangeSpec := { name := "av1Back", fn := fun _ => fun
  | [d1, d2, d3, d4, d5] => { results := [.lit (.bool true)], args := [d1, d2, d3, d4, d5] }
  | _ => none }
def av1BackRow : OpenClaim := { program := "ytpoikihkllfmbaa", sum := "416f7bdfe75bbf1cf641cf323e5881a0a05f95efb2e2698c8e801bff7d94c6b5", func := "crossbar/crossbarlaw27.Av1Back", spec := "av1Back", unfollowed := true, recurses := true, apart := false }
def Av1BackSaid : Prop := av1BackRow.holds Try.pinned (OpenSpec.ofChange av1BackSpec)

/-- ITS FALSE NEIGHBOUR: 'it returns false'. Refute it at one input. -/
def av1BackWrong : ChangeSpec := { name := "av1Back", fn := fun _ => fun
  | [d1, d2, d3, d4, d5] => { results := [.lit (.bool false)], args := [d1, d2, d3, d4, d5] }
  | _ => none }
def Av1BackWrongFalsely : Prop := av1BackRow.holds Try.pinned (OpenSpec.ofChange av1BackWrong)

/-- 'crossbarlaw27.Av1Known': WHATEVER THE INPUT: true; the input reads as it did. -/
def av1KnownSpec : ChangeSpec := { name := "av1Known", fn := fun _ => fun
  | [d1, d2] => { results := [.lit (.bool true)], args := [d1, d2] }
  | _ => none }
def av1KnownRow : OpenClaim := { program := "ytpoikihkllfmbaa", sum := "416f7bdfe75bbf1cf641cf323e5881a0a05f95efb2e2698c8e801bff7d94c6b5", func := "crossbar/crossbarlaw27.Av1Known", spec := "av1Known", unfollowed := true, recurses := true, apart := false }
def Av1KnownSaid : Prop := av1KnownRow.holds Try.pinned (OpenSpec.ofChange av1KnownSpec)

/-- ITS FALSE NEIGHBOUR: 'it returns false'. Refute it at one input. -/
def av1KnownWrong : ChangeSpec := { name := "av1Known", fn := fun _ => fun
  | [d1, d2] => { results := [.lit (.bool false)], args := [d1, d2] }
  | _ => none }
def Av1KnownWrongFalsely : Prop := av1KnownRow.holds Try.pinned (OpenSpec.ofChange av1KnownWrong)

/- THE SECOND FORM. 'bulk': how many values and letters a reading holds, each counted each time it is reached (what is shared counts as often as it is met; a slice's spare places count too). A statement '..UptoSaid' is the law's where the arguments, and the package variables that the reading takes, are together of bulk at most 1048576: NARROWER than '..Said'. Prove '..Said' where nothing that the law and all that it calls make is longer than what came in: it says more and counts as full. Else prove '..UptoSaid'. A law counts once. -/
mutual
def uptoBulk {H : Type} : DataW H → Nat
  | .lit (.string bytes) => bytes.length + 1
  | .lit _ => 1
  | .nil => 1
  | .ptr d => uptoBulk d + 1
  | .slice elems spare => uptoBulkAll elems + uptoBulkAll spare + 1
  | .agg parts => uptoBulkAll parts + 1
  | .iface _ d => uptoBulk d + 1
  | .map entries => uptoBulkEntries entries + 1
  | .held _ => 1
def uptoBulkAll {H : Type} : List (DataW H) → Nat
  | [] => 0
  | d :: r => uptoBulk d + uptoBulkAll r
def uptoBulkEntries {H : Type} : List (Lit × DataW H) → Nat
  | [] => 0
  | x :: r => uptoBulkEntry x + uptoBulkEntries r
def uptoBulkEntry {H : Type} : Lit × DataW H → Nat
  | (.string bytes, d) => bytes.length + uptoBulk d + 1
  | (_, d) => uptoBulk d + 1
 end
def uptoSmall : (H : Type) → List (DataW H) → Bool := fun _ ds => decide (uptoBulkAll ds ≤ 1048576)
def OpenSpec.upto (s : _root_.Go.ChangeSpec) : _root_.Go.OpenSpec := { _root_.Go.OpenSpec.ofChange s with cond := some uptoSmall }

/-- 'crossbarlaw27.Av1Right', WHERE WHAT IT READS IS OF BULK AT MOST 1048576: true; the input reads as it did. -/
def av1RightUptoRow : OpenClaim := { program := "ytpoikihkllfmbaa", sum := "416f7bdfe75bbf1cf641cf323e5881a0a05f95efb2e2698c8e801bff7d94c6b5", func := "crossbar/crossbarlaw27.Av1Right", spec := "av1Right", unfollowed := true, recurses := true, apart := false, narrowed := true }
def Av1RightUptoSaid : Prop := av1RightUptoRow.holds Try.pinned (OpenSpec.upto av1RightSpec)

/-- 'crossbarlaw27.Av1Back', WHERE WHAT IT READS IS OF BULK AT MOST 1048576: true; the input reads as it did. -/
def av1BackUptoRow : OpenClaim := { program := "ytpoikihkllfmbaa", sum := "416f7bdfe75bbf1cf641cf323e5881a0a05f95efb2e2698c8e801bff7d94c6b5", func := "crossbar/crossbarlaw27.Av1Back", spec := "av1Back", unfollowed := true, recurses := true, apart := false, narrowed := true }
def Av1BackUptoSaid : Prop := av1BackUptoRow.holds Try.pinned (OpenSpec.upto av1BackSpec)

/-- 'crossbarlaw27.Av1Known', WHERE WHAT IT READS IS OF BULK AT MOST 1048576: true; the input reads as it did. -/
def av1KnownUptoRow : OpenClaim := { program := "ytpoikihkllfmbaa", sum := "416f7bdfe75bbf1cf641cf323e5881a0a05f95efb2e2698c8e801bff7d94c6b5", func := "crossbar/crossbarlaw27.Av1Known", spec := "av1Known", unfollowed := true, recurses := true, apart := false, narrowed := true }
def Av1KnownUptoSaid : Prop := av1KnownUptoRow.holds Try.pinned (OpenSpec.upto av1KnownSpec)

end Rows
end Go.Proofs.Ytpoikihkllfmbaa
