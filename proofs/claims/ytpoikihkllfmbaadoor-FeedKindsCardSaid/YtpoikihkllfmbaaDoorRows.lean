/-
  NARROWER THAN 'FOR EVERY INPUT', by the rows' own cells (each row's printed sentence says how): FeedRight: laid · FeedBack: laid · FeedKinds: laid.
  DERIVED. THE GIVEN ROWS OF THIS SEAT. 3 by the template 'for every input the law returns true; each argument reads behind the call as it read before'; 0 by the template 'total and deterministic' (their statements: YtpoikihkllfmbaaDoorTotals.lean).
  GIVEN WITH THE SEED: the statements are not yours to turn. If you find one false, say at which input.
  Laid BY PROGRAM, IN A SANDBOX (cutbox-rows.mjs): the forced cells as the released guide's own fill.sh prints them over the translation d636035d21af45e5… (all of the seat's roots in one cut). By AI agents, Wed Nov 11 2026. No macro, syntax, notation, axiom, sorry.
-/
import Derived.Test.YtpoikihkllfmbaaDoorChecked
import GoSem.Claim
import GoSem.ClaimJoined
import GoSem.ClaimMapViews
import Derived.JoinedTies
import Derived.KernelRfl
namespace Go.Proofs.YtpoikihkllfmbaaDoor
/- THE CELL 'sum', in the pinned program and in every row, IS THE sha256 OF THE DUMP (.gsa) THAT YtpoikihkllfmbaaDoorProg.lean LOADS. Nothing in Lean hashes anything: it is a label: what it is worth is what the hold of that sum in a sandbox is worth. -/
noncomputable def Tryd.pinned : Pinned := { name := "ytpoikihkllfmbaadoor", sum := "d636035d21af45e5ffb1d5597c4f0471a86654d7c58525b9dcadf2fda64cfb21", checked := Tryd.checked }
namespace Rows
def none {H : Type} : Left H := { results := [], args := [] }

/- WHAT THE LISTED PACKAGE-LEVEL VARIABLES READ AS WHEN THE CALL BEGINS. Each datum BY PROGRAM (the guide's laid-datum.mjs) off the statement by which the dump's own 'gosem.cut.vars' lays the variable. In a bare row this is a premise. The card (YtpoikihkllfmbaaDoorCards.lean) ties it to the program's text. -/
def laid_crossbar_feed_codes {H : Type} : DataW H := .agg [.agg [.lit (.int .i64 1), .lit (.int .i64 205), .lit (.int .i64 1)], .agg [.lit (.int .i64 2), .lit (.int .i64 205), .lit (.int .i64 15)], .agg [.lit (.int .i64 3), .lit (.int .i64 206), .lit (.int .i64 1)], .agg [.lit (.int .i64 4), .lit (.int .i64 206), .lit (.int .i64 4)], .agg [.lit (.int .i64 5), .lit (.int .i64 206), .lit (.int .i64 15)]]

/-- 'crossbarlaw20.FeedRight': WHATEVER THE INPUT: true; the input reads as it did. -/
def feedRightSpec : ChangeSpec := { name := "feedRight", fn := fun _ => fun
  | [d1, d2, d3, d4] => { results := [.lit (.bool true)], args := [d1, d2, d3, d4] }
  | _ => none }
def feedRightRow : OpenClaim := { program := "ytpoikihkllfmbaadoor", sum := "d636035d21af45e5ffb1d5597c4f0471a86654d7c58525b9dcadf2fda64cfb21", func := "crossbar/crossbarlaw20.FeedRight", spec := "feedRight", unfollowed := true, recurses := true, named := ["crossbar/feed.codes"], apart := false, laid := [("crossbar/feed.codes", laid_crossbar_feed_codes)] }
def FeedRightSaid : Prop := feedRightRow.holds Tryd.pinned (OpenSpec.ofChange feedRightSpec)

/-- ITS FALSE NEIGHBOUR: 'it returns false'. Refute it at one input. -/
def feedRightWrong : ChangeSpec := { name := "feedRight", fn := fun _ => fun
  | [d1, d2, d3, d4] => { results := [.lit (.bool false)], args := [d1, d2, d3, d4] }
  | _ => none }
def FeedRightWrongFalsely : Prop := feedRightRow.holds Tryd.pinned (OpenSpec.ofChange feedRightWrong)

/-- 'crossbarlaw20.FeedBack': WHATEVER THE INPUT: true; the input reads as it did. -/
def feedBackSpec : ChangeSpec := { name := "feedBack", fn := fun _ => fun
  | [d1, d2, d3, d4] => { results := [.lit (.bool true)], args := [d1, d2, d3, d4] }
  | _ => none }
def feedBackRow : OpenClaim := { program := "ytpoikihkllfmbaadoor", sum := "d636035d21af45e5ffb1d5597c4f0471a86654d7c58525b9dcadf2fda64cfb21", func := "crossbar/crossbarlaw20.FeedBack", spec := "feedBack", unfollowed := true, recurses := true, named := ["crossbar/feed.codes"], apart := false, laid := [("crossbar/feed.codes", laid_crossbar_feed_codes)] }
def FeedBackSaid : Prop := feedBackRow.holds Tryd.pinned (OpenSpec.ofChange feedBackSpec)

/-- ITS FALSE NEIGHBOUR: 'it returns false'. Refute it at one input. -/
def feedBackWrong : ChangeSpec := { name := "feedBack", fn := fun _ => fun
  | [d1, d2, d3, d4] => { results := [.lit (.bool false)], args := [d1, d2, d3, d4] }
  | _ => none }
def FeedBackWrongFalsely : Prop := feedBackRow.holds Tryd.pinned (OpenSpec.ofChange feedBackWrong)

/-- 'crossbarlaw20.FeedKinds': WHATEVER THE INPUT: true; the input reads as it did. -/
def feedKindsSpec : ChangeSpec := { name := "feedKinds", fn := fun _ => fun
  | [d1, d2] => { results := [.lit (.bool true)], args := [d1, d2] }
  | _ => none }
def feedKindsRow : OpenClaim := { program := "ytpoikihkllfmbaadoor", sum := "d636035d21af45e5ffb1d5597c4f0471a86654d7c58525b9dcadf2fda64cfb21", func := "crossbar/crossbarlaw20.FeedKinds", spec := "feedKinds", unfollowed := true, recurses := true, named := ["crossbar/feed.codes"], apart := false, laid := [("crossbar/feed.codes", laid_crossbar_feed_codes)] }
def FeedKindsSaid : Prop := feedKindsRow.holds Tryd.pinned (OpenSpec.ofChange feedKindsSpec)

/-- ITS FALSE NEIGHBOUR: 'it returns false'. Refute it at one input. -/
def feedKindsWrong : ChangeSpec := { name := "feedKinds", fn := fun _ => fun
  | [d1, d2] => { results := [.lit (.bool false)], args := [d1, d2] }
  | _ => none }
def FeedKindsWrongFalsely : Prop := feedKindsRow.holds Tryd.pinned (OpenSpec.ofChange feedKindsWrong)

/- THE SECOND FORM. 'bulk': how many values and letters a reading holds, each counted each time it is reached (what is shared counts as often as it is met; a slice's spare places count too). A statement '..UptoSaid' is the law's where the arguments, and the package variables that the reading takes, are together of bulk at most 1048576: NARROWER than '..Said'. Prove '..Said' where nothing that the law and all that it calls make is longer than what came in: it says more and counts as full. Else prove '..UptoSaid'. A law counts once. -/
mutual
def uptoBulk {H : Type} : DataW H → Nat
  | .lit (.string bytes) => bytes.length + 1
  | .lit _ => 1
  | .nil => 1
  | .ptr d => uptoBulk d + 1
  | .slice elems spare => uptoBulkAll elems + uptoBulkAll spare + 1
  | .agg parts => uptoBulkAll parts + 1
  | .iface _ d => uptoBulk d + 1
  | .map entries => uptoBulkEntries entries + 1
  | .held _ => 1
def uptoBulkAll {H : Type} : List (DataW H) → Nat
  | [] => 0
  | d :: r => uptoBulk d + uptoBulkAll r
def uptoBulkEntries {H : Type} : List (Lit × DataW H) → Nat
  | [] => 0
  | x :: r => uptoBulkEntry x + uptoBulkEntries r
def uptoBulkEntry {H : Type} : Lit × DataW H → Nat
  | (.string bytes, d) => bytes.length + uptoBulk d + 1
  | (_, d) => uptoBulk d + 1
 end
def uptoSmall : (H : Type) → List (DataW H) → Bool := fun _ ds => decide (uptoBulkAll ds ≤ 1048576)
def OpenSpec.upto (s : _root_.Go.ChangeSpec) : _root_.Go.OpenSpec := { _root_.Go.OpenSpec.ofChange s with cond := some uptoSmall }

/-- 'crossbarlaw20.FeedRight', WHERE WHAT IT READS IS OF BULK AT MOST 1048576: true; the input reads as it did. -/
def feedRightUptoRow : OpenClaim := { program := "ytpoikihkllfmbaadoor", sum := "d636035d21af45e5ffb1d5597c4f0471a86654d7c58525b9dcadf2fda64cfb21", func := "crossbar/crossbarlaw20.FeedRight", spec := "feedRight", unfollowed := true, recurses := true, named := ["crossbar/feed.codes"], apart := false, laid := [("crossbar/feed.codes", laid_crossbar_feed_codes)], narrowed := true }
def FeedRightUptoSaid : Prop := feedRightUptoRow.holds Tryd.pinned (OpenSpec.upto feedRightSpec)

/-- 'crossbarlaw20.FeedBack', WHERE WHAT IT READS IS OF BULK AT MOST 1048576: true; the input reads as it did. -/
def feedBackUptoRow : OpenClaim := { program := "ytpoikihkllfmbaadoor", sum := "d636035d21af45e5ffb1d5597c4f0471a86654d7c58525b9dcadf2fda64cfb21", func := "crossbar/crossbarlaw20.FeedBack", spec := "feedBack", unfollowed := true, recurses := true, named := ["crossbar/feed.codes"], apart := false, laid := [("crossbar/feed.codes", laid_crossbar_feed_codes)], narrowed := true }
def FeedBackUptoSaid : Prop := feedBackUptoRow.holds Tryd.pinned (OpenSpec.upto feedBackSpec)

/-- 'crossbarlaw20.FeedKinds', WHERE WHAT IT READS IS OF BULK AT MOST 1048576: true; the input reads as it did. -/
def feedKindsUptoRow : OpenClaim := { program := "ytpoikihkllfmbaadoor", sum := "d636035d21af45e5ffb1d5597c4f0471a86654d7c58525b9dcadf2fda64cfb21", func := "crossbar/crossbarlaw20.FeedKinds", spec := "feedKinds", unfollowed := true, recurses := true, named := ["crossbar/feed.codes"], apart := false, laid := [("crossbar/feed.codes", laid_crossbar_feed_codes)], narrowed := true }
def FeedKindsUptoSaid : Prop := feedKindsUptoRow.holds Tryd.pinned (OpenSpec.upto feedKindsSpec)

end Rows
end Go.Proofs.YtpoikihkllfmbaaDoor
