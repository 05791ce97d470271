/- The law's fixed answer is true. -/
import Derived.Test.YtpoikihkllfmbaaNf
open Go Go.Eng
namespace Go.Proofs.Try.Eng
theorem awake_ok : P_crossbarlaw27_awake () = some (true, ()) := by kernel_rfl
end Go.Proofs.Try.Eng


