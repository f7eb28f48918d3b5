/- The maps of this seat. Written by types.py. -/
import Derived.Test.YtcekjnfdgbeekaaTypes
import Derived.Test.YtcekjnfdgbeekaaCore5
namespace Go.Wf.T
open Go.Proofs
theorem map_54 : MapII Try.prog 54 3 3 := ⟨by kernel_rfl, by kernel_rfl, ⟨by kernel_rfl⟩⟩
end Go.Wf.T
