/- The maps of this seat. Written by types.py. -/
import Derived.Test.YthhhegmhgheeiaaTypes
import Derived.Test.YthhhegmhgheeiaaCore11
namespace Go.Wf.T
open Go.Proofs
theorem mapb_98 : MapIB Try.prog 98 3 4 := ⟨by kernel_rfl, by kernel_rfl, ⟨by kernel_rfl⟩⟩
end Go.Wf.T
