/-
  The contracts of math/bits.Len64 and math/bits.Len, off the kit's shelf templates: the number of bits of x.
  Conditions: x is a uint64.
-/
import Derived.Test.YtiihnicmkenemaaChecked
import Derived.Lib.Strings
import Derived.Lib.Slices
import Derived.Lib.Small
import Derived.Lib.Walk
import Derived.Lib.BitFns
namespace Go.Proofs.Ytiihnicmkenemaa.FxA


end Go.Proofs.Ytiihnicmkenemaa.FxA
