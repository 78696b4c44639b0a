/-
  Numbers of a fixed point by definition (chapter 08's answer).
-/
import Derived.Test.YtpenekgnhnfebaaFixD
import Derived.Test.YtpenekgnhnfebaaDyadB
import Derived.Test.YtpenekgnhnfebaaLaw08
import Derived.Test.YtpenekgnhnfebaaZCmp
import Derived.Test.YtpenekgnhnfebaaGG
namespace Go.Rt
open Go.RowKit Go.Proofs

end Go.Rt
