/- The tie of the three tables to the program's text, out of its facts. -/
import Derived.Test.YtofkmenlcnjolaaGreatDoorTa
import Derived.Test.YtofkmenlcnjolaaGreatDoorTb
import Derived.Test.YtofkmenlcnjolaaGreatDoorTc
import Derived.Test.YtofkmenlcnjolaaGreatDoorTd
import Derived.Test.YtofkmenlcnjolaaGreatDoorTe
namespace Go.Proofs.YtofkmenlcnjolaaGreatDoor
open Go
theorem own_tie : Tryz.prog.laidByTextLater ([("math/bits.deBruijn64tab", Rows.laid_math_bits_deBruijn64tab), ("internal/strconv.uint64pow10", Rows.laid_internal_strconv_uint64pow10), ("math/bits.deBruijn32tab", Rows.laid_math_bits_deBruijn32tab)] : List (String × DataW Unit)) [.data, .data, .data] true :=
  Program.laidByTextLater_by_run 400 8 tie_w1 tie_w2 tie_w3 tie_k tie_g tie_n tie_d tie_h1 tie_h2
end Go.Proofs.YtofkmenlcnjolaaGreatDoor
