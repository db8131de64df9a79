-- Written by a program of this session around the given print (and over contracts of this session): not checked by anybody but Lean.
import Derived.Test.YtjphmebhofkhcaaDoorPSegAllx0
import Derived.Test.YtjphmebhofkhcaaDoorPSegAllx2
import Derived.Test.YtjphmebhofkhcaaDoorPSegAllx6
namespace Go.Proofs.YtjphmebhofkhcaaDoor.PSegAll
open Go.RowKit Go.Proofs.YtjphmebhofkhcaaDoorW.PrintWords Go.Proofs.YtjphmebhofkhcaaDoorW.PrintLast Go.Proofs.YtjphmebhofkhcaaDoorW.PrintMore
attribute [local go_sem] max2_int min2_int max_two min_two max_three min_three max_four min_four   -- for this text's walks alone
set_option linter.unusedVariables false
set_option linter.unusedSimpArgs false

attribute [local go_sem high] eqA70
/-! ### chancelref04_site: function 77 -/

-- NOT PRINTED: function 49 (chancelref04_Put)

/-! ### chancelref01_Byte: function 78 -/

/-! ### chancelref01_Put: function 50 -/

-- NOT PRINTED: function 19 (chancelref05_Insert)

-- NOT PRINTED: function 4 (chancellaw05_SegmentInsert)

-- NOT PRINTED: function 51 (segment_Segment_places)

end Go.Proofs.YtjphmebhofkhcaaDoor.PSegAll
