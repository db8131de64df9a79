-- Written by a program of this session around the given print (and over contracts of this session): not checked by anybody but Lean.
import Derived.Test.YtjphmebhofkhcaaDoorPSegAllx0
import Derived.Test.YtjphmebhofkhcaaDoorPSegAllx3
import Derived.Test.YtjphmebhofkhcaaDoorPSegAllx8
import Derived.Test.YtjphmebhofkhcaaDoorPSegAllx10
namespace Go.Proofs.YtjphmebhofkhcaaDoor.PSegAll
open Go.RowKit Go.Proofs.YtjphmebhofkhcaaDoorW.PrintWords Go.Proofs.YtjphmebhofkhcaaDoorW.PrintLast Go.Proofs.YtjphmebhofkhcaaDoorW.PrintMore
attribute [local go_sem] max2_int min2_int max_two min_two max_three min_three max_four min_four   -- for this text's walks alone
set_option linter.unusedVariables false
set_option linter.unusedSimpArgs false

/-! ### marks_Part: function 52 -/

-- NOT PRINTED: function 53 (rope_Rope_Cut)

-- NOT PRINTED: function 20 (segment_Segment_Part)

-- NOT PRINTED: function 5 (chancellaw05_SegmentWhole)

/-! ### chancelref05_places: function 54 -/

-- NOT PRINTED: function 55 (chancelref04_Part)

/-! ### chancelref01_Cut: function 56 -/

-- NOT PRINTED: function 24 (chancelref05_Part)

-- NOT PRINTED: function 25 (segment_Segment_Piece)

/-! ### chancelref05_Piece: function 26 -/

-- NOT PRINTED: function 27 (segment_Segment_Twin)

-- NOT PRINTED: function 6 (chancellaw05_SegmentParts)

-- NOT PRINTED: function 80 (api_Site_80)

-- NOT PRINTED: function 94 (api_Site_94)

end Go.Proofs.YtjphmebhofkhcaaDoor.PSegAll
