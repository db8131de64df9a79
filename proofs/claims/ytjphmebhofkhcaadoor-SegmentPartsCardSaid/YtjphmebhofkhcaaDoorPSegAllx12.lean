-- Written by a program of this session around the given print (and over contracts of this session): not checked by anybody but Lean.
import Derived.Test.YtjphmebhofkhcaaDoorPSegAllx0
namespace Go.Proofs.YtjphmebhofkhcaaDoor.PSegAll
open Go.RowKit Go.Proofs.YtjphmebhofkhcaaDoorW.PrintWords Go.Proofs.YtjphmebhofkhcaaDoorW.PrintLast Go.Proofs.YtjphmebhofkhcaaDoorW.PrintMore
attribute [local go_sem] max2_int min2_int max_two min_two max_three min_three max_four min_four   -- for this text's walks alone
set_option linter.unusedVariables false
set_option linter.unusedSimpArgs false

-- NOT PRINTED: function 107 (api_Site_107)

-- NOT PRINTED: function 95 (api_Site_95)

-- NOT PRINTED: function 81 (api_Site_81)

-- NOT PRINTED: function 57 (marks_Take)

-- NOT PRINTED: function 58 (rope_Rope_Drop)

-- NOT PRINTED: function 28 (segment_Segment_Delete)

-- NOT PRINTED: function 108 (api_Span_108)

-- NOT PRINTED: function 96 (api_Span_96)

-- NOT PRINTED: function 109 (api_Site_109)

-- NOT PRINTED: function 98 (api_Site_98)

-- NOT PRINTED: function 82 (marks_Drop)

-- NOT PRINTED: function 59 (segment_Segment_Forget)

-- NOT PRINTED: function 29 (segment_Segment_Untake)

-- NOT PRINTED: function 7 (chancellaw05_SegmentTakenBack)

end Go.Proofs.YtjphmebhofkhcaaDoor.PSegAll
