-- Written by a program of this session around the given print (and over contracts of this session): not checked by anybody but Lean.
import Derived.Test.YtdgjjdpeaohebabPMarksHoldsx0
import Derived.Test.YtdgjjdpeaohebabPMarksHoldsx1
namespace Go.Proofs.Ytdgjjdpeaohebab.PMarksHolds
open Go.RowKit Go.Proofs.YtdgjjdpeaohebabW.PrintWords Go.Proofs.YtdgjjdpeaohebabW.PrintLast Go.Proofs.YtdgjjdpeaohebabW.PrintMore
attribute [local go_sem] max2_int min2_int max_two min_two max_three min_three max_four min_four   -- for this text's walks alone
set_option linter.unusedVariables false
set_option linter.unusedSimpArgs false

-- NOT PRINTED: function 41 (slices_xorshift_Next)

-- NOT PRINTED: function 30 (api_Site_30)

-- NOT PRINTED: function 44 (api_Site_44)

-- NOT PRINTED: function 43 (api_Site_43)

-- NOT PRINTED: function 42 (api_Site_42)

-- NOT PRINTED: function 31 (api_Site_31)

-- NOT PRINTED: function 32 (api_Site_32)

-- NOT PRINTED: function 33 (api_Site_33)

-- NOT PRINTED: function 34 (api_Site_34)

-- NOT PRINTED: function 35 (api_Site_35)

-- NOT PRINTED: function 24 (api_Site_24)

-- NOT PRINTED: function 18 (api_Site_18)

-- NOT PRINTED: function 19 (api_Site_19)

-- NOT PRINTED: function 10 (marks_moved)

-- NOT PRINTED: function 4 (marks_Put)

end Go.Proofs.Ytdgjjdpeaohebab.PMarksHolds
