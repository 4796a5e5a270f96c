-- PRINTED BY print.sh 35421559b90ae4d0a3588c463048766b98c2df88dd9212a6774a882060cdf62d: not written by this session
import Derived.Test.YtfcgjadfhojogaaDoorPVmStartsx0
import Derived.Test.YtfcgjadfhojogaaDoorPVmStartsx1
import Derived.Test.YtfcgjadfhojogaaDoorPVmStartsx2
import Derived.Test.YtfcgjadfhojogaaDoorPVmStartsx3
import Derived.Test.YtfcgjadfhojogaaDoorPVmStartsx4
import Derived.Test.YtfcgjadfhojogaaDoorPVmStartsx5
import Derived.Test.YtfcgjadfhojogaaDoorPVmStartsx6
import Derived.Test.YtfcgjadfhojogaaDoorPVmStartsx7
import Derived.Test.YtfcgjadfhojogaaDoorPVmStartsx8
namespace Go.Proofs.YtfcgjadfhojogaaDoor.PVmStarts
open Go.RowKit Go.Proofs.YtfcgjadfhojogaaDoorW.PrintWords Go.Proofs.YtfcgjadfhojogaaDoorW.PrintLast Go.Proofs.YtfcgjadfhojogaaDoorW.PrintMore
attribute [local go_sem] max2_int min2_int max_two min_two max_three min_three max_four min_four   -- for this text's walks alone
set_option linter.unusedVariables false
set_option linter.unusedSimpArgs false

end Go.Proofs.YtfcgjadfhojogaaDoor.PVmStarts
