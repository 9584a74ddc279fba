-- Made by gprint.py (mine) over the kit's print.py, out of the translation; parts of it typed by hand.
import Derived.Test.YthddcbfgdpfcjaaG0
import Derived.Test.YthddcbfgdpfcjaaG1
import Derived.Test.YthddcbfgdpfcjaaG2
import Derived.Test.YthddcbfgdpfcjaaG3
import Derived.Test.YthddcbfgdpfcjaaG4
import Derived.Test.YthddcbfgdpfcjaaG5
import Derived.Test.YthddcbfgdpfcjaaG6
import Derived.Test.YthddcbfgdpfcjaaG7
import Derived.Test.YthddcbfgdpfcjaaG8
namespace Go.Proofs.Ythddcbfgdpfcjaa.G
open Go.RowKit Go.Proofs.YthddcbfgdpfcjaaW.PrintWords Go.Proofs.YthddcbfgdpfcjaaW.PrintLast Go.Proofs.YthddcbfgdpfcjaaW.PrintMore
attribute [local go_sem] max2_int min2_int max_two min_two max_three min_three max_four min_four   -- for this text's walks alone
set_option linter.unusedVariables false
set_option linter.unusedSimpArgs false

end Go.Proofs.Ythddcbfgdpfcjaa.G
