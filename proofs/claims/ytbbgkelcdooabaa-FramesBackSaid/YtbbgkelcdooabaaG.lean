-- Made by gprint.py (mine) over the kit's print.py, out of the translation; parts of it typed by hand.
import Derived.Test.YtbbgkelcdooabaaG0
import Derived.Test.YtbbgkelcdooabaaG1
import Derived.Test.YtbbgkelcdooabaaG2
import Derived.Test.YtbbgkelcdooabaaG3
import Derived.Test.YtbbgkelcdooabaaG4
namespace Go.Proofs.Ytbbgkelcdooabaa.G
open Go.RowKit Go.Proofs.YtbbgkelcdooabaaW.PrintWords Go.Proofs.YtbbgkelcdooabaaW.PrintLast Go.Proofs.YtbbgkelcdooabaaW.PrintMore
attribute [local go_sem] max2_int min2_int max_two min_two max_three min_three max_four min_four   -- for this text's walks alone
set_option linter.unusedVariables false
set_option linter.unusedSimpArgs false

end Go.Proofs.Ytbbgkelcdooabaa.G
