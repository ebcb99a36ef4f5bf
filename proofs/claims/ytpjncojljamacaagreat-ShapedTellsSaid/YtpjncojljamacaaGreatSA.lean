
/- Chapter 7: the order of suffixes, plainly. Chapter 7: suffixes by triples, plainly. Chapter 7: merging two orders of suffixes, plainly. Chapter 7: from a sample's order to the whole one, plainly. Chapter 7: the order that end makes is the order of suffixes, plainly. -/
import Derived.Test.YtpjncojljamacaaGreatAD
import Derived.Test.YtpjncojljamacaaGreatQC

set_option linter.unusedVariables false
set_option linter.unusedSimpArgs false
namespace Go.Proofs.YtpjncojljamacaaGreat.AM

end Go.Proofs.YtpjncojljamacaaGreat.AM

set_option linter.unusedVariables false
set_option linter.unusedSimpArgs false
namespace Go.Proofs.YtpjncojljamacaaGreat.AM

end Go.Proofs.YtpjncojljamacaaGreat.AM

set_option linter.unusedVariables false
set_option linter.unusedSimpArgs false
namespace Go.Proofs.YtpjncojljamacaaGreat.AM

end Go.Proofs.YtpjncojljamacaaGreat.AM

set_option linter.unusedVariables false
set_option linter.unusedSimpArgs false
namespace Go.Proofs.YtpjncojljamacaaGreat.AM

end Go.Proofs.YtpjncojljamacaaGreat.AM

set_option linter.unusedVariables false
set_option linter.unusedSimpArgs false
namespace Go.Proofs.YtpjncojljamacaaGreat.AM

end Go.Proofs.YtpjncojljamacaaGreat.AM
