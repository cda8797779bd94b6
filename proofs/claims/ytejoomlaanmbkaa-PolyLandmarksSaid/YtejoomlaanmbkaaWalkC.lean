/- Digits, doubles and lengths of wide numbers, walked: the program and the reference. -/
import Derived.Test.YtejoomlaanmbkaaWalkB
import Derived.Test.YtejoomlaanmbkaaMathDiv
import Derived.RegionTactic
import Derived.ChangeAlike
namespace Go.Proofs.Ytejoomlaanmbkaa
open Go.RowKit Go.Shelf

end Go.Proofs.Ytejoomlaanmbkaa
