import Derived.Test.YtkmhjcjpohpiaaaMt
import Derived.Test.YtkmhjcjpohpiaaaWn
/- Walks of mtbdd: what each function returns. Printed by a program out of notes. -/
namespace Go.Proofs.Ytkmhjcjpohpiaaa
open Go.Vc
open Classical
end Go.Proofs.Ytkmhjcjpohpiaaa
