import Derived.Test.YtkmhjcjpohpiaaaGreatWn
/- What Apply returns. No program in sight. -/
namespace Go.Proofs.YtkmhjcjpohpiaaaGreat
open Go Go.Vc
open Classical
section
variable {op : Int} {A B : Mg}
end
end Go.Proofs.YtkmhjcjpohpiaaaGreat
