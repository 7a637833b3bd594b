import Derived.RangeFuncBox
import Derived.RangeFuncLeaves
import Derived.RangeFuncNested
import Derived.Shelf.Abstract
import Derived.WalkKit
import Derived.OwnWalkIn
import Derived.TacticsInMore
import Derived.LoopNIn
import Derived.LoopIn
import Derived.Maps.AppendAt
import Derived.Test.YtbchkopkgpfkgaaGreatQAG
set_option linter.unusedVariables false
namespace Go.Proofs.YtbchkopkgpfkgaaGreat.Dd
open Go Go.Proofs Go.RowKit Go.Shelf
attribute [local go_sem] Oper.semAt_some
abbrev p2a(x:P2):Value:=.agg #[.int .i64 x.a,.int .i64 x.b]
end Go.Proofs.YtbchkopkgpfkgaaGreat.Dd
