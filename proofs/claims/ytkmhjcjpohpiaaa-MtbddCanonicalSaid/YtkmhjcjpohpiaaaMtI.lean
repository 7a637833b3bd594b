import Derived.Test.YtkmhjcjpohpiaaaWm
import Derived.Test.YtkmhjcjpohpiaaaWr
/- Reading arguments of the mtbdd laws. No program in sight. -/
namespace Go.Proofs.Ytkmhjcjpohpiaaa
open Go Go.Vc
theorem fks_recs {H:HV} {v:Value} {n:Nat} {R:Nat→Int × Int × Int} (h:SlS 3 H v n ((List.range n).flatMap fun i=>[.int .i64 (R i).1,.int .i64 (R i).2.1,.int .i64 (R i).2.2])) :
    Fks H v ((List.range n).map fun i=>(⟨(R i).1,(R i).2.1,(R i).2.2⟩:Fk)):=by
  unfold Fks fks
  rw [List.length_map,List.length_range,List.flatMap_map]
  exact h
end Go.Proofs.Ytkmhjcjpohpiaaa
