/- The bulk of a reading is a measure. -/
import Derived.Test.YtlhommikjhhmbaaGreatDoorA8
import Derived.Test.YtlhommikjhhmbaaGreatDoorRows
set_option linter.unusedSimpArgs false
namespace Go.Proofs.YtlhommikjhhmbaaGreatDoor
open Go.Px
theorem bulk_one{H:Type}(d:DataW H):1<=Rows.uptoBulk d:=by
 cases d with
 |lit l=>cases l<;>simp[Rows.uptoBulk]
 |nil=>simp[Rows.uptoBulk]
 |ptr d=>simp[Rows.uptoBulk]
 |slice es a=>simp[Rows.uptoBulk]
 |agg ps=>simp[Rows.uptoBulk]
 |iface t d=>simp[Rows.uptoBulk]
 |map es=>simp[Rows.uptoBulk]
 |held h=>simp[Rows.uptoBulk]
theorem bulk_all{H:Type}:∀l:List (DataW H),Rows.uptoBulkAll l=(l.map Rows.uptoBulk).sum
 |[]=>by simp[Rows.uptoBulkAll]
 |d::r=>by simp[Rows.uptoBulkAll,bulk_all r]
theorem bulk_meas{H:Type}:Meas (H:=H) Rows.uptoBulk where
 one:=bulk_one
 str b:=by simp[Rows.uptoBulk]
 slice es sp:=by simp[Rows.uptoBulk,bulk_all]
 agg ps:=by simp[Rows.uptoBulk,bulk_all]
 ptr d:=by simp[Rows.uptoBulk]
end Go.Proofs.YtlhommikjhhmbaaGreatDoor
