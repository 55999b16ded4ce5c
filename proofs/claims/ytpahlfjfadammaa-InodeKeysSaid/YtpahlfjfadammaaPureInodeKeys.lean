/- The law InodeKeys holds. No condition. -/
import Derived.Test.YtpahlfjfadammaaPut
import Derived.Test.YtpahlfjfadammaaPx6
namespace Go.Proofs.Ytpahlfjfadammaa.Pure
open Go.RowKit Go.Proofs.Ytpahlfjfadammaa.P Go.Proofs.Ytpahlfjfadammaa.NumLem Go.Proofs.YtpahlfjfadammaaW.PrintWords Go.Proofs.YtpahlfjfadammaaW.PrintLast
theorem InodeKeys : cambiumlaw13_InodeKeys.Pure := by
  intro a b _ _
  refine ⟨6, ?_⟩
  unfold cambiumlaw13_InodeKeys.f
  simp [shown_is 6 (by omega), inode_Key.f, inode_EntryKey.f, inode_DataKey.f, inode_OrphanKey.f]
end Go.Proofs.Ytpahlfjfadammaa.Pure
