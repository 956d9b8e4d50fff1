import Derived.Lib.AppendStr
import Derived.Test.YtpjchngjhijgmaaGreatTY01
set_option linter.all false
namespace Go.Proofs.YtpjchngjhijgmaaGreat
open Go.RowKit
section
variable {W w : World} {I : Hp} {l : List HP}
set_option maxRecDepth 4000
set_option maxHeartbeats 8000000
theorem St.row_bare (h:St W I w l) (e:TypeId) (k:Nat):St W I (w.alloc (.cells #[] e)) (HP.row e k (.slice (some ⟨w.heap.size,0,none⟩) 0 0) 0 []::l):=(h.alloc (.cells #[] e)).row_shut (by simp) (Nat.le_refl _) (by unfold maxLen;omega) (by simp) (by simp)
end
end Go.Proofs.YtpjchngjhijgmaaGreat
