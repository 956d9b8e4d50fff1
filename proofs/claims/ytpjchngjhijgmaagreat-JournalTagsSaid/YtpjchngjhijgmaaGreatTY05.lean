import Derived.Test.YtpjchngjhijgmaaGreatTY04
set_option linter.all false
namespace Go.Proofs.YtpjchngjhijgmaaGreat
open Go.RowKit
theorem Zq793 {S:Str} {J:Jn} (h:JOK S J) (hf:J.r.first=1) (hl:J.l.length≤100000):readJ S J 0 1048576=(J.l,0):=by
 have hw:Zq473 S J 0 1048576=0:=by
  unfold Zq473
  rw [if_neg (by simp [h.may]),if_neg (by unfold endJ;omega),if_neg (by omega)]
 unfold readJ readL
 rw [hw,if_pos rfl,hf]
 rw [show ((0:Int) - 1+1).toNat=0 by rfl,List.drop_zero,List.take_of_length_le (by show J.l.length≤1048576;omega)]
end Go.Proofs.YtpjchngjhijgmaaGreat
