import Derived.Test.YtpjchngjhijgmaaGreatJZ45
import Derived.Test.YtpjchngjhijgmaaGreatJZ42
set_option linter.all false
namespace Go.Proofs.YtpjchngjhijgmaaGreat
open Go.RowKit
theorem JOK.flush_calm {S:Str} {J:Jn} (h:JOK S J) (ha:S.armed=false):∃ S',(Zq16 S).2=S'∧Zq471 S J=(0,S',safeJ J)∧JOK S' (safeJ J)∧S'.armed=false∧S'.wet=0∧S'.late=[]:=by
 obtain ⟨h1,h2⟩:=h.flush
 have hb:Zq34 S=(false,S):=by simp [Zq34,ha]
 have h0:(Zq16 S).1=0:=by unfold Zq16;rw [if_neg (by simp [h.live.on]),hb];rfl
 rw [if_pos h0] at h1
 have e:(Zq16 S).2={ S with dry:=Zq205 S,late:=[],wet:=0,deeds:=wrap64 (S.deeds+1) }:=by unfold Zq16;rw [if_neg (by simp [h.live.on]),hb];rfl
 exact ⟨_,rfl,h1,h2 h0,by rw [e];exact ha,by rw [e],by rw [e]⟩
theorem Zq560 {c:Rg} {at':Int} (hc:c.okB=true) (h:0≤at'∧at'≤65535):goodM c at' [tag1]=true:=by
 have hct:Zq48 [tag1] at'=[tag1]:=by
  unfold Zq48
  rw [List.takeWhile_cons,if_pos (by rw [decide_eq_true_eq];exact h.1)]
  rfl
 unfold goodM
 rw [hc,hct,show Zq70 [tag1]=true from by kernel_rfl]
 simp
 omega
end Go.Proofs.YtpjchngjhijgmaaGreat
