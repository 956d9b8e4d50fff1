import Derived.Test.YtpjchngjhijgmaaGreatTY03
set_option linter.all false
namespace Go.Proofs.YtpjchngjhijgmaaGreat
open Go.RowKit
theorem JOK.any {S:Str} {J:Jn} (h:JOK S J):JAny S J:=by
 refine ⟨h.live,h.ok,h.small,h.run,h.ents,h.lay,h.rec_,fun k hk=>?_,h.merged,h.dead,h.safe⟩
 have hr:=h.rows k hk
 unfold rowB
 rw [hr]
 split
 ·rename_i q;rw [q];exact List.nil_prefix
 ·exact List.prefix_refl _
section
variable {W w : World} {I : Hp} {l : List HP} {p : Nat} {S : Str}
set_option maxRecDepth 4000
set_option maxHeartbeats 8000000
theorem Zq356 {J:Jn} {m:Nat} (h:St W I w (Zq11 p S::l)) (hJ:JAny S J) (ha:S.armed=false) (hk:Keeps S (m+200)) :
  Calls Tryz.prog 27 #[.pointer (some ⟨p,0,none⟩)] w fun e w'=>∃ I' q S',I.sub I'∧e=.returned (.tuple #[.pointer (some ⟨q,0,none⟩),.int .i64 0])∧St W I' w' (Zq11 p S'::jnHP q p (Zq40 J)::l)∧JOK S' (Zq40 J)∧S'.armed=false∧S'.late=[]∧Keeps S' m:=by
 obtain ⟨q1,q2,q3,q4,q5⟩:=hJ.open_pre
 obtain ⟨S',ho,hj,ha',hl'⟩:=hJ.open_calm ha
 have hto:=hJ.live.told
 have hs:=Zq450 (m:=m) J.r (some J.r) h hJ.live.on (hk.fewer (by omega)) q1 q2 q3 q4 q5
 have hk2:=Zq350 (r:=J.r) (m:=m) (hk.fewer (show m+2+4*(Zq35 S ⟨2,0⟩).length≤m+200 by omega))
 rw [ho] at hs hk2
 refine hs.mono ?_
 rintro e w' ⟨I',hs1,⟨hne,_⟩|⟨_,q,he,h2⟩⟩
 ·exact absurd rfl hne
 ·exact ⟨I',q,S',hs1,he,h2,hj,ha',hl',hk2⟩
end
end Go.Proofs.YtpjchngjhijgmaaGreat
