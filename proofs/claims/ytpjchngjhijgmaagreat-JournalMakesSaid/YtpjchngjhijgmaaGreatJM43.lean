import Derived.Test.YtpjchngjhijgmaaGreatJM42
import Derived.Lib.AppendStr
set_option linter.all false
namespace Go.Proofs.YtpjchngjhijgmaaGreat
open Go.RowKit
section
variable {W w : World} {I : Hp} {l : List HP}
set_option maxRecDepth 4000
set_option maxHeartbeats 8000000
theorem Zq563 (c:Rg) (at':Int) (vt:Value) (ts:List Tag) (h:St W I w l) (ht:RowI I 4 vt ts.length (flat ts)) (htn:ts.length≤1000000) (hg:goodM c at' ts=true) :
  Calls Tryz.prog 38 #[c.val,.int .i64 at',vt] w fun e w'=>∃ I' p q S,I.sub I'∧e=.returned (.tuple #[.pointer (some ⟨p,0,none⟩),.pointer (some ⟨q,0,none⟩)])∧St W I' w' (Zq10 p S::jnHP q p (Zq66 (Zq107 c at' ts))::l)∧JOK S (Zq66 (Zq107 c at' ts))∧S.armed=false∧Keeps S 99000:=by
 obtain ⟨S1,S2,hm,hj1,ha1,ho,hj2,ha2⟩:=Zq752 hg
 obtain ⟨p1,p2,p3,p4,_,_⟩:=Zq466 (c:=c) (at':=at') (ts:=ts) Zq231 rfl rfl hg
 have hk1:Keeps S1 99990:=by
  have:=Zq315 (c:=c) (at':=at') (ts:=ts) (b:=false) (m:=99990) ((Zq92 1048576).fewer (show 99990+4+2*(Zq21 (newS 1048576) ⟨2,0⟩).length≤100000 by show 99990+4+2*0≤_;omega))
  rwa [hm] at this
 have hto:=hj1.live.told
 have hk2:Keeps S2 99000:=by
  have:=Zq316 (r:=newR c at' ts) (m:=99000) (hk1.fewer (show 99000+2+4*(Zq21 S1 ⟨2,0⟩).length≤99990 by omega))
  rwa [ho] at this
 have HJ:=Zh hj2
 have HA:=Zh ha2
 have HK2:=Zh hk2
 have HMK:=Zh (show ∀ (w1:World) (p:Nat) (l1:List HP),St W I w1 (Zq10 p (newS 1048576)::l1)→Calls Tryz.prog 34 #[.pointer (some ⟨p,0,none⟩),c.val,.int .i64 at',vt] w1 fun e w'=>∃ I',I.sub I'∧e=.returned (.int .i64 0)∧St W I' w' (Zq10 p S1::l1) from fun _ _ _ h1=>by
  have:=Zq128 (m:=99990) c at' vt ts none none h1 ht htn ((Zq92 1048576).fewer (by show 99990+4+2*0≤_;omega)) (by show 0≤_;omega) p1 (fun _ _=>⟨p2,p3,p4⟩)
  rw [show (none:Option Rc).isSome=false from rfl,hm] at this
  exact this)
 have HOP:=Zh (show ∀ (I1:Hp) (w1:World) (p:Nat) (l1:List HP),St W I1 w1 (Zq10 p S1::l1)→Calls Tryz.prog 27 #[.pointer (some ⟨p,0,none⟩)] w1 fun e w'=>∃ I' q,I1.sub I'∧e=.returned (.tuple #[.pointer (some ⟨q,0,none⟩),.int .i64 0])∧St W I' w' (Zq10 p S2::jnHP q p (Zq66 (Zq107 c at' ts))::l1) from fun _ _ _ _ h1=>by
  obtain ⟨q1,q2,q3,q4,q5⟩:=hj1.open_pre
  have hs:=Zq415 (m:=99000) (newR c at' ts) (some (newR c at' ts)) h1 hj1.live.on (hk1.fewer (by omega)) q1 q2 q3 q4 q5
  rw [ho] at hs
  refine hs.mono ?_
  rintro e w' ⟨I',hs1,⟨hne,_⟩|⟨_,q,he,h2⟩⟩
  ·exact absurd rfl hne
  ·exact ⟨I',q,hs1,he,h2⟩)
 clear hm hj1 ha1 ho hj2 ha2 p1 p2 p3 p4 hk1 hto hk2 ht htn
 have h1:=h.alloc (.cells #[.int .i64 c.splay,.int .i64 c.sets,.int .i64 c.size] 26)
 simp only [Rg.val] at HMK ⊢
 have H1:=Zh (Zq446 1048576 h1)
 have HRC:=Zh (show ∀ (w':World) (L:List HP),St W I w' (HP.pt w.heap.size (.cells #[.int .i64 c.splay,.int .i64 c.sets,.int .i64 c.size] 26)::L)→w'.cell? ⟨w.heap.size,0,none⟩=some (.int .i64 c.splay)∧w'.cell? ⟨w.heap.size,1,none⟩=some (.int .i64 c.sets)∧w'.cell? ⟨w.heap.size,2,none⟩=some (.int .i64 c.size) from fun w' L h1=>Zq40 h1)
 clear h1
 go_enter Tryz.func38,Tryz.ntmps38
 go_wp2_with fail
 refine H1.out.mono ?_
 rintro e w2 ⟨p,rfl,h2⟩
 obtain ⟨c0,c1,c2⟩:=HRC.out _ _ (h2.pull 1 _ rfl)
 have HM:=Zh (HMK.out _ _ _ h2)
 clear h2
 go_wp2_with fail
 refine HM.out.mono ?_
 rintro e w3 ⟨I3,hs3,rfl,h3⟩
 have HO:=Zh (HOP.out _ _ _ _ h3)
 have HS3:=Zh hs3
 clear h3 hs3 c0 c1 c2
 go_wp2_with fail
 refine HO.out.mono ?_
 rintro e w4 ⟨I4,q,hs4,rfl,h4⟩
 have H4:=Zh h4
 have HS4:=Zh (HS3.out.trans hs4)
 clear h4 hs4
 go_wp2_with fail
 go_ret2
 refine ⟨I4,p,q,S2,HS4.out,rfl,?_,HJ.out,HA.out,HK2.out⟩
 exact (H4.out.pull 2 _ rfl).drop
end
end Go.Proofs.YtpjchngjhijgmaaGreat
namespace Go.Proofs.YtpjchngjhijgmaaGreat
open Go.RowKit
def tag1:Tag:=⟨1,1,0,0⟩
section
variable {W w : World} {I : Hp} {l : List HP}
set_option maxRecDepth 4000
set_option maxHeartbeats 8000000
theorem Zq875 {g:Nat} {t:Tag} {ty:TypeId} {f:Nat × Nat} (h:St W I w (HP.pt g (.cells #[.int .i64 t.id,.int .i64 t.own,.int .i64 t.heir,.int .i64 t.at_] ty f)::l)):∃ I',I.sub I'∧RowI I' 4 (.slice (some ⟨g,0,none⟩) 1 1) 1 (flat [t])∧St W I' w l:=by
 obtain ⟨I',hs,hI,h2⟩:=h.freeze
 refine ⟨I',hs,⟨some ⟨g,0,none⟩,1,rfl,rfl,Nat.le_refl _,by unfold maxLen;omega,(fun e=>by cases e),fun _=>⟨g,0,_,_,_,rfl,hI,fun i x hx=>?_⟩⟩,h2⟩
 simpa [flat,Tag.vals] using hx
theorem Zq317 (h:St W I w l):Calls Tryz.prog 39 #[] w fun e w'=>∃ I' g,I.sub I'∧e=.returned (.slice (some ⟨g,0,none⟩) 1 1)∧RowI I' 4 (.slice (some ⟨g,0,none⟩) 1 1) 1 (flat [tag1])∧St W I' w' l:=by
 go_enter Tryz.func39,Tryz.ntmps39
 obtain ⟨I',hs,hr,h2⟩:=Zq875 (t:=tag1) (h.alloc (.cells #[.int .i64 1,.int .i64 1,.int .i64 0,.int .i64 0] 80))
 have HS:=Zh hs
 have HR:=Zh hr
 have H2:=Zh h2
 clear hs hr h2
 go_wp2_with fail
 go_ret
 exact ⟨_,_,HS.out,rfl,HR.out,H2.out⟩
end
end Go.Proofs.YtpjchngjhijgmaaGreat
namespace Go.Proofs.YtpjchngjhijgmaaGreat
open Go.RowKit
theorem Zq423 {S:Str} (h:LiveJ UJn S) (ha:S.armed=false):(Zq51 S).1=0∧LiveJ UJn (Zq51 S).2∧(Zq51 S).2.armed=false∧(get kJ S.seen=none→get kJ (Zq51 S).2.seen=none)∧∀ k,k≠kJ→get k (Zq51 S).2.seen=none:=by
 have hci:=Zq216 fun k hk=>(Zq130 h k hk).1
 obtain ⟨c1,c2⟩:=Zq119 Zq69 h ha hci
 obtain ⟨d1,d2⟩:=Zq214 Zq69 h hci c1
 rw [Zq229 h]
 refine ⟨c1,d1,c2,fun hn=>?_,fun k hk=>(congrFun d2 k).trans (Zq786 h hk)⟩
 refine (congrFun d2 kJ).trans (Zq890.trans ?_)
 rw [hn];simp
theorem Zq753 {S:Str} (h:LiveJ UJn S) (ha:S.armed=false):(wipeJ S).1=0∧LiveJ UJn (wipeJ S).2∧(wipeJ S).2.armed=false∧get kJ (wipeJ S).2.seen=none:=by
 unfold wipeJ
 rw [if_neg (by simp [h.on]),h.why kJ_ok]
 cases hg:get kJ S.seen with
 | none =>
  rw [if_neg (by simp)]
  obtain ⟨a,b,c,d,_⟩:=Zq423 h ha
  exact ⟨a,b,c,d hg⟩
 | some t =>
  rw [if_pos (by rfl)]
  have hd:=h.drop kJ_ok (show (get kJ S.seen).isSome=true by rw [hg];rfl)
  rw [hd]
  have hb:(Zq32 S).1=false:=by simp [Zq32,ha]
  have e0:(stepE S (.deed kJ goneD)).1=0:=Zq118 _ h.on h.inv.coh hb
  obtain ⟨h1,h2⟩:=Zq313 h Zq69 Zq418 (.inr (.inl rfl)) e0
  have ha1:=(Zq129 (.deed kJ goneD) ha h.on).1
  have hk1:=h2 kJ
  rw [if_pos rfl] at hk1
  have hk2:get kJ (stepE S (.deed kJ goneD)).2.seen=none:=hk1
  have hb1:(Zq32 (stepE S (.deed kJ goneD)).2).1=false:=by simp [Zq32,ha1]
  have e1:(stepE (stepE S (.deed kJ goneD)).2 .bar).1=0:=Zq118 _ h1.on h1.inv.coh hb1
  obtain ⟨h3,h4,_⟩:=Zq242 h1 Zq69 (s:=.bar) trivial e1
  have ha2:=(Zq129 .bar ha1 h1.on).1
  have hk3:get kJ (Zq14 (stepE S (.deed kJ goneD)).2).2.seen=none:=(congrFun h4 kJ).trans hk2
  have e2:(Zq14 (stepE S (.deed kJ goneD)).2).1=0:=e1
  rw [if_neg (by simp [e0]),if_neg (by simp [e2])]
  obtain ⟨a,b,c,d,_⟩:=Zq423 (S:=(Zq14 (stepE S (.deed kJ goneD)).2).2) h3 ha2
  exact ⟨a,b,c,d hk3⟩
end Go.Proofs.YtpjchngjhijgmaaGreat
namespace Go.Proofs.YtpjchngjhijgmaaGreat
open Go.RowKit
theorem JOK.append_calm {S:Str} {J:Jn} {d:List Int} (h:JOK S J) (ha:S.armed=false) (hd:1≤d.length∧d.length≤90) (hb:∀ y ∈ d,isByte y) (hf:fitsJ J [(d.length:Int)]=true) (hn:J.r.set+J.l.length<1000000∧J.l.length<100000) :
  ∃ S' g p nx,rput J.r.shape J.fill (endJ J+1) d.length=(g,p,nx,true)∧Zq99 S J d=((endJ J+1,0),S',addJ J (newE J d) p g)∧JOK S' (addJ J (newE J d) p g)∧S'.armed=false ∧
   (Zq56 (madeS S (keyOf J.r.shape (rput J.r.shape J.fill (endJ J+1) d.length).2.1)).2 (keyOf J.r.shape (rput J.r.shape J.fill (endJ J+1) d.length).2.1) (Zq46 (newE J d))).1≠6:=by
 obtain ⟨g,p,nx,hr,hin,h1,h2,h3⟩:=h.append hd hb hf hn
 obtain ⟨c1,c2⟩:=Zq119 Zq69 h.live ha h1
 rw [if_pos c1] at h2
 refine ⟨_,g,p,nx,hr,h2,h3 c1,c2,?_⟩
 obtain ⟨hw,hroom,_⟩:=h.appRoom hr hin
 have hcc:=Rg.ok h.ok.shape
 have hlen:(Zq19 (rowsJ J) (keyOf J.r.shape p)).length+(Zq46 (newE J d)).length≤4096:=by
  rw [Zq38]
  show _+(22+d.length)≤_
  omega
 have hpl:=Zq421 h.live (Zq516 h.ok.shape p) (h.rows (keyOf J.r.shape p) Zq464) hlen
 rw [hpl] at c1
 rw [hr]
 simp only
 by_cases q:(madeS S (keyOf J.r.shape p)).1=0
 ·rw [if_neg (by simp [q])] at c1
  rw [c1];decide
 ·rw [if_pos q] at c1
  exact absurd c1 q
theorem Zq674:attrS (newS 10000) kJ nmJ=([],4):=by kernel_rfl
theorem Zq828:makeJ (newS 10000) ⟨0,0,0⟩ 0 [tag1] false=(1,newS 10000):=by kernel_rfl
def j5:Jn:=Zq66 (Zq107 ⟨1,4,512⟩ 5 [tag1])
theorem Zq876:goodM ⟨1,4,512⟩ 5 [tag1]=true:=by kernel_rfl
theorem Zq877:fitsJ j5 [(([97]:List Int).length:Int)]=true:=by kernel_rfl
theorem Zq896:(rput j5.r.shape j5.fill (endJ j5+1) (([97]:List Int).length:Int)).1.set=0:=by kernel_rfl
theorem Zq878:endJ j5=5:=by kernel_rfl
theorem Zq675 {S:Str} (h:JOK S j5) (ha:S.armed=false):∃ S' J',Zq99 S j5 [97]=((6,0),S',J')∧JOK S' J'∧setsJ J'=1∧J'.safe=5 ∧
  (Zq56 (madeS S (keyOf j5.r.shape (rput j5.r.shape j5.fill (endJ j5+1) (([97]:List Int).length:Int)).2.1)).2 (keyOf j5.r.shape (rput j5.r.shape j5.fill (endJ j5+1) (([97]:List Int).length:Int)).2.1) (Zq46 (newE j5 [97]))).1≠6:=by
 obtain ⟨S',g,p,nx,h1,h2,h3,h4,h5⟩:=h.append_calm (d:=[97]) ha (by decide) (by intro y hy;rw [List.mem_singleton.1 hy];unfold isByte;omega) Zq877 (by decide)
 have hs:=Zq896
 rw [h1] at hs
 refine ⟨S',_,by rw [h2,Zq878];rfl,h3,?_,rfl,h5⟩
 show g.set - 0+1=1
 have hs':g.set=0:=hs
 omega
end Go.Proofs.YtpjchngjhijgmaaGreat
namespace Go.Proofs.YtpjchngjhijgmaaGreat
open Go.RowKit
def Zq888 (ts:List Tag):Int→List (List Int)→List En
 | _,[]=>[]
 | s,p::ps=>⟨tagOf ts s,s,p⟩::Zq888 ts (s+1) ps
def Zq838:List (List Int)→Str→Jn→Str × Jn × Nat
 | [],S,J=>(S,J,0)
 | p::ps,S,J=>if fitsJ J [(p.length:Int)]=false then (S,J,0) else ((Zq838 ps (Zq99 S J p).2.1 (Zq99 S J p).2.2).1,(Zq838 ps (Zq99 S J p).2.1 (Zq99 S J p).2.2).2.1,(Zq838 ps (Zq99 S J p).2.1 (Zq99 S J p).2.2).2.2+1)
end Go.Proofs.YtpjchngjhijgmaaGreat
namespace Go.Proofs.YtpjchngjhijgmaaGreat
open Go.RowKit
def Zq917 (ls:List (List Int)) (most long:Int):Bool:=ls.all (fun p=>decide ((p.length:Int)≤long))&&decide ((ls.length:Int)≤most)
def ringK (a b c:Int):Rg:=⟨1+a % 4,4+b % 256 % 5,512+c % 65536 % 3585⟩
def rowOf (p:List Int):List Int:=if p=[] then [7] else p.take 90
def Zq905 (ls:List (List Int)):List Int:=ls.map fun p=>(p.length:Int)
section
variable {W w : World} {I : Hp} {l : List HP}
set_option maxRecDepth 4000
set_option maxHeartbeats 8000000
end
end Go.Proofs.YtpjchngjhijgmaaGreat
namespace Go.Proofs.YtpjchngjhijgmaaGreat
open Go.RowKit
section
set_option maxRecDepth 4000
set_option maxHeartbeats 8000000
theorem Zq676 {W w:World} {I:Hp} {l:List HP} {g:Nat} {x:Int} {f:Nat × Nat} (h:St W I w (HP.pt g (.cells #[.int .u8 x] 5 f)::l)):∃ I',I.sub I'∧BytesI I' (.slice (some ⟨g,0,none⟩) 1 1) [x]∧St W I' w l:=by
 obtain ⟨I',hs,hI,h2⟩:=h.freeze
 exact ⟨I',hs,⟨some ⟨g,0,none⟩,1,rfl,rfl,Nat.le_refl _,by unfold maxLen;omega,(fun e=>by cases e),fun _=>⟨g,0,_,_,_,rfl,hI,fun i x hx=>by simpa [byteV] using hx⟩⟩,h2⟩
theorem Zq150 (w:World):Calls Tryz.prog 13 #[] w fun e w'=>e=.returned (.bool true)∧Below w.heap.size w w':=by
 go_enter Tryz.func13,Tryz.ntmps13
 go_wp2_with fail
 refine (Zq446 10000 (St.init w)).mono ?_
 rintro e w1 ⟨p,rfl,h1⟩
 have hjr:JRec (newS 10000) none:=by show (attrS (newS 10000) kJ nmJ).2≠0;rw [Zq674];decide
 have ho:=Zq278 h1 rfl (Zq92 10000).inv hjr
 rw [Zq674] at ho
 have HO:=Zh ho
 clear h1 ho
 go_wp2_with fail
 refine HO.out.mono ?_
 rintro e w2 ⟨rfl,h2⟩
 have HT:=Zh (Zq317 h2)
 clear h2 HO
 go_wp2_with fail
 refine HT.out.mono ?_
 rintro e w3 ⟨I3,g3,hs3,rfl,hr3,h3⟩
 have hm:=Zq128 (m:=99990) ⟨0,0,0⟩ 0 _ [tag1] none none h3 hr3 (by decide) ((Zq92 10000).fewer (by show 99990+4+2*0≤_;omega)) (by show 0≤_;omega) hjr (fun hg _=>by have h:false=true:=hg;cases h)
 rw [show (none:Option Rc).isSome=false from rfl,Zq828] at hm
 simp only [Rg.val] at hm
 have HM:=Zh hm
 have HS3:=Zh hs3
 clear h3 hm hs3 hr3 HT hjr
 go_wp2_with fail
 refine HM.out.mono ?_
 rintro e w4 ⟨I4,hs4,rfl,h4⟩
 have HT:=Zh (Zq317 h4)
 have HS4:=Zh (HS3.out.trans hs4)
 clear h4 hs4 HM
 go_wp2_with fail
 refine HT.out.mono ?_
 rintro e w5 ⟨I5,g5,hs5,rfl,hr5,h5⟩
 have hop:=Zq563 ⟨1,4,512⟩ 5 _ [tag1] h5 hr5 (by decide) Zq876
 simp only [Rg.val] at hop
 have HOP:=Zh hop
 have HS5:=Zh (HS4.out.trans hs5)
 clear h5 hop hs5 hr5 HT
 go_wp2_with fail
 refine HOP.out.mono ?_
 rintro e w6 ⟨I6,p6,q6,S6,hs6,rfl,h6,hj6,ha6,hk6⟩
 have HB:=Zh hj6.jb
 have HF:=Zh (Zq304 (h6.pull 1 _ rfl) hj6.jb)
 have H6:=Zh h6
 have HJ6:=Zh hj6
 have HA6:=Zh ha6
 have HK6:=Zh hk6
 have HS6:=Zh (HS5.out.trans hs6)
 clear h6 hj6 ha6 hk6 hs6 HOP
 go_wp2_with fail
 refine HF.out.mono ?_
 rintro e w7 ⟨rfl,hb7⟩
 have h7:=H6.out.keep hb7
 have HE:=Zh (Zq148 (h7.pull 1 _ rfl) HB.out)
 have H7:=Zh h7
 rw [show (Zq66 (Zq107 ⟨1,4,512⟩ 5 [tag1])).r.first=6 from by kernel_rfl]
 clear h7 hb7 HF H6
 go_wp2_with fail
 refine HE.out.mono ?_
 rintro e w8 ⟨rfl,hb8⟩
 have h8:=H7.out.keep hb8
 rw [show endJ (Zq66 (Zq107 ⟨1,4,512⟩ 5 [tag1]))=5 from Zq878]
 have hcv:=Zq625
 obtain ⟨I9,hs9,hb9,h9⟩:=Zq676 (h8.alloc (.cells #[.int .u8 97] 5 (1,2)))
 obtain ⟨S10,J10,a1,a2,a3,a4,a5⟩:=Zq675 HJ6.out HA6.out
 have hap:=Zq463 (m:=98000) [97] _ _ h9 (HK6.out.fewer (by omega)) HB.out hb9 (by intro y hy;rw [List.mem_singleton.1 hy];unfold isByte;omega) a5
 have a1':Zq99 S6 (Zq66 (Zq107 ⟨1,4,512⟩ 5 [tag1])) [97]=((6,0),S10,J10):=a1
 rw [a1'] at hap
 have HAP:=Zh hap
 have HA2:=Zh a2
 have HA3:=Zh a3
 have HA4:=Zh a4
 have HS9:=Zh (HS6.out.trans hs9)
 clear h8 hb8 hs9 hb9 h9 a1 a2 a3 a4 a5 hap a1' HE H7
 go_wp2_with fail
 refine HAP.out.mono ?_
 rintro e w10 ⟨I10,hs10,rfl,h10⟩
 have HSE:=Zh (Zq394 (h10.pull 1 _ rfl) HA2.out.jb)
 have H10:=Zh h10
 clear h10 hs10 HAP hcv
 go_wp2_with fail
 refine HSE.out.mono ?_
 rintro e w11 ⟨rfl,hb11⟩
 have h11:=H10.out.keep hb11
 have HSF:=Zh (Zq393 (h11.pull 1 _ rfl) HA2.out.jb)
 have H11:=Zh h11
 clear h11 hb11 H10 HSE
 rw [HA3.out]
 go_wp2_with fail
 refine HSF.out.mono ?_
 rintro e w12 ⟨rfl,hb12⟩
 have H12:=Zh (H11.out.keep hb12)
 rw [HA4.out]
 clear hb12 H11 HSF
 go_wp2_with fail
 go_ret
 exact ⟨rfl,H12.out.below⟩
end
end Go.Proofs.YtpjchngjhijgmaaGreat
namespace Go.Proofs.YtpjchngjhijgmaaGreat
open Go.RowKit
section
variable {W w : World} {I : Hp} {l : List HP}
set_option maxRecDepth 4000
set_option maxHeartbeats 8000000
theorem IntsI.cells {A:Option Addr} {c:Nat} {ns:List Int} {i:Nat} {n:Int} (h:IntsI I (.slice A ns.length c) ns) (hi:ns[i]?=some n):∃ b off,A=some ⟨b,off,none⟩∧∀ {W' w':World} {I':Hp} {l':List HP},I.sub I'→St W' I' w' l'→w'.cell? ⟨b,off+i,none⟩=some (.int .i64 n):=by
 obtain ⟨A1,c1,e,h2,h3,h4,h5,h6⟩:=h
 have hil:=(List.getElem?_eq_some_iff.1 hi).1
 obtain ⟨b,off,cs,t,f,e3,e4,e5⟩:=h6 (by omega)
 simp only [Value.slice.injEq] at e
 obtain ⟨rfl,_,_⟩:=e
 refine ⟨b,off,e3,fun hs hst=>?_⟩
 have h9:=hst.imm _ _ (hs _ _ e4)
 rw [Zq1 h9,e5 i (intV n) (by rw [List.getElem?_map,hi];rfl)]
 rfl
end
end Go.Proofs.YtpjchngjhijgmaaGreat
namespace Go.Proofs.YtpjchngjhijgmaaGreat
open Go.RowKit
section
variable {W w : World} {I : Hp} {l : List HP}
set_option maxRecDepth 4000
set_option maxHeartbeats 8000000
theorem St.row_bare (h:St W I w l) (e:TypeId) (k:Nat):St W I (w.alloc (.cells #[] e)) (HP.row e k (.slice (some ⟨w.heap.size,0,none⟩) 0 0) 0 []::l):=(h.alloc (.cells #[] e)).row_shut (by simp) (Nat.le_refl _) (by unfold maxLen;omega) (by simp) (by simp)
end
end Go.Proofs.YtpjchngjhijgmaaGreat
