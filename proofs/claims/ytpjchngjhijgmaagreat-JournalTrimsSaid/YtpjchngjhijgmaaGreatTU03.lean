import Derived.Test.YtpjchngjhijgmaaGreatTU02
set_option linter.all false
namespace Go.Proofs.YtpjchngjhijgmaaGreat
open Go.RowKit
theorem JOK.with_calm {S:Str} {J:Jn} {cs:List Cl} {why:Int} (h:JOK S J) (ha:S.armed=false) (hc:why=0→Zq69 cs=true) :
  ∃ S',withJ S J cs why=(why,S',clsJ J (cs,why) why)∧JOK S' (clsJ J (cs,why) why)∧S'.armed=false:=by
 obtain ⟨h1,h2⟩:=h.withC hc
 by_cases hw:why=0
 ·have hr:(clsR J.r cs).Ok:=⟨h.ok.shape,h.ok.first,h.ok.set,h.ok.tags,hc hw⟩
  obtain ⟨t,ht,_⟩:=h.rec_
  have hpl:=Zq150 h.live ht hr
  obtain ⟨c1,c2⟩:=Zq137 Zq81 h.live ha (Zq325 S hr)
  rw [←hpl] at c1 c2
  rw [if_neg (by simp [hw]),if_pos c1] at h1
  refine ⟨(saveJ S (clsR J.r cs)).2,?_,?_,c2⟩
  ·rw [h1,clsJ,if_pos hw,hw]
  ·rw [clsJ,if_pos hw];exact h2 hw c1
 ·rw [if_pos hw] at h1
  refine ⟨S,?_,?_,ha⟩
  ·rw [h1,clsJ,if_neg hw]
  ·rw [clsJ,if_neg hw];exact h
theorem withJ_keeps {S:Str} {J:Jn} {cs:List Cl} {why:Int} {m:Nat} (h:Keeps S (m+2)):Keeps (withJ S J cs why).2.1 m:=by
 unfold withJ
 split
 ·exact h.fewer (by omega)
 ·exact Zq157 h
theorem JOK.upto {S:Str} {J:Jn} (h:JOK S J) (id pos:Int):uptoJ S J id pos=upWhy J id pos:=by
 unfold uptoJ upWhy
 rw [if_neg (by simp [h.may])]
theorem JOK.add_calm {S:Str} {J:Jn} (h:JOK S J) (ha:S.armed=false) (id pos:Int) :
  ∃ S',addJ2 S J id pos=(Zq860 J id pos,S',clsJ J (addC J.r.cls id pos) (Zq860 J id pos))∧JOK S' (clsJ J (addC J.r.cls id pos) (Zq860 J id pos))∧S'.armed=false:=by
 unfold addJ2 Zq860
 rw [h.upto,h.may2]
 by_cases hu:upWhy J id pos=0
 ·rw [if_neg (by simp [hu]),if_neg (by simp [hu])]
  exact h.with_calm ha addC_right
 ·rw [if_pos hu,if_pos hu,clsJ,if_neg hu]
  exact ⟨S,rfl,h,ha⟩
theorem JOK.turn_calm {S:Str} {J:Jn} (h:JOK S J) (ha:S.armed=false) (id:Int) (off:Bool) :
  ∃ S',turnJ S J id off=((turnC J.r.cls id off).2,S',clsJ J (turnC J.r.cls id off) (turnC J.r.cls id off).2)∧JOK S' (clsJ J (turnC J.r.cls id off) (turnC J.r.cls id off).2)∧S'.armed=false:=by
 unfold turnJ
 rw [if_neg (by simp [h.may])]
 exact h.with_calm ha turnC_right
section
variable {W w : World} {I : Hp} {l : List HP} {p q : Nat} {J : Jn} {S : Str}
theorem add16_spec (id pos:Int) {m:Nat} (h:St W I w (Zq8 p S::jnHP q p J::l)) (hj:JOK S J) (ha:S.armed=false) (hk:Keeps S (m+2)) :
  Calls Tryz.prog 46 #[.pointer (some ⟨q,0,none⟩),.int .i64 id,.int .i64 pos] w fun e w'=>∃ I' S',I.sub I'∧e=.returned (.int .i64 (Zq860 J id pos))∧St W I' w' (Zq8 p S'::jnHP q p (clsJ J (addC J.r.cls id pos) (Zq860 J id pos))::l)∧JOK S' (clsJ J (addC J.r.cls id pos) (Zq860 J id pos))∧S'.armed=false∧Keeps S' m:=by
 obtain ⟨S',e1,e2,e3⟩:=hj.add_calm ha id pos
 have hs:=jadd_spec id pos (some J.r) h hk hj.jb hj.jrec
 have hk2:Keeps (addJ2 S J id pos).2.1 m:=by
  unfold addJ2
  split
  ·exact hk.fewer (by omega)
  ·exact withJ_keeps hk
 rw [e1] at hs hk2
 exact hs.mono fun e w' ⟨I',hs1,he,h2⟩=>⟨I',S',hs1,he,h2,e2,e3,hk2⟩
theorem turn16_spec (id:Int) (off:Bool) {m:Nat} (h:St W I w (Zq8 p S::jnHP q p J::l)) (hj:JOK S J) (ha:S.armed=false) (hk:Keeps S (m+2)) :
  Calls Tryz.prog 47 #[.pointer (some ⟨q,0,none⟩),.int .i64 id,.bool off] w fun e w'=>∃ I' S',I.sub I'∧e=.returned (.int .i64 (turnC J.r.cls id off).2)∧St W I' w' (Zq8 p S'::jnHP q p (clsJ J (turnC J.r.cls id off) (turnC J.r.cls id off).2)::l)∧JOK S' (clsJ J (turnC J.r.cls id off) (turnC J.r.cls id off).2)∧S'.armed=false∧Keeps S' m:=by
 obtain ⟨S',e1,e2,e3⟩:=hj.turn_calm ha id off
 have hs:=jturn_spec id off (some J.r) h hk hj.jb hj.jrec
 have hk2:Keeps (turnJ S J id off).2.1 m:=by
  unfold turnJ
  split
  ·exact hk.fewer (by omega)
  ·exact withJ_keeps hk
 rw [e1] at hs hk2
 exact hs.mono fun e w' ⟨I',hs1,he,h2⟩=>⟨I',S',hs1,he,h2,e2,e3,hk2⟩
end
end Go.Proofs.YtpjchngjhijgmaaGreat
namespace Go.Proofs.YtpjchngjhijgmaaGreat
open Go.RowKit
theorem doneGo_again (pos:Int):∀ (es:List En) (ps:List Pl) (i:Nat) (q:Int) (a:Nat) (s:Int),
  (Zq105 pos es ps i q (a,s)=(a,s)∧∀ (i2:Nat) (a2:Nat),Zq105 pos es ps i2 q (a2,s)=(a2,s)) ∨
  ∃ k s',Zq105 pos es ps i q (a,s)=(i+k,s')∧∀ (i2:Nat) (q2:Int) (a2:Nat),Zq105 pos (es.drop k) (ps.drop k) i2 q2 (a2,s')=(a2,s')
 | [],[],_,_,_,_=>.inl ⟨rfl,fun _ _=>rfl⟩
 | [],_::_,_,_,_,_=>.inl ⟨rfl,fun _ _=>rfl⟩
 | _::_,[],_,_,_,_=>.inl ⟨rfl,fun _ _=>rfl⟩
 | e::es,p::ps,i,q,a,s=>by
  have st:∀ (i:Nat) (q:Int) (r:Nat × Int),Zq105 pos (e::es) (p::ps) i q r=if p.set=r.2 then Zq105 pos es ps (i+1) e.seq r else if pos<q then r else Zq105 pos es ps (i+1) e.seq (i,p.set):=fun _ _ _=>rfl
  simp only [st]
  by_cases hs:p.set=s
  ·simp only [if_pos hs]
   rcases doneGo_again pos es ps (i+1) e.seq a s with ⟨h1,h2⟩|⟨k,s',h1,h2⟩
   ·exact .inl ⟨h1,fun i2 a2=>h2 _ _⟩
   ·exact .inr ⟨k+1,s',by rw [h1];congr 1;omega,fun i2 q2 a2=>h2 i2 q2 a2⟩
  ·simp only [if_neg hs]
   by_cases hp:pos<q
   ·simp only [if_pos hp]
    exact .inl ⟨trivial,fun i2 a2=>trivial⟩
   ·simp only [if_neg hp]
    rcases doneGo_again pos es ps (i+1) e.seq i p.set with ⟨h1,h2⟩|⟨k,s',h1,h2⟩
    ·refine .inr ⟨0,p.set,h1,fun i2 q2 a2=>?_⟩
     show Zq105 pos (e::es) (p::ps) i2 q2 (a2,p.set)=_
     rw [st,if_pos rfl]
     exact h2 _ _
    ·exact .inr ⟨k+1,s',by rw [h1];congr 1;omega,fun i2 q2 a2=>h2 i2 q2 a2⟩
theorem done_again (J:Jn):(doneJ (leftJ J)).1=0:=by
 unfold leftJ
 split
 ·assumption
 ·rename_i hd
  have h:=doneGo_again (posD J) J.l J.at_ 0 0 0 J.r.set
  rcases h with ⟨h1,_⟩|⟨k,s',h1,h2⟩
  ·exact absurd (show (doneJ J).1=0 by unfold doneJ;rw [h1]) hd
  ·have hdj:doneJ J=(k,s'):=by unfold doneJ;rw [h1,Nat.zero_add]
   have e:doneJ (Zq30 J)=Zq105 (posD J) (J.l.drop k) (J.at_.drop k) 0 0 (0,s'):=by
    unfold Zq30 Zq21
    rw [hdj]
    rfl
   rw [e,h2]
theorem JOK.left {S:Str} {J:Jn} (h:JOK S J) (hf:J.r.first=1):(leftJ J).r.first=1+((doneJ J).1:Int)∧endJ (leftJ J)=endJ J∧setsJ (leftJ J)≤setsJ J∧((doneJ J).1=0→setsJ (leftJ J)=setsJ J)∧(leftJ J).l=J.l.drop (doneJ J).1∧((doneJ J).1=0∨((doneJ J).1:Int)≤posD J)∧(doneJ J).1≤J.l.length:=by
 unfold leftJ
 by_cases hd:(doneJ J).1=0
 ·rw [if_pos hd,hd]
  exact ⟨by rw [hf];rfl,rfl,Int.le_refl _,fun _=>rfl,rfl,.inl rfl,Nat.zero_le _⟩
 ·rw [if_neg hd]
  rcases h.done with e|⟨n,e,h1,h2,h3,_,_,_,h5⟩
  ·rw [e] at hd;exact absurd rfl hd
  ·obtain ⟨s',hs'⟩:∃ s',(doneJ J).2=s':=⟨_,rfl⟩
   rw [hs'] at e h3
   unfold Zq30 Zq21
   rw [e]
   refine ⟨by show J.r.first+(n:Int)=_;rw [hf],?_,?_,fun q=>absurd q (by simp only;omega),rfl,.inr (by simp only;omega),by simp only;omega⟩
   ·show J.r.first+(n:Int) - 1+((J.l.drop n).length:Int)=J.r.first - 1+(J.l.length:Int)
    rw [List.length_drop]
    omega
   ·show J.fill.set - s'+1≤J.fill.set - J.r.set+1
    omega
theorem JOK.reads {S:Str} {J:Jn} {n:Nat} (h:JOK S J) (hf:J.r.first=1+(n:Int)) (hl:J.l.length≤1000) (hn:n≤1000) :
  readJ S J n 0=([],0)∧readJ S J ((n:Int) - 1) 9=([],if n=0 then 3 else 11)∧readJ S J n 1048576=(J.l,0):=by
 have he:endJ J=n+J.l.length:=by unfold endJ;omega
 have hm:¬ mayJ S J≠0:=by simp [h.may]
 have w1:∀ most:Int,0≤most→Zq731 S J n most=0:=fun most q=>by
  unfold Zq731
  rw [if_neg hm,if_neg (by omega),if_neg (by omega)]
 have w2:Zq731 S J ((n:Int) - 1) 9=if n=0 then 3 else 11:=by
  unfold Zq731
  rw [if_neg hm]
  by_cases q:n=0
  ·rw [if_pos q,if_pos (by omega)]
  ·rw [if_neg q,if_neg (by omega),if_pos (by omega)]
 have hd:((n:Int) - J.r.first+1).toNat=0:=by omega
 refine ⟨?_,?_,?_⟩
 ·unfold readJ readL
  rw [w1 0 (by omega),if_pos rfl]
  simp
 ·unfold readJ
  rw [w2,if_neg (by split <;> decide)]
 ·unfold readJ readL
  rw [w1 1048576 (by omega),if_pos rfl,hd,List.drop_zero,List.take_of_length_le (by show J.l.length≤1048576;omega)]
theorem cls_two {J:Jn} {a b:Int} (off:Bool) (hc:J.r.cls=[]) (ha:0≤a∧a≤endJ J) (hb:0≤b∧b≤endJ J) (he:endJ J≤1000) :
  Zq860 J 1 a=0∧addC J.r.cls 1 a=([⟨1,a,false⟩],0) ∧
  (∀ K:Jn,K.r.cls=[⟨1,a,false⟩]→endJ K=endJ J→Zq860 K 2 b=0∧addC K.r.cls 2 b=([⟨1,a,false⟩,⟨2,b,false⟩],0)) ∧
  (∀ K:Jn,K.r.cls=[⟨1,a,false⟩,⟨2,b,false⟩]→turnC K.r.cls 2 off=([⟨1,a,false⟩,⟨2,b,off⟩],0)):=by
 have m1:mayC 1 a=true:=by unfold mayC;rw [decide_eq_true_eq];omega
 have m2:mayC 2 b=true:=by unfold mayC;rw [decide_eq_true_eq];omega
 have m20:mayC 2 0=true:=by unfold mayC;rw [decide_eq_true_eq];omega
 have r1:Zq69 [⟨1,a,false⟩]=true:=by simp [Zq69,clsGo,m1]
 have r2:Zq69 [⟨1,a,false⟩,⟨2,b,false⟩]=true:=by simp [Zq69,clsGo,m1,m2]
 have a1:addC J.r.cls 1 a=([⟨1,a,false⟩],0):=by rw [hc];simp [addC,Zq69,clsGo,m1,Zq439]
 have u1:upWhy J 1 a=0:=by unfold upWhy;rw [m1,if_neg (by simp),if_neg (by omega)]
 refine ⟨by unfold Zq860;rw [if_neg (by simp [u1]),a1],a1,fun K hK hE=>?_,fun K hK=>?_⟩
 ·have a2:addC K.r.cls 2 b=([⟨1,a,false⟩,⟨2,b,false⟩],0):=by rw [hK];simp [addC,r1,m2,Zq439]
  have u2:upWhy K 2 b=0:=by unfold upWhy;rw [m2,if_neg (by simp),if_neg (by omega)]
  exact ⟨by unfold Zq860;rw [if_neg (by simp [u2]),a2],a2⟩
 ·rw [hK]
  simp [turnC,Zq329,r2,m20,Zq439]
theorem posD_two {J:Jn} {a b:Int} {off:Bool} (hc:J.r.cls=[⟨1,a,false⟩,⟨2,b,off⟩]):posD J=if off then min a J.safe else min (min a J.safe) b:=by
 unfold posD slowC
 rw [hc]
 cases off
 ·by_cases h:b<a
  ·simp [Zq537,h];omega
  ·simp [Zq537,h];omega
 ·simp [Zq537];omega
theorem TM.start {c:Rg} {S:Str} (hg:goodM c 0 [tag1]=true) (h:JOK S (Zq64 (Zq99 c 0 [tag1]))) (ha:S.armed=false) (hk:Keeps S 90000):TM S (Zq64 (Zq99 c 0 [tag1])) 0:=by
 rw [Zq437 hg] at h ⊢
 exact ⟨h,ha,hk.fewer (by omega),rfl,rfl,rfl,Nat.le_refl _⟩
theorem TM.three {S:Str} {J:Jn} {i:Nat} {a b:Int} (off:Bool) (h:TM S J i) (hi:i≤100) (ha:0≤a∧a≤J.l.length) (hb:0≤b∧b≤J.l.length):∃ J1 J2 J3,(Zq860 J 1 a=0∧clsJ J (addC J.r.cls 1 a) (Zq860 J 1 a)=J1)∧(Zq860 J1 2 b=0∧clsJ J1 (addC J1.r.cls 2 b) (Zq860 J1 2 b)=J2)∧((turnC J2.r.cls 2 off).2=0∧clsJ J2 (turnC J2.r.cls 2 off) (turnC J2.r.cls 2 off).2=J3) ∧
  J3.l=J.l∧J3.r.first=1∧J3.safe=J.safe∧posD J3=if off then min a J.safe else min (min a J.safe) b:=by
 have he:=h.ends
 have hl:=h.len
 obtain ⟨h1,h2,h3,h4⟩:=cls_two (J:=J) (a:=a) (b:=b) off h.cls (by omega) (by omega) (by omega)
 have e1:clsJ J (addC J.r.cls 1 a) (Zq860 J 1 a)=recJ J (clsR J.r [⟨1,a,false⟩]):=by rw [h1,h2];rfl
 obtain ⟨J1,hJ1⟩:∃ x,x=recJ J (clsR J.r [⟨1,a,false⟩]):=⟨_,rfl⟩
 have c1:J1.r.cls=[⟨1,a,false⟩]:=by rw [hJ1];rfl
 obtain ⟨h5,h6⟩:=h3 J1 c1 (by rw [hJ1];rfl)
 have e2:clsJ J1 (addC J1.r.cls 2 b) (Zq860 J1 2 b)=recJ J1 (clsR J1.r [⟨1,a,false⟩,⟨2,b,false⟩]):=by rw [h5,h6];rfl
 obtain ⟨J2,hJ2⟩:∃ x,x=recJ J1 (clsR J1.r [⟨1,a,false⟩,⟨2,b,false⟩]):=⟨_,rfl⟩
 have c2:J2.r.cls=[⟨1,a,false⟩,⟨2,b,false⟩]:=by rw [hJ2];rfl
 have h7:=h4 J2 c2
 have e3:clsJ J2 (turnC J2.r.cls 2 off) (turnC J2.r.cls 2 off).2=recJ J2 (clsR J2.r [⟨1,a,false⟩,⟨2,b,off⟩]):=by rw [h7];rfl
 refine ⟨J1,J2,recJ J2 (clsR J2.r [⟨1,a,false⟩,⟨2,b,off⟩]),⟨h1,by rw [e1,hJ1]⟩,⟨h5,by rw [e2,hJ2]⟩,⟨by rw [h7],e3⟩,by rw [hJ2,hJ1];rfl,by rw [hJ2,hJ1];exact h.first,by rw [hJ2,hJ1];rfl,?_⟩
 rw [posD_two (J:=recJ J2 (clsR J2.r [⟨1,a,false⟩,⟨2,b,off⟩])) rfl]
 rw [hJ2,hJ1]
 rfl
end Go.Proofs.YtpjchngjhijgmaaGreat
