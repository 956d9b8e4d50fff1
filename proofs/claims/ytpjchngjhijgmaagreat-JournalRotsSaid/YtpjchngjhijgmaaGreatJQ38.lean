import Derived.Test.YtpjchngjhijgmaaGreatJQ37
set_option linter.all false
namespace Go.Proofs.YtpjchngjhijgmaaGreat
open Go.RowKit
def tag1:Tag:=⟨1,1,0,0⟩
section
variable {W w : World} {I : Hp} {l : List HP}
set_option maxRecDepth 4000
set_option maxHeartbeats 8000000
theorem Zq817 {g:Nat} {t:Tag} {ty:TypeId} {f:Nat × Nat} (h:St W I w (HP.pt g (.cells #[.int .i64 t.id,.int .i64 t.own,.int .i64 t.heir,.int .i64 t.at_] ty f)::l)):∃ I',I.sub I'∧RowI I' 4 (.slice (some ⟨g,0,none⟩) 1 1) 1 (flat [t])∧St W I' w l:=by
 obtain ⟨I',hs,hI,h2⟩:=h.freeze
 refine ⟨I',hs,⟨some ⟨g,0,none⟩,1,rfl,rfl,Nat.le_refl _,by unfold maxLen;omega,(fun e=>by cases e),fun _=>⟨g,0,_,_,_,rfl,hI,fun i x hx=>?_⟩⟩,h2⟩
 simpa [flat,Tag.vals] using hx
theorem Zq212 (h:St W I w l):Calls Tryz.prog 39 #[] w fun e w'=>∃ I' g,I.sub I'∧e=.returned (.slice (some ⟨g,0,none⟩) 1 1)∧RowI I' 4 (.slice (some ⟨g,0,none⟩) 1 1) 1 (flat [tag1])∧St W I' w' l:=by
 go_enter Tryz.func39,Tryz.ntmps39
 obtain ⟨I',hs,hr,h2⟩:=Zq817 (t:=tag1) (h.alloc (.cells #[.int .i64 1,.int .i64 1,.int .i64 0,.int .i64 0] 80))
 have HS:=Zh hs
 have HR:=Zh hr
 have H2:=Zh h2
 clear hs hr h2
 go_wp2_with fail
 go_ret
 exact ⟨_,_,HS.out,rfl,HR.out,H2.out⟩
end
end Go.Proofs.YtpjchngjhijgmaaGreat
namespace Go.Proofs.YtpjchngjhijgmaaGreat
open Go.RowKit
end Go.Proofs.YtpjchngjhijgmaaGreat
namespace Go.Proofs.YtpjchngjhijgmaaGreat
open Go.RowKit
theorem JOK.append_calm {S:Str} {J:Jn} {d:List Int} (h:JOK S J) (ha:S.armed=false) (hd:1≤d.length∧d.length≤90) (hb:∀ y ∈ d,isByte y) (hf:fitsJ J [(d.length:Int)]=true) (hn:J.r.set+J.l.length<1000000∧J.l.length<100000) :
  ∃ S' g p nx,rput J.r.shape J.fill (endJ J+1) d.length=(g,p,nx,true)∧Zq39 S J d=((endJ J+1,0),S',addJ J (newE J d) p g)∧JOK S' (addJ J (newE J d) p g)∧S'.armed=false ∧
   (Zq45 (madeS S (keyOf J.r.shape (rput J.r.shape J.fill (endJ J+1) d.length).2.1)).2 (keyOf J.r.shape (rput J.r.shape J.fill (endJ J+1) d.length).2.1) (Zq46 (newE J d))).1≠6:=by
 obtain ⟨g,p,nx,hr,hin,h1,h2,h3⟩:=h.append hd hb hf hn
 obtain ⟨c1,c2⟩:=Zq137 Zq81 h.live ha h1
 rw [if_pos c1] at h2
 refine ⟨_,g,p,nx,hr,h2,h3 c1,c2,?_⟩
 obtain ⟨hw,hroom,_⟩:=h.appRoom hr hin
 have hcc:=Rg.ok h.ok.shape
 have hlen:(Zq12 (rowsJ J) (keyOf J.r.shape p)).length+(Zq46 (newE J d)).length≤4096:=by
  rw [Zq33]
  show _+(22+d.length)≤_
  omega
 have hpl:=Zq388 h.live (Zq323 h.ok.shape p) (h.rows (keyOf J.r.shape p) Zq433) hlen
 rw [hpl] at c1
 rw [hr]
 simp only
 by_cases q:(madeS S (keyOf J.r.shape p)).1=0
 ·rw [if_neg (by simp [q])] at c1
  rw [c1];decide
 ·rw [if_pos q] at c1
  exact absurd c1 q
theorem Zq636:attrS (newS 10000) kJ nmJ=([],4):=by kernel_rfl
theorem Zq776:makeJ (newS 10000) ⟨0,0,0⟩ 0 [tag1] false=(1,newS 10000):=by kernel_rfl
theorem Zq851:whyS (Zq67 (newS 10000)).2 kJ=4:=by kernel_rfl
theorem Zq832:(attrS (makeS (Zq67 (newS 10000)).2 kJ).2 kJ nmJ).2=4:=by kernel_rfl
theorem Zq852:(saveJ (makeS (Zq67 (newS 10000)).2 kJ).2 (newR ⟨0,0,0⟩ 0 [tag1])).1=0:=by kernel_rfl
def j5:Jn:=Zq64 (Zq99 ⟨1,4,512⟩ 5 [tag1])
theorem Zq818:goodM ⟨1,4,512⟩ 5 [tag1]=true:=by kernel_rfl
theorem Zq819:fitsJ j5 [(([97]:List Int).length:Int)]=true:=by kernel_rfl
theorem Zq842:(rput j5.r.shape j5.fill (endJ j5+1) (([97]:List Int).length:Int)).1.set=0:=by kernel_rfl
theorem Zq820:endJ j5=5:=by kernel_rfl
theorem Zq637 {S:Str} (h:JOK S j5) (ha:S.armed=false):∃ S' J',Zq39 S j5 [97]=((6,0),S',J')∧JOK S' J'∧setsJ J'=1∧J'.safe=5 ∧
  (Zq45 (madeS S (keyOf j5.r.shape (rput j5.r.shape j5.fill (endJ j5+1) (([97]:List Int).length:Int)).2.1)).2 (keyOf j5.r.shape (rput j5.r.shape j5.fill (endJ j5+1) (([97]:List Int).length:Int)).2.1) (Zq46 (newE j5 [97]))).1≠6:=by
 obtain ⟨S',g,p,nx,h1,h2,h3,h4,h5⟩:=h.append_calm (d:=[97]) ha (by decide) (by intro y hy;rw [List.mem_singleton.1 hy];unfold isByte;omega) Zq819 (by decide)
 have hs:=Zq842
 rw [h1] at hs
 refine ⟨S',_,by rw [h2,Zq820];rfl,h3,?_,rfl,h5⟩
 show g.set - 0+1=1
 have hs':g.set=0:=hs
 omega
end Go.Proofs.YtpjchngjhijgmaaGreat
namespace Go.Proofs.YtpjchngjhijgmaaGreat
open Go.RowKit
def Zq402 (ts:List Tag):Int→List (List Int)→List En
 | _,[]=>[]
 | s,p::ps=>⟨tagOf ts s,s,p⟩::Zq402 ts (s+1) ps
def Zq74:List (List Int)→Str→Jn→Str × Jn × Nat
 | [],S,J=>(S,J,0)
 | p::ps,S,J=>if fitsJ J [(p.length:Int)]=false then (S,J,0) else ((Zq74 ps (Zq39 S J p).2.1 (Zq39 S J p).2.2).1,(Zq74 ps (Zq39 S J p).2.1 (Zq39 S J p).2.2).2.1,(Zq74 ps (Zq39 S J p).2.1 (Zq39 S J p).2.2).2.2+1)
theorem Zq484:∀ {ps:List (List Int)} {S:Str} {J:Jn},JOK S J→S.armed=false→(∀ p ∈ ps,(1≤p.length∧p.length≤90)∧∀ y ∈ p,isByte y)→J.r.set+J.l.length+ps.length<1000000∧J.l.length+ps.length<100000 →
  JOK (Zq74 ps S J).1 (Zq74 ps S J).2.1∧(Zq74 ps S J).1.armed=false∧(Zq74 ps S J).2.2≤ps.length∧(Zq74 ps S J).2.1.r=J.r∧(Zq74 ps S J).2.1.safe=J.safe∧(Zq74 ps S J).2.1.l=J.l++Zq402 J.r.tags (endJ J+1) (ps.take (Zq74 ps S J).2.2) ∧
   ∀ p,ps[(Zq74 ps S J).2.2]?=some p→fitsJ (Zq74 ps S J).2.1 [(p.length:Int)]=false
 | [],S,J,h,ha,_,_=>⟨h,ha,Nat.le_refl _,rfl,rfl,by simp [Zq74,Zq402],fun p hp=>by simp at hp⟩
 | p::ps,S,J,h,ha,hp,hn=>by
  obtain ⟨h1,h2⟩:=hp p (List.mem_cons_self ..)
  simp only [List.length_cons] at hn
  unfold Zq74
  by_cases hf:fitsJ J [(p.length:Int)]=false
  ·rw [if_pos hf]
   refine ⟨h,ha,Nat.zero_le _,rfl,rfl,by simp [Zq402],fun q hq=>?_⟩
   have e:p=q:=by simpa using hq
   subst e
   exact hf
  ·rw [if_neg hf]
   obtain ⟨S',g,pl,nx,_,e1,e2,e3,_⟩:=h.append_calm (d:=p) ha h1 h2 (by simpa using hf) (by omega)
   rw [e1]
   simp only
   have hl:(addJ J (newE J p) pl g).l=J.l++[newE J p]:=rfl
   obtain ⟨i1,i2,i3,i4,i5,i6,i7⟩:=Zq484 (ps:=ps) e2 e3 (fun q hq=>hp q (List.mem_cons_of_mem _ hq)) (by
    rw [hl,List.length_append,List.length_singleton]
    show J.r.set+_+_<_∧_
    omega)
   refine ⟨i1,i2,by simp only [List.length_cons];omega,i4,i5,?_,fun q hq=>i7 q (by simpa using hq)⟩
   rw [i6,hl,List.take_succ_cons,List.append_assoc]
   have he:endJ (addJ J (newE J p) pl g)=endJ J+1:=by
    unfold endJ
    rw [hl,List.length_append,List.length_singleton]
    show J.r.first - 1+_=_
    omega
   rw [he]
   rfl
theorem Zq638 {S:Str} {k:K4} {fr:List Int} (h:LiveJ UJn S) (hk:k ∈ UJn) (hn:fr.length≤200):(Zq45 S k fr).1≠6:=by
 have hok:=(Zq81.all k hk).2
 have hw:=h.why hok
 unfold Zq45
 cases hg:get k S.seen with
 | none =>
  rw [hg] at hw
  simp only [Option.isSome_none] at hw
  simp only [hw]
  decide
 | some t =>
  rw [hg] at hw
  simp only [Option.isSome_some,if_true] at hw
  have hT:=h.inv.getT k t hg
  have hr:=h.inv.roomy Zq81
  have hf:=h.inv.few Zq81
  simp only
  have hww:Zq63 S t t.b.length fr=0:=by
   have:=hT.1
   unfold Zq63
   rw [if_neg (by omega),if_neg (by rw [hr];intro q;have:=q.2;omega)]
  rw [Zq234 hw hg hww]
  show offE _≠6
  rcases Zq728 (doS S k (Zq141 t.b.length fr)).1 with e|e <;> rw [e] <;> decide
theorem Zq707 {S:Str} {k:K4} (h:LiveJ UJn S) (ha:S.armed=false) (hk:k ∈ UJn):LiveJ UJn (madeS S k).2:=by
 have hok:=(Zq81.all k hk).2
 have hw:=h.why hok
 unfold madeS
 cases hg:get k S.seen with
 | none =>
  rw [hg] at hw
  have hw':whyS S k=4:=hw
  rw [hw',if_pos (by omega),h.make Zq81 hok hg]
  have hb:(Zq34 S).1=false:=by simp [Zq34,ha]
  exact (Zq383 h Zq81 hk (.inl rfl) (Zq237 _ h.on h.inv.coh hb)).1
 | some t =>
  rw [hg] at hw
  have hw':whyS S k=0:=hw
  rw [hw',if_neg (by omega)]
  exact h
theorem JOK.six {S:Str} {J:Jn} {d:List Int} (h:JOK S J) (ha:S.armed=false) (hd:d.length≤100) (p:Pl):(Zq45 (madeS S (keyOf J.r.shape p)).2 (keyOf J.r.shape p) (Zq46 (newE J d))).1≠6:=by
 have hk:=Zq323 h.ok.shape p
 refine Zq638 (Zq707 h.live ha hk) hk ?_
 rw [Zq33]
 show 22+d.length≤_
 omega
theorem Zq436 {S:Str} {k:K4} {m:Nat} (h:Keeps S (m+2)):Keeps (madeS S k).2 m:=by
 unfold madeS
 split
 ·exact Zq153 h
 ·exact h.fewer (by omega)
theorem Zq224 {S:Str} {J:Jn} {d:List Int} {m:Nat} (h:Keeps S (m+4)):Keeps (Zq39 S J d).2.1 m:=by
 have h1:∀ k,Keeps (madeS S k).2 (m+2):=fun k=>Zq436 h
 unfold Zq39
 split
 ·exact h.fewer (by omega)
 ·split
  ·exact h.fewer (by omega)
  ·split
   ·exact h.fewer (by omega)
   ·split
    ·exact (h1 _).fewer (by omega)
    ·split
     ·exact Zq220 (h1 _)
     ·exact Zq220 (h1 _)
end Go.Proofs.YtpjchngjhijgmaaGreat
namespace Go.Proofs.YtpjchngjhijgmaaGreat
open Go.RowKit
section
set_option maxRecDepth 4000
set_option maxHeartbeats 8000000
theorem Zq391 {W w:World} {I:Hp} {l:List HP} {g:Nat} {x:Int} {f:Nat × Nat} (h:St W I w (HP.pt g (.cells #[.int .u8 x] 5 f)::l)):∃ I',I.sub I'∧BytesI I' (.slice (some ⟨g,0,none⟩) 1 1) [x]∧St W I' w l:=by
 obtain ⟨I',hs,hI,h2⟩:=h.freeze
 exact ⟨I',hs,⟨some ⟨g,0,none⟩,1,rfl,rfl,Nat.le_refl _,by unfold maxLen;omega,(fun e=>by cases e),fun _=>⟨g,0,_,_,_,rfl,hI,fun i x hx=>by simpa [byteV] using hx⟩⟩,h2⟩
theorem Zq182 (w:World):Calls Tryz.prog 13 #[] w fun e w'=>e=.returned (.bool true)∧Below w.heap.size w w':=by
 go_enter Tryz.func13,Tryz.ntmps13
 go_wp2_with fail
 refine (Zq567 10000 (St.init w)).mono ?_
 rintro e w1 ⟨p,rfl,h1⟩
 have hjr:JRec (newS 10000) none:=by show (attrS (newS 10000) kJ nmJ).2≠0;rw [Zq636];decide
 have ho:=Zq624 h1 rfl (Zq233 10000).inv hjr
 rw [Zq636] at ho
 have HO:=Zh ho
 clear h1 ho
 go_wp2_with fail
 refine HO.out.mono ?_
 rintro e w2 ⟨rfl,h2⟩
 have HT:=Zh (Zq212 h2)
 clear h2 HO
 go_wp2_with fail
 refine HT.out.mono ?_
 rintro e w3 ⟨I3,g3,hs3,rfl,hr3,h3⟩
 have hm:=Zq380 (m:=99990) ⟨0,0,0⟩ 0 _ [tag1] none none h3 hr3 (by decide) ((Zq233 10000).fewer (by show 99990+4+2*0≤_;omega)) (by show 0≤_;omega) hjr (fun hg _=>by have h:false=true:=hg;cases h)
 rw [show (none:Option Rc).isSome=false from rfl,Zq776] at hm
 simp only [Rg.val] at hm
 have HM:=Zh hm
 have HS3:=Zh hs3
 clear h3 hm hs3 hr3 HT hjr
 go_wp2_with fail
 refine HM.out.mono ?_
 rintro e w4 ⟨I4,hs4,rfl,h4⟩
 have HT:=Zh (Zq212 h4)
 have HS4:=Zh (HS3.out.trans hs4)
 clear h4 hs4 HM
 go_wp2_with fail
 refine HT.out.mono ?_
 rintro e w5 ⟨I5,g5,hs5,rfl,hr5,h5⟩
 have hop:=Zq294 ⟨1,4,512⟩ 5 _ [tag1] h5 hr5 (by decide) Zq818
 simp only [Rg.val] at hop
 have HOP:=Zh hop
 have HS5:=Zh (HS4.out.trans hs5)
 clear h5 hop hs5 hr5 HT
 go_wp2_with fail
 refine HOP.out.mono ?_
 rintro e w6 ⟨I6,p6,q6,S6,hs6,rfl,h6,hj6,ha6,hk6⟩
 have HB:=Zh hj6.jb
 have HF:=Zh (Zq513 (h6.pull 1 _ rfl) hj6.jb)
 have H6:=Zh h6
 have HJ6:=Zh hj6
 have HA6:=Zh ha6
 have HK6:=Zh hk6
 have HS6:=Zh (HS5.out.trans hs6)
 clear h6 hj6 ha6 hk6 hs6 HOP
 go_wp2_with fail
 refine HF.out.mono ?_
 rintro e w7 ⟨rfl,hb7⟩
 have h7:=H6.out.keep hb7
 have HE:=Zh (Zq111 (h7.pull 1 _ rfl) HB.out)
 have H7:=Zh h7
 rw [show (Zq64 (Zq99 ⟨1,4,512⟩ 5 [tag1])).r.first=6 from by kernel_rfl]
 clear h7 hb7 HF H6
 go_wp2_with fail
 refine HE.out.mono ?_
 rintro e w8 ⟨rfl,hb8⟩
 have h8:=H7.out.keep hb8
 rw [show endJ (Zq64 (Zq99 ⟨1,4,512⟩ 5 [tag1]))=5 from Zq820]
 have hcv:=Zq573
 obtain ⟨I9,hs9,hb9,h9⟩:=Zq391 (h8.alloc (.cells #[.int .u8 97] 5 (1,2)))
 obtain ⟨S10,J10,a1,a2,a3,a4,a5⟩:=Zq637 HJ6.out HA6.out
 have hap:=Zq136 (m:=98000) [97] _ _ h9 (HK6.out.fewer (by omega)) HB.out hb9 (by intro y hy;rw [List.mem_singleton.1 hy];unfold isByte;omega) a5
 have a1':Zq39 S6 (Zq64 (Zq99 ⟨1,4,512⟩ 5 [tag1])) [97]=((6,0),S10,J10):=a1
 rw [a1'] at hap
 have HAP:=Zh hap
 have HA2:=Zh a2
 have HA3:=Zh a3
 have HA4:=Zh a4
 have HS9:=Zh (HS6.out.trans hs9)
 clear h8 hb8 hs9 hb9 h9 a1 a2 a3 a4 a5 hap a1' HE H7
 go_wp2_with fail
 refine HAP.out.mono ?_
 rintro e w10 ⟨I10,hs10,rfl,h10⟩
 have HSE:=Zh (Zq254 (h10.pull 1 _ rfl) HA2.out.jb)
 have H10:=Zh h10
 clear h10 hs10 HAP hcv
 go_wp2_with fail
 refine HSE.out.mono ?_
 rintro e w11 ⟨rfl,hb11⟩
 have h11:=H10.out.keep hb11
 have HSF:=Zh (Zq597 (h11.pull 1 _ rfl) HA2.out.jb)
 have H11:=Zh h11
 clear h11 hb11 H10 HSE
 rw [HA3.out]
 go_wp2_with fail
 refine HSF.out.mono ?_
 rintro e w12 ⟨rfl,hb12⟩
 have H12:=Zh (H11.out.keep hb12)
 rw [HA4.out]
 clear hb12 H11 HSF
 go_wp2_with fail
 go_ret
 exact ⟨rfl,H12.out.below⟩
end
end Go.Proofs.YtpjchngjhijgmaaGreat
namespace Go.Proofs.YtpjchngjhijgmaaGreat
open Go.RowKit
section
variable {W w : World} {I : Hp} {l : List HP}
set_option maxRecDepth 4000
set_option maxHeartbeats 8000000
theorem Zq392 (c:Rg) (at':Int) (v:Value) (ps:List (List Int)) (vs:List Value) (h:St W I w l) (hv:RowI I 1 v ps.length vs) (hvs:∀ (i:Nat) (p:List Int),ps[i]?=some p→∃ x,vs[i]?=some x∧BytesI I x p)
  (hp:∀ p ∈ ps,(1≤p.length∧p.length≤90)∧∀ y ∈ p,isByte y) (hn:ps.length≤100) (hg:goodM c at' [tag1]=true) :
  Calls Tryz.prog 16 #[c.val,.int .i64 at',v] w fun e w'=>∃ I' p q S J k,I.sub I'∧e=.returned (.tuple #[.pointer (some ⟨p,0,none⟩),.pointer (some ⟨q,0,none⟩),.int .i64 (k:Nat)])∧St W I' w' (Zq8 p S::jnHP q p J::l)∧JOK S J∧S.armed=false∧Keeps S 90000 ∧
   ∃ S0,JOK S0 (Zq64 (Zq99 c at' [tag1]))∧S0.armed=false∧Zq74 ps S0 (Zq64 (Zq99 c at' [tag1]))=(S,J,k):=by
 have h1:=h.alloc (.cells #[.int .i64 c.splay,.int .i64 c.sets,.int .i64 c.size] 26)
 have HOPEN:=Zh (fun (I1:Hp) (w1:World) (vt:Value) (l1:List HP) (h2:St W I1 w1 l1) (ht:RowI I1 4 vt 1 (flat [tag1]))=>Zq294 c at' vt [tag1] h2 ht (by decide) hg)
 simp only [Rg.val] at HOPEN ⊢
 obtain ⟨A0,c0,rfl,hvr⟩:=id hv
 clear hvr
 have HV:=Zh hv
 have HVS:=Zh hvs
 have HPS:=Zh hp
 have H1:=Zh h1
 have HRC:=Zh (show ∀ (w':World) (L:List HP),St W I w' (HP.pt w.heap.size (.cells #[.int .i64 c.splay,.int .i64 c.sets,.int .i64 c.size] 26)::L)→w'.cell? ⟨w.heap.size,0,none⟩=some (.int .i64 c.splay)∧w'.cell? ⟨w.heap.size,1,none⟩=some (.int .i64 c.sets)∧w'.cell? ⟨w.heap.size,2,none⟩=some (.int .i64 c.size) from fun w' L h1=>Zq62 h1)
 have HRC2:=Zh (show ∀ (I':Hp) (w':World) (L:List HP),St W I' w' (HP.pt w.heap.size (.cells #[.int .i64 c.splay,.int .i64 c.sets,.int .i64 c.size] 26)::L)→w'.cell? ⟨w.heap.size,0,none⟩=some (.int .i64 c.splay)∧w'.cell? ⟨w.heap.size,1,none⟩=some (.int .i64 c.sets)∧w'.cell? ⟨w.heap.size,2,none⟩=some (.int .i64 c.size) from fun I' w' L h1=>Zq62 h1)
 have HT:=Zh (Zq212 h1.drew)
 have hn1:(ps.length:Int)≤100:=by omega
 have hat:0≤at'∧at'≤1099511627776:=by
  unfold goodM at hg
  simp only [Bool.and_eq_true,decide_eq_true_eq] at hg
  exact ⟨hg.1.1.1.2,hg.1.1.2⟩
 have HAT:=Zh hat
 clear hat
 clear h h1 hv hvs hp
 go_enter Tryz.func16,Tryz.ntmps16
 go_wp2_with fail
 refine Zq142 (fun w'=>w'.cell? ⟨w.heap.size,0,none⟩=some (.int .i64 c.splay)∧w'.cell? ⟨w.heap.size,1,none⟩=some (.int .i64 c.sets)∧w'.cell? ⟨w.heap.size,2,none⟩=some (.int .i64 c.size)) [0,1] [2] [3] [4,5,6] [7,8] (by kernel_rfl) (by kernel_rfl) (by (exact HRC.out _ _ H1.out.drew)) ?_
 simp only [pickL,Zl6,Zl7]
 repeat (refine Zq4 _ (Or.inl ⟨by rfl,by (intro w hSw;(try dsimp only at hSw);go_simp;try with_reducible rfl)⟩) ?_;(try simp only [Act.put,List.setIfInBounds_toArray,Zl4,Zl5]))
 refine Zq10 ?_
 unfold Zq13
 go_wp2_with fail
 refine HT.out.mono ?_
 rintro e w3 ⟨I3,g3,hs3,rfl,hr3,h3⟩
 obtain ⟨y0,y1,y2⟩:=HRC2.out _ _ _ h3
 have HOP:=Zh (HOPEN.out _ _ _ _ h3 hr3)
 have HS3:=Zh hs3
 clear h3 hs3 hr3 HT
 go_wp2_with fail
 refine Zq0 ⟨y0,y1,y2⟩ ?_
 unfold Zq13
 unfold Zq13
 clear y0 y1 y2
 go_wp2_with fail
 refine HOP.out.mono ?_
 rintro e w4 ⟨I4,p,q,S4,hs4,rfl,h4,hj4,ha4,hk4⟩
 have H4:=Zh h4
 have HJ4:=Zh hj4
 have HA4:=Zh ha4
 have HK4:=Zh hk4
 have HS4:=Zh (HS3.out.trans hs4)
 clear h4 hj4 ha4 hk4 hs4 HOP
 go_wp2_with fail
 refine Zq0 (S:=fun _=>True) trivial ?_
 unfold Zq13
 repeat (refine Zq14 _ (Or.inl ⟨by rfl,by intro w;go_simp;try with_reducible rfl⟩) ?_;(try simp only [Act.put,List.setIfInBounds_toArray,Zl4,Zl5]))
 refine Zq17 ?_
 go_wp2_with fail
 refine NoPanic.normal ?_
 go_wp2_with fail
 have HL4:=Zh ((H4.out.pull 2 _ rfl).drop)
 go_loopw [11] (fun a11 wr=>∃ (i:Nat) (I':Hp) (S:Str) (J:Jn),a11=.int .i64 i∧i≤ps.length∧I.sub I'∧St W I' wr (Zq8 p S::jnHP q p J::l)∧JOK S J∧S.armed=false∧Keeps S (99000 - 10*i)∧J.r=(Zq64 (Zq99 c at' [tag1])).r∧J.l.length=i ∧
   Zq74 ps S4 (Zq64 (Zq99 c at' [tag1]))=((Zq74 (ps.drop i) S J).1,(Zq74 (ps.drop i) S J).2.1,(Zq74 (ps.drop i) S J).2.2+i)) (fun a11 _=>ps.length - (intOf a11).toNat)
 case atStart=>exact ⟨0,I4,S4,_,rfl,Nat.zero_le _,HS4.out,HL4.out,HJ4.out,HA4.out,HK4.out,rfl,rfl,rfl⟩
 case round =>
  obtain ⟨i,I5,S,J,rfl,hi,hs5,h5,hj5,ha5,hk5,hr5,hl5,hf5⟩:=hrel
  have H5:=Zh h5
  have HJ5:=Zh hj5
  have HA5:=Zh ha5
  have HK5:=Zh hk5
  have HR5:=Zh hr5
  have HL5:=Zh hl5
  have HF5:=Zh hf5
  have HS5:=Zh hs5
  clear h5 hj5 ha5 hk5 hr5 hl5 hf5 hs5
  by_cases hlt:i<ps.length
  ·obtain ⟨d,hd⟩:∃ d,ps[i]?=some d:=⟨_,List.getElem?_eq_getElem hlt⟩
   obtain ⟨x,hx,hxb⟩:=HVS.out i d hd
   obtain ⟨hd1,hd2⟩:=HPS.out d (List.mem_of_getElem? hd)
   have hvl:vs.length=ps.length:=by
    obtain ⟨_,_,_,e,_⟩:=HV.out
    omega
   obtain ⟨b,off,e1,hc⟩:=Zq108 (mk:=fun x:Value=>[x]) (k:=1) (i:=i) (l:=vs) (by rw [hvl,List.flatMap_singleton'];exact HV.out) HS5.out H5.out (fun _=>rfl) hx
   simp only [Value.slice.injEq] at e1
   obtain ⟨rfl,hx1,hx2⟩:=e1
   clear hx1 hx2
   have y0:=hc 0 (by omega)
   simp only [Zl6,Nat.mul_one,Nat.add_zero] at y0
   obtain ⟨Ax,cx,rfl,hxr⟩:=id hxb
   clear hxr
   have hap:=Zq136 (m:=98990 - 10*i) d Ax cx H5.out (HK5.out.fewer (by omega)) HJ5.out.jb (RowI.mono HS5.out hxb) hd2 (HJ5.out.six HA5.out (by omega) _)
   have hkp:=Zq224 (J:=J) (d:=d) (m:=99000 - 10*(i+1)) (HK5.out.fewer (by omega))
   have hfl:Zq74 (ps.drop i) S J=if fitsJ J [(d.length:Int)]=false then (S,J,0) else ((Zq74 (ps.drop (i+1)) (Zq39 S J d).2.1 (Zq39 S J d).2.2).1,(Zq74 (ps.drop (i+1)) (Zq39 S J d).2.1 (Zq39 S J d).2.2).2.1,(Zq74 (ps.drop (i+1)) (Zq39 S J d).2.1 (Zq39 S J d).2.2).2.2+1):=by
    obtain ⟨hil,he⟩:=List.getElem?_eq_some_iff.1 hd
    rw [List.drop_eq_getElem_cons hil,he]
    rfl
   have hno:fitsJ J [(d.length:Int)]=false→Zq39 S J d=((0,6),S,J):=fun hf=>by
    unfold Zq39
    rw [if_neg (by simp [HJ5.out.may]),if_neg (by omega),if_pos hf]
   have hyes:fitsJ J [(d.length:Int)]=true→∃ S' J',Zq39 S J d=((at'+1+i,0),S',J')∧JOK S' J'∧S'.armed=false∧J'.r=(Zq64 (Zq99 c at' [tag1])).r∧J'.l.length=i+1:=fun hf=>by
    have hse:J.r.set=0:=by rw [HR5.out];rfl
    obtain ⟨S',g,pl,nx,_,e1,e2,e3,_⟩:=HJ5.out.append_calm (d:=d) HA5.out hd1 hd2 hf (by rw [hse,HL5.out];omega)
    refine ⟨S',_,?_,e2,e3,HR5.out,?_⟩
    ·rw [e1]
     have:endJ J+1=at'+1+i:=by
      unfold endJ
      rw [HL5.out,HR5.out]
      show at'+1 - 1+(i:Int)+1=_
      omega
     rw [this]
    ·show (J.l++[newE J d]).length=i+1
     rw [List.length_append,HL5.out];rfl
   obtain ⟨⟨⟨rn,re⟩,RS,RJ⟩,hR⟩:∃ x,x=Zq39 S J d:=⟨_,rfl⟩
   rw [←hR] at hap hkp hfl hno hyes
   simp only at hap hkp hfl
   have HAP:=Zh hap
   have HKP:=Zh hkp
   have HFL:=Zh hfl
   have HNO:=Zh hno
   have HYES:=Zh hyes
   clear hap hkp hfl hno hyes hR hd hx hxb hd1 hd2 hvl hc
   clear HR5 HL5
   go_wp2_with fail
   refine HAP.out.mono ?_
   rintro e w6 ⟨I6,hs6,rfl,h6⟩
   have H6:=Zh h6
   have HS6:=Zh (HS5.out.trans hs6)
   clear h6 hs6 HAP y0
   cases hfit:fitsJ J [(d.length:Int)] with
   | false =>
    have hq:=HNO.out hfit
    simp only [Prod.mk.injEq] at hq
    obtain ⟨⟨rfl,rfl⟩,rfl,rfl⟩:=hq
    have HX:=Zh (show Zq74 ps S4 (Zq64 (Zq99 c at' [tag1]))=(RS,RJ,i) by
     rw [HF5.out,HFL.out,if_pos hfit]
     show (RS,RJ,0+i)=_
     rw [Nat.zero_add])
    clear hfit
    go_wp2_with fail
    go_ret3
    exact ⟨I6,p,q,RS,RJ,i,HS6.out,rfl,H6.out,HJ5.out,HA5.out,HK5.out.fewer (by omega),S4,HJ4.out,HA4.out,HX.out⟩
   | true =>
    obtain ⟨S',J',hq,hj',ha',hr',hl'⟩:=HYES.out hfit
    simp only [Prod.mk.injEq] at hq
    obtain ⟨⟨rfl,rfl⟩,rfl,rfl⟩:=hq
    have HX:=Zh (show Zq74 ps S4 (Zq64 (Zq99 c at' [tag1]))=((Zq74 (ps.drop (i+1)) RS RJ).1,(Zq74 (ps.drop (i+1)) RS RJ).2.1,(Zq74 (ps.drop (i+1)) RS RJ).2.2+(i+1)) by
     rw [HF5.out,HFL.out,if_neg (by rw [hfit];simp)]
     simp only
     rw [Nat.add_assoc,Nat.add_comm 1 i])
    have HJ6:=Zh hj'
    have HA6:=Zh ha'
    have HR6:=Zh hr'
    have HL6:=Zh hl'
    clear hfit hj' ha' hr' hl'
    have hat:=HAT.out
    have hw1:IntKind.i64.wrap (at'+1)=at'+1:=by rw [IntKind.wrap_i64];omega
    have hw2:IntKind.i64.wrap (at'+1+i)=at'+1+i:=by rw [IntKind.wrap_i64];omega
    go_wp2_with fail
    go_roundw
    case rel=>exact ⟨i+1,I6,RS,RJ,by go_num,by omega,HS6.out,H6.out,HJ6.out,HA6.out,HKP.out,HR6.out,HL6.out,HX.out⟩
    case measure=>first|(simp [intOf];done)|(simp [intOf];omega)|fail
  ·obtain rfl:i=ps.length:=by omega
   have HFX:=Zh (show Zq74 ps S4 (Zq64 (Zq99 c at' [tag1]))=(S,J,ps.length) by
    rw [HF5.out,List.drop_length]
    show (S,J,0+ps.length)=_
    rw [Nat.zero_add])
   go_wp2_with fail
   go_ret3
   exact ⟨I5,p,q,S,J,ps.length,HS5.out,rfl,H5.out,HJ5.out,HA5.out,HK5.out.fewer (by omega),S4,HJ4.out,HA4.out,HFX.out⟩
end
end Go.Proofs.YtpjchngjhijgmaaGreat
namespace Go.Proofs.YtpjchngjhijgmaaGreat
open Go.RowKit
def Zq403 (ls:List (List Int)) (most long:Int):Bool:=ls.all (fun p=>decide ((p.length:Int)≤long))&&decide ((ls.length:Int)≤most)
def ringK (a b c:Int):Rg:=⟨1+a % 4,4+b % 256 % 5,512+c % 65536 % 3585⟩
theorem Zq777 (a b c:Int):(ringK a b c).okB=true:=by
 unfold ringK Rg.okB
 rw [decide_eq_true_eq]
 simp only
 omega
def rowOf (p:List Int):List Int:=if p=[] then [7] else p.take 90
theorem Zq485 (p:List Int):1≤(rowOf p).length∧(rowOf p).length≤90:=by
 unfold rowOf
 split
 ·exact ⟨by decide,by decide⟩
 ·rename_i h
  have:=List.length_pos_iff.2 h
  rw [List.length_take]
  omega
theorem Zq532 {p:List Int} (h:∀ y ∈ p,isByte y):∀ y ∈ rowOf p,isByte y:=by
 unfold rowOf
 split
 ·intro y hy
  rw [List.mem_singleton.1 hy]
  unfold isByte;omega
 ·exact fun y hy=>h y (List.mem_of_mem_take hy)
def Zq126 (ls:List (List Int)):List Int:=ls.map fun p=>(p.length:Int)
section
variable {W w : World} {I : Hp} {l : List HP}
set_option maxRecDepth 4000
set_option maxHeartbeats 8000000
theorem RowsI.mono {I I':Hp} {v:Value} {ls:List (List Int)} (s:I.sub I') (h:RowsI I v ls):RowsI I' v ls:=by
 obtain ⟨vs,h1,h2,h3,h4⟩:=h
 exact ⟨vs,h1,RowI.mono s h2,fun i x q hx hq=>RowI.mono s (h3 i x q hx hq),h4⟩
theorem RowsI.slice {I:Hp} {v:Value} {ls:List (List Int)} (h:RowsI I v ls):∃ A c,v=.slice A ls.length c∧ls.length≤c∧c≤maxLen∧(A=none→c=0):=by
 obtain ⟨vs,h1,⟨A,c,e,h2,h3,h4,h5,_⟩,_⟩:=h
 exact ⟨A,c,e,h3,h4,h5⟩
theorem RowsI.cell {A:Option Addr} {c:Nat} {ls:List (List Int)} {i:Nat} {p:List Int} (h:RowsI I (.slice A ls.length c) ls) (hst:St W I w l) (hi:ls[i]?=some p):∃ b off A' c',A=some ⟨b,off,none⟩∧w.cell? ⟨b,off+i,none⟩=some (.slice A' p.length c')∧BytesI I (.slice A' p.length c') p:=by
 obtain ⟨vs,h1,h2,h3,h4⟩:=h
 have hil:=(List.getElem?_eq_some_iff.1 hi).1
 obtain ⟨x,hx⟩:∃ x,vs[i]?=some x:=⟨_,List.getElem?_eq_getElem (by omega)⟩
 have hb:=h3 i x p hx hi
 obtain ⟨A',c',e,_⟩:=id hb
 obtain ⟨b,off,e1,hc⟩:=Zq108 (mk:=fun x:Value=>[x]) (k:=1) (i:=i) (l:=vs) (by rw [h1,List.flatMap_singleton'];exact h2) (Hp.sub.refl _) hst (fun _=>rfl) hx
 simp only [Value.slice.injEq] at e1
 obtain ⟨rfl,_,_⟩:=e1
 have y0:=hc 0 (by omega)
 simp only [Zl6,Nat.mul_one,Nat.add_zero] at y0
 exact ⟨b,off,A',c',rfl,by rw [y0,e],by rw [←e];exact hb⟩
theorem Zq393 (v:Value) (ls:List (List Int)) (most long:Int) (w:World) (h:RowsI w.hp v ls) :
  Calls Tryz.prog 12 #[v,.int .i64 most,.int .i64 long] w fun e w'=>e=.returned (.bool (Zq403 ls most long))∧w=w':=by
 obtain ⟨A0,c0,rfl,hc0,hcm,_⟩:=h.slice
 have H0:=Zh h
 unfold maxLen at hcm
 have hn1:(ls.length:Int)≤9223372036854775807:=by omega
 clear h hc0 hcm
 go_enter Tryz.func12,Tryz.ntmps12
 go_wp2_with fail
 go_loopw [7] (fun a7 wr=>∃ (i:Nat),a7=.int .i64 i∧i≤ls.length∧(ls.take i).all (fun p=>decide ((p.length:Int)≤long))=true∧wr=w) (fun a7 _=>ls.length - (intOf a7).toNat)
 case atStart=>exact ⟨0,rfl,Nat.zero_le _,rfl,rfl⟩
 case round =>
  obtain ⟨i,rfl,hi,hall,rfl⟩:=hrel
  by_cases hlt:i<ls.length
  ·obtain ⟨p,hp⟩:∃ p,ls[i]?=some p:=⟨_,List.getElem?_eq_getElem hlt⟩
   obtain ⟨b,off,A',c',rfl,y0,_⟩:=H0.out.cell (St.init wr) hp
   have hst:(ls.take (i+1)).all (fun p=>decide ((p.length:Int)≤long))=decide ((p.length:Int)≤long):=by
    obtain ⟨hil,he⟩:=List.getElem?_eq_some_iff.1 hp
    rw [List.take_succ_eq_append_getElem hil,List.all_append,hall,he]
    simp
   have hfull:¬ (p.length:Int)≤long→Zq403 ls most long=false:=fun hf=>by
    unfold Zq403
    have:ls.all (fun p=>decide ((p.length:Int)≤long))=false:=List.all_eq_false.2 ⟨p,List.mem_of_getElem? hp,by simpa using hf⟩
    rw [this];rfl
   have HST:=Zh hst
   have HFULL:=Zh hfull
   clear hall hp hst hfull
   by_cases h1:long<(p.length:Int)
   ·have d1:decide (long<(p.length:Int))=true:=decide_eq_true h1
    have HF:=Zh (HFULL.out (by omega))
    go_wp2_with fail
    go_ret
    exact ⟨by rw [HF.out];rfl,rfl⟩
   ·have d1:decide (long<(p.length:Int))=false:=decide_eq_false h1
    have HF:=Zh (show decide ((p.length:Int)≤long)=true from decide_eq_true (by omega))
    clear h1
    go_wp2_with fail
    go_roundw
    case rel=>exact ⟨i+1,by go_num,by omega,by rw [HST.out];exact HF.out,trivial⟩
    case measure=>simp [intOf];omega
  ·obtain rfl:i=ls.length:=by omega
   rw [List.take_length] at hall
   have HALL:=Zh hall
   clear hall
   go_wp2_with fail
   go_ret
   exact ⟨by unfold Zq403;rw [HALL.out];rfl,rfl⟩
theorem Zq708 (a b c:Int) (w:World):Calls Tryz.prog 14 #[.int .i64 a,.int .i64 b,.int .i64 c] w fun e w'=>e=.returned (ringK a b c).val∧Below w.heap.size w w':=by
 obtain ⟨x,hx⟩:∃ x,a % 4=x:=⟨_,rfl⟩
 obtain ⟨y,hy⟩:∃ y,b % 256=y:=⟨_,rfl⟩
 obtain ⟨z,hz⟩:∃ z,c % 65536=z:=⟨_,rfl⟩
 have ha:bits .and .i64 a 3=x:=(Zq732 a).trans hx
 have hb:bits .and .i64 b 255=y:=(Zq539 b).trans hy
 have hc:bits .and .i64 c 65535=z:=(Zq404 c).trans hz
 obtain ⟨y5,hy5⟩:∃ y5,y % 5=y5:=⟨_,rfl⟩
 obtain ⟨z5,hz5⟩:∃ z5,z % 3585=z5:=⟨_,rfl⟩
 have ht1:y.tmod 5=y5:=by rw [←hy5];exact Int.tmod_eq_emod_of_nonneg (by omega)
 have ht2:z.tmod 3585=z5:=by rw [←hz5];exact Int.tmod_eq_emod_of_nonneg (by omega)
 have w1:IntKind.i64.wrap (1+x)=1+x:=by rw [IntKind.wrap_i64];omega
 have w2:IntKind.i64.wrap (4+y5)=4+y5:=by rw [IntKind.wrap_i64];omega
 have w3:IntKind.i64.wrap (512+z5)=512+z5:=by rw [IntKind.wrap_i64];omega
 have HV:=Zh (show (ringK a b c).val=.agg #[.int .i64 (1+x),.int .i64 (4+y5),.int .i64 (512+z5)] by unfold ringK Rg.val;rw [hx,hy,hz,hy5,hz5])
 clear hx hy hz hy5 hz5
 go_enter Tryz.func14,Tryz.ntmps14
 go_wp2_with fail
 refine bodyPost_ret (v:=.agg #[.int .i64 (1+x),.int .i64 (4+y5),.int .i64 (512+z5)]) (by simp [results,Tryz.results14,go_sem]) rfl ?_
 rw [HV.out]
 exact ⟨rfl,Zq3 _ _⟩
end
end Go.Proofs.YtpjchngjhijgmaaGreat
namespace Go.Proofs.YtpjchngjhijgmaaGreat
open Go.RowKit
def setsP (c:Rg):Fl→Int→List Int→List Pl
 | _,_,[]=>[]
 | f,s,n::ns=>(rput c f s n).2.1::setsP c (rput c f s n).1 (s+1) ns
theorem Zq437 {c:Rg} {at':Int} (hg:goodM c at' [tag1]=true):Zq64 (Zq99 c at' [tag1])=⟨⟨c,at'+1,0,[tag1],[]⟩,[],[],⟨0,0,0,0,0⟩,at',false⟩:=by
 have h0:0≤at':=by
  unfold goodM at hg
  simp only [Bool.and_eq_true,decide_eq_true_eq] at hg
  exact hg.1.1.1.2
 have he:endJ (Zq99 c at' [tag1])=at':=by
  show at'+1 - 1+((0:Nat):Int)=at'
  omega
 have hc:Zq43 [tag1] at'=[tag1]:=by
  unfold Zq43
  rw [List.takeWhile_cons,if_pos (by rw [decide_eq_true_eq];exact h0)]
  rfl
 unfold Zq64
 rw [he]
 show (⟨⟨c,at'+1,0,Zq43 [tag1] at',[]⟩,[],[],⟨0,0,0,0,0⟩,at',false⟩:Jn)=_
 rw [hc]
structure Fd (c:Rg) (at':Int) (ps:List (List Int)) (J:Jn) (k:Nat):Prop where
 le:k≤ps.length
 r:J.r=⟨c,at'+1,0,[tag1],[]⟩
 l:J.l=Zq402 [tag1] (at'+1) (ps.take k)
 stop:∀ p,ps[k]?=some p→fitsJ J [(p.length:Int)]=false
theorem Zq778 {c:Rg} {at':Int} {ps:List (List Int)} {S0 S:Str} {J:Jn} {k:Nat} (hg:goodM c at' [tag1]=true) (h0:JOK S0 (Zq64 (Zq99 c at' [tag1]))) (ha:S0.armed=false)
  (hp:∀ p ∈ ps,(1≤p.length∧p.length≤90)∧∀ y ∈ p,isByte y) (hn:ps.length≤100) (h:Zq74 ps S0 (Zq64 (Zq99 c at' [tag1]))=(S,J,k)):Fd c at' ps J k∧J.safe=at'∧JOK S J∧S.armed=false:=by
 rw [Zq437 hg] at h0 h
 have hf:=Zq484 h0 ha hp (by show (0:Int)+((0:Nat):Int)+(ps.length:Int)<1000000∧0+ps.length<100000;omega)
 rw [h] at hf
 obtain ⟨f1,f2,f3,f4,f5,f6,f7⟩:=hf
 refine ⟨⟨f3,f4,?_,f7⟩,f5,f1,f2⟩
 rw [f6]
 show []++Zq402 [tag1] (at'+1 - 1+((0:Nat):Int)+1) (ps.take k)=_
 rw [Zl3,show at'+1 - 1+((0:Nat):Int)+1=at'+1 by omega]
def Zq857 (c:Rg) (at':Int) (ps:List (List Int)):List Pl:=setsP c ⟨0,0,0,0,0⟩ (at'+1) (Zq126 ps)
def Zq850 (P:List Pl) (ns:List Int) (q:Pl):Nat→Int
 | 0=>0
 | i+1=>Zq850 P ns q i+if P[i]?=some q then ns.getD i 0+22 else 0
end Go.Proofs.YtpjchngjhijgmaaGreat
namespace Go.Proofs.YtpjchngjhijgmaaGreat
open Go.RowKit
theorem JOK.flush_calm {S:Str} {J:Jn} (h:JOK S J) (ha:S.armed=false):∃ S',(Zq9 S).2=S'∧Zq399 S J=(0,S',safeJ J)∧JOK S' (safeJ J)∧S'.armed=false∧S'.wet=0∧S'.late=[]:=by
 obtain ⟨h1,h2⟩:=h.flush
 have hb:Zq34 S=(false,S):=by simp [Zq34,ha]
 have h0:(Zq9 S).1=0:=by unfold Zq9;rw [if_neg (by simp [h.live.on]),hb];rfl
 rw [if_pos h0] at h1
 have e:(Zq9 S).2={ S with dry:=Zq202 S,late:=[],wet:=0,deeds:=wrap64 (S.deeds+1) }:=by unfold Zq9;rw [if_neg (by simp [h.live.on]),hb];rfl
 exact ⟨_,rfl,h1,h2 h0,by rw [e];exact ha,by rw [e],by rw [e]⟩
theorem Zq709 {c:Rg} {at':Int} (hc:c.okB=true) (h:0≤at'∧at'≤65535):goodM c at' [tag1]=true:=by
 have hct:Zq43 [tag1] at'=[tag1]:=by
  unfold Zq43
  rw [List.takeWhile_cons,if_pos (by rw [decide_eq_true_eq];exact h.1)]
  rfl
 unfold goodM
 rw [hc,hct,show Zq58 [tag1]=true from by kernel_rfl]
 simp
 omega
end Go.Proofs.YtpjchngjhijgmaaGreat
