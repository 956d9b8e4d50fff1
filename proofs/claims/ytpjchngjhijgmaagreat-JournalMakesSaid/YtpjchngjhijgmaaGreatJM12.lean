import Derived.Test.YtpjchngjhijgmaaGreatJM10
import Derived.Test.YtpjchngjhijgmaaGreatJM11
set_option linter.all false
namespace Go.Proofs.YtpjchngjhijgmaaGreat
open Go.RowKit
def Zq285 (keep:List Int) (i:Nat):Int:=(keep[i]?).getD 0
def Zq573 (L:List (K4 × TS)) (k:K4):Option TS→List (K4 × TS)
 | none=>del k L
 | some t=>put k t L
def fallK (S:Str) (k:K4) (n torn:Int):Str :=
 let S1:=showS S k (wrap64 (sizeO (get k S.seen))) (leftS S k n torn).1
 { S1 with dry:=Zq573 S.dry k (leftS S k n torn).1 }
def fallL (keep:List Int) (torn:Int):List K4→Nat→Str→Int→Str × Int
 | [],_,S,n=>(S,n)
 | k::ks,i,S,n=>fallL keep torn ks (i+1) (fallK S k (Zq285 keep i) torn) (wrap64 (n+(leftS S k (Zq285 keep i) torn).2))
def Zq133 (S:Str):Str:=fuseS { S with late:=[],wet:=0,on:=false } (-1) [] 0
structure Inv (S:Str) (m:Nat):Prop where
 rise:∀ g,Zq90 (Zq18 S g)
 many:∀ g,(Zq18 S g).length+m≤100000
 seen:∀ x ∈ S.seen,x.2.small
 dry:∀ x ∈ S.dry,x.2.small
 late:∀ x ∈ S.late,∀ d ∈ x.2,d.fits
 lateN:∀ x ∈ S.late,x.2.length≤100000
theorem Inv.lateAt {S:Str} {m:Nat} (h:Inv S m) (k:K4):(lateAt S k).length≤100000∧∀ d ∈ lateAt S k,d.fits:=by
 unfold Go.Proofs.YtpjchngjhijgmaaGreat.lateAt
 cases hg:get k S.late with
 | none=>exact ⟨by simp,fun d hd=>by simp at hd⟩
 | some x=>exact ⟨h.lateN _ (get_mem hg),h.late _ (get_mem hg)⟩
theorem Zq140 {L:List (K4 × TS)} (h:∀ x ∈ L,x.2.small) (k:K4):Zq164 (get k L):=by
 cases hg:get k L with
 | none=>trivial
 | some t=>exact h _ (get_mem hg)
theorem Zq267 {S:Str} {m:Nat} (h:Inv S m) (k:K4) (n torn:Int):Zq164 (leftS S k n torn).1:=by
 have h1:=Zq266 (l:=(lateAt S k).take (keptN n (lateAt S k).length)) (Zq140 h.dry k) (fun d hd=>(h.lateAt k).2 d (List.mem_of_mem_take hd))
 unfold leftS
 simp only
 split
 ·rename_i d hd
  split
  ·exact Zq202 h1 (Zq338 ((h.lateAt k).2 d (List.mem_of_getElem? hd)))
  ·exact h1
 ·exact h1
theorem Zq376 {ks:List K4} {k:K4} (h:Zq90 ks):Zq90 (remK k ks):=List.Pairwise.filter _ h
theorem Zq268 {ks:List K4} {k:K4} (h:Zq90 ks) (hk:k ∉ ks):Zq90 (addK k ks):=by
 unfold addK
 refine List.pairwise_append.2 ⟨List.Pairwise.filter _ h,List.pairwise_cons.2 ⟨fun a ha=>?_,List.Pairwise.filter _ h⟩,fun a ha b hb=>?_⟩
 ·have h1:=List.mem_filter.1 ha
  have hne:a≠k:=fun e=>hk (e ▸ h1.1)
  have h2:a.lt k=false:=by simpa using h1.2
  rw [Bool.eq_false_iff] at h2
  obtain ⟨a0,a1,a2,a3⟩:=a
  obtain ⟨b0,b1,b2,b3⟩:=k
  simp only [K4.lt,ne_eq,decide_eq_true_eq,K4.mk.injEq] at h2 hne ⊢
  omega
 ·have h1:=(List.mem_filter.1 ha).2
  rcases List.mem_cons.1 hb with rfl|hb
  ·exact h1
  ·have h2:b.lt k=false:=by simpa using (List.mem_filter.1 hb).2
   rw [Bool.eq_false_iff] at h2
   obtain ⟨a0,a1,a2,a3⟩:=a
   obtain ⟨b0,b1,b2,b3⟩:=b
   obtain ⟨k0,k1,k2,k3⟩:=k
   simp only [K4.lt,ne_eq,decide_eq_true_eq] at h1 h2 ⊢
   omega
theorem Zq851 (ks:List K4) (k:K4):(remK k ks).length≤ks.length:=List.length_filter_le _ _
theorem Zq852 (ks:List K4) (k:K4):(addK k ks).length≤ks.length+1:=by
 unfold addK
 rw [List.length_append,List.length_cons]
 have h:(ks.filter fun a=>a.lt k).length+(ks.filter fun a=>!a.lt k).length=ks.length:=by
  induction ks with
  | nil=>rfl
  | cons a ks ih=>simp only [List.filter_cons];cases a.lt k <;> simp <;> omega
 omega
theorem Zq613 {S:Str} {m:Nat} {k:K4} {was:Int} {o:Option TS} (h:Inv S (m+1)) (ho:Zq164 o):Inv (showS S k was o) m:=by
 have hk:∀ g,Zq18 (showS S k was o) g=Zq18 S g∨(g=k.grp∧((k ∈ Zq18 S g∧Zq18 (showS S k was o) g=remK k (Zq18 S g))∨(k ∉ Zq18 S g∧Zq18 (showS S k was o) g=addK k (Zq18 S g)))):=fun g=>by
  cases o with
  | none =>
   by_cases hm:k ∈ Zq18 S k.grp
   ·by_cases e:g=k.grp
    ·subst e
     right
     refine ⟨rfl,.inl ⟨hm,?_⟩⟩
     show (get k.grp (showS S k was none).keys).getD []=_
     simp only [showS,hm,if_true,Zq44,Option.getD_some]
    ·left
     show (get g (showS S k was none).keys).getD []=_
     simp only [showS,hm,if_true,Zq74 e]
     rfl
   ·left
    show (get g (showS S k was none).keys).getD []=_
    simp only [showS,hm,if_false]
    rfl
  | some t =>
   by_cases hm:k ∈ Zq18 S k.grp
   ·left
    show (get g (showS S k was (some t)).keys).getD []=_
    simp only [showS,hm,if_true]
    rfl
   ·by_cases e:g=k.grp
    ·subst e
     right
     refine ⟨rfl,.inr ⟨hm,?_⟩⟩
     show (get k.grp (showS S k was (some t)).keys).getD []=_
     simp only [showS,hm,if_false,Zq44,Option.getD_some]
    ·left
     show (get g (showS S k was (some t)).keys).getD []=_
     simp only [showS,hm,if_false,Zq74 e]
     rfl
 refine ⟨fun g=>?_,fun g=>?_,?_,h.dry,h.late,h.lateN⟩
 ·rcases hk g with e|⟨_,⟨_,e⟩|⟨hm,e⟩⟩
  ·rw [e];exact h.rise g
  ·rw [e];exact Zq376 (h.rise g)
  ·rw [e];exact Zq268 (h.rise g) hm
 ·have h1:=h.many g
  rcases hk g with e|⟨_,⟨_,e⟩|⟨hm,e⟩⟩
  ·rw [e];omega
  ·rw [e];have:=Zq851 (Zq18 S g) k;omega
  ·rw [e];have:=Zq852 (Zq18 S g) k;omega
 ·intro x hx
  cases o with
  | none=>exact h.seen x (List.mem_filter.1 hx).1
  | some t =>
   rcases List.mem_cons.1 hx with rfl|hx
   ·exact ho
   ·exact h.seen x (List.mem_filter.1 hx).1
theorem Zq269 {S:Str} {m:Nat} {k:K4} {n torn:Int} (h:Inv S (m+1)):Inv (fallK S k n torn) m:=by
 have hl:=Zq267 h k n torn
 have h1:=Zq613 (k:=k) (was:=wrap64 (sizeO (get k S.seen))) h hl
 refine ⟨h1.rise,h1.many,h1.seen,?_,h.late,h.lateN⟩
 intro x hx
 show x.2.small
 have hx':x ∈ Zq573 S.dry k (leftS S k n torn).1:=hx
 revert hx' hl
 cases (leftS S k n torn).1 with
 | none=>exact fun _ hx'=>h.dry x (List.mem_filter.1 hx').1
 | some t =>
  intro hl hx'
  rcases List.mem_cons.1 hx' with rfl|hx'
  ·exact hl
  ·exact h.dry x (List.mem_filter.1 hx').1
theorem Inv.less {S:Str} {m m':Nat} (h:Inv S m) (hm:m'≤m):Inv S m':=⟨h.rise,fun g=>by have:=h.many g;omega,h.seen,h.dry,h.late,h.lateN⟩
section
variable {W w : World} {I : Hp} {l : List HP} {p : Nat}
theorem St.look_opt {b:Nat} {L:List (K4 × TS)} (h:St W I w (HP.mapOf keyKT Zq12 b L::l)) (a:K4) :
  ∃ v H,(∀ w2,Below w.heap.size w w2→(Instr.lookup 112 (.map (some b)) (keyKT.kv a) false).run Tryz.prog w2=.ok v w2)∧St W I w (optHP v (get a L)::H::l) ∧
   (∀ I' w' l',St W I' w' (optHP v (get a L)::H::l')→St W I' w' (HP.mapOf keyKT Zq12 b L::l')):=by
 have hn:=h.mapOf_nodup
 rcases h.mapOf_look Tryz.underlying112 (z:=.pointer none) (fun w=>by kernel_rfl) a with ⟨hg,hl⟩|⟨v,x,hg,hl,h1⟩
 ·exact ⟨.pointer none,HP.mapOf keyKT Zq12 b L,fun w2 hw=>hl w2 hw false,by rw [hg];exact St.pure_shut rfl h,fun I' w' l' h'=>h'.drop⟩
 ·refine ⟨v,HP.hole keyKT Zq12 b a v (del a L),fun w2 hw=>hl w2 hw false,by rw [hg];exact h1,fun I' w' l' h'=>?_⟩
  rw [hg] at h'
  exact (St.hole_back h').mapOf_perm (Zq72 hn hg).symm
end
end Go.Proofs.YtpjchngjhijgmaaGreat
namespace Go.Proofs.YtpjchngjhijgmaaGreat
open Go.RowKit
section
variable {W w : World} {I : Hp} {l : List HP} {p : Nat} {S : Str}
set_option maxRecDepth 4000
set_option maxHeartbeats 16000000
theorem Zq717 (m:Nat) (w:World):Calls Tryz.prog 76 #[.map (some m)] w fun e w'=>e=.returned (.func (.func 136) #[] #[.pointer (some ⟨w.heap.size,0,none⟩)])∧w.alloc (.cells #[.map (some m)] 113)=w':=by
 go_enter Tryz.func76,Tryz.ntmps76
 go_wp2
 go_ret
 exact ⟨rfl,rfl⟩
theorem Zq807 {B:SB} (kv:Value) (torn:Int) (h:St W I w (Zq6 p S B::l)) (hon:S.on=false) :
  Calls Tryz.prog 25 #[.pointer (some ⟨p,0,none⟩),kv,.int .i64 torn] w fun e w'=>e=.returned (.int .i64 0)∧w=w':=by
 have c4:=h.blk 4
 simp [storeCells,hon] at c4
 clear h
 go_enter Tryz.func25,Tryz.ntmps25
 go_wp2_with fail
 go_ret
 exact ⟨rfl,rfl⟩
theorem Zq614 {v:Value} {q:List Int} {j:Nat} {x:Int} (h:St W I w l) (hv:IntsI I v q) (hj:q[j]?=some x):∃ b off,v=.slice (some ⟨b,off,none⟩) q.length (match v with|.slice _ _ c=>c|_=>0)∧w.cell? ⟨b,off+j,none⟩=some (.int .i64 x):=by
 obtain ⟨A,c',rfl,h2,h3,h4,h5,h6⟩:=hv
 have hjl:=(List.getElem?_eq_some_iff.1 hj).1
 obtain ⟨b,off,cs,t,f,rfl,e2,e3⟩:=h6 (by omega)
 refine ⟨b,off,rfl,?_⟩
 rw [Zq1 (h.imm_heap e2)]
 exact e3 j _ (by simp [hj,intV])
theorem Zq853 {B:SB} (kv:Value) (keep:List Int) (torn:Int) (h:St W I w (Zq6 p S B::Zq70 B S::dryHP B S::Zq25 B S::keyHP B S::l)) (hon:S.on=true) (hk:IntsI I kv keep) (hkn:keep.length≤1000000) (hi:Inv S S.late.length) :
  Calls Tryz.prog 25 #[.pointer (some ⟨p,0,none⟩),kv,.int .i64 torn] w fun e w'=>∃ ss B' I',Zq90 ss∧ss.Perm (S.late.map (·.1))∧I.sub I'∧e=.returned (.int .i64 (fallL keep torn ss 0 S 0).2)∧IntsI I' B'.vk [] ∧
   St W I' w' (Zq6 p (Zq133 (fallL keep torn ss 0 S 0).1) B'::Zq70 B' (Zq133 (fallL keep torn ss 0 S 0).1)::dryHP B' (Zq133 (fallL keep torn ss 0 S 0).1)::Zq25 B' (Zq133 (fallL keep torn ss 0 S 0).1)::keyHP B' (Zq133 (fallL keep torn ss 0 S 0).1)::l):=by
 have c4:=h.blk 4
 have c7:=h.blk 7
 simp [storeCells,hon] at c4 c7
 have hnd:=(h.pull 3 _ rfl).mapOf_nodup
 have hln:S.late.length≤100000:=by have:=hi.many ⟨0,0⟩;omega
 obtain ⟨M,hM,h1⟩:=(h.pull 3 _ rfl).mapOf_open
 have hmp:(HP.map keyKT B.m3 (M.map fst3)).p Hp.nil (w.alloc (.cells #[.map (some B.m3)] 113)).hp:=by
  obtain ⟨es,clock,L',q,r,s⟩:=h1.map_open
  exact ⟨es,clock,L',(Below.heap_alloc w _ _ s.lt).trans s.heap,q,r⟩
 have hml:B.m3<w.heap.size:=by
  obtain ⟨es,clock,L',q,r,s⟩:=h1.map_open
  exact s.lt
 have hML:(M.map fst3).length=S.late.length:=by have:=hM.length_eq;simpa using this
 have hMk:((M.map fst3).map (·.1)).Perm (S.late.map (·.1)):=by rw [Zq199];exact hM.map _
 have hsk:=Zq716 w.heap.size B.m3 (M.map fst3) (w.alloc (.cells #[.map (some B.m3)] 113)) (by simp) (by simp;omega) (Zq1 (heap_alloc_new w _) 0) hmp (by omega) (hMk.nodup_iff.2 hnd)
 have HSK:=Zh hsk
 have HMK:=Zh hMk
 have HM:=Zh hM
 have HINV0:=Zh hi
 have HK:=Zh hk
 have H:=Zh h
 obtain ⟨A0,c0,rfl,_⟩:=hk
 have hnb:=h.alloc (.cells #[.map (some B.m3)] 113)
 have HNB:=Zh hnb
 clear h h1 hmp hml hML hMk hsk hM hnd hnb hi
 go_enter Tryz.func25,Tryz.ntmps25
 go_wp2_with fail
 refine (Zq717 B.m3 w).mono ?_
 rintro e w1 ⟨rfl,hw1⟩
 rw [hw1] at HSK HNB
 clear hw1 c4 c7
 go_wp2_with fail
 refine HSK.out.mono ?_
 rintro e w2 ⟨vs,ss,rfl,hri,hpe,ho2,hb2⟩
 have hssn:ss.length≤100000:=by
  have h1:=(hpe.trans HMK.out).length_eq
  simp at h1
  omega
 have hst2:St W I w2 (Zq30 vs ss::Zq6 p S B::Zq70 B S::dryHP B S::Zq25 B S::keyHP B S::l):=((HNB.out.row_fresh hb2 ho2).pull 1 _ rfl).drop
 have HST2:=Zh hst2
 have HRI:=Zh hri
 have HPE:=Zh (hpe.trans HMK.out)
 obtain ⟨A,c,rfl⟩:=Zq17 ho2
 clear hst2 hri hpe ho2 hb2
 go_wp2_with fail
 go_loopw [7,29] (fun v7 v29 wr=>∃ (j:Nat) (Sj:Str) (nj:Int) (I1:Hp),v29=.int .i64 j∧v7=.int .i64 nj∧j≤ss.length∧fallL keep torn (ss.drop j) j Sj nj=fallL keep torn ss 0 S 0∧Inv Sj (ss.length - j)∧Sj.late=S.late∧I.sub I1 ∧
  St W I1 wr (Zq30 (.slice A ss.length c) ss::Zq6 p Sj B::Zq70 B Sj::dryHP B Sj::Zq25 B Sj::keyHP B Sj::l)) (fun _ v29 _=>ss.length - (intOf v29).toNat)
 case atStart =>
  refine ⟨0,S,0,I,rfl,rfl,by omega,rfl,?_,rfl,Hp.sub.refl _,HST2.out⟩
  have h1:=HPE.out.length_eq
  simp at h1
  rw [Nat.sub_zero,h1]
  exact HINV0.out
 case round =>
  obtain ⟨j,Sj,nj,I1,rfl,rfl,hj,hfold,hinv,hlate,hI1,hst⟩:=hrel
  by_cases hlt:j<ss.length
  ·obtain ⟨g,rfl⟩:∃ g,A=some ⟨g,0,none⟩:=by
    rcases hst.row_owns.2 with ⟨_,e2⟩|⟨g,cap,cur,e1,_⟩
    ·omega
    ·cases e1;exact ⟨g,rfl⟩
   obtain ⟨k,hkj⟩:∃ k,ss[j]?=some k:=⟨_,List.getElem?_eq_getElem hlt⟩
   have hro:=hst.row_owns
   have y0:=Zq100 hro hkj 0 (by omega)
   have y1:=Zq100 hro hkj 1 (by omega)
   have y2:=Zq100 hro hkj 2 (by omega)
   have y3:=Zq100 hro hkj 3 (by omega)
   obtain ⟨k0,k1,k2,k3⟩:=k
   simp [K4.vals] at y0 y1 y2 y3
   have hgk:ss[j]=⟨k0,k1,k2,k3⟩:=(List.getElem?_eq_some_iff.1 hkj).2
   have hI2:I.sub I1:=hI1
   have hik:∀ x,keep[j]?=some x→∃ b off,A0=some ⟨b,off,none⟩∧wr.cell? ⟨b,off+j,none⟩=some (.int .i64 x):=fun x hx=>by
    obtain ⟨b,off,e1,e2⟩:=Zq614 hst ((Zq132 _ _).mono hI1 HK.out) hx
    simp only [Value.slice.injEq] at e1
    exact ⟨b,off,e1.1,e2⟩
   have HIK:=Zh hik
   have HGET:=Zh hgk
   have HST:=Zh hst
   have HFOLD:=Zh hfold
   have HINV:=Zh hinv
   have HLATE:=Zh hlate
   have HI1:=Zh hI1
   clear hst hfold hinv hlate hI1 hgk hkj hro hI2 hik
   by_cases hjk:j<keep.length
   ·obtain ⟨x,hx⟩:∃ x,keep[j]?=some x:=⟨_,List.getElem?_eq_getElem hjk⟩
    obtain ⟨bk,offk,rfl,hck⟩:=HIK.out x hx
    have hnk:Zq285 keep j=x:=by unfold Zq285;rw [hx];rfl
    have hbk:bk<wr.heap.size:=World.block_lt_of_cell? wr _ hck
    have HNK:=Zh hnk
    clear hx hnk
    go_wp2_with fail
    have hsml:=Zq267 (k:=(⟨k0,k1,k2,k3⟩:K4)) (n:=x) (torn:=torn) HINV.out
    have HSML:=Zh hsml
    have hst1:St W I1 (wr.alloc (.cells #[.int .i64 k0,.int .i64 k1,.int .i64 k2,.int .i64 k3] 43)) (Zq6 p Sj B::dryHP B Sj::Zq25 B Sj::HP.pt wr.heap.size (.cells #[.int .i64 k0,.int .i64 k1,.int .i64 k2,.int .i64 k3] 43)::Zq30 (.slice (some ⟨g,0,none⟩) ss.length c) ss::Zq70 B Sj::keyHP B Sj::l):=(HST.out.alloc (.cells #[.int .i64 k0,.int .i64 k1,.int .i64 k2,.int .i64 k3] 43)).perm (by ((try simp only [Zl0,Zl1,Zl2,Zl3]);repeat (first|with_reducible exact List.Perm.refl _|(apply Zq4;(· repeat (first|with_reducible exact Zq3|with_reducible apply Zq2))))))
    have HST1:=Zh hst1
    clear hsml hst1 y0 y1 y2 y3
    refine (Zq485 (⟨k0,k1,k2,k3⟩:K4) x torn HST1.out HINV.out.dry HINV.out.late (HINV.out.lateAt _).1).mono ?_
    rintro e w6 ⟨vt,I6,hI6,rfl,h6⟩
    have HI6:=Zh hI6
    clear hI6
    cases ht:(leftS Sj (⟨k0,k1,k2,k3⟩:K4) x torn).1 with
    | none =>
     rw [ht] at h6
     obtain ⟨hvt,h6n⟩:=h6.pure_open
     subst hvt
     clear h6
     have h6:=h6n
     clear h6n
     have HT:=Zh ht
     clear ht
     have hk6:=(h6.drew.pull 3 _ rfl).heap
     have x06:=Zq1 hk6 0
     have x16:=Zq1 hk6 1
     have x26:=Zq1 hk6 2
     have x36:=Zq1 hk6 3
     simp at x06 x16 x26 x36
     clear hk6
     obtain ⟨v0,H0,hl0,h7,hback⟩:=(h6.drew.pull 5 _ rfl).look_opt (⟨k0,k1,k2,k3⟩:K4)
     have hl1:=hl0 _ (Below.refl _ _)
     simp only [keyKT,K4.val] at hl1
     have c5:=(h6.drew.pull 0 _ rfl).blk 5
     simp [storeCells] at c5
     have H7:=Zh h7
     have HBK:=Zh hback
     clear h6 h7 hl0 hback
     go_wp2_with fail
     refine Zq8 (fun w'=>w'.cell? ⟨wr.heap.size,0,none⟩=some (.int .i64 k0)∧w'.cell? ⟨wr.heap.size,1,none⟩=some (.int .i64 k1)∧w'.cell? ⟨wr.heap.size,2,none⟩=some (.int .i64 k2)∧w'.cell? ⟨wr.heap.size,3,none⟩=some (.int .i64 k3)∧w'.cell? ⟨p,5,none⟩=some (.map (some B.m1))) [0,1,2,3,4,5,6,9] [7,8] [10] (by kernel_rfl) (by kernel_rfl) (by (exact ⟨x06,x16,x26,x36,c5⟩)) ?_
     simp only [pickL,Zl6,Zl7]
     repeat (refine Zq5 _ (Or.inl ⟨by rfl,by (intro w hSw;(try dsimp only at hSw);go_simp;try with_reducible rfl)⟩) ?_;(try simp only [Act.put,List.setIfInBounds_toArray,Zl4,Zl5]))
     refine Zq9 ?_
     unfold Zq16
     go_wp2_with fail
     refine Zq0 ⟨x06,x16,x26,x36,c5⟩ ?_
     unfold Zq16
     go_wp2_with fail
     refine (Zq265 H7.out (Zq140 HINV.out.seen _)).mono ?_
     rintro e w8 ⟨rfl,h8⟩
     have hk8:=(h8.pull 5 _ rfl).heap
     have x08:=Zq1 hk8 0
     have x18:=Zq1 hk8 1
     have x28:=Zq1 hk8 2
     have x38:=Zq1 hk8 3
     simp at x08 x18 x28 x38
     clear hk8
     have c58:=(h8.pull 2 _ rfl).blk 5
     simp [storeCells] at c58
     have h8b:=HBK.out _ _ _ h8
     have H8:=Zh h8b
     clear h8 h8b x06 x16 x26 x36 hl1 c5
     go_wp2_with fail
     refine Zq0 ⟨x08,x18,x28,x38,c58⟩ ?_
     unfold Zq16
     go_wp2_with fail
     have h8d:St W I6 w8 (Zq6 p Sj B::HP.mapOf keyKT Zq12 B.m1 Sj.seen::dryHP B Sj::Zq25 B Sj::keyHP B Sj::HP.pt wr.heap.size (.cells #[.int .i64 k0,.int .i64 k1,.int .i64 k2,.int .i64 k3] 43)::Zq30 (.slice (some ⟨g,0,none⟩) ss.length c) ss::l):=H8.out.perm (by ((try simp only [Zl0,Zl1,Zl2,Zl3]);repeat (first|with_reducible exact List.Perm.refl _|(apply Zq4;(· repeat (first|with_reducible exact Zq3|with_reducible apply Zq2))))))
     have h8e:St W I6 w8 (optHP (.pointer none) none::Zq6 p Sj B::Zq70 B Sj::dryHP B Sj::Zq25 B Sj::keyHP B Sj::HP.pt wr.heap.size (.cells #[.int .i64 k0,.int .i64 k1,.int .i64 k2,.int .i64 k3] 43)::Zq30 (.slice (some ⟨g,0,none⟩) ss.length c) ss::l):=St.pure_shut rfl h8d
     have h8c:St W I6 w8 (Zq6 p Sj B::Zq70 B Sj::dryHP B Sj::Zq25 B Sj::keyHP B Sj::optHP (.pointer none) none::HP.pt wr.heap.size (.cells #[.int .i64 k0,.int .i64 k1,.int .i64 k2,.int .i64 k3] 43)::Zq30 (.slice (some ⟨g,0,none⟩) ss.length c) ss::l):=h8e.perm (by ((try simp only [Zl0,Zl1,Zl2,Zl3]);repeat (first|with_reducible exact List.Perm.refl _|(apply Zq4;(· repeat (first|with_reducible exact Zq3|with_reducible apply Zq2))))))
     clear h8d h8e
     have hmany:(Zq18 Sj ((⟨k0,k1,k2,k3⟩:K4)).grp).length≤100000:=by have:=HINV.out.many ((⟨k0,k1,k2,k3⟩:K4)).grp;omega
     refine (Zq483 (o:=none) trivial (⟨k0,k1,k2,k3⟩:K4) _ h8c (HINV.out.rise _) hmany).mono ?_
     rintro e w9 ⟨rfl,h9⟩
     have hk9:=(h9.pull 5 _ rfl).heap
     have x09:=Zq1 hk9 0
     have x19:=Zq1 hk9 1
     have x29:=Zq1 hk9 2
     have x39:=Zq1 hk9 3
     simp at x09 x19 x29 x39
     clear hk9
     have c6:=h9.blk 6
     simp [storeCells] at c6
     obtain ⟨w10,hr10,hs10,h10⟩:=(h9.drew.pull 2 _ rfl).mapOf_del (P:=Tryz.prog) (ty:=0) Tryz.underlying112 (⟨k0,k1,k2,k3⟩:K4)
     simp only [keyKT,K4.val] at hr10
     have H10:=Zh h10
     have HR10:=Zh hr10
     clear h8c h9 h10 hr10 hs10 x08 x18 x28 x38 c58 hmany
     go_wp2_with fail
     refine NoPanic.normal ?_
     go_wp2_with fail
     refine Zq11 [] [0,1,2,3,4] [5] (by kernel_rfl) (by kernel_rfl) ?_
     simp only [pickL,Zl6,Zl7]
     repeat (refine Zq13 _ (Or.inl ⟨by rfl,by intro w;go_simp;try with_reducible rfl⟩) ?_;(try simp only [Act.put,List.setIfInBounds_toArray,Zl4,Zl5]))
     refine Zq15 ?_
     repeat still_step
     refine wpStill_nil ?_
     have hr10:=HR10.out
     go_wp2_with fail
     refine NoPanic.normal ?_
     clear hr10 c6 x09 x19 x29 x39
     go_wp2_with fail
     go_roundw
     case rel =>
      refine ⟨j+1,fallK Sj (⟨k0,k1,k2,k3⟩:K4) x torn,_,I6,by go_num,rfl,by omega,?_,?_,HLATE.out,HI1.out.trans HI6.out,?_⟩
      ·rw [←HFOLD.out,List.drop_eq_getElem_cons hlt,HGET.out]
       show fallL keep torn _ _ _ _=fallL keep torn _ _ (fallK Sj (⟨k0,k1,k2,k3⟩:K4) (Zq285 keep j) torn) _
       rw [HNK.out]
      ·exact Zq269 (HINV.out.less (by omega))
      ·have e1:fallK Sj (⟨k0,k1,k2,k3⟩:K4) x torn={ showS Sj (⟨k0,k1,k2,k3⟩:K4) (wrap64 (sizeO (get (⟨k0,k1,k2,k3⟩:K4) Sj.seen))) none with dry:=del (⟨k0,k1,k2,k3⟩:K4) Sj.dry }:=by
        unfold fallK Zq573
        rw [HT.out]
       rw [e1]
       exact ((H10.out.pull 5 _ rfl).drop).perm (m:=Zq30 (.slice (some ⟨g,0,none⟩) ss.length c) ss::Zq6 p (showS Sj (⟨k0,k1,k2,k3⟩:K4) (wrap64 (sizeO (get (⟨k0,k1,k2,k3⟩:K4) Sj.seen))) none) B::Zq70 B (showS Sj (⟨k0,k1,k2,k3⟩:K4) (wrap64 (sizeO (get (⟨k0,k1,k2,k3⟩:K4) Sj.seen))) none)::HP.mapOf keyKT Zq12 B.m2 (del (⟨k0,k1,k2,k3⟩:K4) (showS Sj (⟨k0,k1,k2,k3⟩:K4) (wrap64 (sizeO (get (⟨k0,k1,k2,k3⟩:K4) Sj.seen))) none).dry)::Zq25 B (showS Sj (⟨k0,k1,k2,k3⟩:K4) (wrap64 (sizeO (get (⟨k0,k1,k2,k3⟩:K4) Sj.seen))) none)::keyHP B (showS Sj (⟨k0,k1,k2,k3⟩:K4) (wrap64 (sizeO (get (⟨k0,k1,k2,k3⟩:K4) Sj.seen))) none)::l) (by ((try simp only [Zl0,Zl1,Zl2,Zl3]);repeat (first|with_reducible exact List.Perm.refl _|(apply Zq4;(· repeat (first|with_reducible exact Zq3|with_reducible apply Zq2))))))
     case measure=>simp [intOf];omega
    | some t =>
     rw [ht] at h6 HSML
     have HT:=Zh ht
     obtain ⟨bt,mt,vbt,hve,_⟩:=St.thing_open (v:=vt) (t:=t) h6
     subst hve
     clear ht
     have hk6:=(h6.drew.pull 4 _ rfl).heap
     have x06:=Zq1 hk6 0
     have x16:=Zq1 hk6 1
     have x26:=Zq1 hk6 2
     have x36:=Zq1 hk6 3
     simp at x06 x16 x26 x36
     clear hk6
     obtain ⟨v0,H0,hl0,h7,hback⟩:=(h6.drew.pull 6 _ rfl).look_opt (⟨k0,k1,k2,k3⟩:K4)
     have hl1:=hl0 _ (Below.refl _ _)
     simp only [keyKT,K4.val] at hl1
     have c5:=(h6.drew.pull 1 _ rfl).blk 5
     simp [storeCells] at c5
     have H7:=Zh h7
     have HBK:=Zh hback
     clear h6 h7 hl0 hback
     go_wp2_with fail
     refine Zq8 (fun w'=>w'.cell? ⟨wr.heap.size,0,none⟩=some (.int .i64 k0)∧w'.cell? ⟨wr.heap.size,1,none⟩=some (.int .i64 k1)∧w'.cell? ⟨wr.heap.size,2,none⟩=some (.int .i64 k2)∧w'.cell? ⟨wr.heap.size,3,none⟩=some (.int .i64 k3)∧w'.cell? ⟨p,5,none⟩=some (.map (some B.m1))) [0,1,2,3,4,5,6,9] [7,8] [10] (by kernel_rfl) (by kernel_rfl) (by (exact ⟨x06,x16,x26,x36,c5⟩)) ?_
     simp only [pickL,Zl6,Zl7]
     repeat (refine Zq5 _ (Or.inl ⟨by rfl,by (intro w hSw;(try dsimp only at hSw);go_simp;try with_reducible rfl)⟩) ?_;(try simp only [Act.put,List.setIfInBounds_toArray,Zl4,Zl5]))
     refine Zq9 ?_
     unfold Zq16
     go_wp2_with fail
     refine Zq0 ⟨x06,x16,x26,x36,c5⟩ ?_
     unfold Zq16
     go_wp2_with fail
     refine (Zq265 H7.out (Zq140 HINV.out.seen _)).mono ?_
     rintro e w8 ⟨rfl,h8⟩
     have hk8:=(h8.pull 6 _ rfl).heap
     have x08:=Zq1 hk8 0
     have x18:=Zq1 hk8 1
     have x28:=Zq1 hk8 2
     have x38:=Zq1 hk8 3
     simp at x08 x18 x28 x38
     clear hk8
     have c58:=(h8.pull 3 _ rfl).blk 5
     simp [storeCells] at c58
     have h8b:=HBK.out _ _ _ h8
     have H8:=Zh h8b
     clear h8 h8b x06 x16 x26 x36 hl1 c5
     go_wp2_with fail
     refine Zq0 ⟨x08,x18,x28,x38,c58⟩ ?_
     unfold Zq16
     go_wp2_with fail
     have h8e:St W I6 w8 (HP.mapOf keyKT Zq12 B.m1 Sj.seen::Zq12 (.pointer (some ⟨bt,0,none⟩)) t::Zq6 p Sj B::dryHP B Sj::Zq25 B Sj::HP.pt wr.heap.size (.cells #[.int .i64 k0,.int .i64 k1,.int .i64 k2,.int .i64 k3] 43)::Zq30 (.slice (some ⟨g,0,none⟩) ss.length c) ss::keyHP B Sj::l):=H8.out
     have h8c:St W I6 w8 (Zq6 p Sj B::HP.mapOf keyKT Zq12 B.m1 Sj.seen::dryHP B Sj::Zq25 B Sj::keyHP B Sj::Zq12 (.pointer (some ⟨bt,0,none⟩)) t::HP.pt wr.heap.size (.cells #[.int .i64 k0,.int .i64 k1,.int .i64 k2,.int .i64 k3] 43)::Zq30 (.slice (some ⟨g,0,none⟩) ss.length c) ss::l):=h8e.perm (by ((try simp only [Zl0,Zl1,Zl2,Zl3]);repeat (first|with_reducible exact List.Perm.refl _|(apply Zq4;(· repeat (first|with_reducible exact Zq3|with_reducible apply Zq2))))))
     clear h8e
     have hmany:(Zq18 Sj ((⟨k0,k1,k2,k3⟩:K4)).grp).length≤100000:=by have:=HINV.out.many ((⟨k0,k1,k2,k3⟩:K4)).grp;omega
     refine (Zq155 HSML.out (⟨k0,k1,k2,k3⟩:K4) (Zq252 _ _ _) _ h8c (HINV.out.rise _) hmany).mono ?_
     rintro e w9 ⟨rfl,h9⟩
     have hk9:=(h9.pull 6 _ rfl).heap
     have x09:=Zq1 hk9 0
     have x19:=Zq1 hk9 1
     have x29:=Zq1 hk9 2
     have x39:=Zq1 hk9 3
     simp at x09 x19 x29 x39
     clear hk9
     have c6:=h9.blk 6
     simp [storeCells] at c6
     have H9:=Zh h9
     clear h8c h9 x08 x18 x28 x38 c58 hmany
     go_wp2_with fail
     refine NoPanic.normal ?_
     go_wp2_with fail
     refine Zq8 (fun w'=>w'.cell? ⟨wr.heap.size,0,none⟩=some (.int .i64 k0)∧w'.cell? ⟨wr.heap.size,1,none⟩=some (.int .i64 k1)∧w'.cell? ⟨wr.heap.size,2,none⟩=some (.int .i64 k2)∧w'.cell? ⟨wr.heap.size,3,none⟩=some (.int .i64 k3)∧w'.cell? ⟨p,6,none⟩=some (.map (some B.m2))) [0,1,2,3,4,5] [6] [7] (by kernel_rfl) (by kernel_rfl) (by (exact ⟨x09,x19,x29,x39,c6⟩)) ?_
     simp only [pickL,Zl6,Zl7]
     repeat (refine Zq5 _ (Or.inl ⟨by rfl,by (intro w hSw;(try dsimp only at hSw);go_simp;try with_reducible rfl)⟩) ?_;(try simp only [Act.put,List.setIfInBounds_toArray,Zl4,Zl5]))
     refine Zq9 ?_
     unfold Zq16
     go_wp2_with fail
     refine (Zq329 (H9.out.drew.pull 1 _ rfl) (by have:=HSML.out.1;omega) (fun x hx=>by have:=HSML.out.2 x hx;omega)).mono ?_
     rintro e w10 ⟨vo,I10,rfl,hI10,h10⟩
     have h10a:St W I10 w10 (Zq12 vo t::dryHP B (showS Sj (⟨k0,k1,k2,k3⟩:K4) (wrap64 (sizeO (get (⟨k0,k1,k2,k3⟩:K4) Sj.seen))) (some t))::Zq12 (.pointer (some ⟨bt,0,none⟩)) t::HP.hole keyKT Zq12 B.m1 (⟨k0,k1,k2,k3⟩:K4) (.pointer (some ⟨bt,0,none⟩)) (del (⟨k0,k1,k2,k3⟩:K4) Sj.seen)::Zq6 p (showS Sj (⟨k0,k1,k2,k3⟩:K4) (wrap64 (sizeO (get (⟨k0,k1,k2,k3⟩:K4) Sj.seen))) (some t)) B::Zq25 B (showS Sj (⟨k0,k1,k2,k3⟩:K4) (wrap64 (sizeO (get (⟨k0,k1,k2,k3⟩:K4) Sj.seen))) (some t))::keyHP B (showS Sj (⟨k0,k1,k2,k3⟩:K4) (wrap64 (sizeO (get (⟨k0,k1,k2,k3⟩:K4) Sj.seen))) (some t))::HP.pt wr.heap.size (.cells #[.int .i64 k0,.int .i64 k1,.int .i64 k2,.int .i64 k3] 43)::Zq30 (.slice (some ⟨g,0,none⟩) ss.length c) ss::l):=h10.perm (by ((try simp only [Zl0,Zl1,Zl2,Zl3]);repeat (first|with_reducible exact List.Perm.refl _|(apply Zq4;(· repeat (first|with_reducible exact Zq3|with_reducible apply Zq2))))))
     have hkA:=(h10a.pull 7 _ rfl).heap
     have x0A:=Zq1 hkA 0
     have x1A:=Zq1 hkA 1
     have x2A:=Zq1 hkA 2
     have x3A:=Zq1 hkA 3
     simp at x0A x1A x2A x3A
     clear hkA
     have c6a:=(h10a.pull 4 _ rfl).blk 6
     simp [storeCells] at c6a
     obtain ⟨bo,mo,vbo,hvo,_⟩:=h10a.thing_open
     obtain ⟨w11,hr11,hs11,h11⟩:=h10a.mapOf_put (P:=Tryz.prog) Tryz.underlying112 (⟨k0,k1,k2,k3⟩:K4)
     simp only [keyKT,K4.val] at hr11
     subst hvo
     have H11:=Zh h11
     have HR11:=Zh hr11
     have HI10:=Zh hI10
     clear h10 h10a h11 hr11 hs11 hI10 x09 x19 x29 x39 c6
     go_wp2_with fail
     refine Zq0 ⟨x0A,x1A,x2A,x3A,c6a⟩ ?_
     have hr11:=HR11.out
     unfold Zq16
     go_wp2_with fail
     refine NoPanic.normal ?_
     clear hr11 c6a x0A x1A x2A x3A
     go_wp2_with fail
     go_roundw
     case rel =>
      refine ⟨j+1,fallK Sj (⟨k0,k1,k2,k3⟩:K4) x torn,_,I10,by go_num,rfl,by omega,?_,?_,HLATE.out,(HI1.out.trans HI6.out).trans HI10.out,?_⟩
      ·rw [←HFOLD.out,List.drop_eq_getElem_cons hlt,HGET.out]
       show fallL keep torn _ _ _ _=fallL keep torn _ _ (fallK Sj (⟨k0,k1,k2,k3⟩:K4) (Zq285 keep j) torn) _
       rw [HNK.out]
      ·exact Zq269 (HINV.out.less (by omega))
      ·have e1:fallK Sj (⟨k0,k1,k2,k3⟩:K4) x torn={ showS Sj (⟨k0,k1,k2,k3⟩:K4) (wrap64 (sizeO (get (⟨k0,k1,k2,k3⟩:K4) Sj.seen))) (some t) with dry:=put (⟨k0,k1,k2,k3⟩:K4) t Sj.dry }:=by
        unfold fallK Zq573
        rw [HT.out]
       rw [e1]
       have h12:=St.hole_back ((H11.out.pull 1 _ rfl).perm (m:=Zq12 (.pointer (some ⟨bt,0,none⟩)) t::HP.hole keyKT Zq12 B.m1 (⟨k0,k1,k2,k3⟩:K4) (.pointer (some ⟨bt,0,none⟩)) (del (⟨k0,k1,k2,k3⟩:K4) Sj.seen)::HP.mapOf keyKT Zq12 B.m2 (put (⟨k0,k1,k2,k3⟩:K4) t (showS Sj (⟨k0,k1,k2,k3⟩:K4) (wrap64 (sizeO (get (⟨k0,k1,k2,k3⟩:K4) Sj.seen))) (some t)).dry)::Zq6 p (showS Sj (⟨k0,k1,k2,k3⟩:K4) (wrap64 (sizeO (get (⟨k0,k1,k2,k3⟩:K4) Sj.seen))) (some t)) B::Zq25 B (showS Sj (⟨k0,k1,k2,k3⟩:K4) (wrap64 (sizeO (get (⟨k0,k1,k2,k3⟩:K4) Sj.seen))) (some t))::keyHP B (showS Sj (⟨k0,k1,k2,k3⟩:K4) (wrap64 (sizeO (get (⟨k0,k1,k2,k3⟩:K4) Sj.seen))) (some t))::HP.pt wr.heap.size (.cells #[.int .i64 k0,.int .i64 k1,.int .i64 k2,.int .i64 k3] 43)::Zq30 (.slice (some ⟨g,0,none⟩) ss.length c) ss::l) (by ((try simp only [Zl0,Zl1,Zl2,Zl3]);repeat (first|with_reducible exact List.Perm.refl _|(apply Zq4;(· repeat (first|with_reducible exact Zq3|with_reducible apply Zq2)))))))
       exact ((h12.pull 5 _ rfl).drop).perm (m:=Zq30 (.slice (some ⟨g,0,none⟩) ss.length c) ss::Zq6 p (showS Sj (⟨k0,k1,k2,k3⟩:K4) (wrap64 (sizeO (get (⟨k0,k1,k2,k3⟩:K4) Sj.seen))) (some t)) B::HP.mapOf keyKT Zq12 B.m1 (((⟨k0,k1,k2,k3⟩:K4),t)::del (⟨k0,k1,k2,k3⟩:K4) Sj.seen)::HP.mapOf keyKT Zq12 B.m2 (put (⟨k0,k1,k2,k3⟩:K4) t (showS Sj (⟨k0,k1,k2,k3⟩:K4) (wrap64 (sizeO (get (⟨k0,k1,k2,k3⟩:K4) Sj.seen))) (some t)).dry)::Zq25 B (showS Sj (⟨k0,k1,k2,k3⟩:K4) (wrap64 (sizeO (get (⟨k0,k1,k2,k3⟩:K4) Sj.seen))) (some t))::keyHP B (showS Sj (⟨k0,k1,k2,k3⟩:K4) (wrap64 (sizeO (get (⟨k0,k1,k2,k3⟩:K4) Sj.seen))) (some t))::l) (by ((try simp only [Zl0,Zl1,Zl2,Zl3]);repeat (first|with_reducible exact List.Perm.refl _|(apply Zq4;(· repeat (first|with_reducible exact Zq3|with_reducible apply Zq2))))))
     case measure=>simp [intOf];omega
   ·have hnk:Zq285 keep j=0:=by unfold Zq285;rw [List.getElem?_eq_none (by omega)];rfl
    have HNK:=Zh hnk
    clear hnk
    go_wp2_with fail
    have hsml:=Zq267 (k:=(⟨k0,k1,k2,k3⟩:K4)) (n:=0) (torn:=torn) HINV.out
    have HSML:=Zh hsml
    have hst1:St W I1 (wr.alloc (.cells #[.int .i64 k0,.int .i64 k1,.int .i64 k2,.int .i64 k3] 43)) (Zq6 p Sj B::dryHP B Sj::Zq25 B Sj::HP.pt wr.heap.size (.cells #[.int .i64 k0,.int .i64 k1,.int .i64 k2,.int .i64 k3] 43)::Zq30 (.slice (some ⟨g,0,none⟩) ss.length c) ss::Zq70 B Sj::keyHP B Sj::l):=(HST.out.alloc (.cells #[.int .i64 k0,.int .i64 k1,.int .i64 k2,.int .i64 k3] 43)).perm (by ((try simp only [Zl0,Zl1,Zl2,Zl3]);repeat (first|with_reducible exact List.Perm.refl _|(apply Zq4;(· repeat (first|with_reducible exact Zq3|with_reducible apply Zq2))))))
    have HST1:=Zh hst1
    clear hsml hst1 y0 y1 y2 y3
    refine (Zq485 (⟨k0,k1,k2,k3⟩:K4) 0 torn HST1.out HINV.out.dry HINV.out.late (HINV.out.lateAt _).1).mono ?_
    rintro e w6 ⟨vt,I6,hI6,rfl,h6⟩
    have HI6:=Zh hI6
    clear hI6
    cases ht:(leftS Sj (⟨k0,k1,k2,k3⟩:K4) 0 torn).1 with
    | none =>
     rw [ht] at h6
     obtain ⟨hvt,h6n⟩:=h6.pure_open
     subst hvt
     clear h6
     have h6:=h6n
     clear h6n
     have HT:=Zh ht
     clear ht
     have hk6:=(h6.drew.pull 3 _ rfl).heap
     have x06:=Zq1 hk6 0
     have x16:=Zq1 hk6 1
     have x26:=Zq1 hk6 2
     have x36:=Zq1 hk6 3
     simp at x06 x16 x26 x36
     clear hk6
     obtain ⟨v0,H0,hl0,h7,hback⟩:=(h6.drew.pull 5 _ rfl).look_opt (⟨k0,k1,k2,k3⟩:K4)
     have hl1:=hl0 _ (Below.refl _ _)
     simp only [keyKT,K4.val] at hl1
     have c5:=(h6.drew.pull 0 _ rfl).blk 5
     simp [storeCells] at c5
     have H7:=Zh h7
     have HBK:=Zh hback
     clear h6 h7 hl0 hback
     go_wp2_with fail
     refine Zq8 (fun w'=>w'.cell? ⟨wr.heap.size,0,none⟩=some (.int .i64 k0)∧w'.cell? ⟨wr.heap.size,1,none⟩=some (.int .i64 k1)∧w'.cell? ⟨wr.heap.size,2,none⟩=some (.int .i64 k2)∧w'.cell? ⟨wr.heap.size,3,none⟩=some (.int .i64 k3)∧w'.cell? ⟨p,5,none⟩=some (.map (some B.m1))) [0,1,2,3,4,5,6,9] [7,8] [10] (by kernel_rfl) (by kernel_rfl) (by (exact ⟨x06,x16,x26,x36,c5⟩)) ?_
     simp only [pickL,Zl6,Zl7]
     repeat (refine Zq5 _ (Or.inl ⟨by rfl,by (intro w hSw;(try dsimp only at hSw);go_simp;try with_reducible rfl)⟩) ?_;(try simp only [Act.put,List.setIfInBounds_toArray,Zl4,Zl5]))
     refine Zq9 ?_
     unfold Zq16
     go_wp2_with fail
     refine Zq0 ⟨x06,x16,x26,x36,c5⟩ ?_
     unfold Zq16
     go_wp2_with fail
     refine (Zq265 H7.out (Zq140 HINV.out.seen _)).mono ?_
     rintro e w8 ⟨rfl,h8⟩
     have hk8:=(h8.pull 5 _ rfl).heap
     have x08:=Zq1 hk8 0
     have x18:=Zq1 hk8 1
     have x28:=Zq1 hk8 2
     have x38:=Zq1 hk8 3
     simp at x08 x18 x28 x38
     clear hk8
     have c58:=(h8.pull 2 _ rfl).blk 5
     simp [storeCells] at c58
     have h8b:=HBK.out _ _ _ h8
     have H8:=Zh h8b
     clear h8 h8b x06 x16 x26 x36 hl1 c5
     go_wp2_with fail
     refine Zq0 ⟨x08,x18,x28,x38,c58⟩ ?_
     unfold Zq16
     go_wp2_with fail
     have h8d:St W I6 w8 (Zq6 p Sj B::HP.mapOf keyKT Zq12 B.m1 Sj.seen::dryHP B Sj::Zq25 B Sj::keyHP B Sj::HP.pt wr.heap.size (.cells #[.int .i64 k0,.int .i64 k1,.int .i64 k2,.int .i64 k3] 43)::Zq30 (.slice (some ⟨g,0,none⟩) ss.length c) ss::l):=H8.out.perm (by ((try simp only [Zl0,Zl1,Zl2,Zl3]);repeat (first|with_reducible exact List.Perm.refl _|(apply Zq4;(· repeat (first|with_reducible exact Zq3|with_reducible apply Zq2))))))
     have h8e:St W I6 w8 (optHP (.pointer none) none::Zq6 p Sj B::Zq70 B Sj::dryHP B Sj::Zq25 B Sj::keyHP B Sj::HP.pt wr.heap.size (.cells #[.int .i64 k0,.int .i64 k1,.int .i64 k2,.int .i64 k3] 43)::Zq30 (.slice (some ⟨g,0,none⟩) ss.length c) ss::l):=St.pure_shut rfl h8d
     have h8c:St W I6 w8 (Zq6 p Sj B::Zq70 B Sj::dryHP B Sj::Zq25 B Sj::keyHP B Sj::optHP (.pointer none) none::HP.pt wr.heap.size (.cells #[.int .i64 k0,.int .i64 k1,.int .i64 k2,.int .i64 k3] 43)::Zq30 (.slice (some ⟨g,0,none⟩) ss.length c) ss::l):=h8e.perm (by ((try simp only [Zl0,Zl1,Zl2,Zl3]);repeat (first|with_reducible exact List.Perm.refl _|(apply Zq4;(· repeat (first|with_reducible exact Zq3|with_reducible apply Zq2))))))
     clear h8d h8e
     have hmany:(Zq18 Sj ((⟨k0,k1,k2,k3⟩:K4)).grp).length≤100000:=by have:=HINV.out.many ((⟨k0,k1,k2,k3⟩:K4)).grp;omega
     refine (Zq483 (o:=none) trivial (⟨k0,k1,k2,k3⟩:K4) _ h8c (HINV.out.rise _) hmany).mono ?_
     rintro e w9 ⟨rfl,h9⟩
     have hk9:=(h9.pull 5 _ rfl).heap
     have x09:=Zq1 hk9 0
     have x19:=Zq1 hk9 1
     have x29:=Zq1 hk9 2
     have x39:=Zq1 hk9 3
     simp at x09 x19 x29 x39
     clear hk9
     have c6:=h9.blk 6
     simp [storeCells] at c6
     obtain ⟨w10,hr10,hs10,h10⟩:=(h9.drew.pull 2 _ rfl).mapOf_del (P:=Tryz.prog) (ty:=0) Tryz.underlying112 (⟨k0,k1,k2,k3⟩:K4)
     simp only [keyKT,K4.val] at hr10
     have H10:=Zh h10
     have HR10:=Zh hr10
     clear h8c h9 h10 hr10 hs10 x08 x18 x28 x38 c58 hmany
     go_wp2_with fail
     refine NoPanic.normal ?_
     go_wp2_with fail
     refine Zq11 [] [0,1,2,3,4] [5] (by kernel_rfl) (by kernel_rfl) ?_
     simp only [pickL,Zl6,Zl7]
     repeat (refine Zq13 _ (Or.inl ⟨by rfl,by intro w;go_simp;try with_reducible rfl⟩) ?_;(try simp only [Act.put,List.setIfInBounds_toArray,Zl4,Zl5]))
     refine Zq15 ?_
     repeat still_step
     refine wpStill_nil ?_
     have hr10:=HR10.out
     go_wp2_with fail
     refine NoPanic.normal ?_
     clear hr10 c6 x09 x19 x29 x39
     go_wp2_with fail
     go_roundw
     case rel =>
      refine ⟨j+1,fallK Sj (⟨k0,k1,k2,k3⟩:K4) 0 torn,_,I6,by go_num,rfl,by omega,?_,?_,HLATE.out,HI1.out.trans HI6.out,?_⟩
      ·rw [←HFOLD.out,List.drop_eq_getElem_cons hlt,HGET.out]
       show fallL keep torn _ _ _ _=fallL keep torn _ _ (fallK Sj (⟨k0,k1,k2,k3⟩:K4) (Zq285 keep j) torn) _
       rw [HNK.out]
      ·exact Zq269 (HINV.out.less (by omega))
      ·have e1:fallK Sj (⟨k0,k1,k2,k3⟩:K4) 0 torn={ showS Sj (⟨k0,k1,k2,k3⟩:K4) (wrap64 (sizeO (get (⟨k0,k1,k2,k3⟩:K4) Sj.seen))) none with dry:=del (⟨k0,k1,k2,k3⟩:K4) Sj.dry }:=by
        unfold fallK Zq573
        rw [HT.out]
       rw [e1]
       exact ((H10.out.pull 5 _ rfl).drop).perm (m:=Zq30 (.slice (some ⟨g,0,none⟩) ss.length c) ss::Zq6 p (showS Sj (⟨k0,k1,k2,k3⟩:K4) (wrap64 (sizeO (get (⟨k0,k1,k2,k3⟩:K4) Sj.seen))) none) B::Zq70 B (showS Sj (⟨k0,k1,k2,k3⟩:K4) (wrap64 (sizeO (get (⟨k0,k1,k2,k3⟩:K4) Sj.seen))) none)::HP.mapOf keyKT Zq12 B.m2 (del (⟨k0,k1,k2,k3⟩:K4) (showS Sj (⟨k0,k1,k2,k3⟩:K4) (wrap64 (sizeO (get (⟨k0,k1,k2,k3⟩:K4) Sj.seen))) none).dry)::Zq25 B (showS Sj (⟨k0,k1,k2,k3⟩:K4) (wrap64 (sizeO (get (⟨k0,k1,k2,k3⟩:K4) Sj.seen))) none)::keyHP B (showS Sj (⟨k0,k1,k2,k3⟩:K4) (wrap64 (sizeO (get (⟨k0,k1,k2,k3⟩:K4) Sj.seen))) none)::l) (by ((try simp only [Zl0,Zl1,Zl2,Zl3]);repeat (first|with_reducible exact List.Perm.refl _|(apply Zq4;(· repeat (first|with_reducible exact Zq3|with_reducible apply Zq2))))))
     case measure=>simp [intOf];omega
    | some t =>
     rw [ht] at h6 HSML
     have HT:=Zh ht
     obtain ⟨bt,mt,vbt,hve,_⟩:=St.thing_open (v:=vt) (t:=t) h6
     subst hve
     clear ht
     have hk6:=(h6.drew.pull 4 _ rfl).heap
     have x06:=Zq1 hk6 0
     have x16:=Zq1 hk6 1
     have x26:=Zq1 hk6 2
     have x36:=Zq1 hk6 3
     simp at x06 x16 x26 x36
     clear hk6
     obtain ⟨v0,H0,hl0,h7,hback⟩:=(h6.drew.pull 6 _ rfl).look_opt (⟨k0,k1,k2,k3⟩:K4)
     have hl1:=hl0 _ (Below.refl _ _)
     simp only [keyKT,K4.val] at hl1
     have c5:=(h6.drew.pull 1 _ rfl).blk 5
     simp [storeCells] at c5
     have H7:=Zh h7
     have HBK:=Zh hback
     clear h6 h7 hl0 hback
     go_wp2_with fail
     refine Zq8 (fun w'=>w'.cell? ⟨wr.heap.size,0,none⟩=some (.int .i64 k0)∧w'.cell? ⟨wr.heap.size,1,none⟩=some (.int .i64 k1)∧w'.cell? ⟨wr.heap.size,2,none⟩=some (.int .i64 k2)∧w'.cell? ⟨wr.heap.size,3,none⟩=some (.int .i64 k3)∧w'.cell? ⟨p,5,none⟩=some (.map (some B.m1))) [0,1,2,3,4,5,6,9] [7,8] [10] (by kernel_rfl) (by kernel_rfl) (by (exact ⟨x06,x16,x26,x36,c5⟩)) ?_
     simp only [pickL,Zl6,Zl7]
     repeat (refine Zq5 _ (Or.inl ⟨by rfl,by (intro w hSw;(try dsimp only at hSw);go_simp;try with_reducible rfl)⟩) ?_;(try simp only [Act.put,List.setIfInBounds_toArray,Zl4,Zl5]))
     refine Zq9 ?_
     unfold Zq16
     go_wp2_with fail
     refine Zq0 ⟨x06,x16,x26,x36,c5⟩ ?_
     unfold Zq16
     go_wp2_with fail
     refine (Zq265 H7.out (Zq140 HINV.out.seen _)).mono ?_
     rintro e w8 ⟨rfl,h8⟩
     have hk8:=(h8.pull 6 _ rfl).heap
     have x08:=Zq1 hk8 0
     have x18:=Zq1 hk8 1
     have x28:=Zq1 hk8 2
     have x38:=Zq1 hk8 3
     simp at x08 x18 x28 x38
     clear hk8
     have c58:=(h8.pull 3 _ rfl).blk 5
     simp [storeCells] at c58
     have h8b:=HBK.out _ _ _ h8
     have H8:=Zh h8b
     clear h8 h8b x06 x16 x26 x36 hl1 c5
     go_wp2_with fail
     refine Zq0 ⟨x08,x18,x28,x38,c58⟩ ?_
     unfold Zq16
     go_wp2_with fail
     have h8e:St W I6 w8 (HP.mapOf keyKT Zq12 B.m1 Sj.seen::Zq12 (.pointer (some ⟨bt,0,none⟩)) t::Zq6 p Sj B::dryHP B Sj::Zq25 B Sj::HP.pt wr.heap.size (.cells #[.int .i64 k0,.int .i64 k1,.int .i64 k2,.int .i64 k3] 43)::Zq30 (.slice (some ⟨g,0,none⟩) ss.length c) ss::keyHP B Sj::l):=H8.out
     have h8c:St W I6 w8 (Zq6 p Sj B::HP.mapOf keyKT Zq12 B.m1 Sj.seen::dryHP B Sj::Zq25 B Sj::keyHP B Sj::Zq12 (.pointer (some ⟨bt,0,none⟩)) t::HP.pt wr.heap.size (.cells #[.int .i64 k0,.int .i64 k1,.int .i64 k2,.int .i64 k3] 43)::Zq30 (.slice (some ⟨g,0,none⟩) ss.length c) ss::l):=h8e.perm (by ((try simp only [Zl0,Zl1,Zl2,Zl3]);repeat (first|with_reducible exact List.Perm.refl _|(apply Zq4;(· repeat (first|with_reducible exact Zq3|with_reducible apply Zq2))))))
     clear h8e
     have hmany:(Zq18 Sj ((⟨k0,k1,k2,k3⟩:K4)).grp).length≤100000:=by have:=HINV.out.many ((⟨k0,k1,k2,k3⟩:K4)).grp;omega
     refine (Zq155 HSML.out (⟨k0,k1,k2,k3⟩:K4) (Zq252 _ _ _) _ h8c (HINV.out.rise _) hmany).mono ?_
     rintro e w9 ⟨rfl,h9⟩
     have hk9:=(h9.pull 6 _ rfl).heap
     have x09:=Zq1 hk9 0
     have x19:=Zq1 hk9 1
     have x29:=Zq1 hk9 2
     have x39:=Zq1 hk9 3
     simp at x09 x19 x29 x39
     clear hk9
     have c6:=h9.blk 6
     simp [storeCells] at c6
     have H9:=Zh h9
     clear h8c h9 x08 x18 x28 x38 c58 hmany
     go_wp2_with fail
     refine NoPanic.normal ?_
     go_wp2_with fail
     refine Zq8 (fun w'=>w'.cell? ⟨wr.heap.size,0,none⟩=some (.int .i64 k0)∧w'.cell? ⟨wr.heap.size,1,none⟩=some (.int .i64 k1)∧w'.cell? ⟨wr.heap.size,2,none⟩=some (.int .i64 k2)∧w'.cell? ⟨wr.heap.size,3,none⟩=some (.int .i64 k3)∧w'.cell? ⟨p,6,none⟩=some (.map (some B.m2))) [0,1,2,3,4,5] [6] [7] (by kernel_rfl) (by kernel_rfl) (by (exact ⟨x09,x19,x29,x39,c6⟩)) ?_
     simp only [pickL,Zl6,Zl7]
     repeat (refine Zq5 _ (Or.inl ⟨by rfl,by (intro w hSw;(try dsimp only at hSw);go_simp;try with_reducible rfl)⟩) ?_;(try simp only [Act.put,List.setIfInBounds_toArray,Zl4,Zl5]))
     refine Zq9 ?_
     unfold Zq16
     go_wp2_with fail
     refine (Zq329 (H9.out.drew.pull 1 _ rfl) (by have:=HSML.out.1;omega) (fun x hx=>by have:=HSML.out.2 x hx;omega)).mono ?_
     rintro e w10 ⟨vo,I10,rfl,hI10,h10⟩
     have h10a:St W I10 w10 (Zq12 vo t::dryHP B (showS Sj (⟨k0,k1,k2,k3⟩:K4) (wrap64 (sizeO (get (⟨k0,k1,k2,k3⟩:K4) Sj.seen))) (some t))::Zq12 (.pointer (some ⟨bt,0,none⟩)) t::HP.hole keyKT Zq12 B.m1 (⟨k0,k1,k2,k3⟩:K4) (.pointer (some ⟨bt,0,none⟩)) (del (⟨k0,k1,k2,k3⟩:K4) Sj.seen)::Zq6 p (showS Sj (⟨k0,k1,k2,k3⟩:K4) (wrap64 (sizeO (get (⟨k0,k1,k2,k3⟩:K4) Sj.seen))) (some t)) B::Zq25 B (showS Sj (⟨k0,k1,k2,k3⟩:K4) (wrap64 (sizeO (get (⟨k0,k1,k2,k3⟩:K4) Sj.seen))) (some t))::keyHP B (showS Sj (⟨k0,k1,k2,k3⟩:K4) (wrap64 (sizeO (get (⟨k0,k1,k2,k3⟩:K4) Sj.seen))) (some t))::HP.pt wr.heap.size (.cells #[.int .i64 k0,.int .i64 k1,.int .i64 k2,.int .i64 k3] 43)::Zq30 (.slice (some ⟨g,0,none⟩) ss.length c) ss::l):=h10.perm (by ((try simp only [Zl0,Zl1,Zl2,Zl3]);repeat (first|with_reducible exact List.Perm.refl _|(apply Zq4;(· repeat (first|with_reducible exact Zq3|with_reducible apply Zq2))))))
     have hkA:=(h10a.pull 7 _ rfl).heap
     have x0A:=Zq1 hkA 0
     have x1A:=Zq1 hkA 1
     have x2A:=Zq1 hkA 2
     have x3A:=Zq1 hkA 3
     simp at x0A x1A x2A x3A
     clear hkA
     have c6a:=(h10a.pull 4 _ rfl).blk 6
     simp [storeCells] at c6a
     obtain ⟨bo,mo,vbo,hvo,_⟩:=h10a.thing_open
     obtain ⟨w11,hr11,hs11,h11⟩:=h10a.mapOf_put (P:=Tryz.prog) Tryz.underlying112 (⟨k0,k1,k2,k3⟩:K4)
     simp only [keyKT,K4.val] at hr11
     subst hvo
     have H11:=Zh h11
     have HR11:=Zh hr11
     have HI10:=Zh hI10
     clear h10 h10a h11 hr11 hs11 hI10 x09 x19 x29 x39 c6
     go_wp2_with fail
     refine Zq0 ⟨x0A,x1A,x2A,x3A,c6a⟩ ?_
     have hr11:=HR11.out
     unfold Zq16
     go_wp2_with fail
     refine NoPanic.normal ?_
     clear hr11 c6a x0A x1A x2A x3A
     go_wp2_with fail
     go_roundw
     case rel =>
      refine ⟨j+1,fallK Sj (⟨k0,k1,k2,k3⟩:K4) 0 torn,_,I10,by go_num,rfl,by omega,?_,?_,HLATE.out,(HI1.out.trans HI6.out).trans HI10.out,?_⟩
      ·rw [←HFOLD.out,List.drop_eq_getElem_cons hlt,HGET.out]
       show fallL keep torn _ _ _ _=fallL keep torn _ _ (fallK Sj (⟨k0,k1,k2,k3⟩:K4) (Zq285 keep j) torn) _
       rw [HNK.out]
      ·exact Zq269 (HINV.out.less (by omega))
      ·have e1:fallK Sj (⟨k0,k1,k2,k3⟩:K4) 0 torn={ showS Sj (⟨k0,k1,k2,k3⟩:K4) (wrap64 (sizeO (get (⟨k0,k1,k2,k3⟩:K4) Sj.seen))) (some t) with dry:=put (⟨k0,k1,k2,k3⟩:K4) t Sj.dry }:=by
        unfold fallK Zq573
        rw [HT.out]
       rw [e1]
       have h12:=St.hole_back ((H11.out.pull 1 _ rfl).perm (m:=Zq12 (.pointer (some ⟨bt,0,none⟩)) t::HP.hole keyKT Zq12 B.m1 (⟨k0,k1,k2,k3⟩:K4) (.pointer (some ⟨bt,0,none⟩)) (del (⟨k0,k1,k2,k3⟩:K4) Sj.seen)::HP.mapOf keyKT Zq12 B.m2 (put (⟨k0,k1,k2,k3⟩:K4) t (showS Sj (⟨k0,k1,k2,k3⟩:K4) (wrap64 (sizeO (get (⟨k0,k1,k2,k3⟩:K4) Sj.seen))) (some t)).dry)::Zq6 p (showS Sj (⟨k0,k1,k2,k3⟩:K4) (wrap64 (sizeO (get (⟨k0,k1,k2,k3⟩:K4) Sj.seen))) (some t)) B::Zq25 B (showS Sj (⟨k0,k1,k2,k3⟩:K4) (wrap64 (sizeO (get (⟨k0,k1,k2,k3⟩:K4) Sj.seen))) (some t))::keyHP B (showS Sj (⟨k0,k1,k2,k3⟩:K4) (wrap64 (sizeO (get (⟨k0,k1,k2,k3⟩:K4) Sj.seen))) (some t))::HP.pt wr.heap.size (.cells #[.int .i64 k0,.int .i64 k1,.int .i64 k2,.int .i64 k3] 43)::Zq30 (.slice (some ⟨g,0,none⟩) ss.length c) ss::l) (by ((try simp only [Zl0,Zl1,Zl2,Zl3]);repeat (first|with_reducible exact List.Perm.refl _|(apply Zq4;(· repeat (first|with_reducible exact Zq3|with_reducible apply Zq2)))))))
       exact ((h12.pull 5 _ rfl).drop).perm (m:=Zq30 (.slice (some ⟨g,0,none⟩) ss.length c) ss::Zq6 p (showS Sj (⟨k0,k1,k2,k3⟩:K4) (wrap64 (sizeO (get (⟨k0,k1,k2,k3⟩:K4) Sj.seen))) (some t)) B::HP.mapOf keyKT Zq12 B.m1 (((⟨k0,k1,k2,k3⟩:K4),t)::del (⟨k0,k1,k2,k3⟩:K4) Sj.seen)::HP.mapOf keyKT Zq12 B.m2 (put (⟨k0,k1,k2,k3⟩:K4) t (showS Sj (⟨k0,k1,k2,k3⟩:K4) (wrap64 (sizeO (get (⟨k0,k1,k2,k3⟩:K4) Sj.seen))) (some t)).dry)::Zq25 B (showS Sj (⟨k0,k1,k2,k3⟩:K4) (wrap64 (sizeO (get (⟨k0,k1,k2,k3⟩:K4) Sj.seen))) (some t))::keyHP B (showS Sj (⟨k0,k1,k2,k3⟩:K4) (wrap64 (sizeO (get (⟨k0,k1,k2,k3⟩:K4) Sj.seen))) (some t))::l) (by ((try simp only [Zl0,Zl1,Zl2,Zl3]);repeat (first|with_reducible exact List.Perm.refl _|(apply Zq4;(· repeat (first|with_reducible exact Zq3|with_reducible apply Zq2))))))
     case measure=>simp [intOf];omega
  ·obtain rfl:ss.length=j:=by omega
   have hf2:fallL keep torn ss 0 S 0=(Sj,nj):=by rw [←hfold,List.drop_length];rfl
   have hmm:=@run_makeMap Tryz.prog
   have hst1:=hst.pull 1 _ rfl
   have c7:=hst1.blk 7
   have c3:=hst1.blk 3
   have c4:=hst1.blk 4
   have f7:=frozen_of_row hst1.heap 7
   have f3:=frozen_of_row hst1.heap 3
   have f4:=frozen_of_row hst1.heap 4
   have hpl:=hst1.lt
   simp [storeCells] at c7 c3 c4 f7 f3 f4
   have hs3:=((hst1.setCell 7 (.map (some wr.heap.size))).setCell 3 (.int .i64 0)).setCell 4 (.bool false)
   have hs4:=hs3.alloc (.map #[] 0)
   simp only [World.size_setCell] at hs4
   have hs4:St W I1 ((((wr.setCell ⟨p,7,none⟩ (.map (some wr.heap.size))).setCell ⟨p,3,none⟩ (.int .i64 0)).setCell ⟨p,4,none⟩ (.bool false)).alloc (.map #[] 0)) (Zq6 p { Sj with late:=[],wet:=0,on:=false } { B with m3:=wr.heap.size }::_):=(hs4.mapOf_made (T:=keyKT) (own:=Zq39)).pull 1 _ rfl
   have HS4:=Zh hs4
   have HF2:=Zh hf2
   have HI1:=Zh hI1
   clear hst hst1 hfold hinv hlate hI1 hs3 hs4 hf2
   go_wp2_with fail
   refine (Zq712 (-1) (.slice none 0 0) [] 0 HS4.out (Zq336 _) (by simp)).mono ?_
   rintro e w9 ⟨rfl,vk,I9,hI9,hvk,h9⟩
   have H9:=Zh h9
   have HVK:=Zh hvk
   have HI9:=Zh hI9
   clear h9 hvk hI9 c7 c3 c4 f7 f3 f4
   go_wp2_with fail
   go_ret
   have hre:(fallL keep torn ss 0 S 0)=(Sj,nj):=HF2.out
   refine ⟨ss,{ B with m3:=wr.heap.size,vk:=vk },I9,HRI.out,HPE.out,HI1.out.trans HI9.out,?_⟩
   rw [hre]
   refine ⟨rfl,HVK.out,?_⟩
   have h10:St W I9 w9 (Zq6 p (Zq133 Sj) { B with m3:=wr.heap.size,vk:=vk }::HP.mapOf keyKT Zq39 wr.heap.size []::Zq30 (.slice A ss.length c) ss::Zq70 B Sj::dryHP B Sj::Zq25 B Sj::keyHP B Sj::l):=H9.out
   exact ((h10.pull 2 _ rfl).drop.pull 4 _ rfl).drop.perm (m:=Zq6 p (Zq133 Sj) { B with m3:=wr.heap.size,vk:=vk }::Zq70 B Sj::dryHP B Sj::HP.mapOf keyKT Zq39 wr.heap.size []::keyHP B Sj::l) (by ((try simp only [Zl0,Zl1,Zl2,Zl3]);repeat (first|with_reducible exact List.Perm.refl _|(apply Zq4;(· repeat (first|with_reducible exact Zq3|with_reducible apply Zq2))))))
end
end Go.Proofs.YtpjchngjhijgmaaGreat
namespace Go.Proofs.YtpjchngjhijgmaaGreat
open Go.RowKit
def sortK:List K4→List K4
 | []=>[]
 | k::ks=>addK k (sortK ks)
theorem Zq615 (k:K4) (ks:List K4):(addK k ks).Perm (k::ks):=by
 unfold addK
 refine List.perm_middle.trans (List.Perm.cons _ ?_)
 exact List.filter_append_perm _ _
theorem Zq253:∀ ks:List K4,(sortK ks).Perm ks
 | []=>List.Perm.refl _
 | k::ks=>(Zq615 k _).trans ((Zq253 ks).cons k)
theorem Zq297:∀ {ks:List K4},ks.Nodup→Zq90 (sortK ks)
 | [],_=>List.Pairwise.nil
 | k::ks,h=>by
  have h:=List.nodup_cons.1 h
  exact Zq268 (Zq297 h.2) fun hm=>h.1 ((Zq253 ks).mem_iff.1 hm)
theorem Zq718 {a b:K4} (h:a.lt b=true):b.lt a=false:=by
 rw [Bool.eq_false_iff]
 intro h2
 simp only [K4.lt,decide_eq_true_eq] at h h2
 omega
theorem Zq486:∀ {a b:List K4},Zq90 a→Zq90 b→a.Perm b→a=b
 | [],b,_,_,h=>(List.Perm.eq_nil h.symm).symm
 | x::a,[],_,_,h=>by have:=h.length_eq;simp at this
 | x::a,y::b,ha,hb,h=>by
  have ha':=List.pairwise_cons.1 ha
  have hb':=List.pairwise_cons.1 hb
  have e:x=y:=by
   rcases List.mem_cons.1 (h.mem_iff.1 (List.mem_cons_self ..)) with e|hx
   ·exact e
   rcases List.mem_cons.1 (h.mem_iff.2 (List.mem_cons_self ..)) with e|hy
   ·exact e.symm
   have h1:=ha'.1 _ hy
   have h2:=Zq718 (hb'.1 _ hx)
   rw [h1] at h2
   cases h2
  subst e
  rw [Zq486 ha'.2 hb'.2 h.cons_inv]
def fallS (S:Str) (keep:List Int) (torn:Int):Str × Int :=
 if S.on then (Zq133 (fallL keep torn (sortK (S.late.map (·.1))) 0 S 0).1,(fallL keep torn (sortK (S.late.map (·.1))) 0 S 0).2) else (S,0)
def Zq32 (S:Str):Bool × Str :=
 if S.armed then if 0<S.fuse then (false,{ S with fuse:=S.fuse - 1 }) else (true,(fallS S S.keep S.torn).1) else (false,S)
section
variable {W w : World} {I : Hp} {l : List HP} {p : Nat} {S : Str}
set_option maxRecDepth 4000
set_option maxHeartbeats 4000000
theorem Zq719 (kv:Value) (keep:List Int) (torn:Int) (h:St W I w (Zq10 p S::l)) (hk:IntsI I kv keep) (hkn:keep.length≤1000000) (hi:S.on=true→Inv S S.late.length) :
  Calls Tryz.prog 25 #[.pointer (some ⟨p,0,none⟩),kv,.int .i64 torn] w fun e w'=>∃ I',I.sub I'∧e=.returned (.int .i64 (fallS S keep torn).2)∧St W I' w' (Zq10 p (fallS S keep torn).1::l):=by
 cases ho:S.on with
 | false =>
  obtain ⟨B,h1⟩:=h.store_open
  refine (Zq807 kv torn h1 ho).mono ?_
  rintro e w' ⟨rfl,rfl⟩
  rw [show fallS S keep torn=(S,0) by simp [fallS,ho]]
  exact ⟨I,Hp.sub.refl _,rfl,h⟩
 | true =>
  obtain ⟨B,h1⟩:=h.store_open
  have hnd:=(h1.pull 3 _ rfl).mapOf_nodup
  refine (Zq853 kv keep torn h1 ho hk hkn (hi ho)).mono ?_
  rintro e w' ⟨ss,B',I',hr,hp,hs,rfl,hv,h2⟩
  obtain rfl:sortK (S.late.map (·.1))=ss:=Zq486 (Zq297 hnd) hr ((Zq253 _).trans hp.symm)
  rw [show fallS S keep torn=(Zq133 (fallL keep torn (sortK (S.late.map (·.1))) 0 S 0).1,(fallL keep torn (sortK (S.late.map (·.1))) 0 S 0).2) by simp [fallS,ho]]
  refine ⟨I',hs,rfl,St.store_shut (B:=B') ?_⟩
  have h3:=(h2.pull 5 _ rfl).drop
  have e:(Zq133 (fallL keep torn (sortK (S.late.map (·.1))) 0 S 0).1).keep=[]:=by simp [Zq133,fuseS]
  rw [e]
  exact (St.imm_shut (A:=Zq132 B'.vk []) hv h3).perm (by ((try simp only [Zl0,Zl1,Zl2,Zl3]);repeat (first|with_reducible exact List.Perm.refl _|(apply Zq4;(· repeat (first|with_reducible exact Zq3|with_reducible apply Zq2))))))
theorem Zq377 (h:St W I w (Zq10 p S::l)) (hkn:S.armed=false) (hf:0≤S.fuse∧S.fuse≤9223372036854775807) (hi:S.on=true→Inv S S.late.length) :
  Calls Tryz.prog 124 #[.pointer (some ⟨p,0,none⟩)] w fun e w'=>∃ I',I.sub I'∧e=.returned (.bool (Zq32 S).1)∧St W I' w' (Zq10 p (Zq32 S).2::l):=by
 obtain ⟨B,h1⟩:=h.store_open
 obtain ⟨hk,h1'⟩:=(h1.pull 5 _ rfl).imm_open
 have c9:=h1.blk 9
 have c10:=h1.blk 10
 have c11:=h1.blk 11
 have c12:=h1.blk 12
 have f10:=frozen_of_row h1.heap 10
 simp [storeCells] at c9 c10 c11 c12
 have hk:IntsI I B.vk S.keep:=hk
 have HK:=Zh hk
 obtain ⟨A,c,hvk,_⟩:=hk
 rw [hvk] at c12
 have H:=Zh h
 have H1:=Zh h1
 have HI:=Zh hi
 clear h h1 h1' hi
 have ha:=hkn
 clear hkn
 rw [ha] at c9
 rw [show Zq32 S=(false,S) by simp [Zq32,ha]]
 go_enter Tryz.func124,Tryz.ntmps124
 go_wp2_with fail
 go_ret
 exact ⟨I,Hp.sub.refl _,rfl,H.out⟩
end
end Go.Proofs.YtpjchngjhijgmaaGreat
namespace Go.Proofs.YtpjchngjhijgmaaGreat
open Go.RowKit
section
variable {W w : World} {I : Hp} {l : List HP} {p : Nat} {S : Str}
theorem St.look_spot {b:Nat} {L:List (K4 × TS)} (h:St W I w (HP.mapOf keyKT Zq12 b L::l)) (a:K4) :
  ∃ v H,(∀ w2,Below w.heap.size w w2→(Instr.lookup 112 (.map (some b)) (keyKT.kv a) false).run Tryz.prog w2=.ok v w2)∧St W I w (optHP v (get a L)::H::l)∧Spot a b L H:=by
 rcases h.mapOf_look Tryz.underlying112 (z:=.pointer none) (fun w=>by kernel_rfl) a with ⟨hg,hl⟩|⟨v,x,hg,hl,h1⟩
 ·exact ⟨.pointer none,HP.mapOf keyKT Zq12 b L,fun w2 hw=>hl w2 hw false,by rw [hg];exact St.pure_shut rfl h,Zq252 a b L⟩
 ·exact ⟨v,HP.hole keyKT Zq12 b a v (del a L),fun w2 hw=>hl w2 hw false,by rw [hg];exact h1,Zq711 a b v L⟩
theorem Zq616 {B:SB} (k:K4) (h:St W I w (Zq25 B S::l)) :
  ∃ st v w',(Instr.mapEntry 113 (.map (some B.m3)) (keyKT.kv k)).run Tryz.prog w=.ok (.tuple #[v,goInt (st:Nat)]) w'∧w'.heap.size=w.heap.size ∧
   St W I w' (Zq39 v (lateAt S k)::HP.held keyKT Zq39 B.m3 k v st (del k S.late)::l):=by
 obtain ⟨st,v,w',hr,hs,h1|⟨x,hg,h1⟩⟩:=St.mapOf_entry h Tryz.underlying113 (z:=.slice none 0 0) (fun w=>by kernel_rfl) k
 ·obtain ⟨hg,rfl,h2⟩:=h1
  refine ⟨st,_,w',hr,hs,?_⟩
  rw [show lateAt S k=[] by simp [lateAt,hg]]
  exact Zq337 _ _ _ h2
 ·refine ⟨st,v,w',hr,hs,?_⟩
  rw [show lateAt S k=x by simp [lateAt,hg]]
  exact h1
theorem Zq378:∀ (ds:List Dd) (ps:List Value) (d:Dd) (q:Value),ps.length=ds.length→Zq82 (ds++[d]) (ps++[q])=Zq82 ds ps++[intV d.kind,intV d.n,q,.string d.name]
 | [],[],_,_,_=>rfl
 | d'::ds,q'::ps,d,q,h=>by
  have:=Zq378 ds ps d q (by simpa using h)
  simp only [Zl2,Zq82,this]
theorem Zq720:(Tryz.prog.info? 184).map (fun i=>(i.zero,i.size,i.bytes))=some (some (.agg #[.int .i64 0,.int .i64 0,.slice none 0 0,.string ⟨#[]⟩]),4,56):=by kernel_rfl
theorem Zq445 {v:Value} {ds:List Dd} {g:Nat} (d:Dd) (pv:Value) {f:Nat × Nat} (ty:TypeId) (h:St W I w (Zq39 v ds::HP.pt g (.cells #[intV d.kind,intV d.n,pv,.string d.name] 184 f)::l)) (hp:BytesI I pv d.p) (hn:ds.length≤1000000) (hone:pv.oneCell'=true) :
  ∃ v' w',(Builtin.append_ #[142,142] ty #[v,.slice (some ⟨g,0,none⟩) 1 1]).run Tryz.prog w=.ok v' w' ∧
   St W I w' (Zq39 v' (ds++[d])::HP.pt g (.cells #[intV d.kind,intV d.n,pv,.string d.name] 184 f)::l):=by
 obtain ⟨ps,hps,h1⟩:=h.deeds_open
 have hc:=Zq1 (h1.pull 1 _ rfl).heap
 have hsrc:SrcAt w 4 (some ⟨g,0,none⟩) 1 [intV d.kind,intV d.n,pv,.string d.name]:=⟨rfl,fun _=>⟨_,rfl,fun j u hu=>by
  rw [add_plain,Nat.zero_add,hc j]
  simpa using hu⟩,fun u hu=>by
   simp only [List.mem_cons,List.mem_nil_iff,or_false] at hu
   rcases hu with rfl|rfl|rfl|rfl
   ·rfl
   ·rfl
   ·exact hone
   ·rfl⟩
 obtain ⟨i0,hi0,hz0,hz1,hz2⟩:=info_parts Zq720
 have hown:=h1.row_owns
 obtain ⟨v',w',hr,ho',hgr,hv'⟩:=Zq57 (P:=Tryz.prog) w 0 142 ty 184 i0 _ 4 56 Tryz.underlying142 hi0 hz0 hz1 hz2 rfl (by decide) v ds.length _ hown (some ⟨g,0,none⟩) 1 1 _ hsrc (by intro h;cases h) (by unfold maxLen;omega) (by omega) (Nat.zero_le _)
 refine ⟨v',w',hr,St.deeds_shut (ps:=ps++[pv]) ?_ ?_⟩
 ·obtain ⟨e1,e2⟩:=hps
  refine ⟨by simp [e1],fun i d' q h1 h2=>?_⟩
  rw [List.getElem?_append] at h1 h2
  by_cases hi:i<ds.length
  ·rw [if_pos hi] at h1
   rw [if_pos (by omega)] at h2
   exact e2 i d' q h1 h2
  ·rw [if_neg hi] at h1
   rw [if_neg (by omega)] at h2
   have hi':=(List.getElem?_eq_some_iff.1 h1).1
   simp only [List.length_cons,List.length_nil] at hi'
   have e3:i=ds.length:=by omega
   subst e3
   simp only [Nat.sub_self,Zl6,Option.some.injEq] at h1
   rw [e1] at h2
   simp only [Nat.sub_self,Zl6,Option.some.injEq] at h2
   subst h1
   subst h2
   exact hp
 ·rw [Zq378 ds ps d pv hps.1,show (ds++[d]).length=ds.length+1 by simp]
  exact h1.row_grown ho' hgr hv'
end
end Go.Proofs.YtpjchngjhijgmaaGreat
namespace Go.Proofs.YtpjchngjhijgmaaGreat
open Go.RowKit
def doS (S:Str) (k:K4) (d:Dd):Bool × Str :=
 if (Zq32 S).1 then (true,(Zq32 S).2) else
  let S1:=(Zq32 S).2
  let S2:=showS S1 k (wrap64 (sizeO (get k S1.seen))) (stepD (get k S1.seen) d)
  (false,{ S2 with late:=put k (lateAt S2 k++[d]) S2.late,wet:=wrap64 (S2.wet+1),deeds:=wrap64 (S2.deeds+1) })
def offE (b:Bool):Int:=if b then 7 else 0
theorem Zq339 {S:Str} (h:(Zq32 S).1=false):∃ f,(Zq32 S).2={ S with fuse:=f }:=by
 unfold Zq32 at *
 split
 ·rename_i ha
  rw [if_pos ha] at h
  split
  ·exact ⟨_,rfl⟩
  ·rename_i hf
   rw [if_neg hf] at h
   cases h
 ·exact ⟨S.fuse,rfl⟩
section
variable {W w : World} {I : Hp} {l : List HP} {p : Nat} {S : Str}
set_option maxRecDepth 4000
set_option maxHeartbeats 8000000
theorem Zq773 {v:Value} {o:Option TS} (h:St W I w (optHP v o::l)):∃ q,v=.pointer q:=by
 cases o with
 | none=>exact ⟨_,h.pure_open.1⟩
 | some t =>
  obtain ⟨b,m,vb,e,_⟩:=St.thing_open (v:=v) (t:=t) h
  exact ⟨_,e⟩
theorem Zq141 (k:K4) (d:Dd) (pv:Value) (h:St W I w (Zq10 p S::l)) (hp:BytesI I pv d.p) (hd:d.fits) (hkn:S.armed=false) (hf:0≤S.fuse∧S.fuse≤9223372036854775807) (hi:Inv S S.late.length) :
  Calls Tryz.prog 132 #[.pointer (some ⟨p,0,none⟩),k.val,.agg #[.int .i64 d.kind,.int .i64 d.n,pv,.string d.name]] w fun e w'=>∃ I',I.sub I'∧e=.returned (.int .i64 (offE (doS S k d).1))∧St W I' w' (Zq10 p (doS S k d).2::l):=by
 obtain ⟨k0,k1,k2,k3⟩:=k
 unfold K4.val
 have HPV:=Zh hp
 obtain ⟨Ap,cp,rfl,_⟩:=hp
 have h1:=(h.alloc (.cells #[.int .i64 k0,.int .i64 k1,.int .i64 k2,.int .i64 k3] 43)).alloc (.cells #[.int .i64 d.kind,.int .i64 d.n,.slice Ap d.p.length cp,.string d.name] 184)
 rw [show (w.alloc (.cells #[.int .i64 k0,.int .i64 k1,.int .i64 k2,.int .i64 k3] 43)).heap.size=w.heap.size+1 by simp] at h1
 obtain ⟨w1,hw1⟩:∃ w1,(w.alloc (.cells #[.int .i64 k0,.int .i64 k1,.int .i64 k2,.int .i64 k3] 43)).alloc (.cells #[.int .i64 d.kind,.int .i64 d.n,.slice Ap d.p.length cp,.string d.name] 184)=w1:=⟨_,rfl⟩
 rw [hw1] at h1
 have HW1:=Zh hw1
 have hbs:=Zq377 (h1.pull 2 _ rfl) hkn hf (fun _=>hi)
 have HBS:=Zh hbs
 have HI:=Zh hi
 have HD:=Zh hd
 clear h h1 hw1 hbs hi hd
 go_enter Tryz.func132,Tryz.ntmps132
 go_wp2_with fail
 rw [HW1.out]
 refine HBS.out.mono ?_
 clear HBS
 rintro e w2 ⟨I2,hs2,rfl,h2⟩
 have HS2:=Zh hs2
 cases hb:(Zq32 S).1 with
 | true =>
  have H2:=Zh h2
  have HB:=Zh hb
  have HDO:=Zh (show doS S ⟨k0,k1,k2,k3⟩ d=(true,(Zq32 S).2) by simp [doS,hb])
  clear h2 hs2 hb
  go_wp2_with fail
  go_ret
  rw [HDO.out]
  exact ⟨I2,HS2.out,rfl,((H2.out.pull 2 _ rfl).drop.pull 1 _ rfl).drop⟩
 | false =>
  obtain ⟨S1,hS1⟩:∃ S1,(Zq32 S).2=S1:=⟨_,rfl⟩
  obtain ⟨f,hf1⟩:=Zq339 hb
  rw [hS1] at h2 hf1
  have hi1:Inv S1 S1.late.length:=by rw [hf1];exact ⟨HI.out.rise,HI.out.many,HI.out.seen,HI.out.dry,HI.out.late,HI.out.lateN⟩
  obtain ⟨S2,hS2⟩:∃ S2,showS S1 ⟨k0,k1,k2,k3⟩ (wrap64 (sizeO (get ⟨k0,k1,k2,k3⟩ S1.seen))) (stepD (get ⟨k0,k1,k2,k3⟩ S1.seen) d)=S2:=⟨_,rfl⟩
  have hdo:doS S ⟨k0,k1,k2,k3⟩ d=(false,{ S2 with late:=put ⟨k0,k1,k2,k3⟩ (lateAt S2 ⟨k0,k1,k2,k3⟩++[d]) S2.late,wet:=wrap64 (S2.wet+1),deeds:=wrap64 (S2.deeds+1) }):=by
   rw [←hS2,←hS1]
   simp only [doS,hb]
   rfl
  have HS2':=Zh hS2
  have HDO:=Zh hdo
  have HB:=Zh hb
  have HI1:=Zh hi1
  obtain ⟨B,h3⟩:=h2.store_open
  have c5:=h3.blk 5
  have hxk:=(h3.pull 7 _ rfl).heap
  have x0:=Zq1 hxk 0
  have x1:=Zq1 hxk 1
  have x2:=Zq1 hxk 2
  have x3:=Zq1 hxk 3
  simp [storeCells] at c5 x0 x1 x2 x3
  obtain ⟨v,X,hlk,h4,hX⟩:=(h3.drew.pull 1 _ rfl).look_spot ⟨k0,k1,k2,k3⟩
  have hlk0:=hlk _ (Below.refl _ _)
  simp only [keyKT,K4.val] at hlk0
  obtain ⟨q,rfl⟩:=Zq773 h4
  have H4:=Zh h4
  have HX:=Zh hX
  clear h2 h3 h4 hX hlk hxk hs2 hb hi1 hS1 hdo hS2 hf1
  go_wp2_with fail
  refine Zq11 [] [0,1,2,3,4,5,6] [] (by kernel_rfl) (by kernel_rfl) ?_
  simp only [pickL,Zl6,Zl7]
  repeat (refine Zq13 _ (Or.inl ⟨by rfl,by intro w;go_simp;try with_reducible rfl⟩) ?_;(try simp only [Act.put,List.setIfInBounds_toArray,Zl4,Zl5]))
  refine Zq15 ?_
  repeat still_step
  refine wpStill_nil ?_
  go_wp2_with fail
  refine NoPanic.normal ?_
  clear hlk0 c5 x0 x1 x2 x3
  go_wp2_with fail
  have hi1:=HI1.out
  have hsm:=Zq140 hi1.seen ⟨k0,k1,k2,k3⟩
  refine (Zq265 H4.out hsm).mono ?_
  rintro e w5 ⟨rfl,h5⟩
  have hxk:=(h5.pull 8 _ rfl).heap
  have x0:=Zq1 hxk 0
  have x1:=Zq1 hxk 1
  have x2:=Zq1 hxk 2
  have x3:=Zq1 hxk 3
  have hyk:=(h5.pull 7 _ rfl).heap
  have y0:=Zq1 hyk 0
  have y1:=Zq1 hyk 1
  have y2:=Zq1 hyk 2
  have y3:=Zq1 hyk 3
  simp at x0 x1 x2 x3 y0 y1 y2 y3
  have HSM:=Zh hsm
  have H5:=Zh h5
  clear hxk hyk hi1 hsm h5 H4
  go_wp2_with fail
  refine Zq8 (fun w'=>w'.cell? ⟨w.heap.size,0,none⟩=some (.int .i64 k0)∧w'.cell? ⟨w.heap.size,1,none⟩=some (.int .i64 k1)∧w'.cell? ⟨w.heap.size,2,none⟩=some (.int .i64 k2)∧w'.cell? ⟨w.heap.size,3,none⟩=some (.int .i64 k3)∧w'.cell? ⟨w.heap.size+1,0,none⟩=some (.int .i64 d.kind)∧w'.cell? ⟨w.heap.size+1,1,none⟩=some (.int .i64 d.n)∧w'.cell? ⟨w.heap.size+1,2,none⟩=some (.slice Ap d.p.length cp)∧w'.cell? ⟨w.heap.size+1,3,none⟩=some (.string d.name)) [0,1,2,3,4] [5] [6] (by kernel_rfl) (by kernel_rfl) (by (exact ⟨x0,x1,x2,x3,y0,y1,y2,y3⟩)) ?_
  simp only [pickL,Zl6,Zl7]
  repeat (refine Zq5 _ (Or.inl ⟨by rfl,by (intro w hSw;(try dsimp only at hSw);go_simp;try with_reducible rfl)⟩) ?_;(try simp only [Act.put,List.setIfInBounds_toArray,Zl4,Zl5]))
  refine Zq9 ?_
  unfold Zq16
  go_wp2_with fail
  refine (Zq482 (.slice Ap d.p.length cp) d HD.out HSM.out H5.out.drew ((Zq103 _ _).mono HS2.out HPV.out)).mono ?_
  rintro e w6 ⟨I6,v6,hs6,rfl,h6⟩
  have h6:St W I6 w6 (optHP v6 (stepD (get ⟨k0,k1,k2,k3⟩ S1.seen) d)::X::Zq6 p S1 B::dryHP B S1::Zq25 B S1::keyHP B S1::HP.imm (Zq132 B.vk S1.keep)::HP.pt (w.heap.size+1) (.cells #[.int .i64 d.kind,.int .i64 d.n,.slice Ap d.p.length cp,.string d.name] 184)::HP.pt w.heap.size (.cells #[.int .i64 k0,.int .i64 k1,.int .i64 k2,.int .i64 k3] 43)::l):=h6
  obtain ⟨q6,rfl⟩:=Zq773 h6
  have hxk:=(h6.pull 8 _ rfl).heap
  have x0':=Zq1 hxk 0
  have x1':=Zq1 hxk 1
  have x2':=Zq1 hxk 2
  have x3':=Zq1 hxk 3
  have hyk:=(h6.pull 7 _ rfl).heap
  have y0':=Zq1 hyk 0
  have y1':=Zq1 hyk 1
  have y2':=Zq1 hyk 2
  have y3':=Zq1 hyk 3
  simp at x0' x1' x2' x3' y0' y1' y2' y3'
  have hcall:=Zq772 (Zq202 HSM.out HD.out) ⟨k0,k1,k2,k3⟩ HX.out (wrap64 (sizeO (get ⟨k0,k1,k2,k3⟩ S1.seen))) (h6.perm (m:=Zq6 p S1 B::X::dryHP B S1::Zq25 B S1::keyHP B S1::optHP (.pointer q6) (stepD (get ⟨k0,k1,k2,k3⟩ S1.seen) d)::HP.imm (Zq132 B.vk S1.keep)::HP.pt (w.heap.size+1) (.cells #[.int .i64 d.kind,.int .i64 d.n,.slice Ap d.p.length cp,.string d.name] 184)::HP.pt w.heap.size (.cells #[.int .i64 k0,.int .i64 k1,.int .i64 k2,.int .i64 k3] 43)::l) (by ((try simp only [Zl0,Zl1,Zl2,Zl3]);repeat (first|with_reducible exact List.Perm.refl _|(apply Zq4;(· repeat (first|with_reducible exact Zq3|with_reducible apply Zq2))))))) (HI1.out.rise _) (by have:=HI1.out.many (⟨k0,k1⟩:G2);exact Nat.le_trans (Nat.le_add_right _ _) this)
  rw [HS2'.out] at hcall
  simp only [K4.val] at hcall
  have HCALL:=Zh hcall
  have HS6:=Zh hs6
  clear h6 hxk hyk hcall hs6 x0 x1 x2 x3 y0 y1 y2 y3
  go_wp2_with fail
  refine Zq0 ⟨x0',x1',x2',x3',y0',y1',y2',y3'⟩ ?_
  unfold Zq16
  go_wp2_with fail
  refine HCALL.out.mono ?_
  rintro e w7 ⟨rfl,h7⟩
  have H7:=Zh h7
  clear h7 HCALL x0' x1' x2' x3' y0' y1' y2' y3'
  go_wp2_with fail
  refine NoPanic.normal ?_
  have h7:=H7.out
  have c7:=h7.blk 7
  have hxk:=(h7.pull 7 _ rfl).heap
  have x0:=Zq1 hxk 0
  have x1:=Zq1 hxk 1
  have x2:=Zq1 hxk 2
  have x3:=Zq1 hxk 3
  have hyk:=(h7.pull 6 _ rfl).heap
  have y0:=Zq1 hyk 0
  have y1:=Zq1 hyk 1
  have y2:=Zq1 hyk 2
  have y3:=Zq1 hyk 3
  simp [storeCells] at c7 x0 x1 x2 x3 y0 y1 y2 y3
  clear h7 hxk hyk
  go_wp2_with fail
  refine Zq239 (fun w'=>w'.cell? ⟨p,7,none⟩=some (.map (some B.m3))∧w'.cell? ⟨w.heap.size,0,none⟩=some (.int .i64 k0)∧w'.cell? ⟨w.heap.size,1,none⟩=some (.int .i64 k1)∧w'.cell? ⟨w.heap.size,2,none⟩=some (.int .i64 k2)∧w'.cell? ⟨w.heap.size,3,none⟩=some (.int .i64 k3)∧w'.cell? ⟨w.heap.size+1,0,none⟩=some (.int .i64 d.kind)∧w'.cell? ⟨w.heap.size+1,1,none⟩=some (.int .i64 d.n)∧w'.cell? ⟨w.heap.size+1,2,none⟩=some (.slice Ap d.p.length cp)∧w'.cell? ⟨w.heap.size+1,3,none⟩=some (.string d.name)) [0,1,2,3,4,5] [6] [7] [8,10] [9,11] (by kernel_rfl) (by kernel_rfl) (by (exact ⟨c7,x0,x1,x2,x3,y0,y1,y2,y3⟩)) ?_
  simp only [pickL,Zl6,Zl7]
  repeat (refine Zq5 _ (Or.inl ⟨by rfl,by (intro w hSw;(try dsimp only at hSw);go_simp;try with_reducible rfl)⟩) ?_;(try simp only [Act.put,List.setIfInBounds_toArray,Zl4,Zl5]))
  refine Zq9 ?_
  unfold Zq16
  go_wp2_with fail
  clear c7 x0 x1 x2 x3 y0 y1 y2 y3
  have h8:=(H7.out.alloc (.cells #[.int .i64 d.kind,.int .i64 d.n,.slice Ap d.p.length cp,.string d.name] 184)).drew
  obtain ⟨w8,hw8⟩:∃ w8,(w7.alloc (.cells #[.int .i64 d.kind,.int .i64 d.n,.slice Ap d.p.length cp,.string d.name] 184)).drew=w8:=⟨_,rfl⟩
  rw [hw8] at h8 ⊢
  clear hw8
  have c7:=(h8.pull 1 _ rfl).blk 7
  have hxk:=(h8.pull 8 _ rfl).heap
  have x0:=Zq1 hxk 0
  have x1:=Zq1 hxk 1
  have x2:=Zq1 hxk 2
  have x3:=Zq1 hxk 3
  have hyk:=(h8.pull 7 _ rfl).heap
  have y0:=Zq1 hyk 0
  have y1:=Zq1 hyk 1
  have y2:=Zq1 hyk 2
  have y3:=Zq1 hyk 3
  simp [storeCells] at c7 x0 x1 x2 x3 y0 y1 y2 y3
  refine Zq0 ⟨c7,x0,x1,x2,x3,y0,y1,y2,y3⟩ ?_
  unfold Zq16
  obtain ⟨st,v9,w9,hr9,hs9,h9⟩:=Zq616 ⟨k0,k1,k2,k3⟩ (h8.pull 4 _ rfl)
  simp only [keyKT,K4.val,goInt] at hr9
  obtain ⟨ps9,_,h9r⟩:=h9.deeds_open
  obtain ⟨A9,c9,rfl⟩:=Zq17 h9r.row_owns
  have hi1:=HI1.out
  have hln:(lateAt S2 ⟨k0,k1,k2,k3⟩).length≤1000000:=by
   rw [←HS2'.out]
   exact Nat.le_trans (hi1.lateAt ⟨k0,k1,k2,k3⟩).1 (by omega)
  obtain ⟨v10,w10,hr10,h10⟩:=Zq445 d (.slice Ap d.p.length cp) 142 (h9.perm (m:=Zq39 _ (lateAt S2 ⟨k0,k1,k2,k3⟩)::HP.pt w7.heap.size (.cells #[.int .i64 d.kind,.int .i64 d.n,.slice Ap d.p.length cp,.string d.name] 184)::HP.held keyKT Zq39 B.m3 ⟨k0,k1,k2,k3⟩ _ st (del ⟨k0,k1,k2,k3⟩ S2.late)::Zq6 p S2 B::Zq70 B S2::dryHP B S2::keyHP B S2::HP.imm (Zq132 B.vk S1.keep)::HP.pt (w.heap.size+1) (.cells #[.int .i64 d.kind,.int .i64 d.n,.slice Ap d.p.length cp,.string d.name] 184)::HP.pt w.heap.size (.cells #[.int .i64 k0,.int .i64 k1,.int .i64 k2,.int .i64 k3] 43)::l) (by ((try simp only [Zl0,Zl1,Zl2,Zl3]);repeat (first|with_reducible exact List.Perm.refl _|(apply Zq4;(· repeat (first|with_reducible exact Zq3|with_reducible apply Zq2))))))) ((Zq103 _ _).mono (HS2.out.trans HS6.out) HPV.out) hln rfl
  obtain ⟨ps10,_,h10r⟩:=h10.deeds_open
  obtain ⟨A10,c10,rfl⟩:=Zq17 h10r.row_owns
  obtain ⟨w11,hr11,hs11,h11⟩:=St.held_put (h10.perm (m:=Zq39 _ (lateAt S2 ⟨k0,k1,k2,k3⟩++[d])::HP.held keyKT Zq39 B.m3 ⟨k0,k1,k2,k3⟩ _ st (del ⟨k0,k1,k2,k3⟩ S2.late)::HP.pt w7.heap.size (.cells #[intV d.kind,intV d.n,.slice Ap d.p.length cp,.string d.name] 184)::Zq6 p S2 B::Zq70 B S2::dryHP B S2::keyHP B S2::HP.imm (Zq132 B.vk S1.keep)::HP.pt (w.heap.size+1) (.cells #[.int .i64 d.kind,.int .i64 d.n,.slice Ap d.p.length cp,.string d.name] 184)::HP.pt w.heap.size (.cells #[.int .i64 k0,.int .i64 k1,.int .i64 k2,.int .i64 k3] 43)::l) (by ((try simp only [Zl0,Zl1,Zl2,Zl3]);repeat (first|with_reducible exact List.Perm.refl _|(apply Zq4;(· repeat (first|with_reducible exact Zq3|with_reducible apply Zq2))))))) Tryz.underlying113
  simp only [goInt,List.length_append,List.length_cons,List.length_nil,Nat.zero_add] at hr11
  have HR10:=Zh hr10
  have HR11:=Zh hr11
  have H11:=Zh h11
  clear hxk hyk h8 h9 h9r h10 h10r h11 hr10 hr11 hi1 hln hs9 hs11 c7 x0 x1 x2 x3 y0 y1 y2 y3
  unfold Zq16
  go_wp2_with fail
  refine Zq0 (S:=fun _=>True) trivial ?_
  unfold Zq16
  clear hr9
  repeat (refine Zq13 _ (Or.inl ⟨by rfl,by intro w;go_simp;try with_reducible rfl⟩) ?_;(try simp only [Act.put,List.setIfInBounds_toArray,Zl4,Zl5]))
  refine Zq15 ?_
  go_wp2_with (at_builtin;refine Lib.wpList_append_run _ rfl (.tmp 31) (.tmp 33) 142 142 rfl _ _ rfl rfl _ _ HR10.out ?_;have hr11:=HR11.out)
  refine NoPanic.normal ?_
  have h11:=H11.out
  have c3:=(h11.pull 2 _ rfl).blk 3
  have c2:=(h11.pull 2 _ rfl).blk 2
  have f3:=frozen_of_row (h11.pull 2 _ rfl).heap 3
  have f2:=frozen_of_row (h11.pull 2 _ rfl).heap 2
  simp [storeCells] at c3 c2
  clear h11
  go_wp2_with fail
  go_ret
  have h12:St W I6 _ (Zq6 p { S2 with late:=put ⟨k0,k1,k2,k3⟩ (lateAt S2 ⟨k0,k1,k2,k3⟩++[d]) S2.late,wet:=wrap64 (S2.wet+1),deeds:=wrap64 (S2.deeds+1) } B::_):=((H11.out.pull 2 _ rfl).setCell 3 (.int .i64 (wrap64 (S2.wet+1)))).setCell 2 (.int .i64 (wrap64 (S2.deeds+1)))
  have hk2:S2.keep=S1.keep:=by rw [←HS2'.out];rfl
  rw [HDO.out]
  refine ⟨I6,HS2.out.trans HS6.out,rfl,St.store_shut (B:=B) ?_⟩
  rw [show ({ S2 with late:=put ⟨k0,k1,k2,k3⟩ (lateAt S2 ⟨k0,k1,k2,k3⟩++[d]) S2.late,wet:=wrap64 (S2.wet+1),deeds:=wrap64 (S2.deeds+1) }:Str).keep=S1.keep from hk2]
  exact (((((h12.pull 2 _ rfl).drop.pull 6 _ rfl).drop).pull 6 _ rfl).drop).perm (m:=Zq6 p { S2 with late:=put ⟨k0,k1,k2,k3⟩ (lateAt S2 ⟨k0,k1,k2,k3⟩++[d]) S2.late,wet:=wrap64 (S2.wet+1),deeds:=wrap64 (S2.deeds+1) } B::Zq70 B S2::dryHP B S2::HP.mapOf keyKT Zq39 B.m3 ((⟨k0,k1,k2,k3⟩,lateAt S2 ⟨k0,k1,k2,k3⟩++[d])::del ⟨k0,k1,k2,k3⟩ S2.late)::keyHP B S2::HP.imm (Zq132 B.vk S1.keep)::l) (by ((try simp only [Zl0,Zl1,Zl2,Zl3]);repeat (first|with_reducible exact List.Perm.refl _|(apply Zq4;(· repeat (first|with_reducible exact Zq3|with_reducible apply Zq2))))))
end
end Go.Proofs.YtpjchngjhijgmaaGreat
