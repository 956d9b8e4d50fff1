import Derived.Test.YtpjchngjhijgmaaGreatJM30
set_option linter.all false
namespace Go.Proofs.YtpjchngjhijgmaaGreat
open Go.RowKit
theorem Zq658 {α:Type} {mk:α→List Value} {k:Nat} (hk:∀ a,(mk a).length=k):∀ (l:List α) (i j:Nat) (a a':α) (v:Value),l[i]?=some a→j<k→mk a'=(mk a).set j v→(l.flatMap mk).set (i*k+j) v=(l.set i a').flatMap mk
 | [],i,j,a,a',v,h,_,_=>by simp at h
 | b::l,0,j,a,a',v,h,hj,e=>by
  simp only [Zl6,Option.some.injEq] at h
  subst h
  rw [List.flatMap_cons,Nat.zero_mul,Nat.zero_add,List.set_append_left _ _ (by rw [hk];exact hj),Zl4,List.flatMap_cons,e]
 | b::l,i+1,j,a,a',v,h,hj,e=>by
  rw [List.flatMap_cons,List.set_append_right _ _ (by rw [hk,Nat.add_mul];omega),hk,show (i+1)*k+j - k=i*k+j by rw [Nat.add_mul];omega,Zl5,List.flatMap_cons,Zq658 hk l i j a a' v (by simpa using h) hj e]
section
variable {W w : World} {I : Hp} {l : List HP}
theorem St.row_set {α:Type} {mk:α→List Value} {k g c:Nat} {e:TypeId} {zs:List α} (h:St W I w (HP.row e k (.slice (some ⟨g,0,none⟩) zs.length c) zs.length (zs.flatMap mk)::l)) (hk:∀ a,(mk a).length=k) {i j:Nat} {a a':α} {v:Value} (ha:zs[i]?=some a) (hj:j<k) (he:mk a'=(mk a).set j v) :
  St W I (w.setCell ⟨g,i*k+j,none⟩ v) (HP.row e k (.slice (some ⟨g,0,none⟩) zs.length c) zs.length ((zs.set i a').flatMap mk)::l)∧(∀ x,w.frozen? ⟨g,x,none⟩=false)∧g<w.heap.size:=by
 have hil:=(List.getElem?_eq_some_iff.1 ha).1
 obtain ⟨hl,p⟩:=h.row_open
 rcases p with ⟨_,e2,_⟩|⟨g',cap,cur,e1,p3,p4,p5,p6,s⟩
 ·omega
 ·simp only [Value.slice.injEq,Option.some.injEq,Addr.mk.injEq,true_and,and_true] at e1
  obtain ⟨rfl,rfl⟩:=e1
  refine ⟨(s.setCell (i*k+j) v).row_shut (by rw [Zq205 hk,List.length_set]) p3 p4 (by simpa using p5) ?_,frozen_of_row s.heap,s.lt⟩
  rw [←Zq658 hk zs i j a a' v ha hj he,←p6,←List.take_set]
  simp
theorem St.rowk_cells {α:Type} {mk:α→List Value} {k c:Nat} {A:Option Addr} {e:TypeId} {zs:List α} (h:St W I w (HP.row e k (.slice A zs.length c) zs.length (zs.flatMap mk)::l)) (hk:∀ a,(mk a).length=k) {i:Nat} {a:α} (ha:zs[i]?=some a) :
  ∃ g,A=some ⟨g,0,none⟩∧∀ j,j<k→w.cell? ⟨g,i*k+j,none⟩=(mk a)[j]?:=by
 have hil:=(List.getElem?_eq_some_iff.1 ha).1
 obtain ⟨hl,p⟩:=h.row_open
 rcases p with ⟨_,e2,_⟩|⟨g,cap,cur,e1,p3,p4,p5,p6,s⟩
 ·omega
 ·simp only [Value.slice.injEq,true_and] at e1
  obtain ⟨rfl,rfl⟩:=e1
  refine ⟨g,rfl,fun j hj=>?_⟩
  rw [Zq1 s.heap]
  have h7:=Zq93 (mk:=mk) (k:=k) hk zs i j a ha hj
  rw [←h7,←p6,List.getElem?_take,if_pos,←Array.getElem?_toList]
  have h8:=Zq205 hk zs
  have h9:i*k+j<zs.length*k:=by
   have:=Nat.mul_le_mul_right k (show i+1≤zs.length by omega)
   rw [Nat.add_mul,Nat.one_mul] at this
   omega
  exact h9
def Zq236 (e:Int) (c:Cl):Cl:={ c with pos:=min c.pos e }
theorem Zq739 (r:Rc) (e:Int):Zq102 r e=⟨r.shape,r.first,r.set,Zq36 r.tags e,r.cls.map (Zq236 e)⟩:=rfl
theorem Zq659 {cs:List Cl} {e:Int} {i:Nat} {c:Cl} (h:cs[i]?=some c):((cs.take i).map (Zq236 e)++cs.drop i).set i (Zq236 e c)=(cs.take (i+1)).map (Zq236 e)++cs.drop (i+1):=by
 have hil:=(List.getElem?_eq_some_iff.1 h).1
 have hl:((cs.take i).map (Zq236 e)).length=i:=by rw [List.length_map,List.length_take];omega
 rw [List.set_append_right _ _ (by omega),hl,Nat.sub_self,List.drop_eq_getElem_cons hil,Zl4,List.take_add_one,h,List.map_append,List.append_assoc]
 rfl
set_option maxRecDepth 4000
set_option maxHeartbeats 4000000
theorem Zq558 (r:Rc) (vt vc:Value) (en:Int) (h:St W I w l) (hI:recI I r vt vc) (ht:r.tags.length≤1000000) (hc:r.cls.length≤1000000) :
  Calls Tryz.prog 147 #[.agg (r.cells vt vc),.int .i64 en] w fun x w'=>∃ I' vt' vc',I.sub I'∧x=.returned (.agg ((Zq102 r en).cells vt' vc'))∧recI I' (Zq102 r en) vt' vc'∧St W I' w' l:=by
 obtain ⟨At,ct,rfl,hnt,hat⟩:=Zq152 h hI.1
 have hI2:=hI.2
 obtain ⟨Ac,cc,rfl,_⟩:=hI.2
 have h2:=(h.alloc (.cells (r.cells (.slice At r.tags.length ct) (.slice Ac r.cls.length cc)) 105)).alloc (.cells #[.int .i64 0,.int .i64 0,.int .i64 0,.int .i64 0,.int .i64 0,.slice none 0 0,.slice none 0 0] 105)
 simp only [Rc.cells] at h2 ⊢
 rw [Zq739]
 have b2:=((Below.refl w.heap.size w).alloc (Nat.le_refl _) (.cells #[.int .i64 r.shape.splay,.int .i64 r.shape.sets,.int .i64 r.shape.size,.int .i64 r.first,.int .i64 r.set,.slice At r.tags.length ct,.slice Ac r.cls.length cc] 105))
 have hcut:=fun w1 (hb:Below w.heap.size w w1)=>Zq503 At r.tags.length ct r.tags en w1 (hat.below hb (Nat.le_refl _)) ht hnt
 have HCUT:=Zh hcut
 have HI2:=Zh hI2
 have HC:=Zh hc
 have H2:=Zh h2
 have H:=Zh h
 obtain ⟨nt,hnn⟩:∃ x,x=r.tags.length:=⟨_,rfl⟩
 obtain ⟨nc,hnc⟩:∃ x,x=r.cls.length:=⟨_,rfl⟩
 rw [←hnn] at HCUT H2
 rw [←hnc] at H2
 rw [←hnn,←hnc]
 have HNC:=Zh hnc
 clear h h2 hcut hI hI2 ht hc b2 hat hnt hnn hnc
 go_enter Tryz.func147,Tryz.ntmps147
 go_upto_region 1 with fail
 have h2:=H2.out.pull 1 _ rfl
 obtain ⟨g,hg⟩:∃ x,x=w.heap.size:=⟨_,rfl⟩
 have hg1:(w.alloc (.cells #[.int .i64 r.shape.splay,.int .i64 r.shape.sets,.int .i64 r.shape.size,.int .i64 r.first,.int .i64 r.set,.slice At nt ct,.slice Ac nc cc] 105)).heap.size=w.heap.size+1:=by simp
 rw [hg1] at h2
 have HCUT2:=Zh (HCUT.out _ (((Below.refl w.heap.size w).alloc (Nat.le_refl _) (.cells #[.int .i64 r.shape.splay,.int .i64 r.shape.sets,.int .i64 r.shape.size,.int .i64 r.first,.int .i64 r.set,.slice At nt ct,.slice Ac nc cc] 105)).alloc (by simp) (.cells #[.int .i64 0,.int .i64 0,.int .i64 0,.int .i64 0,.int .i64 0,.slice none 0 0,.slice none 0 0] 105)))
 rw [←hg] at h2 ⊢
 generalize (World.alloc (World.alloc _ _) _:World)=w2 at h2 HCUT2 ⊢
 clear HCUT H2 hg1 hg
 obtain ⟨x0,x1,x2,x3,x4,x5,x6⟩:=Zq105 h2
 have fr:=frozen_of_row h2.heap
 have lg:=h2.lt
 have H2:=Zh h2
 clear h2
 go_wp2_with fail
 refine HCUT2.out.mono ?_
 rintro e w3 ⟨v3,rfl,ho3,hb3⟩
 obtain ⟨A3,c3,rfl⟩:=Zq17 ho3
 obtain ⟨I3,s3,hR3,h3⟩:=(H2.out.row_fresh hb3 ho3).freeze_row
 clear x0 x1 x2 x3 x4 x5 x6 fr lg ho3 hb3 HCUT2 H2
 obtain ⟨x0,x1,x2,x3,x4,x5,x6⟩:=Zq105 h3
 have fr:=frozen_of_row h3.heap
 have lg:=h3.lt
 have h4:=h3.setCell 5 (.slice A3 (Zq36 r.tags en).length c3)
 simp only [List.setIfInBounds_toArray,Zl4,Zl5] at h4
 have hcl:=Zq305 (.slice Ac nc cc) r.cls.length (r.cls.flatMap Cl.vals) (w3.setCell ⟨g,5,none⟩ (.slice A3 (Zq36 r.tags en).length c3)) (by have:=(HI2.out.mono s3).src h4.imm (Zq778 _) (by omega);rw [←HNC.out] at this ⊢;exact this) HC.out
 have H4:=Zh h4
 have HCL:=Zh hcl
 have HR3:=Zh hR3
 have S3:=Zh s3
 clear h3 h4 hcl hR3 s3
 go_wp2_with fail
 refine HCL.out.mono ?_
 rintro e w5 ⟨v5,rfl,ho5,hb5⟩
 obtain ⟨A5,c5,rfl⟩:=Zq17 ho5
 have h5:=(H4.out.row_fresh hb5 ho5).pull 1 _ rfl
 clear x0 x1 x2 x3 x4 x5 x6 fr lg ho5 hb5 HCL H4
 obtain ⟨x0,x1,x2,x3,x4,x5,x6⟩:=Zq105 h5
 have fr:=frozen_of_row h5.heap
 have lg:=h5.lt
 have h6:=h5.setCell 6 (.slice A5 r.cls.length c5)
 simp only [List.setIfInBounds_toArray,Zl4,Zl5] at h6
 rw [←HNC.out] at h6 ⊢
 have H6:=Zh h6
 clear h5 h6
 go_wp2_with fail
 have h6:=H6.out
 generalize (World.setCell _ _ _:World)=w6 at h6 ⊢
 have hcn:=HC.out
 rw [←HNC.out] at hcn
 clear x0 x1 x2 x3 x4 x5 x6 fr lg H6
 obtain ⟨x0,x1,x2,x3,x4,x5,x6⟩:=Zq105 h6
 have lg:=h6.lt
 have H6:=Zh h6
 clear h6
 go_wp2_with fail
 go_loopw [19] (fun a19 wr=>∃ i:Nat,a19=.int .i64 i∧i≤nc∧St W I3 wr (HP.pt g (.cells #[.int .i64 r.shape.splay,.int .i64 r.shape.sets,.int .i64 r.shape.size,.int .i64 r.first,.int .i64 r.set,.slice A3 (Zq36 r.tags en).length c3,.slice A5 nc c5] 105)::HP.row 212 3 (.slice A5 nc c5) nc (((r.cls.take i).map (Zq236 en)++r.cls.drop i).flatMap Cl.vals)::HP.pt (g+1) (.cells #[.int .i64 0,.int .i64 0,.int .i64 0,.int .i64 0,.int .i64 0,.slice none 0 0,.slice none 0 0] 105)::l)) (fun a19 _=>nc - (intOf a19).toNat)
 case atStart=>exact ⟨0,rfl,Nat.zero_le _,by rw [List.take_zero,List.map_nil,Zl3,List.drop_zero];exact H6.out⟩
 case round =>
  obtain ⟨i,rfl,hi,hst⟩:=hrel
  clear x0 x1 x2 x3 x4 x5 x6 lg H6
  by_cases hlt:i<nc
  ·have hlt2:(i:Int)<(nc:Int):=by omega
   obtain ⟨c,hc⟩:∃ c,r.cls[i]?=some c:=⟨_,List.getElem?_eq_getElem (by rw [←HNC.out];exact hlt)⟩
   obtain ⟨zs,hzs⟩:∃ x,x=(r.cls.take i).map (Zq236 en)++r.cls.drop i:=⟨_,rfl⟩
   have hzl:zs.length=nc:=by rw [hzs,List.length_append,List.length_map,←List.length_append,List.take_append_drop,HNC.out]
   have hz:zs[i]?=some c:=by
    have hl:((r.cls.take i).map (Zq236 en)).length=i:=by rw [List.length_map,List.length_take,←HNC.out];omega
    rw [hzs,List.getElem?_append_right (by omega),hl,Nat.sub_self,List.getElem?_drop,Nat.add_zero,hc]
   have hnx:=Zq659 (e:=en) hc
   rw [←hzs] at hst hnx
   have hst2:St W I3 wr (HP.row 212 3 (.slice A5 zs.length c5) zs.length (zs.flatMap Cl.vals)::HP.pt g (.cells #[.int .i64 r.shape.splay,.int .i64 r.shape.sets,.int .i64 r.shape.size,.int .i64 r.first,.int .i64 r.set,.slice A3 (Zq36 r.tags en).length c3,.slice A5 nc c5] 105)::HP.pt (g+1) (.cells #[.int .i64 0,.int .i64 0,.int .i64 0,.int .i64 0,.int .i64 0,.slice none 0 0,.slice none 0 0] 105)::l):=by
    rw [hzl];exact hst.pull 1 _ rfl
   obtain ⟨g5,rfl,hcc⟩:=hst2.rowk_cells (fun _=>rfl) hz
   have y0:=hcc 0 (by omega)
   have y1:=hcc 1 (by omega)
   have y2:=hcc 2 (by omega)
   obtain ⟨h7,f5,l5⟩:=hst2.row_set (mk:=Cl.vals) (fun _=>rfl) (j:=1) (a':=Zq236 en c) (v:=.int .i64 (min c.pos en)) hz (by omega) rfl
   have f5:=f5 (i*3+1)
   rw [hnx,hzl] at h7
   have x6:=(Zq105 hst).2.2.2.2.2.2
   have lg:=hst.lt
   obtain ⟨cid,cpos,coff⟩:=c
   simp only [Cl.vals,Zl6,Zl7,Nat.add_zero] at y0 y1 y2
   simp only at h7
   have H7:=Zh ((h7.pull 1 _ rfl).keep (Zq7 _ (.cells #[.int .i64 cid,.int .i64 cpos,.bool coff] 212)))
   clear hst hst2 hcc h7 hz hzs hzl hnx hc
   go_wp2_with fail
   go_roundw
   case rel=>exact ⟨i+1,by go_num,by omega,H7.out⟩
   case measure=>simp [intOf];omega
  ·obtain rfl:i=nc:=by omega
   have hlt2:¬ (i:Int)<(i:Int):=by omega
   rw [List.take_of_length_le (by rw [←HNC.out];exact Nat.le_refl _),List.drop_of_length_le (by rw [←HNC.out];exact Nat.le_refl _),List.append_nil] at hst
   obtain ⟨y0,y1,y2,y3,y4,y5,y6⟩:=Zq105 hst
   obtain ⟨z0,z1,z2,z3,z4,z5,z6⟩:=Zq105 (hst.pull 2 _ rfl)
   have lg:=hst.lt
   have lg2:=(hst.pull 2 _ rfl).lt
   have fr:=frozen_of_row (hst.pull 2 _ rfl).heap
   have h8:=((hst.pull 2 _ rfl).set7 (.int .i64 r.shape.splay) (.int .i64 r.shape.sets) (.int .i64 r.shape.size) (.int .i64 r.first) (.int .i64 r.set) (.slice A3 (Zq36 r.tags en).length c3) (.slice A5 i c5))
   have H8:=Zh h8
   clear hst h8
   go_wp2_with fail
   have h8:=H8.out
   generalize (World.setCell _ _ _:World)=w8 at h8 ⊢
   clear y0 y1 y2 y3 y4 y5 y6 z0 z1 z2 z3 z4 z5 z6 fr lg lg2 H8
   obtain ⟨y0,y1,y2,y3,y4,y5,y6⟩:=Zq105 h8
   obtain ⟨I9,s9,hR9,h9⟩:=(h8.drop.pull 1 _ rfl).freeze_row
   have HR9:=Zh hR9
   have H9:=Zh h9.drop
   have S9:=Zh s9
   clear h8 hR9 h9 s9
   refine bodyPost_ret (v:=.agg #[.int .i64 r.shape.splay,.int .i64 r.shape.sets,.int .i64 r.shape.size,.int .i64 r.first,.int .i64 r.set,.slice A3 (Zq36 r.tags en).length c3,.slice A5 i c5]) (by simp [results,Tryz.results147,go_sem,y0,y1,y2,y3,y4,y5,y6]) rfl ?_
   refine ⟨I9,S3.out.trans S9.out,.slice A3 (Zq36 r.tags en).length c3,.slice A5 i c5,rfl,⟨HR3.out.mono S9.out,?_⟩,H9.out⟩
   show RowI I9 3 (.slice A5 i c5) (r.cls.map (Zq236 en)).length ((r.cls.map (Zq236 en)).flatMap Cl.vals)
   rw [List.length_map,←HNC.out]
   exact HR9.out
end
end Go.Proofs.YtpjchngjhijgmaaGreat
namespace Go.Proofs.YtpjchngjhijgmaaGreat
open Go.RowKit
theorem Zq460 (l:List Tag) (e:Int):Zq36 l e=l.take (Zq36 l e).length:=List.prefix_iff_eq_take.1 (List.takeWhile_prefix _)
theorem Zq172 {l:List Tag} {n:Nat} (h:Zq98 l l.length=true) (hn:n≤l.length):Zq98 l n=true:=by
 cases hh:Zq98 l n with
 | true=>rfl
 | false =>
  have:=Zq223 hh (l.length - n)
  rw [show n+(l.length - n)=l.length by omega,h] at this
  cases this
theorem Zq307 {l:List Tag} {n:Nat}:∀ k,k≤n→Zq98 (l.take n) k=Zq98 l k
 | 0,_=>rfl
 | k+1,h=>by
  unfold Zq98
  rw [Zq307 k (by omega),List.getElem?_take_of_lt (by omega),List.take_take,Nat.min_eq_left (by omega)]
theorem Zq308 {l:List Tag} (h:Zq43 l=true):∃ t ts,l=t::ts∧t.at_=0:=by
 have hl:=Zq154 h
 match l,hl with
 | t::ts,_ =>
  refine ⟨t,ts,rfl,?_⟩
  unfold Zq43 at h
  simp only [Bool.and_eq_true] at h
  have h1:=Zq172 h.2 (show 1≤(t::ts).length by simp)
  have h2:tagOk t []=true:=by simpa [Zq98] using h1
  unfold tagOk at h2
  simp only [Bool.and_eq_true,decide_eq_true_eq] at h2
  have h3:=h2.2
  unfold Zq89 at h3
  by_cases q:t.at_=0
  ·exact q
  ·exact absurd ⟨rfl,q⟩ h3.1
theorem Zq660 {l:List Tag} {e:Int} (h:Zq43 l=true) (he:0≤e):Zq43 (Zq36 l e)=true:=by
 obtain ⟨t,ts,hl,h0⟩:=Zq308 h
 have hlen:=Zq154 h
 have hle:(Zq36 l e).length≤l.length:=(List.takeWhile_prefix _).length_le
 have hne:1≤(Zq36 l e).length:=by
  rw [hl]
  unfold Zq36
  rw [List.takeWhile_cons,if_pos (by rw [decide_eq_true_eq];omega)]
  simp
 have hok:Zq98 l l.length=true:=by
  unfold Zq43 at h
  simp only [Bool.and_eq_true] at h
  exact h.2
 obtain ⟨n,hn⟩:∃ n,(Zq36 l e).length=n:=⟨_,rfl⟩
 have hct:=Zq460 l e
 rw [hn] at hct hle hne
 unfold Zq43
 rw [Bool.and_eq_true]
 refine ⟨by rw [decide_eq_true_eq,hn];omega,?_⟩
 rw [hn,hct,Zq307 n (Nat.le_refl _)]
 exact Zq172 hok hle
theorem Zq309 {e:Int} (he:0≤e):∀ (l:List Cl) (last:Int),clsGo l last=true→clsGo (l.map (Zq236 e)) last=true
 | [],_,_=>rfl
 | c::l,last,h=>by
  rw [List.map_cons]
  unfold clsGo at h ⊢
  simp only [Bool.and_eq_true,decide_eq_true_eq] at h ⊢
  obtain ⟨⟨h1,h2⟩,h3⟩:=h
  refine ⟨⟨?_,h2⟩,Zq309 he l c.id h3⟩
  unfold mayC at h1 ⊢
  rw [decide_eq_true_eq] at h1 ⊢
  have h4:0≤min c.pos e∧min c.pos e≤c.pos:=by omega
  exact ⟨h1.1,h1.2.1,h4.1,Int.le_trans h4.2 h1.2.2.2⟩
theorem Zq350 {e:Int} (he:0≤e) {l:List Cl} (h:Zq68 l=true):Zq68 (l.map (Zq236 e))=true:=by
 unfold Zq68 at h ⊢
 simp only [Bool.and_eq_true,decide_eq_true_eq,List.length_map] at h ⊢
 exact ⟨Zq309 he l 0 h.1,h.2⟩
theorem Zq351 {r:Rc} {e:Int} (h:r.Ok) (he:0≤e):(Zq102 r e).Ok:=⟨h.shape,h.first,h.set,Zq660 h.tags he,Zq350 he h.cls⟩
theorem Zq661 (J:Jn) (r:Rc) (e:Int) (h1:r.first=J.r.first) (he:e=endJ J):Zq769 (recJ J r) e=safeJ (recJ J r):=by
 unfold Zq769 safeJ
 rw [he]
 unfold endJ recJ
 rw [h1]
section
variable {W w w' : World} {I : Hp} {l : List HP} {p q : Nat} {J : Jn} {S : Str}
theorem St.jn_rcells (h:St W I w (jnHP q p J::l)):∃ vt vc,recI I J.r vt vc∧(w.cell? ⟨q,0,none⟩=some (.pointer (some ⟨p,0,none⟩))∧w.cell? ⟨q,1,none⟩=some (.int .i64 J.r.shape.splay)∧w.cell? ⟨q,2,none⟩=some (.int .i64 J.r.shape.sets)∧w.cell? ⟨q,3,none⟩=some (.int .i64 J.r.shape.size)∧w.cell? ⟨q,4,none⟩=some (.int .i64 J.r.first)∧w.cell? ⟨q,5,none⟩=some (.int .i64 J.r.set)∧w.cell? ⟨q,6,none⟩=some vt∧w.cell? ⟨q,7,none⟩=some vc)∧q<w.heap.size∧(∀ i,w.frozen? ⟨q,i,none⟩=false):=by
 obtain ⟨V,hr,h1⟩:=h.jn_open
 obtain ⟨a1,a2,a3⟩:=Zq147 h1
 exact ⟨V.vt,V.vc,hr,⟨jn_c0 h1,a1,a2,a3,jn_c4 h1,jn_c5 h1,jn_c6 h1,jn_c7 h1⟩,h1.lt,Zq52 h1⟩
set_option maxRecDepth 4000
set_option maxHeartbeats 8000000
theorem Zq411 (o:Option Rc) {m:Nat} (h:St W I w (Zq10 p S::jnHP q p J::l)) (hk:Keeps S (m+2+4*(Zq21 S ⟨2,0⟩).length)) (hn:(Zq18 S ⟨2,0⟩).length≤1000000) (hb:SeenB S) (hB:JB J) (hE:∀ e ∈ J.l,e.okB=true) (hj:(trimJ S J).1=0→JRec (trimJ S J).2 o) :
  Calls Tryz.prog 87 #[.pointer (some ⟨q,0,none⟩)] w fun e w'=>∃ I',I.sub I'∧e=.returned (.int .i64 (mendJ S J).1)∧St W I' w' (Zq10 p (mendJ S J).2.1::jnHP q p (mendJ S J).2.2::l):=by
 have htr:=Zq657 (m:=m+2) h hk hn hb hB.lens hB.len hE
 have hkt:Keeps (trimJ S J).2 (m+2):=Zq275 hk
 obtain ⟨⟨a,S1⟩,hts⟩:∃ x,x=trimJ S J:=⟨_,rfl⟩
 rw [←hts] at htr hkt hj
 have HX:=Zh (show mendJ S J=if a≠0 then (a,S1,endsJ J a) else ((saveJ S1 (Zq102 J.r (endJ J))).1,(saveJ S1 (Zq102 J.r (endJ J))).2,endsJ (Zq769 (recJ J (Zq102 J.r (endJ J))) (endJ J)) (saveJ S1 (Zq102 J.r (endJ J))).1) by unfold mendJ;rw [←hts])
 have HTR:=Zh htr
 have HKT:=Zh hkt
 have HJ:=Zh hj
 have HB:=Zh hB
 clear h hk hn hb hB hE hj htr hkt hts
 go_enter Tryz.func87,Tryz.ntmps87
 go_wp2_with fail
 refine HTR.out.mono ?_
 rintro e w1 ⟨I1,s1,rfl,h1⟩
 have S1':=Zh s1
 by_cases ha:a=0
 ·subst ha
  have HX2:=Zh (HX.out.trans (if_neg (by simp)))
  have H1:=Zh h1
  clear h1 s1
  go_wp2_with fail
  go_upto_region 4 with fail
  obtain ⟨⟨vt,vc,vl,va⟩,hrI,h2⟩:=(H1.out.drew.pull 1 _ rfl).jn_open
  obtain ⟨At,ct,e1,_⟩:=hrI.1
  obtain ⟨Ac,cc,e2,_⟩:=hrI.2
  simp only at e1 e2 hrI h2
  subst e1 e2
  have HCS:=Zh (show ∀ (I':Hp) (w':World) (L:List HP),St W I' w' (jnBlk q p J ⟨.slice At J.r.tags.length ct,.slice Ac J.r.cls.length cc,vl,va⟩::L)→(w'.cell? ⟨q,1,none⟩=some (.int .i64 J.r.shape.splay)∧w'.cell? ⟨q,2,none⟩=some (.int .i64 J.r.shape.sets)∧w'.cell? ⟨q,3,none⟩=some (.int .i64 J.r.shape.size)∧w'.cell? ⟨q,4,none⟩=some (.int .i64 J.r.first)∧w'.cell? ⟨q,5,none⟩=some (.int .i64 J.r.set)∧w'.cell? ⟨q,6,none⟩=some (.slice At J.r.tags.length ct)∧w'.cell? ⟨q,7,none⟩=some (.slice Ac J.r.cls.length cc)) from fun I' w' L h1=>by
   obtain ⟨a1,a2,a3⟩:=Zq147 h1
   exact ⟨a1,a2,a3,jn_c4 h1,jn_c5 h1,jn_c6 h1,jn_c7 h1⟩)
  have HE:=Zh (Zq148 (H1.out.drew.pull 1 _ rfl) HB.out)
  obtain ⟨en,hen⟩:∃ x,x=endJ J:=⟨_,rfl⟩
  rw [←hen] at HE HX2
  have HEN:=Zh hen
  have hen0:0≤en:=by
   rw [hen]
   unfold endJ
   have:=HB.out.first
   omega
  have HOK:=Zh (Zq351 HB.out.ok hen0)
  have HRI:=Zh hrI
  obtain ⟨x1,x2,x3,x4,x5,x6,x7⟩:=HCS.out _ _ _ h2
  have lq:=h2.lt
  have H2:=Zh h2
  clear hrI hen hen0 h2
  refine Zq8 (fun w'=>w'.cell? ⟨q,1,none⟩=some (.int .i64 J.r.shape.splay)∧w'.cell? ⟨q,2,none⟩=some (.int .i64 J.r.shape.sets)∧w'.cell? ⟨q,3,none⟩=some (.int .i64 J.r.shape.size)∧w'.cell? ⟨q,4,none⟩=some (.int .i64 J.r.first)∧w'.cell? ⟨q,5,none⟩=some (.int .i64 J.r.set)∧w'.cell? ⟨q,6,none⟩=some (.slice At J.r.tags.length ct)∧w'.cell? ⟨q,7,none⟩=some (.slice Ac J.r.cls.length cc)) [0,1,2,3,4,5] [6,7] [8,9,10] (by kernel_rfl) (by kernel_rfl) (by (exact ⟨x1,x2,x3,x4,x5,x6,x7⟩)) ?_
  simp only [pickL,Zl6,Zl7]
  repeat (refine Zq5 _ (Or.inl ⟨by rfl,by (intro w hSw;(try dsimp only at hSw);go_simp;try with_reducible rfl)⟩) ?_;(try simp only [Act.put,List.setIfInBounds_toArray,Zl4,Zl5]))
  refine Zq9 ?_
  unfold Zq16
  clear x1 x2 x3 x4 x5 x6 x7 lq
  go_wp2_with fail
  refine HE.out.mono ?_
  rintro e w2 ⟨rfl,hb2⟩
  have h3:=H2.out.keep hb2
  have h4:=Zq558 J.r _ _ en h3 HRI.out (by have:=HB.out.ok.tags;have:=Zq154 this;omega) (by have:=HB.out.ok.cls;have:=Zq171 this;omega)
  obtain ⟨R,hR⟩:∃ x,x=Zq102 J.r en:=⟨_,rfl⟩
  rw [←hR] at h4 HX2 HOK
  have HRF:=Zh (show R.first=J.r.first∧R.shape=J.r.shape by rw [hR];exact ⟨rfl,rfl⟩)
  have HEND:=Zh h4
  have X3:=Zh (HCS.out _ _ _ h3)
  clear h3 h4 hb2 HE H2 hR
  go_wp2_with fail
  refine Zq0 X3.out ?_
  unfold Zq16
  go_wp2_with fail
  simp only [Rc.cells] at HEND
  refine HEND.out.mono ?_
  rintro e w3 ⟨I3,vt3,vc3,s3,rfl,hI3,h5⟩
  obtain ⟨At3,ct3,rfl,_⟩:=hI3.1
  obtain ⟨Ac3,cc3,rfl,_⟩:=hI3.2
  have X5:=Zh (HCS.out _ _ _ h5)
  have h6:=St.jn_shut (HRI.out.mono s3) h5
  have fq:=fun i=>Zq52 h5 i
  have lq:=h5.lt
  have h7:=h6.jn_rec (r:=R) hI3
  have H7:=Zh h7
  have S3:=Zh (S1'.out.trans s3)
  obtain ⟨x1,x2,x3,x4,x5,x6,x7⟩:=X5.out
  clear h5 h6 h7 hI3 s3 HEND X3 HRI
  go_wp2_with fail
  refine Zq0 X5.out ?_
  unfold Zq16
  go_wp2_with fail
  refine NoPanic.normal ?_
  clear x1 x2 x3 x4 x5 x6 x7 fq lq X5
  have h7:=H7.out
  generalize (World.setCell _ _ _:World)=w7 at h7 ⊢
  have hend:endJ (recJ J R)=en:=by rw [HEN.out];unfold endJ recJ;rw [HRF.out.1]
  have hB7:JB (recJ J R):=⟨HOK.out,HB.out.len,HB.out.lens,by show J.fill.okB R.shape=true;rw [HRF.out.2];exact HB.out.fill,HB.out.safe⟩
  have HE7:=Zh (Zq148 h7 hB7)
  rw [hend] at HE7
  have HJS:=Zh (fun w1 (h:St W I3 w1 (jnHP q p (recJ J R)::Zq10 p S1::l))=>h.jn_safe en hend.symm)
  have HH7:=Zh h7
  clear h7 H7
  go_wp2_with fail
  refine HE7.out.mono ?_
  rintro e w8 ⟨rfl,hb8⟩
  have h8:=HH7.out.keep hb8
  obtain ⟨V8,_,h9⟩:=h8.jn_open
  have x15:=Zq866 h9
  have fq:=Zq52 h9
  have lq:=h9.lt
  have h10:=HJS.out _ h8
  have H10:=Zh h10
  clear h8 h9 h10 hb8 HE7 HH7
  go_wp2_with fail
  have h10:=H10.out
  generalize (World.setCell _ _ _:World)=w10 at h10 ⊢
  clear x15 fq lq H10
  go_upto_region 6 with fail
  have HX3:=Zh (show mendJ S J=((saveJ S1 R).1,(saveJ S1 R).2,endsJ (safeJ (recJ J R)) (saveJ S1 R).1) by rw [HX2.out,Zq661 J R en HRF.out.1 HEN.out])
  obtain ⟨vt,vc,hrI,hcs,lq,fq⟩:=(h10.drew).jn_rcells
  have hrI:recI I3 R vt vc:=hrI
  obtain ⟨At,ct,rfl,_⟩:=hrI.1
  obtain ⟨Ac,cc,rfl,_⟩:=hrI.2
  simp only [safeJ,recJ] at hcs
  obtain ⟨x0,x1,x2,x3,x4,x5,x6,x7⟩:=hcs
  have hsv:=Zq391 R _ _ o (h10.drew.pull 1 _ rfl) HKT.out HOK.out hrI (HJ.out (by first|rfl|trivial))
  simp only [Rc.cells] at hsv
  obtain ⟨⟨b,S9⟩,hb9⟩:∃ x,x=saveJ S1 R:=⟨_,rfl⟩
  rw [←hb9] at hsv HX3
  have HSV:=Zh hsv
  clear hsv hrI fq HX HX2 hb9 h10
  refine Zq11 [0,1,2,3,5,6,7] [4,8] [9,10,11] (by kernel_rfl) (by kernel_rfl) ?_
  simp only [pickL,Zl6,Zl7]
  repeat (refine Zq13 _ (Or.inl ⟨by rfl,by intro w;go_simp;try with_reducible rfl⟩) ?_;(try simp only [Act.put,List.setIfInBounds_toArray,Zl4,Zl5]))
  refine Zq15 ?_
  repeat still_step
  refine wpStill_nil ?_
  clear x0 x1 x2 x3 x4 x5 x6 x7 lq
  go_wp2_with fail
  refine HSV.out.mono ?_
  rintro e w11 ⟨I11,s11,rfl,h11⟩
  have HE:=Zh (Zq161 b (h11.pull 1 _ rfl))
  have S11:=Zh (S3.out.trans s11)
  clear h11 s11 HSV
  go_wp2_with fail
  refine HE.out.mono ?_
  rintro e w12 ⟨rfl,h12⟩
  have H12:=Zh (h12.pull 1 _ rfl)
  clear h12
  go_wp2_with fail
  refine NoPanic.normal ?_
  go_wp2_with fail
  go_ret
  rw [HX3.out]
  exact ⟨I11,S11.out,rfl,H12.out⟩
 ·have HX2:=Zh (HX.out.trans (if_pos ha))
  have hne:(a != 0)=true:=by simpa using ha
  have HE:=Zh (Zq161 a (h1.pull 1 _ rfl))
  clear h1 s1
  go_wp2_with fail
  refine HE.out.mono ?_
  rintro e w4 ⟨rfl,h4⟩
  have H4:=Zh (h4.pull 1 _ rfl)
  clear h4
  go_wp2_with fail
  go_ret
  rw [HX2.out]
  exact ⟨I1,S1'.out,rfl,H4.out⟩
end
end Go.Proofs.YtpjchngjhijgmaaGreat
