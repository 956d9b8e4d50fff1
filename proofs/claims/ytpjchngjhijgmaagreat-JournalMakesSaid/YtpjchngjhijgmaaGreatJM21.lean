import Derived.Test.YtpjchngjhijgmaaGreatJM18
import Derived.Test.YtpjchngjhijgmaaGreatJM19
import Derived.Test.YtpjchngjhijgmaaGreatJM20
set_option linter.all false
namespace Go.Proofs.YtpjchngjhijgmaaGreat
open Go.RowKit
theorem Zq273 {r:Rc} (h:r.Ok):∀ x ∈ recB r,isByte x:=by
 intro x hx
 rcases List.mem_append.1 hx with hx|hx
 ·rcases List.mem_append.1 hx with hx|hx
  ·obtain ⟨n,_,hx⟩:=List.mem_flatMap.1 hx
   exact Zq77 _ _ x hx
  ·obtain ⟨k,_,hx⟩:=List.mem_flatMap.1 hx
   obtain ⟨n,_,hx⟩:=List.mem_flatMap.1 hx
   exact Zq77 _ _ x hx
 ·unfold chainB at hx
  rw [h.tags] at hx
  exact Zq144 h.tags x hx
theorem Zq160 (r:Rc):(recB r).length=136+(chainB r.tags).length:=by
 unfold recB
 rw [List.length_append,Zq206]
theorem Zq387 {l:List Tag} (h:Zq43 l=true):1≤(chainB l).length∧(chainB l).length≤2000:=by
 unfold chainB
 rw [h]
 have h1:=Zq48 l l.length
 have h2:=(Zq87 h).2
 have h3:=(Zq169 (l.length:Int)).1
 show 1≤(Zq28 l l.length).length∧(Zq28 l l.length).length≤2000
 refine ⟨?_,by omega⟩
 unfold Zq28
 rw [List.length_append]
 omega
theorem Zq126 {r:Rc} (h:r.Ok):(recB r).length≤2136:=by
 have:=Zq387 h.tags
 rw [Zq160]
 omega
theorem Zq733 (r:Rc) (k:Nat) (n:Int) (h:r.nums[k]?=some n):∃ rest,(recB r).drop (8*k)=putB n 8++rest:=by
 have hk:k<5:=by
  have:=(List.getElem?_eq_some_iff.1 h).1
  simpa [Rc.nums] using this
 have e2:r.nums=r.nums.take k++n::r.nums.drop (k+1):=by
  obtain ⟨hjl,he⟩:=List.getElem?_eq_some_iff.1 h
  rw [←he,←List.drop_eq_getElem_cons hjl,List.take_append_drop]
 have e1:recP1 r 5=recP1 r k++(putB n 8++(r.nums.drop (k+1)).flatMap fun n=>putB n 8):=by
  unfold recP1
  have h1:r.nums.take 5=r.nums:=by simp [Rc.nums]
  rw [h1]
  conv=>lhs;rw [e2]
  rw [List.flatMap_append,List.flatMap_cons]
 have hl:=Zq145 r k (by omega)
 unfold recB recP2
 rw [e1]
 refine ⟨((r.nums.drop (k+1)).flatMap fun n=>putB n 8)++(((List.range 4).flatMap fun k=>clB (clAt r k) 3)++chainB r.tags),?_⟩
 rw [←hl]
 simp only [List.append_assoc,List.drop_left]
theorem Zq734 (r:Rc) (i j:Nat) (n:Int) (hi:i<4) (h:(clAt r i).nums[j]?=some n):∃ rest,(recB r).drop (40+24*i+8*j)=putB n 8++rest:=by
 have hj:j<3:=by
  have:=(List.getElem?_eq_some_iff.1 h).1
  simpa [Cl.nums] using this
 have e2:(clAt r i).nums=(clAt r i).nums.take j++n::(clAt r i).nums.drop (j+1):=by
  obtain ⟨hjl,he⟩:=List.getElem?_eq_some_iff.1 h
  rw [←he,←List.drop_eq_getElem_cons hjl,List.take_append_drop]
 have e1:clB (clAt r i) 3=clB (clAt r i) j++(putB n 8++((clAt r i).nums.drop (j+1)).flatMap fun n=>putB n 8):=by
  unfold clB
  have h1:(clAt r i).nums.take 3=(clAt r i).nums:=by simp [Cl.nums]
  rw [h1]
  conv=>lhs;rw [e2]
  rw [List.flatMap_append,List.flatMap_cons]
 have e3:∃ rest,recP2 r 4=recP2 r (i+1)++rest:=by
  rcases (show i=0∨i=1∨i=2∨i=3 by omega) with rfl|rfl|rfl|rfl
  ·exact ⟨_,by rw [Zq78 r 3,Zq78 r 2,Zq78 r 1,List.append_assoc,List.append_assoc]⟩
  ·exact ⟨_,by rw [Zq78 r 3,Zq78 r 2,List.append_assoc]⟩
  ·exact ⟨_,Zq78 r 3⟩
  ·exact ⟨[],by rw [List.append_nil]⟩
 obtain ⟨rest,e3⟩:=e3
 have hl:(recP2 r i++clB (clAt r i) j).length=40+24*i+8*j:=by rw [List.length_append,Zq206,Zq159 _ _ (by omega)]
 unfold recB
 rw [e3,Zq78,e1]
 refine ⟨(((clAt r i).nums.drop (j+1)).flatMap fun n=>putB n 8)++(rest++chainB r.tags),?_⟩
 rw [←hl]
 have e4:recP2 r i++(clB (clAt r i) j++(putB n 8++((clAt r i).nums.drop (j+1)).flatMap fun n=>putB n 8))++rest++chainB r.tags=(recP2 r i++clB (clAt r i) j)++(putB n 8++((((clAt r i).nums.drop (j+1)).flatMap fun n=>putB n 8)++(rest++chainB r.tags))):=by simp only [List.append_assoc]
 rw [e4,List.drop_left]
section
variable {W w : World} {I : Hp} {l : List HP}
set_option maxRecDepth 4000
set_option maxHeartbeats 8000000
theorem St.set7 {b:Nat} {c0 c1 c2 c3 c4 c5 c6:Value} {t:TypeId} {f:Nat × Nat} (h:St W I w (HP.pt b (.cells #[c0,c1,c2,c3,c4,c5,c6] t f)::l)) (v0 v1 v2 v3 v4 v5 v6:Value) :
  St W I (((((((w.setCell ⟨b,0,none⟩ v0).setCell ⟨b,1,none⟩ v1).setCell ⟨b,2,none⟩ v2).setCell ⟨b,3,none⟩ v3).setCell ⟨b,4,none⟩ v4).setCell ⟨b,5,none⟩ v5).setCell ⟨b,6,none⟩ v6) (HP.pt b (.cells #[v0,v1,v2,v3,v4,v5,v6] t f)::l):=by
 have h7:=((((((h.setCell 0 v0).setCell 1 v1).setCell 2 v2).setCell 3 v3).setCell 4 v4).setCell 5 v5).setCell 6 v6
 simp only [List.setIfInBounds_toArray,Zl4,Zl5] at h7
 exact h7
theorem getn8 (v:Value) (b:List Int) (a:Int) (x:Int) (w:World) (hs:SliceSrc w 1 v b.length (b.map byteV)) (hb:∀ x ∈ b,isByte x) (h0:0≤a) (hl:a+8≤b.length) (hbl:b.length≤1000000) (hx:IntKind.i64.wrap (getB ((b.drop a.toNat).take 8))=x) :
  Calls Tryz.prog 202 #[v,.int .i64 a,.int .i64 8] w fun e w'=>∃ n,e=.returned (.tuple #[.int .u64 n,.bool true])∧IntKind.i64.wrap n=x∧w=w':=by
 obtain ⟨k,rfl⟩:∃ k:Nat,a=k:=⟨a.toNat,by omega⟩
 refine (Zq629 v b k 8 w hs hb (by decide) (by decide) (by omega) hbl).mono ?_
 rintro e w' ⟨rfl,rfl⟩
 exact ⟨_,rfl,hx,rfl⟩
theorem Zq116 (v:Value) (b rest:List Int) (a:Nat) (x:Int) (w:World) (hs:SliceSrc w 1 v b.length (b.map byteV)) (hb:∀ x ∈ b,isByte x) (hdr:b.drop a=putB x 8++rest) (h0:0≤x) (hx:x≤4611686018427387904) (hbl:b.length≤1000000) :
  Calls Tryz.prog 182 #[v,.int .i64 a] w fun e w'=>e=.returned (.tuple #[.int .i64 x,.int .i64 (a+8:Nat)])∧w=w':=by
 have hl:a+8≤b.length:=by
  have:=congrArg List.length hdr
  rw [List.length_drop,List.length_append,Zq33] at this
  omega
 have hg:=getn8 v b a x w hs hb (by omega) (by omega) hbl (by
  rw [Int.toNat_natCast,hdr,show (putB x 8++rest).take 8=putB x 8 by rw [List.take_append_of_le_length (by rw [Zq33];omega),List.take_of_length_le (by rw [Zq33];omega)],Zq450 8 x h0 (by omega),IntKind.wrap_i64]
  omega)
 have HG:=Zh hg
 obtain ⟨A,c,rfl,_⟩:=hs
 clear hg hdr
 go_enter Tryz.func182,Tryz.ntmps182
 go_wp2_with fail
 refine HG.out.mono ?_
 rintro e w2 ⟨n,rfl,hn,rfl⟩
 go_wp2_with fail
 go_ret2
 simp
theorem Zq548:(Tryz.prog.info? 212).map (fun i=>(i.zero,i.size,i.bytes))=some (some (.agg #[.int .i64 0,.int .i64 0,.bool false]),3,24):=by kernel_rfl
theorem St.cls_append {v v2:Value} {n m:Nat} {xs ys:List Value} (ty:TypeId) (h:St W I w (HP.row 212 3 v n xs::l)) (hs:SliceSrc w 3 v2 m ys) (hb:n+m≤1000000000) :
  ∃ v' w',(Builtin.append_ #[103,103] ty #[v,v2]).run Tryz.prog w=.ok v' w'∧St W I w' (HP.row 212 3 v' (n+m) (xs++ys)::l):=by
 obtain ⟨A,c,rfl,hsrc,hA⟩:=hs
 obtain ⟨i0,hi0,hz0,hz1,hz2⟩:=info_parts Zq548
 obtain ⟨v',w',hr,ho',hgr,hv'⟩:=Zq57 (P:=Tryz.prog) w 0 103 ty 212 i0 _ 3 24 Tryz.underlying103 hi0 hz0 hz1 hz2 rfl (by decide) v n xs h.row_owns A m c ys hsrc hA (by unfold maxLen;omega) (by omega) (Nat.zero_le _)
 exact ⟨v',w',hr,h.row_grown ho' hgr hv'⟩
theorem Zq637 {g:Nat} (w:World) (hg:g=w.heap.size) (c:Cl):SliceSrc (w.alloc (.cells #[.int .i64 c.id,.int .i64 c.pos,.bool c.off] 212)) 3 (.slice (some ⟨g,0,none⟩) 1 1) 1 c.vals:=by
 subst hg
 refine ⟨_,_,rfl,⟨rfl,fun _=>⟨_,rfl,fun j u hu=>?_⟩,fun u hu=>?_⟩,fun e=>by cases e⟩
 ·rw [add_plain,Nat.zero_add,Zq1 (heap_alloc_new _ _) j,←hu]
  simp [Cl.vals]
 ·simp only [Cl.vals,List.mem_cons,List.not_mem_nil,or_false] at hu
  rcases hu with rfl|rfl|rfl <;> rfl
def Rc.zeroVal:Value:=.agg #[.int .i64 0,.int .i64 0,.int .i64 0,.int .i64 0,.int .i64 0,.slice none 0 0,.slice none 0 0]
theorem Zq865 (v:Value) (r:Rc) (h:St W I w l) (hv:BytesI I v (recB r)) (hr:r.Ok) :
  Calls Tryz.prog 144 #[v] w fun e w'=>∃ I' vt vc,I.sub I'∧e=.returned (.tuple #[.agg (r.cells vt vc),.bool true])∧recI I' r vt vc∧St W I' w' l:=by
 have h1:=(h.alloc (.cells #[.int .i64 0,.int .i64 0,.int .i64 0,.int .i64 0,.int .i64 0,.slice none 0 0,.slice none 0 0] 105)).alloc (.cells #[.int .i64 0,.int .i64 0,.int .i64 0,.int .i64 0,.int .i64 0,.slice none 0 0,.slice none 0 0] 105)
 simp only [World.size_alloc] at h1
 have hby:=Zq273 hr
 have hsm:=Zq126 hr
 have hlen:=Zq160 r
 have HN:=Zh (Rc.nums_ok hr)
 have HCA:=Zh (fun i=>Zq777 hr.cls i)
 have HCL:=Zh (Zq171 hr.cls)
 have HCB:=Zh (Zq387 hr.tags)
 have HR:=Zh hr
 have HD1:=Zh (Zq733 r)
 have HD2:=Zh (Zq734 r)
 obtain ⟨A,c,hvv,h2,h3,_⟩:=hv
 have hv:BytesI I v (recB r):=⟨A,c,hvv,h2,h3,by assumption⟩
 subst hvv
 obtain ⟨B,hB⟩:∃ B,recB r=B:=⟨_,rfl⟩
 rw [hB] at hby hsm hlen HD1 HD2 hv h2 h3
 have HV:=Zh hv
 have HBY:=Zh hby
 have HBB:=Zh hB
 have HLEN:=Zh hlen
 rw [hB]
 have H1:=Zh h1
 obtain ⟨g,hg⟩:∃ g,w.heap.size=g:=⟨_,rfl⟩
 rw [hg] at H1
 have HG:=Zh hg
 obtain ⟨⟨a,b,sz⟩,fi,st,tags,cls⟩:=r
 clear h h1 hby hlen hv h2 hB hg hr
 have i0:∀ w:World,(Instr.index 238 (.agg #[.pointer (some ⟨g+1,0,none⟩),.pointer (some ⟨g+1,1,none⟩),.pointer (some ⟨g+1,2,none⟩),.pointer (some ⟨g+1,3,none⟩),.pointer (some ⟨g+1,4,none⟩)]) (.int .i64 0)).run Tryz.prog w=.ok (.pointer (some ⟨g+1,0,none⟩)) w:=fun _=>by kernel_rfl
 have i1:∀ w:World,(Instr.index 238 (.agg #[.pointer (some ⟨g+1,0,none⟩),.pointer (some ⟨g+1,1,none⟩),.pointer (some ⟨g+1,2,none⟩),.pointer (some ⟨g+1,3,none⟩),.pointer (some ⟨g+1,4,none⟩)]) (.int .i64 1)).run Tryz.prog w=.ok (.pointer (some ⟨g+1,1,none⟩)) w:=fun _=>by kernel_rfl
 have i2:∀ w:World,(Instr.index 238 (.agg #[.pointer (some ⟨g+1,0,none⟩),.pointer (some ⟨g+1,1,none⟩),.pointer (some ⟨g+1,2,none⟩),.pointer (some ⟨g+1,3,none⟩),.pointer (some ⟨g+1,4,none⟩)]) (.int .i64 2)).run Tryz.prog w=.ok (.pointer (some ⟨g+1,2,none⟩)) w:=fun _=>by kernel_rfl
 have i3:∀ w:World,(Instr.index 238 (.agg #[.pointer (some ⟨g+1,0,none⟩),.pointer (some ⟨g+1,1,none⟩),.pointer (some ⟨g+1,2,none⟩),.pointer (some ⟨g+1,3,none⟩),.pointer (some ⟨g+1,4,none⟩)]) (.int .i64 3)).run Tryz.prog w=.ok (.pointer (some ⟨g+1,3,none⟩)) w:=fun _=>by kernel_rfl
 have i4:∀ w:World,(Instr.index 238 (.agg #[.pointer (some ⟨g+1,0,none⟩),.pointer (some ⟨g+1,1,none⟩),.pointer (some ⟨g+1,2,none⟩),.pointer (some ⟨g+1,3,none⟩),.pointer (some ⟨g+1,4,none⟩)]) (.int .i64 4)).run Tryz.prog w=.ok (.pointer (some ⟨g+1,4,none⟩)) w:=fun _=>by kernel_rfl
 go_enter Tryz.func144,Tryz.ntmps144
 go_wp2_with fail
 rw [HG.out]
 go_loopw [5,23] (fun a5 a23 wr=>∃ (i n:Nat),a23=.int .i64 i∧i≤5∧a5=.int .i64 n∧n=8*i∧St W I wr (HP.pt (g+1) (.cells #[(if 0<i then .int .i64 a else .int .i64 0),(if 1<i then .int .i64 b else .int .i64 0),(if 2<i then .int .i64 sz else .int .i64 0),(if 3<i then .int .i64 fi else .int .i64 0),(if 4<i then .int .i64 st else .int .i64 0),.slice none 0 0,.slice none 0 0] 105)::HP.pt g (.cells #[.int .i64 0,.int .i64 0,.int .i64 0,.int .i64 0,.int .i64 0,.slice none 0 0,.slice none 0 0] 105)::l)) (fun _ a23 _=>5 - (intOf a23).toNat)
 case atStart=>exact ⟨0,0,rfl,by omega,rfl,rfl,H1.out⟩
 case round =>
  obtain ⟨i,n,rfl,hi,rfl,hn,hst⟩:=hrel
  clear H1
  rcases (show i=0∨i=1∨i=2∨i=3∨i=4∨i=5 by omega) with rfl|rfl|rfl|rfl|rfl|rfl
  ·have h4:St W I wr (HP.pt (g+1) (.cells #[.int .i64 0,.int .i64 0,.int .i64 0,.int .i64 0,.int .i64 0,.slice none 0 0,.slice none 0 0] 105)::HP.pt g (.cells #[.int .i64 0,.int .i64 0,.int .i64 0,.int .i64 0,.int .i64 0,.slice none 0 0,.slice none 0 0] 105)::l):=hst
   have f:=frozen_of_row h4.heap
   have y:=Zq1 h4.heap 0
   simp at y
   obtain ⟨rest,hdr⟩:=HD1.out 0 a (by rfl)
   have hb:=HN.out a (by simp [Rc.nums])
   have hnu:=Zq116 _ B rest (8*0) a wr (Zq29 h4 HV.out) HBY.out hdr (by omega) (by omega) (by omega)
   rw [←hn] at hnu
   obtain ⟨m,hm⟩:∃ m,n+8=m:=⟨_,rfl⟩
   rw [hm] at hnu
   have HNU:=Zh hnu
   have HM:=Zh (show m=8*1 by omega)
   have H5:=Zh (h4.setCell 0 (.int .i64 a))
   clear hnu h4 hst hdr hb hn hm rest
   go_wp2_with fail
   refine HNU.out.mono ?_
   clear HNU
   rintro e w5 ⟨rfl,rfl⟩
   go_wp2_with fail
   go_roundw
   case rel=>exact ⟨1,m,rfl,by omega,rfl,HM.out,H5.out⟩
   case measure=>simp [intOf]
  ·have h4:St W I wr (HP.pt (g+1) (.cells #[.int .i64 a,.int .i64 0,.int .i64 0,.int .i64 0,.int .i64 0,.slice none 0 0,.slice none 0 0] 105)::HP.pt g (.cells #[.int .i64 0,.int .i64 0,.int .i64 0,.int .i64 0,.int .i64 0,.slice none 0 0,.slice none 0 0] 105)::l):=hst
   have f:=frozen_of_row h4.heap
   have y:=Zq1 h4.heap 1
   simp at y
   obtain ⟨rest,hdr⟩:=HD1.out 1 b (by rfl)
   have hb:=HN.out b (by simp [Rc.nums])
   have hnu:=Zq116 _ B rest (8*1) b wr (Zq29 h4 HV.out) HBY.out hdr (by omega) (by omega) (by omega)
   rw [←hn] at hnu
   obtain ⟨m,hm⟩:∃ m,n+8=m:=⟨_,rfl⟩
   rw [hm] at hnu
   have HNU:=Zh hnu
   have HM:=Zh (show m=8*2 by omega)
   have H5:=Zh (h4.setCell 1 (.int .i64 b))
   clear hnu h4 hst hdr hb hn hm rest
   go_wp2_with fail
   refine HNU.out.mono ?_
   clear HNU
   rintro e w5 ⟨rfl,rfl⟩
   go_wp2_with fail
   go_roundw
   case rel=>exact ⟨2,m,rfl,by omega,rfl,HM.out,H5.out⟩
   case measure=>simp [intOf]
  ·have h4:St W I wr (HP.pt (g+1) (.cells #[.int .i64 a,.int .i64 b,.int .i64 0,.int .i64 0,.int .i64 0,.slice none 0 0,.slice none 0 0] 105)::HP.pt g (.cells #[.int .i64 0,.int .i64 0,.int .i64 0,.int .i64 0,.int .i64 0,.slice none 0 0,.slice none 0 0] 105)::l):=hst
   have f:=frozen_of_row h4.heap
   have y:=Zq1 h4.heap 2
   simp at y
   obtain ⟨rest,hdr⟩:=HD1.out 2 sz (by rfl)
   have hb:=HN.out sz (by simp [Rc.nums])
   have hnu:=Zq116 _ B rest (8*2) sz wr (Zq29 h4 HV.out) HBY.out hdr (by omega) (by omega) (by omega)
   rw [←hn] at hnu
   obtain ⟨m,hm⟩:∃ m,n+8=m:=⟨_,rfl⟩
   rw [hm] at hnu
   have HNU:=Zh hnu
   have HM:=Zh (show m=8*3 by omega)
   have H5:=Zh (h4.setCell 2 (.int .i64 sz))
   clear hnu h4 hst hdr hb hn hm rest
   go_wp2_with fail
   refine HNU.out.mono ?_
   clear HNU
   rintro e w5 ⟨rfl,rfl⟩
   go_wp2_with fail
   go_roundw
   case rel=>exact ⟨3,m,rfl,by omega,rfl,HM.out,H5.out⟩
   case measure=>simp [intOf]
  ·have h4:St W I wr (HP.pt (g+1) (.cells #[.int .i64 a,.int .i64 b,.int .i64 sz,.int .i64 0,.int .i64 0,.slice none 0 0,.slice none 0 0] 105)::HP.pt g (.cells #[.int .i64 0,.int .i64 0,.int .i64 0,.int .i64 0,.int .i64 0,.slice none 0 0,.slice none 0 0] 105)::l):=hst
   have f:=frozen_of_row h4.heap
   have y:=Zq1 h4.heap 3
   simp at y
   obtain ⟨rest,hdr⟩:=HD1.out 3 fi (by rfl)
   have hb:=HN.out fi (by simp [Rc.nums])
   have hnu:=Zq116 _ B rest (8*3) fi wr (Zq29 h4 HV.out) HBY.out hdr (by omega) (by omega) (by omega)
   rw [←hn] at hnu
   obtain ⟨m,hm⟩:∃ m,n+8=m:=⟨_,rfl⟩
   rw [hm] at hnu
   have HNU:=Zh hnu
   have HM:=Zh (show m=8*4 by omega)
   have H5:=Zh (h4.setCell 3 (.int .i64 fi))
   clear hnu h4 hst hdr hb hn hm rest
   go_wp2_with fail
   refine HNU.out.mono ?_
   clear HNU
   rintro e w5 ⟨rfl,rfl⟩
   go_wp2_with fail
   go_roundw
   case rel=>exact ⟨4,m,rfl,by omega,rfl,HM.out,H5.out⟩
   case measure=>simp [intOf]
  ·have h4:St W I wr (HP.pt (g+1) (.cells #[.int .i64 a,.int .i64 b,.int .i64 sz,.int .i64 fi,.int .i64 0,.slice none 0 0,.slice none 0 0] 105)::HP.pt g (.cells #[.int .i64 0,.int .i64 0,.int .i64 0,.int .i64 0,.int .i64 0,.slice none 0 0,.slice none 0 0] 105)::l):=hst
   have f:=frozen_of_row h4.heap
   have y:=Zq1 h4.heap 4
   simp at y
   obtain ⟨rest,hdr⟩:=HD1.out 4 st (by rfl)
   have hb:=HN.out st (by simp [Rc.nums])
   have hnu:=Zq116 _ B rest (8*4) st wr (Zq29 h4 HV.out) HBY.out hdr (by omega) (by omega) (by omega)
   rw [←hn] at hnu
   obtain ⟨m,hm⟩:∃ m,n+8=m:=⟨_,rfl⟩
   rw [hm] at hnu
   have HNU:=Zh hnu
   have HM:=Zh (show m=8*5 by omega)
   have H5:=Zh (h4.setCell 4 (.int .i64 st))
   clear hnu h4 hst hdr hb hn hm rest
   go_wp2_with fail
   refine HNU.out.mono ?_
   clear HNU
   rintro e w5 ⟨rfl,rfl⟩
   go_wp2_with fail
   go_roundw
   case rel=>exact ⟨5,m,rfl,by omega,rfl,HM.out,H5.out⟩
   case measure=>simp [intOf]
  ·have h4:St W I wr (HP.pt (g+1) (.cells #[.int .i64 a,.int .i64 b,.int .i64 sz,.int .i64 fi,.int .i64 st,.slice none 0 0,.slice none 0 0] 105)::HP.pt g (.cells #[.int .i64 0,.int .i64 0,.int .i64 0,.int .i64 0,.int .i64 0,.slice none 0 0,.slice none 0 0] 105)::l):=hst
   have h5:=(h4.row_nil 212 3).pull 1 _ rfl
   have H5:=Zh h5
   have HNN:=Zh hn
   clear h4 h5 hst hn i0 i1 i2 i3 i4
   rw [show ((5:Nat):Int)=5 from rfl]
   go_wp2_with fail
   go_loopw [5,35] (fun a5 a35 wr=>∃ (i n m:Nat) (Ac:Option Addr) (cc:Nat),a35=.int .i64 i∧i≤4∧a5=.int .i64 n∧n=40+24*i∧m=(cls.take i).length∧St W I wr (HP.pt (g+1) (.cells #[.int .i64 a,.int .i64 b,.int .i64 sz,.int .i64 fi,.int .i64 st,.slice none 0 0,.slice Ac m cc] 105)::HP.row 212 3 (.slice Ac m cc) m ((cls.take i).flatMap Cl.vals)::HP.pt g (.cells #[.int .i64 0,.int .i64 0,.int .i64 0,.int .i64 0,.int .i64 0,.slice none 0 0,.slice none 0 0] 105)::l)) (fun _ a35 _=>4 - (intOf a35).toNat)
   case atStart=>exact ⟨0,n,0,none,0,rfl,by omega,rfl,HNN.out,rfl,H5.out⟩
   case round =>
    obtain ⟨i,n,m,Ac,cc,rfl,hi,rfl,hn,hm,hst⟩:=hrel
    clear H5 HNN
    by_cases h4:i<4
    ·have d4:decide ((i:Int)<4)=true:=by rw [decide_eq_true_eq];omega
     obtain ⟨⟨cid,cpos,coff⟩,hcc⟩:∃ c,clAt (⟨⟨a,b,sz⟩,fi,st,tags,cls⟩:Rc) i=c:=⟨_,rfl⟩
     have hco:=HCA.out i
     have hd2:=HD2.out i
     rw [hcc] at hco hd2
     simp only at hco
     have hst2:=(hst.alloc (.cells #[.int .i64 0,.int .i64 0,.bool false] 212)).alloc (.cells #[.int .i64 0] 3)
     simp only [World.size_alloc] at hst2
     obtain ⟨q,hq⟩:∃ q,wr.heap.size=q:=⟨_,rfl⟩
     rw [hq] at hst2
     have HST:=Zh hst2
     have HQ:=Zh hq
     have HNN:=Zh hn
     have HMM:=Zh hm
     have HCO:=Zh hco
     have HCC:=Zh hcc
     have HDD:=Zh (fun j n h=>hd2 j n h4 h)
     clear hst hst2 hq hn hm hco hcc hd2
     have i0:∀ w:World,(Instr.index 240 (.agg #[.pointer (some ⟨q,0,none⟩),.pointer (some ⟨q,1,none⟩),.pointer (some ⟨q+1,0,none⟩)]) (.int .i64 0)).run Tryz.prog w=.ok (.pointer (some ⟨q,0,none⟩)) w:=fun _=>by kernel_rfl
     have i1:∀ w:World,(Instr.index 240 (.agg #[.pointer (some ⟨q,0,none⟩),.pointer (some ⟨q,1,none⟩),.pointer (some ⟨q+1,0,none⟩)]) (.int .i64 1)).run Tryz.prog w=.ok (.pointer (some ⟨q,1,none⟩)) w:=fun _=>by kernel_rfl
     have i2:∀ w:World,(Instr.index 240 (.agg #[.pointer (some ⟨q,0,none⟩),.pointer (some ⟨q,1,none⟩),.pointer (some ⟨q+1,0,none⟩)]) (.int .i64 2)).run Tryz.prog w=.ok (.pointer (some ⟨q+1,0,none⟩)) w:=fun _=>by kernel_rfl
     go_wp2_with fail
     rw [HQ.out]
     go_loopw [5,40] (fun a5 a40 wr=>∃ (j n2:Nat),a40=.int .i64 j∧j≤3∧a5=.int .i64 n2∧n2=40+24*i+8*j∧St W I wr (HP.pt (q+1) (.cells #[if 2<j then .int .i64 (if coff then 1 else 0) else .int .i64 0] 3)::HP.pt q (.cells #[if 0<j then .int .i64 cid else .int .i64 0,if 1<j then .int .i64 cpos else .int .i64 0,.bool false] 212)::HP.pt (g+1) (.cells #[.int .i64 a,.int .i64 b,.int .i64 sz,.int .i64 fi,.int .i64 st,.slice none 0 0,.slice Ac m cc] 105)::HP.row 212 3 (.slice Ac m cc) m ((cls.take i).flatMap Cl.vals)::HP.pt g (.cells #[.int .i64 0,.int .i64 0,.int .i64 0,.int .i64 0,.int .i64 0,.slice none 0 0,.slice none 0 0] 105)::l)) (fun _ a40 _=>3 - (intOf a40).toNat)
     case atStart=>exact ⟨0,n,rfl,by omega,rfl,by have:=HNN.out;omega,HST.out⟩
     case round =>
      obtain ⟨j,n2,rfl,hj,rfl,hn2,hst⟩:=hrel
      clear HST
      rcases (show j=0∨j=1∨j=2∨j=3 by omega) with rfl|rfl|rfl|rfl
      ·have h5:St W I wr (HP.pt (q+1) (.cells #[.int .i64 0] 3)::HP.pt q (.cells #[.int .i64 0,.int .i64 0,.bool false] 212)::HP.pt (g+1) (.cells #[.int .i64 a,.int .i64 b,.int .i64 sz,.int .i64 fi,.int .i64 st,.slice none 0 0,.slice Ac m cc] 105)::HP.row 212 3 (.slice Ac m cc) m ((cls.take i).flatMap Cl.vals)::HP.pt g (.cells #[.int .i64 0,.int .i64 0,.int .i64 0,.int .i64 0,.int .i64 0,.slice none 0 0,.slice none 0 0] 105)::l):=hst
       have h6:=h5.pull 1 _ rfl
       have f:=frozen_of_row h6.heap
       have y:=Zq1 h6.heap 0
       simp at y
       obtain ⟨rest,hdr⟩:=HDD.out 0 cid (by rfl)
       have hco:=HCO.out
       have hnu:=Zq116 _ B rest (40+24*i+8*0) cid wr (Zq29 h5 HV.out) HBY.out hdr (by omega) (by omega) (by omega)
       rw [←hn2] at hnu
       obtain ⟨n3,hn3⟩:∃ n3,n2+8=n3:=⟨_,rfl⟩
       rw [hn3] at hnu
       have HNU:=Zh hnu
       have HM:=Zh (show n3=40+24*i+8*1 by omega)
       have H7:=Zh ((h6.setCell 0 (.int .i64 cid)).pull 1 _ rfl)
       clear hnu h5 h6 hst hdr hco hn2 hn3 rest
       go_wp2_with fail
       refine HNU.out.mono ?_
       clear HNU
       rintro e w5 ⟨rfl,rfl⟩
       go_wp2_with fail
       go_roundw
       case rel=>exact ⟨1,n3,rfl,by omega,rfl,HM.out,H7.out⟩
       case measure=>simp [intOf]
      ·have h5:St W I wr (HP.pt (q+1) (.cells #[.int .i64 0] 3)::HP.pt q (.cells #[.int .i64 cid,.int .i64 0,.bool false] 212)::HP.pt (g+1) (.cells #[.int .i64 a,.int .i64 b,.int .i64 sz,.int .i64 fi,.int .i64 st,.slice none 0 0,.slice Ac m cc] 105)::HP.row 212 3 (.slice Ac m cc) m ((cls.take i).flatMap Cl.vals)::HP.pt g (.cells #[.int .i64 0,.int .i64 0,.int .i64 0,.int .i64 0,.int .i64 0,.slice none 0 0,.slice none 0 0] 105)::l):=hst
       have h6:=h5.pull 1 _ rfl
       have f:=frozen_of_row h6.heap
       have y:=Zq1 h6.heap 1
       simp at y
       obtain ⟨rest,hdr⟩:=HDD.out 1 cpos (by rfl)
       have hco:=HCO.out
       have hnu:=Zq116 _ B rest (40+24*i+8*1) cpos wr (Zq29 h5 HV.out) HBY.out hdr (by omega) (by omega) (by omega)
       rw [←hn2] at hnu
       obtain ⟨n3,hn3⟩:∃ n3,n2+8=n3:=⟨_,rfl⟩
       rw [hn3] at hnu
       have HNU:=Zh hnu
       have HM:=Zh (show n3=40+24*i+8*2 by omega)
       have H7:=Zh ((h6.setCell 1 (.int .i64 cpos)).pull 1 _ rfl)
       clear hnu h5 h6 hst hdr hco hn2 hn3 rest
       go_wp2_with fail
       refine HNU.out.mono ?_
       clear HNU
       rintro e w5 ⟨rfl,rfl⟩
       go_wp2_with fail
       go_roundw
       case rel=>exact ⟨2,n3,rfl,by omega,rfl,HM.out,H7.out⟩
       case measure=>simp [intOf]
      ·have h5:St W I wr (HP.pt (q+1) (.cells #[.int .i64 0] 3)::HP.pt q (.cells #[.int .i64 cid,.int .i64 cpos,.bool false] 212)::HP.pt (g+1) (.cells #[.int .i64 a,.int .i64 b,.int .i64 sz,.int .i64 fi,.int .i64 st,.slice none 0 0,.slice Ac m cc] 105)::HP.row 212 3 (.slice Ac m cc) m ((cls.take i).flatMap Cl.vals)::HP.pt g (.cells #[.int .i64 0,.int .i64 0,.int .i64 0,.int .i64 0,.int .i64 0,.slice none 0 0,.slice none 0 0] 105)::l):=hst
       have h6:=h5
       have f:=frozen_of_row h6.heap
       have y:=Zq1 h6.heap 0
       simp at y
       obtain ⟨rest,hdr⟩:=HDD.out 2 (if coff then 1 else 0) (by rfl)
       have hco:=HCO.out
       have hnu:=Zq116 _ B rest (40+24*i+8*2) (if coff then 1 else 0) wr (Zq29 h5 HV.out) HBY.out hdr (by split <;> omega) (by split <;> omega) (by omega)
       rw [←hn2] at hnu
       obtain ⟨n3,hn3⟩:∃ n3,n2+8=n3:=⟨_,rfl⟩
       rw [hn3] at hnu
       have HNU:=Zh hnu
       have HM:=Zh (show n3=40+24*i+8*3 by omega)
       have H7:=Zh (h6.setCell 0 (.int .i64 (if coff then 1 else 0)))
       clear hnu h5 h6 hst hdr hco hn2 hn3 rest
       go_wp2_with fail
       refine HNU.out.mono ?_
       clear HNU
       rintro e w5 ⟨rfl,rfl⟩
       go_wp2_with fail
       go_roundw
       case rel=>exact ⟨3,n3,rfl,by omega,rfl,HM.out,H7.out⟩
       case measure=>simp [intOf]
      ·have h5:St W I wr (HP.pt (q+1) (.cells #[.int .i64 (if coff then 1 else 0)] 3)::HP.pt q (.cells #[.int .i64 cid,.int .i64 cpos,.bool false] 212)::HP.pt (g+1) (.cells #[.int .i64 a,.int .i64 b,.int .i64 sz,.int .i64 fi,.int .i64 st,.slice none 0 0,.slice Ac m cc] 105)::HP.row 212 3 (.slice Ac m cc) m ((cls.take i).flatMap Cl.vals)::HP.pt g (.cells #[.int .i64 0,.int .i64 0,.int .i64 0,.int .i64 0,.int .i64 0,.slice none 0 0,.slice none 0 0] 105)::l):=hst
       have y:=Zq1 h5.heap 0
       simp at y
       have h6:=h5.pull 1 _ rfl
       obtain ⟨x0,x1,x2⟩:=Zq40 h6
       have f:=frozen_of_row h6.heap
       have hbq:(((if coff then 1 else 0:Int))==1)=coff:=by cases coff <;> rfl
       have h7:=(h6.setCell 2 (.bool coff)).drop.drop
       have h8:=h6.setCell 2 (.bool coff)
       simp only [List.setIfInBounds_toArray,Zl4,Zl5] at h8
       have H8:=Zh h8
       have HN2:=Zh hn2
       clear h5 h6 h7 h8 hst hn2
       rw [show ((3:Nat):Int)=3 from rfl]
       go_upto_region 18 with fail
       have h8:=H8.out
       generalize (World.setCell _ _ _:World)=w5 at h8 ⊢
       clear H8 x0 x1 x2 f y
       obtain ⟨x0,x1,x2⟩:=Zq40 h8
       by_cases hin:i<cls.length
       ·have hget:cls[i]?=some ⟨cid,cpos,coff⟩:=by
         have hcc:=HCC.out
         unfold clAt at hcc
         rw [List.getElem?_eq_getElem hin] at hcc ⊢
         rw [←hcc]
         rfl
        have hcid:=(HCL.out.2 _ (List.mem_of_getElem? hget)).1
        simp only at hcid
        have d5:decide (0<cid)=true:=decide_eq_true (by omega)
        have h9:=h8.keep (Zq7 w5 (.cells #[.int .i64 cid,.int .i64 cpos,.bool coff] 212))
        have hml:m≤4:=by have h1:=HMM.out;rw [List.length_take] at h1;have:=HCL.out.1;omega
        obtain ⟨v6,w6,hr6,h6⟩:=St.cls_append 103 (h9.pull 3 _ rfl) (Zq637 w5 rfl ⟨cid,cpos,coff⟩) (by omega)
        obtain ⟨A6,c6,rfl⟩:=Zq17 h6.row_owns
        have e6:(cls.take i).flatMap Cl.vals++(⟨cid,cpos,coff⟩:Cl).vals=(cls.take (i+1)).flatMap Cl.vals:=by
         rw [List.take_add_one,hget,List.flatMap_append]
         simp
        have em:m+1=(cls.take (i+1)).length:=by rw [HMM.out,List.take_add_one,hget,List.length_append];rfl
        rw [e6] at h6
        obtain ⟨m2,hm2⟩:∃ m2,m+1=m2:=⟨_,rfl⟩
        rw [hm2] at h6 hr6 em
        obtain ⟨z0,z1,z2,z3,z4,z5,z6⟩:=Zq105 (h8.pull 2 _ rfl)
        have h7:=(h6.pull 3 _ rfl)
        have fg:=frozen_of_row h7.heap
        obtain ⟨y0,y1,y2,y3,y4,y5,y6⟩:=Zq105 h7
        have h10:=h7.setCell 6 (.slice A6 m2 c6)
        simp only [List.setIfInBounds_toArray,Zl4,Zl5,Zl0,Zl1] at h10
        have H10:=Zh ((((h10.pull 2 _ rfl).drop).pull 2 _ rfl).drop)
        have HR6:=Zh hr6
        have HEM:=Zh em
        have hq2:=(h8.pull 2 _ rfl).lt
        clear h8 h9 hr6 h6 h7 h10 e6 em hm2 hget hcid
        go_wp2_with (at_builtin;refine Lib.wpList_append_run _ rfl (.tmp 59) (.tmp 61) 103 103 rfl _ _ rfl rfl _ _ HR6.out ?_)
        go_roundw
        case rel=>exact ⟨i+1,n2,m2,A6,c6,by go_num,by omega,rfl,by have:=HN2.out;omega,HEM.out,H10.out⟩
        case measure=>first|(simp [intOf];done)|(simp [intOf];omega)|fail
       ·have hget:cls[i]?=none:=List.getElem?_eq_none (by omega)
        have hcid:cid=0:=by
         have hcc:=HCC.out
         unfold clAt at hcc
         simp only [hget,Option.getD_none,clZ,Cl.mk.injEq] at hcc
         exact hcc.1.symm
        subst hcid
        have e6:cls.take (i+1)=cls.take i:=by rw [List.take_add_one,hget];simp
        have h10:=(((h8.drop).pull 0 _ rfl))
        have h10:=((h8.pull 1 _ rfl).drop).drop
        have H10:=Zh h10
        have HE6:=Zh e6
        clear h8 h10 hget e6
        go_wp2_with fail
        go_roundw
        case rel=>exact ⟨i+1,n2,m,Ac,cc,by go_num,by omega,rfl,by have:=HN2.out;omega,by rw [HE6.out];exact HMM.out,by rw [HE6.out];exact H10.out⟩
        case measure=>first|(simp [intOf];done)|(simp [intOf];omega)|fail
    ·obtain rfl:i=4:=by omega
     have hm4:cls.take 4=cls:=List.take_of_length_le HCL.out.1
     rw [hm4] at hm hst
     have hlB:=HLEN.out
     have hcb:=HCB.out
     obtain ⟨g0,o0,rfl,hg0,_⟩:=Zq727 (A:=A) (n:=B.length) (xs:=B.map byteV) (by
      obtain ⟨A1,c1,e1,hs,_⟩:=Zq29 hst HV.out
      simp only [Value.slice.injEq,true_and] at e1
      rw [e1.1]
      exact hs) (by omega)
     have hsd:=Zq453 (Zq29 hst HV.out) (show 136≤B.length by omega)
     rw [Nat.mul_one,←List.map_drop] at hsd
     have hdB:B.drop 136=Zq35 tags:=by
      rw [←HBB.out]
      unfold recB
      rw [show (136:Nat)=(recP2 (⟨⟨a,b,sz⟩,fi,st,tags,cls⟩:Rc) 4).length by rw [Zq206],List.drop_left]
      unfold chainB
      rw [show Zq43 tags=true from HR.out.tags]
      rfl
     rw [hdB] at hsd
     have hlc:B.length - 136=(Zq35 tags).length:=by rw [←hdB,List.length_drop]
     rw [hlc] at hsd
     have hcg:=Zq729 _ tags wr hsd HR.out.tags
     rw [←hlc] at hcg
     have hn136:n=136:=by omega
     subst hn136
     have dl:decide ((B.length:Int)<136)=false:=by rw [decide_eq_false_iff_not];omega
     have hin:(136:Int)≤(B.length:Int):=by omega
     have hcl:(136:Int)≤(c:Int):=by omega
     have hne:¬ c=136:=by omega
     have HCG:=Zh hcg
     have HST:=Zh hst
     have HM:=Zh hm
     clear hcg hst hm hsd hdB hlc hcb hn hlB
     rw [show ((4:Nat):Int)=4 from rfl,show ((136:Nat):Int)=136 from rfl]
     go_wp2_with fail
     refine HCG.out.mono ?_
     rintro e w5 ⟨A5,c5,rfl,h5⟩
     obtain ⟨I5,hs5,hR5,h6⟩:=(HST.out.row_fresh h5.below h5.row_new).freeze_row
     obtain ⟨I7,hs7,hR7,h7⟩:=(h6.pull 1 _ rfl).freeze_row
     obtain ⟨x0,x1,x2,x3,x4,x5,x6⟩:=Zq105 h7
     have f:=frozen_of_row h7.heap
     have h8:=h7.setCell 5 (.slice A5 tags.length c5)
     simp only [List.setIfInBounds_toArray,Zl4,Zl5,Zl1] at h8
     have H8:=Zh h8
     have HSUB:=Zh (hs5.trans hs7)
     have HRT:=Zh (hR5.mono hs7)
     have HRC:=Zh hR7
     clear h5 h6 h7 h8 hs5 hs7 hR5 hR7
     go_upto_region 25 with fail
     have h8:=H8.out
     generalize (World.setCell _ _ _:World)=w8 at h8 ⊢
     clear H8 x0 x1 x2 x3 x4 x5 x6 f
     have HMK:Hid (∀ w',St W I7 w' (HP.pt (g+1) (.cells #[.int .i64 a,.int .i64 b,.int .i64 sz,.int .i64 fi,.int .i64 st,.slice A5 tags.length c5,.slice Ac m cc] 105)::HP.pt g (.cells #[.int .i64 0,.int .i64 0,.int .i64 0,.int .i64 0,.int .i64 0,.slice none 0 0,.slice none 0 0] 105)::l)→St W I7 w' (HP.pt (g+1) (.cells #[.int .i64 a,.int .i64 b,.int .i64 sz,.int .i64 fi,.int .i64 st,.slice A5 tags.length c5,.slice Ac m cc] 105)::HP.pt g (.cells #[.int .i64 0,.int .i64 0,.int .i64 0,.int .i64 0,.int .i64 0,.slice none 0 0,.slice none 0 0] 105)::l)∧w'.cell? ⟨g+1,0,none⟩=some (.int .i64 a)∧w'.cell? ⟨g+1,1,none⟩=some (.int .i64 b)∧w'.cell? ⟨g+1,2,none⟩=some (.int .i64 sz)∧w'.cell? ⟨g+1,3,none⟩=some (.int .i64 fi)∧w'.cell? ⟨g+1,4,none⟩=some (.int .i64 st)∧w'.cell? ⟨g+1,5,none⟩=some (.slice A5 tags.length c5)∧w'.cell? ⟨g+1,6,none⟩=some (.slice Ac m cc)):=Zh fun w' h=>⟨h,Zq105 h⟩
     have HRR:=Zh (Zq200 ⟨a,b,sz⟩)
     rw [show (⟨a,b,sz⟩:Rg).okB=true from HR.out.shape] at HRR
     have HRC2:=Zh (show RowI I7 3 (.slice Ac m cc) cls.length (cls.flatMap Cl.vals) by rw [←HM.out];exact HRC.out)
     have HH8:=Zh h8
     clear h8
     refine Zq42 (fun w'=>St W I7 w' (HP.pt (g+1) (.cells #[.int .i64 a,.int .i64 b,.int .i64 sz,.int .i64 fi,.int .i64 st,.slice A5 tags.length c5,.slice Ac m cc] 105)::HP.pt g (.cells #[.int .i64 0,.int .i64 0,.int .i64 0,.int .i64 0,.int .i64 0,.slice none 0 0,.slice none 0 0] 105)::l)∧w'.cell? ⟨g+1,0,none⟩=some (.int .i64 a)∧w'.cell? ⟨g+1,1,none⟩=some (.int .i64 b)∧w'.cell? ⟨g+1,2,none⟩=some (.int .i64 sz)∧w'.cell? ⟨g+1,3,none⟩=some (.int .i64 fi)∧w'.cell? ⟨g+1,4,none⟩=some (.int .i64 st)∧w'.cell? ⟨g+1,5,none⟩=some (.slice A5 tags.length c5)∧w'.cell? ⟨g+1,6,none⟩=some (.slice Ac m cc)) [(0,false),(1,false),(2,false),(3,false),(4,false),(5,false),(6,false),(7,false),(8,false),(9,false),(10,false),(11,false),(12,true)] [] [13,14] (by kernel_rfl) (by kernel_rfl) (by (intro w' hb;exact HMK.out _ (HH8.out.drew.keep hb))) ?_
     repeat (first|(refine Zq60 (by rfl) _ (by rfl) (by intro w;go_simp;try with_reducible rfl) ?_;(try simp only [Act.put,List.setIfInBounds_toArray,Zl4,Zl5]))|(refine Zq146 (by rfl) _ (by rfl) (by (intro w hSw;(try dsimp only at hSw);go_simp;try with_reducible rfl)) ?_;(try simp only [Act.put,List.setIfInBounds_toArray,Zl4,Zl5]))|(refine Zq79 (by rfl) (by rfl) ?_;(try simp only [Act.put,List.setIfInBounds_toArray,Zl4,Zl5]))|fail)
     refine Zq178 (by rfl) (.bool true) (88) (#[.agg #[.int .i64 a,.int .i64 b,.int .i64 sz]]) (by rfl) (by intro w;go_simp;try with_reducible rfl) (by (rintro w1 ⟨h1,_⟩;exact HRR.out w1)) ?_
     (try simp only [Act.put,List.setIfInBounds_toArray,Zl4,Zl5])
     repeat (first|(refine Zq60 (by rfl) _ (by rfl) (by intro w;go_simp;try with_reducible rfl) ?_;(try simp only [Act.put,List.setIfInBounds_toArray,Zl4,Zl5]))|(refine Zq146 (by rfl) _ (by rfl) (by (intro w hSw;(try dsimp only at hSw);go_simp;try with_reducible rfl)) ?_;(try simp only [Act.put,List.setIfInBounds_toArray,Zl4,Zl5]))|(refine Zq79 (by rfl) (by rfl) ?_;(try simp only [Act.put,List.setIfInBounds_toArray,Zl4,Zl5]))|fail)
     refine Zq178 (by rfl) (.bool true) (157) (#[.slice Ac m cc]) (by rfl) (by intro w;go_simp;try with_reducible rfl) (by (rintro w1 ⟨h1,_⟩;exact (Zq452 _ cls h1 HRC2.out (by have:=HCL.out.1;omega)).mono (by rintro e w' ⟨rfl,hb⟩;exact ⟨by rw [HR.out.cls],hb⟩))) ?_
     (try simp only [Act.put,List.setIfInBounds_toArray,Zl4,Zl5])
     repeat (first|(refine Zq60 (by rfl) _ (by rfl) (by intro w;go_simp;try with_reducible rfl) ?_;(try simp only [Act.put,List.setIfInBounds_toArray,Zl4,Zl5]))|(refine Zq146 (by rfl) _ (by rfl) (by (intro w hSw;(try dsimp only at hSw);go_simp;try with_reducible rfl)) ?_;(try simp only [Act.put,List.setIfInBounds_toArray,Zl4,Zl5]))|(refine Zq79 (by rfl) (by rfl) ?_;(try simp only [Act.put,List.setIfInBounds_toArray,Zl4,Zl5]))|fail)
     refine Zq345 ?_
     refine Zq547 ?_
     rintro w9 hz9
     have h9:=HH8.out.drew.keep hz9.below
     clear hz9
     obtain ⟨y0,y1,y2,y3,y4,y5,y6⟩:=Zq105 h9
     have f9:=frozen_of_row (h9.pull 1 _ rfl).heap
     obtain ⟨z0,z1,z2,z3,z4,z5,z6⟩:=Zq105 (h9.pull 1 _ rfl)
     have HH9:=Zh h9
     clear h9
     go_wp2_with fail
     refine NoPanic.normal ?_
     have h10:=((HH9.out.pull 1 _ rfl).set7 (.int .i64 a) (.int .i64 b) (.int .i64 sz) (.int .i64 fi) (.int .i64 st) (.slice A5 tags.length c5) (.slice Ac m cc))
     generalize (World.setCell _ _ _:World)=w10 at h10 ⊢
     clear y0 y1 y2 y3 y4 y5 y6 z0 z1 z2 z3 z4 z5 z6 f9 HH9
     obtain ⟨z0,z1,z2,z3,z4,z5,z6⟩:=Zq105 h10
     have H10:=Zh h10
     clear h10
     go_wp2_with fail
     refine bodyPost_ret (v:=.tuple #[.agg #[.int .i64 a,.int .i64 b,.int .i64 sz,.int .i64 fi,.int .i64 st,.slice A5 tags.length c5,.slice Ac m cc],.bool true]) (by simp [results,Tryz.results144,go_sem,z0,z1,z2,z3,z4,z5,z6]) rfl ?_
     exact ⟨I7,.slice A5 tags.length c5,.slice Ac m cc,HSUB.out,rfl,⟨HRT.out,HRC2.out⟩,(H10.out.drop).drop⟩
end
end Go.Proofs.YtpjchngjhijgmaaGreat
