import Derived.Test.YtpjchngjhijgmaaGreatJM16
set_option linter.all false
namespace Go.Proofs.YtpjchngjhijgmaaGreat
open Go.RowKit
theorem Zq631 {t:Tag} (h:∀ x ∈ t.nums,0≤x∧x≤1099511627776) (k:Nat):∀ x ∈ tagB t k,isByte x:=by
 intro x hx
 obtain ⟨y,hy,hx⟩:=List.mem_flatMap.1 hx
 exact Zq384 (by have:=h y (List.mem_of_mem_take hy);omega) x hx
theorem Zq144 {l:List Tag} (h:Zq43 l=true):∀ x ∈ Zq35 l,isByte x:=by
 intro x hx
 rcases List.mem_append.1 hx with hx|hx
 ·exact Zq384 (by have:=Zq87 h;omega) x hx
 ·obtain ⟨t,ht,hx⟩:=List.mem_flatMap.1 hx
  exact Zq631 (Zq226 h t (List.mem_of_mem_take ht)) 4 x hx
theorem Zq386 {l:List Tag} {i:Nat} {t:Tag} (h:l[i]?=some t) (j:Nat) (hj:j<4):∃ y rest,t.nums[j]?=some y∧(Zq35 l).drop (Zq28 l i++tagB t j).length=varB y++rest:=by
 obtain ⟨y,hy⟩:∃ y,t.nums[j]?=some y:=⟨_,List.getElem?_eq_getElem (by simpa [Tag.nums] using hj)⟩
 have hil:=(List.getElem?_eq_some_iff.1 h).1
 have e1:Zq35 l=Zq28 l (i+1)++(l.drop (i+1)).flatMap fun t=>tagB t 4:=by
  unfold Zq35 Zq28
  rw [List.append_assoc,←List.flatMap_append,List.take_append_drop,List.take_length]
 have e2:tagB t 4=tagB t j++(varB y++(t.nums.drop (j+1)).flatMap varB):=by
  unfold tagB
  have h1:t.nums.take 4=t.nums:=by simp [Tag.nums]
  have h2:t.nums=t.nums.take j++y::t.nums.drop (j+1):=by
   obtain ⟨hjl,he⟩:=List.getElem?_eq_some_iff.1 hy
   rw [←he,←List.drop_eq_getElem_cons hjl,List.take_append_drop]
  rw [h1]
  conv=>lhs;rw [h2]
  rw [List.flatMap_append,List.flatMap_cons]
 refine ⟨y,((t.nums.drop (j+1)).flatMap varB)++(l.drop (i+1)).flatMap fun t=>tagB t 4,hy,?_⟩
 rw [e1,Zq157 h,e2,List.append_assoc,List.append_assoc,←List.append_assoc (Zq28 l i),List.drop_left,List.append_assoc]
section
variable {W w : World} {I : Hp} {l : List HP}
set_option maxRecDepth 4000
set_option maxHeartbeats 8000000
theorem St.tags_append {v v2:Value} {n m:Nat} {xs ys:List Value} (ty:TypeId) (h:St W I w (HP.row 80 4 v n xs::l)) (hs:SliceSrc w 4 v2 m ys) (hb:n+m≤1000000000) :
  ∃ v' w',(Builtin.append_ #[65,65] ty #[v,v2]).run Tryz.prog w=.ok v' w'∧St W I w' (HP.row 80 4 v' (n+m) (xs++ys)::l):=by
 obtain ⟨A,c,rfl,hsrc,hA⟩:=hs
 obtain ⟨i0,hi0,hz0,hz1,hz2⟩:=info_parts Zq580
 obtain ⟨v',w',hr,ho',hgr,hv'⟩:=Zq57 (P:=Tryz.prog) w 0 65 ty 80 i0 _ 4 32 Tryz.underlying65 hi0 hz0 hz1 hz2 rfl (by decide) v n xs h.row_owns A m c ys hsrc hA (by unfold maxLen;omega) (by omega) (Nat.zero_le _)
 exact ⟨v',w',hr,h.row_grown ho' hgr hv'⟩
theorem Zq861 (w:World) (t:Tag):SliceSrc (w.alloc (.cells #[.int .i64 t.id,.int .i64 t.own,.int .i64 t.heir,.int .i64 t.at_] 80)) 4 (.slice (some ⟨w.heap.size,0,none⟩) 1 1) 1 t.vals:=by
 refine ⟨_,_,rfl,⟨rfl,fun _=>⟨_,rfl,fun j u hu=>?_⟩,fun u hu=>?_⟩,fun e=>by cases e⟩
 ·rw [add_plain,Nat.zero_add,Zq1 (heap_alloc_new _ _) j,←hu]
  simp [Tag.vals]
 ·simp only [Tag.vals,List.mem_cons,List.not_mem_nil,or_false] at hu
  rcases hu with rfl|rfl|rfl|rfl <;> rfl
def Zq885 (t:Tag) (j:Nat):Array Value:=#[.int .i64 (if 0<j then t.id else 0),.int .i64 (if 1<j then t.own else 0),.int .i64 (if 2<j then t.heir else 0),.int .i64 (if 3<j then t.at_ else 0)]
theorem Zq546 (v:Value) (l:List Tag) (w:World) (hs:SliceSrc w 1 v (Zq35 l).length ((Zq35 l).map byteV)) (hr:Zq43 l=true) :
  Calls Tryz.prog 203 #[v] w fun e w'=>∃ A' c',e=.returned (.tuple #[.slice A' l.length c',.bool true])∧St w w.hp w' [HP.row 80 4 (.slice A' l.length c') l.length (flat l)]:=by
 have hsm:=Zq87 hr
 have hcl:=Zq48 l l.length
 have hg0:=Zq204 v (Zq35 l) ((l.take l.length).flatMap fun t=>tagB t 4) 0 l.length w hs (by unfold Zq35 Zq28;rw [List.drop_zero]) (by omega) (by show (Zq28 l l.length).length≤_;omega)
 rw [Nat.zero_add] at hg0
 have HG0:=Zh hg0
 have HN:=Zh (Zq226 hr)
 have HSR:=Zh hs
 obtain ⟨A,c,rfl,_⟩:=hs
 have HCL:=Zh hcl
 have d32:decide ((32:Int)<(l.length:Int))=false:=by rw [decide_eq_false_iff_not];omega
 obtain ⟨n0,hn0⟩:∃ n0,(varB (l.length:Int)).length=n0:=⟨_,rfl⟩
 rw [hn0] at HG0
 have HN0:=Zh hn0
 clear hg0 hr hcl hn0
 go_enter Tryz.func203,Tryz.ntmps203
 go_wp2_with fail
 refine HG0.out.mono ?_
 rintro e w2 ⟨rfl,rfl⟩
 go_wp2_with fail
 go_loopw [5,7,24] (fun a5 a7 a24 wr=>∃ (i n:Nat) (A':Option Addr) (c':Nat),a24=.int .i64 i∧i≤l.length∧a5=.int .i64 n∧n=(Zq28 l i).length∧a7=.slice A' i c'∧St w w.hp wr [HP.row 80 4 (.slice A' i c') i (flat (l.take i))]) (fun _ _ a24 _=>l.length - (intOf a24).toNat)
 case atStart=>exact ⟨0,n0,none,0,rfl,Nat.zero_le _,rfl,by rw [←HN0.out];simp [Zq28],rfl,(St.init w).row_nil _ _⟩
 case round =>
  obtain ⟨i,n,A',c',rfl,hi,rfl,hn,rfl,hst⟩:=hrel
  have HNN:=Zh hn
  clear hn
  by_cases hlt:i<l.length
  ·have d0:decide ((i:Int)<(l.length:Int))=true:=by rw [decide_eq_true_eq];omega
   obtain ⟨t,ht⟩:∃ t,l[i]?=some t:=⟨_,List.getElem?_eq_getElem hlt⟩
   have HNT:=Zh (HN.out t (List.mem_of_getElem? ht))
   have HDR:=Zh (fun j hj=>Zq386 ht j hj)
   have HPS:=Zh (Zq157 ht)
   have HTS:=Zh (show flat (l.take (i+1))=flat (l.take i)++t.vals by rw [List.take_add_one,ht];simp [flat])
   have hin:(i:Int)<(l.length:Int):=by omega
   obtain ⟨tid,town,their,tat⟩:=t
   have hst1:=hst.alloc (.cells #[.int .i64 0,.int .i64 0,.int .i64 0,.int .i64 0] 80)
   obtain ⟨g,hg⟩:∃ g,wr.heap.size=g:=⟨_,rfl⟩
   rw [hg] at hst1
   have HST:=Zh hst1
   have HGG:=Zh hg
   clear hst hst1 ht hg
   have i0:∀ w:World,(Instr.index 273 (.agg #[.pointer (some ⟨g,0,none⟩),.pointer (some ⟨g,1,none⟩),.pointer (some ⟨g,2,none⟩),.pointer (some ⟨g,3,none⟩)]) (.int .i64 0)).run Tryz.prog w=.ok (.pointer (some ⟨g,0,none⟩)) w:=fun _=>by kernel_rfl
   have i1:∀ w:World,(Instr.index 273 (.agg #[.pointer (some ⟨g,0,none⟩),.pointer (some ⟨g,1,none⟩),.pointer (some ⟨g,2,none⟩),.pointer (some ⟨g,3,none⟩)]) (.int .i64 1)).run Tryz.prog w=.ok (.pointer (some ⟨g,1,none⟩)) w:=fun _=>by kernel_rfl
   have i2:∀ w:World,(Instr.index 273 (.agg #[.pointer (some ⟨g,0,none⟩),.pointer (some ⟨g,1,none⟩),.pointer (some ⟨g,2,none⟩),.pointer (some ⟨g,3,none⟩)]) (.int .i64 2)).run Tryz.prog w=.ok (.pointer (some ⟨g,2,none⟩)) w:=fun _=>by kernel_rfl
   have i3:∀ w:World,(Instr.index 273 (.agg #[.pointer (some ⟨g,0,none⟩),.pointer (some ⟨g,1,none⟩),.pointer (some ⟨g,2,none⟩),.pointer (some ⟨g,3,none⟩)]) (.int .i64 3)).run Tryz.prog w=.ok (.pointer (some ⟨g,3,none⟩)) w:=fun _=>by kernel_rfl
   go_wp2_with fail
   rw [HGG.out]
   go_loopw [5,6,31] (fun a5 a6 a31 wr=>∃ (j n:Nat),a31=.int .i64 j∧j≤4∧a5=.int .i64 n∧n=(Zq28 l i++tagB (⟨tid,town,their,tat⟩:Tag) j).length∧St w w.hp wr [HP.pt g (.cells (Zq885 (⟨tid,town,their,tat⟩:Tag) j) 80),HP.row 80 4 (.slice A' i c') i (flat (l.take i))]) (fun _ _ a31 _=>4 - (intOf a31).toNat)
   case atStart=>exact ⟨0,n,rfl,Nat.zero_le _,rfl,by rw [HNN.out];simp [tagB],HST.out⟩
   case round =>
    obtain ⟨j,m,rfl,hj,rfl,hm,hst2⟩:=hrel
    clear HST HNN
    rcases (show j=0∨j=1∨j=2∨j=3∨j=4 by omega) with rfl|rfl|rfl|rfl|rfl
    ·have h4:St w w.hp wr [HP.pt g (.cells #[.int .i64 0,.int .i64 0,.int .i64 0,.int .i64 0] 80),HP.row 80 4 (.slice A' i c') i (flat (l.take i))]:=hst2
     have f:=frozen_of_row h4.heap
     have y:=Zq1 h4.heap 0
     simp at y
     obtain ⟨yy,rest,hy,hdr⟩:=HDR.out 0 (by omega)
     obtain rfl:tid=yy:=by simpa [Tag.nums] using hy
     have hb:=HNT.out tid (by simp [Tag.nums])
     obtain ⟨X,hX⟩:∃ X:Nat,tid=X:=⟨(tid).toNat,by omega⟩
     rw [←hm,hX] at hdr
     have hgv:=Zq204 (.slice A (Zq35 l).length c) (Zq35 l) rest m X wr (HSR.out.below h4.below) hdr (by omega) (by have:=HCL.out;show (Zq28 l l.length).length≤_;omega)
     rw [←hX] at hgv
     have HM:=Zh (show m+(varB tid).length=(Zq28 l i++tagB (⟨tid,town,their,tat⟩:Tag) 1).length by rw [hm,List.length_append,List.length_append,Nat.add_assoc];simp [tagB,Tag.nums,Nat.add_assoc])
     obtain ⟨m2,hm2⟩:∃ m2,m+(varB tid).length=m2:=⟨_,rfl⟩
     rw [hm2] at hgv HM
     have HGV:=Zh hgv
     have H5:=Zh (h4.setCell 0 (.int .i64 tid))
     clear hgv h4 hst2 hdr hy hX hb hm hm2 rest X
     go_wp2_with fail
     refine HGV.out.mono ?_
     clear HGV
     rintro e w5 ⟨rfl,rfl⟩
     go_wp2_with fail
     go_roundw
     case rel=>exact ⟨1,m2,rfl,by omega,rfl,HM.out,H5.out⟩
     case measure=>simp [intOf]
    ·have h4:St w w.hp wr [HP.pt g (.cells #[.int .i64 tid,.int .i64 0,.int .i64 0,.int .i64 0] 80),HP.row 80 4 (.slice A' i c') i (flat (l.take i))]:=hst2
     have f:=frozen_of_row h4.heap
     have y:=Zq1 h4.heap 1
     simp at y
     obtain ⟨yy,rest,hy,hdr⟩:=HDR.out 1 (by omega)
     obtain rfl:town=yy:=by simpa [Tag.nums] using hy
     have hb:=HNT.out town (by simp [Tag.nums])
     obtain ⟨X,hX⟩:∃ X:Nat,town=X:=⟨(town).toNat,by omega⟩
     rw [←hm,hX] at hdr
     have hgv:=Zq204 (.slice A (Zq35 l).length c) (Zq35 l) rest m X wr (HSR.out.below h4.below) hdr (by omega) (by have:=HCL.out;show (Zq28 l l.length).length≤_;omega)
     rw [←hX] at hgv
     have HM:=Zh (show m+(varB town).length=(Zq28 l i++tagB (⟨tid,town,their,tat⟩:Tag) 2).length by rw [hm,List.length_append,List.length_append,Nat.add_assoc];simp [tagB,Tag.nums,Nat.add_assoc])
     obtain ⟨m2,hm2⟩:∃ m2,m+(varB town).length=m2:=⟨_,rfl⟩
     rw [hm2] at hgv HM
     have HGV:=Zh hgv
     have H5:=Zh (h4.setCell 1 (.int .i64 town))
     clear hgv h4 hst2 hdr hy hX hb hm hm2 rest X
     go_wp2_with fail
     refine HGV.out.mono ?_
     clear HGV
     rintro e w5 ⟨rfl,rfl⟩
     go_wp2_with fail
     go_roundw
     case rel=>exact ⟨2,m2,rfl,by omega,rfl,HM.out,H5.out⟩
     case measure=>simp [intOf]
    ·have h4:St w w.hp wr [HP.pt g (.cells #[.int .i64 tid,.int .i64 town,.int .i64 0,.int .i64 0] 80),HP.row 80 4 (.slice A' i c') i (flat (l.take i))]:=hst2
     have f:=frozen_of_row h4.heap
     have y:=Zq1 h4.heap 2
     simp at y
     obtain ⟨yy,rest,hy,hdr⟩:=HDR.out 2 (by omega)
     obtain rfl:their=yy:=by simpa [Tag.nums] using hy
     have hb:=HNT.out their (by simp [Tag.nums])
     obtain ⟨X,hX⟩:∃ X:Nat,their=X:=⟨(their).toNat,by omega⟩
     rw [←hm,hX] at hdr
     have hgv:=Zq204 (.slice A (Zq35 l).length c) (Zq35 l) rest m X wr (HSR.out.below h4.below) hdr (by omega) (by have:=HCL.out;show (Zq28 l l.length).length≤_;omega)
     rw [←hX] at hgv
     have HM:=Zh (show m+(varB their).length=(Zq28 l i++tagB (⟨tid,town,their,tat⟩:Tag) 3).length by rw [hm,List.length_append,List.length_append,Nat.add_assoc];simp [tagB,Tag.nums,Nat.add_assoc])
     obtain ⟨m2,hm2⟩:∃ m2,m+(varB their).length=m2:=⟨_,rfl⟩
     rw [hm2] at hgv HM
     have HGV:=Zh hgv
     have H5:=Zh (h4.setCell 2 (.int .i64 their))
     clear hgv h4 hst2 hdr hy hX hb hm hm2 rest X
     go_wp2_with fail
     refine HGV.out.mono ?_
     clear HGV
     rintro e w5 ⟨rfl,rfl⟩
     go_wp2_with fail
     go_roundw
     case rel=>exact ⟨3,m2,rfl,by omega,rfl,HM.out,H5.out⟩
     case measure=>simp [intOf]
    ·have h4:St w w.hp wr [HP.pt g (.cells #[.int .i64 tid,.int .i64 town,.int .i64 their,.int .i64 0] 80),HP.row 80 4 (.slice A' i c') i (flat (l.take i))]:=hst2
     have f:=frozen_of_row h4.heap
     have y:=Zq1 h4.heap 3
     simp at y
     obtain ⟨yy,rest,hy,hdr⟩:=HDR.out 3 (by omega)
     obtain rfl:tat=yy:=by simpa [Tag.nums] using hy
     have hb:=HNT.out tat (by simp [Tag.nums])
     obtain ⟨X,hX⟩:∃ X:Nat,tat=X:=⟨(tat).toNat,by omega⟩
     rw [←hm,hX] at hdr
     have hgv:=Zq204 (.slice A (Zq35 l).length c) (Zq35 l) rest m X wr (HSR.out.below h4.below) hdr (by omega) (by have:=HCL.out;show (Zq28 l l.length).length≤_;omega)
     rw [←hX] at hgv
     have HM:=Zh (show m+(varB tat).length=(Zq28 l i++tagB (⟨tid,town,their,tat⟩:Tag) 4).length by rw [hm,List.length_append,List.length_append,Nat.add_assoc];simp [tagB,Tag.nums,Nat.add_assoc])
     obtain ⟨m2,hm2⟩:∃ m2,m+(varB tat).length=m2:=⟨_,rfl⟩
     rw [hm2] at hgv HM
     have HGV:=Zh hgv
     have H5:=Zh (h4.setCell 3 (.int .i64 tat))
     clear hgv h4 hst2 hdr hy hX hb hm hm2 rest X
     go_wp2_with fail
     refine HGV.out.mono ?_
     clear HGV
     rintro e w5 ⟨rfl,rfl⟩
     go_wp2_with fail
     go_roundw
     case rel=>exact ⟨4,m2,rfl,by omega,rfl,HM.out,H5.out⟩
     case measure=>simp [intOf]
    ·have h4:St w w.hp wr [HP.pt g (.cells #[.int .i64 tid,.int .i64 town,.int .i64 their,.int .i64 tat] 80),HP.row 80 4 (.slice A' i c') i (flat (l.take i))]:=hst2
     have y:=Zq1 h4.heap
     have y0:=y 0
     have y1:=y 1
     have y2:=y 2
     have y3:=y 3
     simp at y0 y1 y2 y3
     have h5:=h4.drop.keep (Zq7 wr (.cells #[.int .i64 tid,.int .i64 town,.int .i64 their,.int .i64 tat] 80))
     obtain ⟨v',w',hr,h6⟩:=St.tags_append 65 h5 (Zq861 wr (⟨tid,town,their,tat⟩:Tag)) (by omega)
     obtain ⟨A2,c2,rfl⟩:=Zq17 h6.row_owns
     rw [←HTS.out] at h6
     have HR:=Zh hr
     have H6:=Zh h6
     have HM:=Zh (show m=(Zq28 l (i+1)).length by rw [hm,HPS.out])
     clear hst2 h4 y h5 hr h6 hm
     go_wp2_with (at_builtin;refine Lib.wpList_append_run _ rfl (.tmp 46) (.tmp 48) 65 65 rfl _ _ rfl rfl _ _ HR.out ?_)
     go_roundw
     case rel=>exact ⟨i+1,m,A2,c2,by go_num,by omega,rfl,HM.out,rfl,H6.out⟩
     case measure=>first|(simp [intOf];done)|(simp [intOf];omega)|fail
  ·obtain rfl:i=l.length:=by omega
   have d0:decide (((l.length:Nat):Int)<(l.length:Int))=false:=by rw [decide_eq_false_iff_not];omega
   rw [List.take_length] at hst
   have HST:=Zh hst
   clear hst
   go_wp2_with fail
   go_ret2
   exact ⟨A',c',rfl,HST.out⟩
theorem St.row_cap {e:TypeId} {size:Nat} {A:Option Addr} {m c n:Nat} {xs:List Value} (h:St W I w (HP.row e size (.slice A m c) n xs::l)):m=n∧n≤c:=by
 obtain ⟨_,⟨e1,e2,_⟩|⟨g,cap,cur,e1,h3,_⟩⟩:=h.row_open
 ·simp only [Value.slice.injEq] at e1
  omega
 ·simp only [Value.slice.injEq] at e1
  omega
theorem Zq729 (v:Value) (l:List Tag) (w:World) (hs:SliceSrc w 1 v (Zq35 l).length ((Zq35 l).map byteV)) (hr:Zq43 l=true) :
  Calls Tryz.prog 183 #[v] w fun e w'=>∃ A' c',e=.returned (.tuple #[.slice A' l.length c',.int .i64 0])∧St w w.hp w' [HP.row 80 4 (.slice A' l.length c') l.length (flat l)]:=by
 have hp:=Zq546 v l w hs hr
 have HP:=Zh hp
 have HS:=Zh hs
 have HRR:=Zh hr
 have hsm:=Zq87 hr
 obtain ⟨A,c,rfl,_⟩:=hs
 clear hp hr
 go_enter Tryz.func183,Tryz.ntmps183
 go_wp2_with fail
 refine HP.out.mono ?_
 rintro e w2 ⟨A2,c2,rfl,h2⟩
 have hcap:=h2.row_cap.2
 have hpu:=Zq493 A2 c2 l w2 (TagsAt.of_own h2.row_owns) (by omega) hcap
 have e0:chainB l=Zq35 l:=by unfold chainB;rw [HRR.out];rfl
 rw [HRR.out,e0] at hpu
 have HPU:=Zh hpu
 have H2:=Zh h2
 clear hpu h2 hcap e0
 go_wp2_with fail
 refine HPU.out.mono ?_
 rintro e w3 ⟨A3,c3,rfl,h3⟩
 have heq:=Zq170 (.slice A3 (Zq35 l).length c3) (.slice A (Zq35 l).length c) (Zq35 l) (Zq35 l) w3 (SliceSrc.of_owns h3.row_owns (Zq64 _)) (HS.out.below (H2.out.below.trans (h3.below.mono H2.out.below.size))) (Zq144 HRR.out) (Zq144 HRR.out)
 rw [decide_eq_true rfl] at heq
 have HEQ:=Zh heq
 have H3:=Zh (H2.out.keep h3.below)
 clear heq h3
 go_wp2_with fail
 refine HEQ.out.mono ?_
 rintro e w4 ⟨rfl,rfl⟩
 go_wp2_with fail
 go_ret2
 exact ⟨A2,c2,rfl,H3.out⟩
end
end Go.Proofs.YtpjchngjhijgmaaGreat
namespace Go.Proofs.YtpjchngjhijgmaaGreat
open Go.RowKit
def Cl.vals (c:Cl):List Value:=[.int .i64 c.id,.int .i64 c.pos,.bool c.off]
section
set_option maxRecDepth 4000
set_option maxHeartbeats 4000000
theorem Zq862 {id pos:Int} {b:Bool} (h:b=true↔(1≤id∧id≤1073741824∧0≤pos∧pos≤1099511627776)):b=mayC id pos:=by
 rw [Bool.eq_iff_iff,h,mayC,decide_eq_true_eq]
theorem Zq632 (id pos:Int) (w:World):Calls Tryz.prog 158 #[.int .i64 id,.int .i64 pos] w fun e w'=>e=.returned (.bool (mayC id pos))∧w=w':=by
 go_enter Tryz.func158,Tryz.ntmps158
 go_wp2
 all_goals
  go_ret
  refine ⟨ret_bool (Zq862 ?_),rfl⟩
  simp only [decide_eq_true_eq,Bool.false_eq_true,false_iff]
  omega
def Zq192 (s:Int × Bool) (c:Cl):Int × Bool:=if c.off then s else if s.2=false∨c.pos<s.1 then (c.pos,true) else s
theorem Zq301:∀ (l:List Cl) (c:Cl) (s:Int × Bool),Zq572 (l++[c]) s=Zq192 (Zq572 l s) c
 | [],c,s=>rfl
 | a::l,c,s=>Zq301 l c _
variable {W w : World} {I : Hp} {l : List HP}
theorem Zq730 (v:Value) (cs:List Cl) (h:St W I w l) (hv:RowI I 3 v cs.length (cs.flatMap Cl.vals)) (hn:cs.length≤1000000) :
  Calls Tryz.prog 153 #[v] w fun e w'=>e=.returned (.tuple #[.int .i64 (slowC cs).1,.bool (slowC cs).2])∧Below w.heap.size w w':=by
 have HV:=Zh hv
 have H:=Zh h
 obtain ⟨A,c,rfl,_⟩:=hv
 clear h
 go_enter Tryz.func153,Tryz.ntmps153
 go_wp2_with fail
 go_loopw [4,5,7,10] (fun a4 a5 a7 a10 wr=>∃ (i:Nat) (s:Int × Bool),a10=.int .i64 i∧i≤cs.length∧a4=.int .i64 s.1∧a5=.bool s.2∧Zq572 (cs.take i) (0,false)=s∧Below w.heap.size w wr) (fun _ _ _ a10 _=>cs.length - (intOf a10).toNat)
 case atStart=>exact ⟨0,(0,false),rfl,Nat.zero_le _,rfl,rfl,rfl,Below.refl _ _⟩
 case round =>
  obtain ⟨i,⟨s1,s2⟩,rfl,hi,rfl,rfl,hs,hb⟩:=hrel
  by_cases hlt:i<cs.length
  ·have d0:decide ((i:Int)<(cs.length:Int))=true:=by rw [decide_eq_true_eq];omega
   obtain ⟨k,hk⟩:∃ k,cs[i]?=some k:=⟨_,List.getElem?_eq_getElem hlt⟩
   obtain ⟨b,off,e1,hc⟩:=Zq115 (i:=i) HV.out (Hp.sub.refl I) (H.out.keep hb) (fun _=>rfl) hk
   simp only [Value.slice.injEq,and_true] at e1
   subst e1
   have y0:=hc 0 (by omega)
   have y1:=hc 1 (by omega)
   have y2:=hc 2 (by omega)
   obtain ⟨kid,kpos,koff⟩:=k
   simp only [Cl.vals,Zl6,Zl7,Nat.add_zero] at y0 y1 y2
   have hin:(i:Int)<(cs.length:Int):=by omega
   have HN:=Zh (show Zq572 (cs.take (i+1)) (0,false)=Zq192 (s1,s2) ⟨kid,kpos,koff⟩ by
    obtain ⟨hil,he⟩:=List.getElem?_eq_some_iff.1 hk
    rw [List.take_succ_eq_append_getElem hil,he,Zq301,hs])
   have HB:=Zh (hb.trans ((Zq7 wr (.cells #[.int .i64 kid,.int .i64 kpos,.bool koff] 212)).mono hb.size))
   clear hc hk hs hb
   simp only at *
   cases koff with
   | true =>
    go_wp2_with fail
    go_roundw
    case rel=>exact ⟨i+1,(s1,s2),by go_num,by omega,rfl,rfl,by rw [HN.out];rfl,HB.out⟩
    case measure=>first|(simp [intOf];done)|(simp [intOf];omega)|fail
   | false =>
    cases s2 with
    | false =>
     go_wp2_with fail
     go_roundw
     case rel=>exact ⟨i+1,(kpos,true),by go_num,by omega,rfl,rfl,by rw [HN.out];simp [Zq192],HB.out⟩
     case measure=>first|(simp [intOf];done)|(simp [intOf];omega)|fail
    | true =>
     by_cases hp:kpos<s1
     ·have dp:decide (kpos<s1)=true:=decide_eq_true hp
      have HS:=Zh (show Zq192 (s1,true) ⟨kid,kpos,false⟩=(kpos,true) by simp [Zq192,hp])
      go_wp2_with fail
      go_roundw
      case rel=>exact ⟨i+1,(kpos,true),by go_num,by omega,rfl,rfl,by rw [HN.out,HS.out],HB.out⟩
      case measure=>first|(simp [intOf];done)|(simp [intOf];omega)|fail
     ·have dp:decide (kpos<s1)=false:=decide_eq_false hp
      have HS:=Zh (show Zq192 (s1,true) ⟨kid,kpos,false⟩=(s1,true) by simp [Zq192];omega)
      go_wp2_with fail
      go_roundw
      case rel=>exact ⟨i+1,(s1,true),by go_num,by omega,rfl,rfl,by rw [HN.out,HS.out],HB.out⟩
      case measure=>first|(simp [intOf];done)|(simp [intOf];omega)|fail
  ·obtain rfl:i=cs.length:=by omega
   have d0:decide (((cs.length:Nat):Int)<(cs.length:Int))=false:=by rw [decide_eq_false_iff_not];omega
   rw [List.take_length] at hs
   have HS:=Zh (show slowC cs=(s1,s2) from hs)
   have HB:=Zh hb
   clear hs hb
   go_wp2_with fail
   go_ret2
   rw [HS.out]
   exact ⟨rfl,HB.out⟩
theorem Zq452 (v:Value) (cs:List Cl) (h:St W I w l) (hv:RowI I 3 v cs.length (cs.flatMap Cl.vals)) (hn:cs.length≤1000000) :
  Calls Tryz.prog 157 #[v] w fun e w'=>e=.returned (.bool (Zq68 cs))∧Below w.heap.size w w':=by
 have HV:=Zh hv
 have H:=Zh h
 obtain ⟨A,c,rfl,_⟩:=hv
 clear h
 go_enter Tryz.func157,Tryz.ntmps157
 go_wp2_with fail
 go_loopw [3,5,8] (fun a3 a5 a8 wr=>∃ (i:Nat) (last:Int),a8=.int .i64 i∧i≤cs.length∧a3=.int .i64 last∧clsGo cs 0=clsGo (cs.drop i) last∧Below w.heap.size w wr) (fun _ _ a8 _=>cs.length - (intOf a8).toNat)
 case atStart=>exact ⟨0,0,rfl,Nat.zero_le _,rfl,rfl,Below.refl _ _⟩
 case round =>
  obtain ⟨i,last,rfl,hi,rfl,hs,hb⟩:=hrel
  by_cases hlt:i<cs.length
  ·have d0:decide ((i:Int)<(cs.length:Int))=true:=by rw [decide_eq_true_eq];omega
   obtain ⟨k,hk⟩:∃ k,cs[i]?=some k:=⟨_,List.getElem?_eq_getElem hlt⟩
   obtain ⟨b,off,e1,hc⟩:=Zq115 (i:=i) HV.out (Hp.sub.refl I) (H.out.keep hb) (fun _=>rfl) hk
   simp only [Value.slice.injEq,and_true] at e1
   subst e1
   have y0:=hc 0 (by omega)
   have y1:=hc 1 (by omega)
   have y2:=hc 2 (by omega)
   obtain ⟨kid,kpos,koff⟩:=k
   simp only [Cl.vals,Zl6,Zl7,Nat.add_zero] at y0 y1 y2
   have hin:(i:Int)<(cs.length:Int):=by omega
   have hdr:cs.drop i=⟨kid,kpos,koff⟩::cs.drop (i+1):=by
    obtain ⟨hil,he⟩:=List.getElem?_eq_some_iff.1 hk
    rw [List.drop_eq_getElem_cons hil,he]
   have HN:=Zh (show clsGo cs 0=(mayC kid kpos&&decide (last<kid)&&clsGo (cs.drop (i+1)) kid) by rw [hs,hdr];rfl)
   have HB:=Zh (hb.trans ((Zq7 wr (.cells #[.int .i64 kid,.int .i64 kpos,.bool koff] 212)).mono hb.size))
   have HM:=Zh (Zq632 kid kpos)
   clear hc hk hs hb hdr
   cases hm:mayC kid kpos with
   | false =>
    have HF:Hid (Zq68 cs=false):=Zh (by unfold Zq68;rw [HN.out,hm];rfl)
    rw [hm] at HM
    go_wp2_with fail
    refine (HM.out _).mono ?_
    rintro e w2 ⟨rfl,rfl⟩
    go_wp2_with fail
    go_ret
    rw [HF.out]
    exact ⟨rfl,HB.out⟩
   | true =>
    rw [hm] at HM
    by_cases hle:kid≤last
    ·have HF:Hid (Zq68 cs=false):=Zh (by unfold Zq68;rw [HN.out,hm,decide_eq_false (by omega:¬ last<kid)];rfl)
     have dl:decide (kid≤last)=true:=decide_eq_true hle
     go_wp2_with fail
     refine (HM.out _).mono ?_
     rintro e w2 ⟨rfl,rfl⟩
     go_wp2_with fail
     go_ret
     rw [HF.out]
     exact ⟨rfl,HB.out⟩
    ·have HF:Hid (clsGo cs 0=clsGo (cs.drop (i+1)) kid):=Zh (by rw [HN.out,hm,decide_eq_true (by omega:last<kid)];simp)
     have dl:decide (kid≤last)=false:=decide_eq_false hle
     go_wp2_with fail
     refine (HM.out _).mono ?_
     rintro e w2 ⟨rfl,rfl⟩
     go_wp2_with fail
     go_roundw
     case rel=>exact ⟨i+1,kid,by go_num,by omega,rfl,HF.out,HB.out⟩
     case measure=>first|(simp [intOf];done)|(simp [intOf];omega)|fail
  ·obtain rfl:i=cs.length:=by omega
   have d0:decide (((cs.length:Nat):Int)<(cs.length:Int))=false:=by rw [decide_eq_false_iff_not];omega
   rw [List.drop_length] at hs
   have HS:=Zh (show Zq68 cs=decide (cs.length≤4) by unfold Zq68;rw [hs];simp [clsGo])
   have HB:=Zh hb
   clear hs hb
   by_cases h4:cs.length≤4
   ·have d4:decide ((cs.length:Int)≤4)=true:=by rw [decide_eq_true_eq];omega
    have HT:=Zh (HS.out.trans (decide_eq_true h4))
    go_wp2_with fail
    go_ret
    rw [HT.out]
    exact ⟨rfl,HB.out⟩
   ·have d4:decide ((cs.length:Int)≤4)=false:=by rw [decide_eq_false_iff_not];omega
    have HT:=Zh (HS.out.trans (decide_eq_false h4))
    go_wp2_with fail
    go_ret
    rw [HT.out]
    exact ⟨rfl,HB.out⟩
end
end Go.Proofs.YtpjchngjhijgmaaGreat
