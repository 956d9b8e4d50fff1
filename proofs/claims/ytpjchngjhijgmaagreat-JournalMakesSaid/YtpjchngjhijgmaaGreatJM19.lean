import Derived.Test.YtpjchngjhijgmaaGreatJM16
set_option linter.all false
namespace Go.Proofs.YtpjchngjhijgmaaGreat
open Go.RowKit
def Zq429:List Int:=[72,71,74,69]
def tagR (r:List Int):Int:=getB ((r.drop 4).take 4)
def seqR (r:List Int):Int:=getB ((r.drop 8).take 8)
def lenR (r:List Int):Int:=getB ((r.drop 16).take 2)
def enZ:En:=⟨0,0,[]⟩
def takeR (r:List Int):En × Nat × Int :=
 if r=[] then (enZ,0,4)
 else if r.length<22∨r.take 4≠Zq429 then (enZ,0,2)
 else if mayF (tagR r) (seqR r) (lenR r)=false∨r.length<22+(lenR r).toNat then (enZ,0,2)
 else if getB ((r.drop (18+(lenR r).toNat)).take 4)≠crcOf (r.take (18+(lenR r).toNat)) then (enZ,0,13)
 else (⟨tagR r,seqR r,(r.drop 18).take (lenR r).toNat⟩,22+(lenR r).toNat,0)
theorem Zq453 {w:World} {s:Nat} {g o n c m:Nat} {xs:List Value} (h:SliceSrc w s (.slice (some ⟨g,o,none⟩) n c) n xs) (hm:m≤n):SliceSrc w s (.slice (some ⟨g,o+m*s,none⟩) (n - m) (c - m)) (n - m) (xs.drop (m*s)):=by
 obtain ⟨A1,c1,e,hsrc,hA⟩:=h
 simp only [Value.slice.injEq,true_and] at e
 obtain ⟨rfl,rfl⟩:=e
 have hms:=Nat.mul_le_mul_right s hm
 refine ⟨_,_,rfl,⟨by rw [List.length_drop,hsrc.len,Nat.sub_mul],fun hp=>?_,fun u hu=>hsrc.one u (List.mem_of_mem_drop hu)⟩,fun e=>by cases e⟩
 obtain ⟨ad,e,hc⟩:=hsrc.cells (by omega)
 cases e
 refine ⟨_,rfl,fun j u hu=>?_⟩
 rw [List.getElem?_drop] at hu
 have:=hc _ u hu
 rw [add_plain] at this ⊢
 rw [Nat.add_assoc]
 exact this
section
variable {W w : World} {I : Hp} {l : List HP}
set_option maxRecDepth 4000
set_option maxHeartbeats 8000000
theorem St.set3 {b:Nat} {c0 c1 c2:Value} {t:TypeId} {f:Nat × Nat} (h:St W I w (HP.pt b (.cells #[c0,c1,c2] t f)::l)) (v0 v1 v2:Value) :
  St W I (((w.setCell ⟨b,0,none⟩ v0).setCell ⟨b,1,none⟩ v1).setCell ⟨b,2,none⟩ v2) (HP.pt b (.cells #[v0,v1,v2] t f)::l):=by
 have h5:=((h.setCell 0 v0).setCell 1 v1).setCell 2 v2
 simp only [List.setIfInBounds_toArray,Zl4,Zl5] at h5
 exact h5
def Zq835 (at':Nat) (t:En × Nat × Int):Int:=if t.2.2=0 then ((at'+t.2.1:Nat):Int) else 0
theorem Zq634 (A:Option Addr) (c:Nat) (b:List Int) (at':Nat) (w:World) (hs:SliceSrc w 1 (.slice A b.length c) b.length (b.map byteV)) (hc:b.length≤c) (hb:∀ x ∈ b,isByte x) (hat:at'≤b.length) (hbl:b.length≤1000000) :
  Calls Tryz.prog 184 #[.slice A b.length c,.int .i64 at'] w fun e w'=>∃ A' c',e=.returned (.tuple #[.agg #[.int .i64 (takeR (b.drop at')).1.tag,.int .i64 (takeR (b.drop at')).1.seq,.slice A' (takeR (b.drop at')).1.data.length c'],.int .i64 (Zq835 at' (takeR (b.drop at'))),.int .i64 (takeR (b.drop at')).2.2])∧St w w.hp w' [HP.row 5 1 (.slice A' (takeR (b.drop at')).1.data.length c') (takeR (b.drop at')).1.data.length ((takeR (b.drop at')).1.data.map byteV)]:=by
 obtain ⟨t,ht⟩:∃ t,takeR (b.drop at')=t:=⟨_,rfl⟩
 rw [ht]
 have h1:=(St.init w).alloc (.cells #[.int .i64 0,.int .i64 0,.slice none 0 0] 50)
 have d0:decide ((at':Int)<0)=false:=by rw [decide_eq_false_iff_not];omega
 have d1:decide ((b.length:Int)<(at':Int))=false:=by rw [decide_eq_false_iff_not];omega
 by_cases h0:at'=b.length
 ·subst h0
  have ht2:t=(enZ,0,4):=by
   rw [←ht]
   unfold takeR
   rw [if_pos (by simp)]
  subst ht2
  obtain ⟨x0,x1,x2⟩:=Zq40 h1
  have f0:=frozen_of_row h1.heap
  have H1:=Zh h1
  clear ht h1
  go_enter Tryz.func184,Tryz.ntmps184
  go_wp2_with fail
  all_goals
   refine bodyPost_ret (v:=.tuple #[.agg #[.int .i64 0,.int .i64 0,.slice none 0 0],.int .i64 0,.int .i64 4]) (by simp [results,Tryz.results184,go_sem,x0,x1,x2]) rfl ?_
   exact ⟨none,0,rfl,H1.out.drop.row_nil _ _⟩
 ·have hlt:at'<b.length:=by omega
  obtain ⟨r,hr⟩:∃ r,b.drop at'=r:=⟨_,rfl⟩
  have hrl:r.length=b.length - at':=by rw [←hr,List.length_drop]
  obtain ⟨g,o,rfl,hg⟩:∃ g o,A=some ⟨g,o,none⟩∧g<w.heap.size:=by
   obtain ⟨A1,c1,e1,hsrc,_⟩:=hs
   simp only [Value.slice.injEq,true_and] at e1
   obtain ⟨rfl,rfl⟩:=e1
   obtain ⟨g,o,e,hg,_⟩:=Zq727 hsrc (by omega)
   exact ⟨g,o,e,hg⟩
  have hsr:=Zq453 hs hat
  rw [Nat.mul_one,←List.map_drop,hr,←hrl] at hsr
  rw [hr] at ht
  have hrb:∀ x ∈ r,isByte x:=by rw [←hr];exact fun x hx=>hb x (List.mem_of_mem_drop hx)
  have HRB:=Zh hrb
  obtain ⟨m,hm⟩:∃ m,r.length=m:=⟨_,rfl⟩
  obtain ⟨N,hN⟩:∃ N,b.length=N:=⟨_,rfl⟩
  rw [hN] at hc hlt hrl hat hbl d1 h0 ⊢
  rw [hm] at hrl hsr
  obtain rfl:N=at'+m:=by omega
  have hs1:SliceSrc (w.alloc (.cells #[.int .i64 0,.int .i64 0,.slice none 0 0] 50)) 1 (.slice (some ⟨g,o+at',none⟩) m (c - at')) m (r.map byteV):=hsr.below (Zq7 _ _)
  have hne:¬ c=at':=by omega
  have hm0:¬ m=0:=by omega
  have hrn:¬ r=[]:=by rintro rfl;simp at hm;omega
  have HS:=Zh hs1
  have HM:=Zh hm
  clear hs hb hr hsr hs1 hrb hm hN hrl
  obtain ⟨x0,x1,x2⟩:=Zq40 h1
  have f0:=frozen_of_row h1.heap
  have hlt1:=h1.lt
  have H1:=Zh h1
  obtain ⟨w1,hw1⟩:∃ x,x=w.alloc (.cells #[.int .i64 0,.int .i64 0,.slice none 0 0] 50):=⟨_,rfl⟩
  have HW1:=Zh hw1
  rw [←hw1] at x0 x1 x2 f0 hlt1 HS H1
  clear h1 hw1
  by_cases h22:m<22
  ·have ht2:t=(enZ,0,2):=by rw [←ht];unfold takeR;rw [if_neg hrn,if_pos (.inl (by rw [HM.out];exact h22))]
   subst ht2
   have d2:decide ((m:Int)<22)=true:=by rw [decide_eq_true_eq];omega
   clear ht
   go_enter Tryz.func184,Tryz.ntmps184
   go_upto_region 1 with fail
   rw [←HW1.out]
   go_wp2_with fail
   refine bodyPost_ret (v:=.tuple #[.agg #[.int .i64 0,.int .i64 0,.slice none 0 0],.int .i64 0,.int .i64 2]) (by simp [results,Tryz.results184,go_sem,x0,x1,x2]) rfl ?_
   exact ⟨none,0,rfl,(H1.out.set3 (.int .i64 0) (.int .i64 0) (.slice none 0 0)).drop.row_nil _ _⟩
  have d2:decide ((m:Int)<22)=false:=by rw [decide_eq_false_iff_not];omega
  obtain ⟨C,hC⟩:∃ C,c - at'=C:=⟨_,rfl⟩
  have hmC:m≤C:=by omega
  rw [hC] at HS
  have h4:=Zq344 HS.out (show 4≤m by omega)
  rw [Nat.mul_one,←List.map_take] at h4
  have hcv:(convert 46 9 (.slice (some ⟨g,o+at',none⟩) 4 C)).run Tryz.prog w1=.ok (.string (strOfNums (r.take 4))) w1:=Zq156 h4
  have hsb:((strOfNums (r.take 4)).toList==[72,71,74,69])=decide (r.take 4=Zq429):=by
   have h:=Zq499 (a:=r.take 4) (b:=Zq429) (fun x hx=>HRB.out x (List.mem_of_mem_take hx)) (by unfold Zq429 isByte;simp)
   rwa [show (strOfNums Zq429).toList=[72,71,74,69] by rw [Lib.strOfNums_toList];rfl] at h
  by_cases hmg:r.take 4=Zq429
  ·rw [decide_eq_true hmg] at hsb
   have hnb:¬ (r.length<22∨r.take 4≠Zq429):=by rw [HM.out];exact fun q=>q.elim h22 (fun q=>q hmg)
   have hg1:Calls Tryz.prog 202 #[(.slice (some ⟨g,o+at',none⟩) m C),.int .i64 4,.int .i64 4] w1 fun e w'=>e=.returned (.tuple #[.int .u64 (tagR r),.bool true])∧w1=w':=Zq629 _ r 4 4 w1 (by rw [HM.out];exact HS.out) HRB.out (by decide) (by decide) (by rw [HM.out];omega) (by rw [HM.out];omega)
   have hg2:Calls Tryz.prog 202 #[(.slice (some ⟨g,o+at',none⟩) m C),.int .i64 8,.int .i64 8] w1 fun e w'=>e=.returned (.tuple #[.int .u64 (seqR r),.bool true])∧w1=w':=Zq629 _ r 8 8 w1 (by rw [HM.out];exact HS.out) HRB.out (by decide) (by decide) (by rw [HM.out];omega) (by rw [HM.out];omega)
   have hg3:Calls Tryz.prog 202 #[(.slice (some ⟨g,o+at',none⟩) m C),.int .i64 16,.int .i64 2] w1 fun e w'=>e=.returned (.tuple #[.int .u64 (lenR r),.bool true])∧w1=w':=Zq629 _ r 16 2 w1 (by rw [HM.out];exact HS.out) HRB.out (by decide) (by decide) (by rw [HM.out];omega) (by rw [HM.out];omega)
   have ht':(if mayF (tagR r) (seqR r) (lenR r)=false∨r.length<22+(lenR r).toNat then (enZ,0,2) else if getB ((r.drop (18+(lenR r).toNat)).take 4)≠crcOf (r.take (18+(lenR r).toNat)) then (enZ,0,13) else (⟨tagR r,seqR r,(r.drop 18).take (lenR r).toNat⟩,22+(lenR r).toNat,0))=t:=by
    rw [←ht]
    unfold takeR
    rw [if_neg hrn,if_neg hnb]
   obtain ⟨tg,htg⟩:∃ x,tagR r=x:=⟨_,rfl⟩
   obtain ⟨sq,hsq⟩:∃ x,seqR r=x:=⟨_,rfl⟩
   obtain ⟨ln,hln⟩:∃ x,lenR r=x:=⟨_,rfl⟩
   rw [htg] at hg1 ht'
   rw [hsq] at hg2 ht'
   rw [hln] at hg3 ht'
   have HG1:=Zh hg1
   have HG2:=Zh hg2
   have HG3:=Zh hg3
   have hmay:=Zq496 tg sq ln
   clear hg1 hg2 hg3 ht hnb htg hsq hln hmg hrn
   cases hmf:mayF tg sq ln with
   | false =>
    rw [hmf] at hmay ht'
    rw [if_pos (.inl rfl)] at ht'
    subst ht'
    have HMAY:=Zh hmay
    clear hmay hmf
    go_enter Tryz.func184,Tryz.ntmps184
    go_upto_region 1 with fail
    rw [←HW1.out]
    go_wp2_with fail
    refine HG1.out.mono ?_
    rintro e w2 ⟨rfl,rfl⟩
    go_wp2_with fail
    refine HG2.out.mono ?_
    rintro e w2 ⟨rfl,rfl⟩
    go_wp2_with fail
    refine HG3.out.mono ?_
    rintro e w2 ⟨rfl,rfl⟩
    go_wp2_with fail
    refine (HMAY.out _).mono ?_
    rintro e w2 ⟨rfl,rfl⟩
    go_wp2_with fail
    refine bodyPost_ret (v:=.tuple #[.agg #[.int .i64 0,.int .i64 0,.slice none 0 0],.int .i64 0,.int .i64 2]) (by simp [results,Tryz.results184,go_sem,x0,x1,x2]) rfl ?_
    exact ⟨none,0,rfl,(H1.out.set3 (.int .i64 0) (.int .i64 0) (.slice none 0 0)).drop.row_nil _ _⟩
   | true =>
    rw [hmf] at hmay ht'
    have HMAY:=Zh hmay
    have hmf':=hmf
    unfold mayF at hmf'
    rw [decide_eq_true_eq] at hmf'
    obtain ⟨k,rfl⟩:∃ k:Nat,ln=k:=⟨ln.toNat,by omega⟩
    simp only [Bool.true_eq_false,false_or,Int.toNat_natCast,HM.out] at ht'
    have hk90:k≤90:=by omega
    have hwk:IntKind.i64.wrap (k:Int)=k:=by rw [IntKind.wrap_i64];omega
    have hfs:=Zq75 (k:Int)
    rw [show Zq131 (k:Int)=22+k by unfold Zq131;omega] at hfs
    have HFS:=Zh hfs
    have HMF:=Zh hmf'
    clear hmay hfs hmf hmf'
    by_cases hsh:m<22+k
    ·rw [if_pos hsh] at ht'
     subst ht'
     have d3:decide ((m:Int)<22+(k:Int))=true:=by rw [decide_eq_true_eq];omega
     go_enter Tryz.func184,Tryz.ntmps184
     go_upto_region 1 with fail
     rw [←HW1.out]
     go_wp2_with fail
     refine HG1.out.mono ?_
     rintro e w2 ⟨rfl,rfl⟩
     go_wp2_with fail
     refine HG2.out.mono ?_
     rintro e w2 ⟨rfl,rfl⟩
     go_wp2_with fail
     refine HG3.out.mono ?_
     rintro e w2 ⟨rfl,rfl⟩
     go_wp2_with fail
     refine (HMAY.out _).mono ?_
     rintro e w2 ⟨rfl,rfl⟩
     go_wp2_with fail
     refine (HFS.out _).mono ?_
     rintro e w2 ⟨rfl,rfl⟩
     go_wp2_with fail
     refine bodyPost_ret (v:=.tuple #[.agg #[.int .i64 0,.int .i64 0,.slice none 0 0],.int .i64 0,.int .i64 2]) (by simp [results,Tryz.results184,go_sem,x0,x1,x2]) rfl ?_
     exact ⟨none,0,rfl,(H1.out.set3 (.int .i64 0) (.int .i64 0) (.slice none 0 0)).drop.row_nil _ _⟩
    ·rw [if_neg hsh] at ht'
     have d3:decide ((m:Int)<22+(k:Int))=false:=by rw [decide_eq_false_iff_not];omega
     have hkm:18+k+4≤m:=by omega
     have hkC:18+k≤C:=by omega
     have hkC2:18+(k:Int)≤(C:Int):=by omega
     have hg4:Calls Tryz.prog 202 #[(.slice (some ⟨g,o+at',none⟩) m C),.int .i64 (18+(k:Int)),.int .i64 4] w1 fun e w'=>e=.returned (.tuple #[.int .u64 (getB ((r.drop (18+k)).take 4)),.bool true])∧w1=w':=Zq629 _ r (18+k) 4 w1 (by rw [HM.out];exact HS.out) HRB.out (by decide) (by decide) (by rw [HM.out];omega) (by rw [HM.out];omega)
     have h18:=Zq344 HS.out (show 18+k≤m by omega)
     rw [Nat.mul_one,←List.map_take] at h18
     have hl18:(r.take (18+k)).length=18+k:=by rw [List.length_take,HM.out];omega
     have hcr:=Zq856 (.slice (some ⟨g,o+at',none⟩) (18+k) C) (r.take (18+k)) w1 (by rw [hl18];exact h18) (fun x hx=>HRB.out x (List.mem_of_mem_take hx)) (by rw [hl18];omega)
     have hcu:isU32 (crcOf (r.take (18+k))):=u32_xor _ _
     unfold isU32 at hcu
     obtain ⟨cr,hcr0⟩:∃ x,crcOf (r.take (18+k))=x:=⟨_,rfl⟩
     obtain ⟨gt,hgt⟩:∃ x,getB ((r.drop (18+k)).take 4)=x:=⟨_,rfl⟩
     rw [hcr0] at hcr hcu ht'
     rw [hgt] at hg4 ht'
     have hwc:IntKind.u64.wrap cr=cr:=by rw [IntKind.wrap_u64];omega
     have HG4:=Zh hg4
     have HCR:=Zh hcr
     have H18:=Zh h18
     clear hg4 hcr h18 hl18 hcu hcr0 hgt hsh h4
     by_cases hce:gt=cr
     ·subst hce
      rw [if_neg (fun q=>q rfl)] at ht'
      have hcp:=Zq453 (Zq344 HS.out (show 18+k≤m by omega)) (show 18≤18+k by omega)
      rw [Nat.mul_one,Nat.mul_one,Nat.add_sub_cancel_left,←List.map_take,←List.map_drop,List.drop_take,Nat.add_sub_cancel_left] at hcp
      have HCP:=Zh hcp
      have hwt:IntKind.i64.wrap tg=tg:=by have:=HMF.out;rw [IntKind.wrap_i64];omega
      have hws:IntKind.i64.wrap sq=sq:=by have:=HMF.out;rw [IntKind.wrap_i64];omega
      have hn18:¬ C=18:=by omega
      clear hcp
      obtain ⟨d,hd⟩:∃ d,(r.drop 18).take k=d:=⟨_,rfl⟩
      have hdl:d.length=k:=by rw [←hd,List.length_take,List.length_drop,HM.out];omega
      rw [hd] at ht' HCP
      have HDL:=Zh hdl
      subst ht'
      clear hd hdl
      go_enter Tryz.func184,Tryz.ntmps184
      go_upto_region 1 with fail
      rw [←HW1.out]
      go_wp2_with fail
      refine HG1.out.mono ?_
      rintro e w2 ⟨rfl,rfl⟩
      go_wp2_with fail
      refine HG2.out.mono ?_
      rintro e w2 ⟨rfl,rfl⟩
      go_wp2_with fail
      refine HG3.out.mono ?_
      rintro e w2 ⟨rfl,rfl⟩
      go_wp2_with fail
      refine (HMAY.out _).mono ?_
      rintro e w2 ⟨rfl,rfl⟩
      go_wp2_with fail
      refine (HFS.out _).mono ?_
      rintro e w2 ⟨rfl,rfl⟩
      go_wp2_with fail
      refine HG4.out.mono ?_
      rintro e w2 ⟨rfl,rfl⟩
      go_wp2_with fail
      refine HCR.out.mono ?_
      rintro e w2 ⟨rfl,rfl⟩
      go_wp2_with fail
      refine (Zq24 _ k (d.map byteV) w1 HCP.out (by omega)).mono ?_
      rintro e w3 ⟨v3,rfl,ho3,hb3⟩
      obtain ⟨A3,c3,rfl⟩:=Zq17 ho3
      have h3:=H1.out.row_fresh hb3 ho3
      clear x0 x1 x2 f0
      obtain ⟨x0,x1,x2⟩:=Zq40 (h3.pull 1 _ rfl)
      have f0:=frozen_of_row (h3.pull 1 _ rfl).heap
      have h4:=(((h3.pull 1 _ rfl).set3 (.int .i64 tg) (.int .i64 sq) (.slice A3 k c3)))
      have H4:=Zh h4
      clear h3 h4 ho3 hb3
      go_wp2_with fail
      have h4:=H4.out
      generalize (World.setCell _ _ _:World)=w5 at h4 ⊢
      clear x0 x1 x2
      obtain ⟨x0,x1,x2⟩:=Zq40 h4
      refine bodyPost_ret (v:=.tuple #[.agg #[.int .i64 tg,.int .i64 sq,.slice A3 k c3],.int .i64 ((at'+(22+k):Nat):Int),.int .i64 0]) (by simp [results,Tryz.results184,go_sem,x0,x1,x2];omega) rfl ?_
      refine ⟨A3,c3,by rw [HDL.out];rfl,?_⟩
      rw [HDL.out]
      exact h4.drop
     ·rw [if_pos hce] at ht'
      subst ht'
      have hne2:(gt != cr)=true:=by simpa using hce
      go_enter Tryz.func184,Tryz.ntmps184
      go_upto_region 1 with fail
      rw [←HW1.out]
      go_wp2_with fail
      refine HG1.out.mono ?_
      rintro e w2 ⟨rfl,rfl⟩
      go_wp2_with fail
      refine HG2.out.mono ?_
      rintro e w2 ⟨rfl,rfl⟩
      go_wp2_with fail
      refine HG3.out.mono ?_
      rintro e w2 ⟨rfl,rfl⟩
      go_wp2_with fail
      refine (HMAY.out _).mono ?_
      rintro e w2 ⟨rfl,rfl⟩
      go_wp2_with fail
      refine (HFS.out _).mono ?_
      rintro e w2 ⟨rfl,rfl⟩
      go_wp2_with fail
      refine HG4.out.mono ?_
      rintro e w2 ⟨rfl,rfl⟩
      go_wp2_with fail
      refine HCR.out.mono ?_
      rintro e w2 ⟨rfl,rfl⟩
      go_wp2_with fail
      refine bodyPost_ret (v:=.tuple #[.agg #[.int .i64 0,.int .i64 0,.slice none 0 0],.int .i64 0,.int .i64 13]) (by simp [results,Tryz.results184,go_sem,x0,x1,x2]) rfl ?_
      exact ⟨none,0,rfl,(H1.out.set3 (.int .i64 0) (.int .i64 0) (.slice none 0 0)).drop.row_nil _ _⟩
  ·have ht2:t=(enZ,0,2):=by rw [←ht];unfold takeR;rw [if_neg hrn,if_pos (.inr hmg)]
   subst ht2
   rw [decide_eq_false hmg] at hsb
   clear ht
   go_enter Tryz.func184,Tryz.ntmps184
   go_upto_region 1 with fail
   rw [←HW1.out]
   go_wp2_with fail
   refine bodyPost_ret (v:=.tuple #[.agg #[.int .i64 0,.int .i64 0,.slice none 0 0],.int .i64 0,.int .i64 2]) (by simp [results,Tryz.results184,go_sem,x0,x1,x2]) rfl ?_
   exact ⟨none,0,rfl,(H1.out.set3 (.int .i64 0) (.int .i64 0) (.slice none 0 0)).drop.row_nil _ _⟩
end
end Go.Proofs.YtpjchngjhijgmaaGreat
