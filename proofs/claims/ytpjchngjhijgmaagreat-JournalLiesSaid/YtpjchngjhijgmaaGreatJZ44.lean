import Derived.Lib.AppendStr
import Derived.Test.YtpjchngjhijgmaaGreatJZ39
set_option linter.all false
namespace Go.Proofs.YtpjchngjhijgmaaGreat
open Go.RowKit
section
variable {W w : World} {I : Hp} {l : List HP}
set_option maxRecDepth 4000
set_option maxHeartbeats 8000000
theorem Zq789 (c b:Int) (w:World) (hb:0≤b∧b<256):Calls Tryz.prog 168 #[.int .u32 c,.int .u8 b] w fun e w'=>e=.returned (.int .u32 (Zq84 c b))∧w=w':=by
 have hw:IntKind.u32.wrap b=b:=by rw [Zq230];omega
 obtain ⟨x,hx⟩:∃ x,bits .xor .u32 c b=x:=⟨_,rfl⟩
 have hxu:isU32 x:=by rw [←hx];exact u32_xor _ _
 have HXU:=Zh hxu
 have HX:=Zh hx
 clear hxu
 go_enter Tryz.func168,Tryz.ntmps168
 go_wp2_with fail
 go_loopw [0,5,6] (fun a0 a5 a6 wr=>∃ i:Nat,a5=.int .i64 i∧i≤8∧a0=.int .u32 (crcN i x)∧wr=w) (fun _ a5 _ _=>8 - (intOf a5).toNat)
 case atStart=>exact ⟨0,rfl,by omega,rfl,rfl⟩
 case round =>
  obtain ⟨i,rfl,hi,rfl,rfl⟩:=hrel
  by_cases hlt:i<8
  ·have d0:decide ((i:Int)<8)=true:=by rw [decide_eq_true_eq];omega
   obtain ⟨y,hy⟩:∃ y,crcN i x=y:=⟨_,rfl⟩
   have hyu:isU32 y:=by rw [←hy];exact Zq375 HXU.out i
   have hand:=Zq644 y
   have hsh:IntKind.u32.wrap (y / 2)=y / 2:=by rw [Zq230];unfold isU32 at hyu;omega
   have HN:=Zh (show crcN (i+1) x=Zq246 y by rw [←hy];rfl)
   rw [hy]
   by_cases h2:y % 2=1
   ·have HB:=Zh (show Zq246 y=bits .xor .u32 (y / 2) 2197175160 by unfold Zq246;rw [if_pos h2])
    have d2:decide (y % 2=1)=true:=decide_eq_true h2
    clear hy hyu
    go_wp2_with fail
    go_roundw
    case rel=>exact ⟨i+1,by go_num,by omega,by rw [HN.out,HB.out],trivial⟩
    case measure=>first|(simp [intOf];done)|(simp [intOf];omega)|fail
   ·have HB:=Zh (show Zq246 y=y / 2 by unfold Zq246;rw [if_neg h2])
    have d2:decide (y % 2=1)=false:=decide_eq_false h2
    clear hy hyu
    go_wp2_with fail
    go_roundw
    case rel=>exact ⟨i+1,by go_num,by omega,by rw [HN.out,HB.out],trivial⟩
    case measure=>first|(simp [intOf];done)|(simp [intOf];omega)|fail
  ·obtain rfl:i=8:=by omega
   go_wp2_with fail
   go_ret
   rw [show Zq84 c b=crcN 8 x by unfold Zq84;rw [HX.out]]
   exact ⟨rfl,rfl⟩
theorem Zq905 (v:Value) (b:List Int) (w:World) (hs:SliceSrc w 1 v b.length (b.map byteV)) (hb:∀ x ∈ b,isByte x) (hl:b.length≤1000000) :
  Calls Tryz.prog 125 #[v] w fun e w'=>e=.returned (.int .u32 (crcOf b))∧w=w':=by
 obtain ⟨A,c,rfl,hsrc,hA⟩:=hs
 have HSRC:=Zh hsrc
 have HB:=Zh hb
 clear hsrc hb
 go_enter Tryz.func125,Tryz.ntmps125
 go_wp2_with fail
 go_loopw [3,4] (fun a3 a4 wr=>∃ i:Nat,a4=.int .i64 i∧i≤b.length∧a3=.int .u32 ((b.take i).foldl Zq84 4294967295)∧wr=w) (fun _ a4 _=>b.length - (intOf a4).toNat)
 case atStart=>exact ⟨0,rfl,by omega,rfl,rfl⟩
 case round =>
  obtain ⟨i,rfl,hi,rfl,rfl⟩:=hrel
  by_cases hlt:i<b.length
  ·have d0:decide ((i:Int)<(b.length:Int))=true:=by rw [decide_eq_true_eq];omega
   obtain ⟨x,hx⟩:∃ x,b[i]?=some x:=⟨_,List.getElem?_eq_getElem hlt⟩
   have hbx:=HB.out x (List.mem_of_getElem? hx)
   obtain ⟨ad,rfl,hc⟩:=HSRC.out.cells (by omega)
   have hc0:=hc i (byteV x) (by rw [List.getElem?_map,hx];rfl)
   have HN:=Zh (show (b.take (i+1)).foldl Zq84 4294967295=Zq84 ((b.take i).foldl Zq84 4294967295) x by
    obtain ⟨hil,he⟩:=List.getElem?_eq_some_iff.1 hx
    rw [List.take_succ_eq_append_getElem hil,List.foldl_append,he];rfl)
   have HCN:=Zh (Zq789 ((b.take i).foldl Zq84 4294967295) x wr (by unfold isByte at hbx;omega))
   unfold byteV at hc0
   clear hx hbx hc
   obtain ⟨gb,goff,gp⟩:=ad
   obtain ⟨y,hy⟩:∃ y,(b.take i).foldl Zq84 4294967295=y:=⟨_,rfl⟩
   rw [hy] at HCN HN ⊢
   clear hy
   go_wp2_with fail
   refine HCN.out.mono ?_
   rintro e w2 ⟨rfl,rfl⟩
   go_wp2_with fail
   go_roundw
   case rel=>exact ⟨i+1,by go_num,by omega,by rw [HN.out],trivial⟩
   case measure=>first|(simp [intOf];done)|(simp [intOf];omega)|fail
  ·obtain rfl:i=b.length:=by omega
   have d0:decide (((b.length:Nat):Int)<(b.length:Int))=false:=by rw [decide_eq_false_iff_not];omega
   rw [List.take_length]
   go_wp2_with fail
   go_ret
   exact ⟨rfl,rfl⟩
theorem St.row_bare (h:St W I w l) (e:TypeId) (k:Nat):St W I (w.alloc (.cells #[] e)) (HP.row e k (.slice (some ⟨w.heap.size,0,none⟩) 0 0) 0 []::l):=(h.alloc (.cells #[] e)).row_shut (by simp) (Nat.le_refl _) (by unfold maxLen;omega) (by simp) (by simp)
theorem Zq712 (v:Value) (b:List Int) (n:Int) (k:Nat) (w:World) (hs:SliceSrc w 1 v b.length (b.map byteV)) (hn0:0≤n) (hn:n<18446744073709551616) (hk1:1≤k) (hk8:k≤8) (hbl:b.length≤1000000) :
  Calls Tryz.prog 63 #[v,.int .u64 n,.int .i64 k] w fun e w'=>∃ v',e=.returned v'∧Below w.heap.size w w'∧w'.ownsRow w.heap.size 5 1 v' (b++putB n k).length ((b++putB n k).map byteV):=by
 have hk1':(1:Int)≤(k:Int):=by omega
 have hk8':(k:Int)≤8:=by omega
 have h0:=(St.init w).row_bare 5 1
 obtain ⟨v1,w1,hr1,h1⟩:=St.bytes_append 46 h0 (hs.below (Zq6 _ _)) (by omega)
 rw [Nat.zero_add,Zl3] at h1
 obtain ⟨A1,c1,rfl⟩:=Zq17 h1.row_owns
 obtain ⟨A0,c0,rfl,_⟩:=id hs
 have H1:=Zh h1
 have HR1:=Zh hr1
 clear h0 h1 hr1 hs
 go_enter Tryz.func63,Tryz.ntmps63
 go_wp2_with (at_builtin;refine Lib.wpList_append_run _ rfl (.tmp 9) (.tmp 10) 46 46 rfl _ _ rfl rfl _ _ HR1.out ?_)
 go_loopw [7,8] (fun a7 a8 wr=>∃ (i:Nat) (A:Option Addr) (c:Nat),a8=.int .i64 i∧a7=.slice A (b++putB n i).length c∧i≤k∧St w w.hp wr (HP.row 5 1 (.slice A (b++putB n i).length c) (b++putB n i).length ((b++putB n i).map byteV)::[])) (fun _ a8 _=>k - (intOf a8).toNat)
 case atStart=>exact ⟨0,A1,c1,rfl,by simp [putB],Nat.zero_le _,by simpa [putB] using H1.out⟩
 case round =>
  obtain ⟨i,A,c,rfl,rfl,hi,hst⟩:=hrel
  by_cases hlt:i<k
  ·have hp:=Zq522 n i
   have hst2:=hst.keep (Zq6 wr (.cells #[.int .u8 (n / 2 ^ (8*i) % 256)] 5))
   have hle:(b++putB n i).length+1≤1000000000:=by rw [List.length_append,Zq31];omega
   obtain ⟨v',w',hr,h2⟩:=St.bytes_append 46 hst2 (Zq376 wr (n / 2 ^ (8*i) % 256)) hle
   obtain ⟨A',c',rfl⟩:=Zq17 h2.row_owns
   have e2:(b++putB n i).length+1=(b++putB n (i+1)).length:=by rw [hp];simp [Nat.add_assoc]
   have e3:(b++putB n i).map byteV++[.int .u8 (n / 2 ^ (8*i) % 256)]=(b++putB n (i+1)).map byteV:=by rw [hp,←List.append_assoc,List.map_append (l₂:=[n / 2 ^ (8*i) % 256])];rfl
   rw [e3,e2] at h2
   rw [e2] at hr
   have HR:=Zh hr
   have H2:=Zh h2
   have d1:decide ((i:Int)<(k:Int))=true:=decide_eq_true (by omega)
   have d2:decide ((k:Int)≤8)=true:=decide_eq_true (by omega)
   clear hst hst2 hr h2 hp e2 e3 hle
   go_wp2_with (at_builtin;refine Lib.wpList_append_run _ rfl (.tmp 21) (.tmp 28) 46 46 rfl _ _ rfl rfl _ _ HR.out ?_)
   go_roundw
   case rel=>exact ⟨i+1,A',c',by go_num,by rw [List.length_append],by omega,H2.out⟩
   case measure=>simp [intOf];omega
  ·obtain rfl:i=k:=by omega
   have HST:=Zh hst
   have d1:decide ((i:Int)<(i:Int))=false:=decide_eq_false (by omega)
   clear hst
   go_wp2_with fail
   go_ret
   refine ⟨_,rfl,HST.out.below,?_⟩
   exact HST.out.row_new
theorem Zq790 (v:Value) (b:List Int) (w:World) (hs:SliceSrc w 1 v b.length (b.map byteV)) (hb:∀ x ∈ b,isByte x) (hbl:b.length≤1000000) :
  Calls Tryz.prog 64 #[v] w fun e w'=>∃ v',e=.returned v'∧Below w.heap.size w w'∧w'.ownsRow w.heap.size 5 1 v' (b++putB (crcOf b) 4).length ((b++putB (crcOf b) 4).map byteV):=by
 have hof:=Zq905 v b w hs hb hbl
 have hu2:isU32 (crcOf b):=u32_xor _ _
 unfold isU32 at hu2
 obtain ⟨cr,hcr⟩:∃ cr,crcOf b=cr:=⟨_,rfl⟩
 rw [hcr] at hu2 hof ⊢
 have hw8:IntKind.u64.wrap cr=cr:=by rw [IntKind.wrap_u64];omega
 have hpu:=Zq712 v b cr 4 w hs (by omega) (by omega) (by decide) (by decide) hbl
 have HOF:=Zh hof
 have HPU:=Zh hpu
 clear hof hpu hu2 hs hb hcr
 go_enter Tryz.func64,Tryz.ntmps64
 go_wp2_with fail
 refine HOF.out.mono ?_
 rintro e w2 ⟨rfl,rfl⟩
 go_wp2_with fail
 refine HPU.out.mono ?_
 rintro e w3 ⟨v3,rfl,hb3,ho3⟩
 have HB3:=Zh hb3
 have HO3:=Zh ho3
 clear hb3 ho3
 go_wp2_with fail
 go_ret
 exact ⟨_,rfl,HB3.out,HO3.out⟩
theorem Zq713 (tag seq:Int) (A:Option Addr) (n c:Nat) (w:World):Calls Tryz.prog 62 #[.agg #[.int .i64 tag,.int .i64 seq,.slice A n c]] w fun e w'=>e=.returned (.bool (mayF tag seq n))∧Below w.heap.size w w':=by
 go_enter Tryz.func62,Tryz.ntmps62
 go_wp2
 all_goals
  go_ret
  refine ⟨ret_bool (Zq803 ?_),Zq6 _ _⟩
  simp only [decide_eq_true_eq,Bool.false_eq_true,false_iff]
  omega
theorem Zq596 {w0 w w':World} {g:Nat} (h0:Below w0.heap.size w0 w) (h:w.grownBy w' (some g)) (hg:g=w0.heap.size):Below w0.heap.size w0 w' :=
 h0.trans ⟨h.os,h.tape,h.output,h.size,fun k hk=>h.block k (Nat.lt_of_lt_of_le hk h0.size) (by rw [hg];intro e;simp only [Option.some.injEq] at e;omega)⟩
theorem Zq860 (h:St W I w l):∃ v w',(Builtin.append_ #[46,9] 46 #[.slice (some ⟨w.heap.size,0,none⟩) 0 0,.string ⟨#[72,71,74,69]⟩]).run Tryz.prog (w.alloc (.cells #[] 5))=.ok v w'∧St W I w' (HP.row 5 1 v 4 (magicB.map byteV)::l):=by
 obtain ⟨i0,hi0,hz0,hz1,hz2⟩:=info_parts Zq228
 obtain ⟨v',w',hr,ho,hg,_⟩:=Lib.run_append_own_string (P:=Tryz.prog) (w.alloc (.cells #[] 5)) w.heap.size 46 9 46 5 i0 Tryz.underlying46 Tryz.underlying9 hi0 hz0 hz1 hz2 (.slice (some ⟨w.heap.size,0,none⟩) 0 0) 0 [] (Zq608 rfl (Nat.le_refl _)) ⟨#[72,71,74,69]⟩ (by unfold maxLen;decide) (by decide) (by simp)
 refine ⟨v',w',hr,?_⟩
 have hb:=Zq596 (Zq6 w (.cells #[] 5)) hg rfl
 exact h.row_fresh hb ho
end
end Go.Proofs.YtpjchngjhijgmaaGreat
namespace Go.Proofs.YtpjchngjhijgmaaGreat
open Go.RowKit
section
variable {W w : World} {I : Hp} {l : List HP}
set_option maxRecDepth 4000
set_option maxHeartbeats 8000000
theorem Zq391 {A:Option Addr} {c:Nat} {b:List Int} (n:Int) (k:Nat) (h:St W I w (HP.row 5 1 (.slice A b.length c) b.length (b.map byteV)::l)) (hn0:0≤n) (hn:n<18446744073709551616) (hk1:1≤k) (hk8:k≤8) (hbl:b.length≤1000000) :
  Calls Tryz.prog 63 #[.slice A b.length c,.int .u64 n,.int .i64 k] w fun e w'=>∃ A' c' q,e=.returned (.slice A' q.length c')∧q=b++putB n k∧St W I w' (HP.row 5 1 (.slice A' q.length c') q.length (q.map byteV)::l):=by
 refine (Zq712 _ b n k w (SliceSrc.of_owns h.row_owns (Zq56 b)) hn0 hn hk1 hk8 hbl).mono ?_
 rintro e w' ⟨v',rfl,hb,ho⟩
 obtain ⟨A',c',rfl⟩:=Zq17 ho
 exact ⟨A',c',_,rfl,rfl,h.drop.row_fresh hb ho⟩
theorem Zq861 (tag seq:Int) (d:List Int) (A:Option Addr) (c:Nat) (w:World) (h0:mayF tag seq d.length=true) (hs:SliceSrc w 1 (.slice A d.length c) d.length (d.map byteV)) (hb:∀ x ∈ d,isByte x) :
  Calls Tryz.prog 22 #[.agg #[.int .i64 tag,.int .i64 seq,.slice A d.length c]] w fun e w'=>∃ A' c' q,e=.returned (.tuple #[.slice A' q.length c',.int .i64 0])∧q=Zq23 ⟨tag,seq,d⟩∧St w w.hp w' [HP.row 5 1 (.slice A' q.length c') q.length (q.map byteV)]:=by
 have hk:=h0
 unfold mayF at hk
 rw [decide_eq_true_eq] at hk
 have hR:=Zq713 tag seq A d.length c
 rw [h0] at hR
 have HR:=Zh hR
 have HS:=Zh hs
 have HB:=Zh hb
 have h1:=(St.init w).alloc (.cells #[.int .i64 tag,.int .i64 seq,.slice A d.length c] 50)
 obtain ⟨g1,hg1⟩:∃ g,g=w.heap.size:=⟨_,rfl⟩
 have HC:=Zh (show ∀ (w':World) (L:List HP),St w w.hp w' (HP.pt g1 (.cells #[.int .i64 tag,.int .i64 seq,.slice A d.length c] 50)::L)→w'.cell? ⟨g1,0,none⟩=some (.int .i64 tag)∧w'.cell? ⟨g1,1,none⟩=some (.int .i64 seq)∧w'.cell? ⟨g1,2,none⟩=some (.slice A d.length c) from fun w' L h=>Zq41 h)
 have H1:=Zh h1
 have hw1:IntKind.u64.wrap tag=tag:=by rw [IntKind.wrap_u64];omega
 have hw2:IntKind.u64.wrap seq=seq:=by rw [IntKind.wrap_u64];omega
 have hw3:IntKind.u64.wrap (d.length:Int)=d.length:=by rw [IntKind.wrap_u64];omega
 have HK:=Zh hk
 clear hs hb hR h0 h1 hk
 go_enter Tryz.func22,Tryz.ntmps22
 go_wp2_with fail
 refine (HR.out _).mono ?_
 rintro e w2 ⟨rfl,hb2⟩
 have h2:=H1.out.keep hb2
 obtain ⟨v3,w3,hr3,h3⟩:=Zq860 h2
 obtain ⟨A3,c3,rfl⟩:=Zq17 h3.row_owns
 have HR3:=Zh hr3
 have H3:=Zh h3
 clear h2 h3 hr3 hb2
 go_upto_region 4 with (at_builtin;refine Lib.wpList_append_run _ rfl (.tmp 8) (.const (.string ⟨#[72,71,74,69]⟩)) 46 9 rfl _ _ rfl rfl _ _ HR3.out ?_)
 rw [←hg1] at H3 ⊢
 have h3:=H3.out
 obtain ⟨x0,x1,x2⟩:=HC.out _ _ (h3.pull 1 _ rfl).drew
 have h3':St w w.hp w3 (HP.row 5 1 (.slice A3 magicB.length c3) magicB.length (magicB.map byteV)::HP.pt g1 (.cells #[.int .i64 tag,.int .i64 seq,.slice A d.length c] 50)::[]):=h3
 have hpu:=Zq391 tag 4 h3'.drew (by have:=HK.out;omega) (by have:=HK.out;omega) (by decide) (by decide) (by decide)
 have HPU:=Zh hpu
 clear h3 h3' hpu HR3 H1 hg1
 refine Zq7 (fun w'=>w'.cell? ⟨g1,0,none⟩=some (.int .i64 tag)∧w'.cell? ⟨g1,1,none⟩=some (.int .i64 seq)∧w'.cell? ⟨g1,2,none⟩=some (.slice A d.length c)) [0,1,2,3,5,6,7,9,10,11,12] [4,8] [13,14] (by kernel_rfl) (by kernel_rfl) (by (exact ⟨x0,x1,x2⟩)) ?_
 simp only [pickL,Zl6,Zl7]
 repeat (first|(refine Zq8 _ (Or.inl ⟨by rfl,by (intro w hSw;(try dsimp only at hSw);go_simp;try with_reducible rfl)⟩) ?_;(try simp only [Act.put,List.setIfInBounds_toArray,Zl4,Zl5]))|(refine Zq8 _ (Or.inr ⟨by rfl,rfl⟩) ?_;(try simp only [Act.put,List.setIfInBounds_toArray,Zl4,Zl5]))|fail)
 refine Zq10 ?_
 unfold Zq14
 go_wp2_with fail
 refine HPU.out.mono ?_
 rintro e w4 ⟨A4,c4,q4,rfl,hq4,h4⟩
 clear x0 x1 x2
 obtain ⟨x0,x1,x2⟩:=HC.out _ _ (h4.pull 1 _ rfl)
 have hl4:q4.length=8:=by rw [hq4,List.length_append,Zq31];rfl
 have hpu:=Zq391 seq 8 h4 (by have:=HK.out;omega) (by have:=HK.out;omega) (by decide) (by decide) (by omega)
 have HPU:=Zh hpu
 have HL4:=Zh hl4
 have HQ4:=Zh hq4
 clear h4 hpu hq4 hl4
 go_wp2_with fail
 refine Zq1 ⟨x0,x1,x2⟩ ?_
 unfold Zq14
 go_wp2_with fail
 refine HPU.out.mono ?_
 rintro e w5 ⟨A5,c5,q5,rfl,hq5,h5⟩
 clear x0 x1 x2
 obtain ⟨x0,x1,x2⟩:=HC.out _ _ (h5.pull 1 _ rfl)
 have hl5:q5.length=16:=by have:=HL4.out;rw [hq5,List.length_append,Zq31];omega
 have hpu:=Zq391 (d.length:Int) 2 h5 (by have:=HK.out;omega) (by have:=HK.out;omega) (by decide) (by decide) (by omega)
 have HPU:=Zh hpu
 have HL5:=Zh hl5
 have HQ5:=Zh hq5
 clear h5 hpu hq5 hl5
 go_wp2_with fail
 refine Zq1 ⟨x0,x1,x2⟩ ?_
 unfold Zq14
 go_wp2_with fail
 refine HPU.out.mono ?_
 rintro e w6 ⟨A6,c6,q6,rfl,hq6,h6⟩
 clear x0 x1 x2
 obtain ⟨x0,x1,x2⟩:=HC.out _ _ (h6.pull 1 _ rfl)
 have hl6:q6.length=18:=by have:=HL5.out;rw [hq6,List.length_append,Zq31];omega
 obtain ⟨v7,w7,hr,h7⟩:=St.bytes_append 46 h6 (HS.out.below h6.below) (by have:=HK.out;omega)
 obtain ⟨A7,c7,rfl⟩:=Zq17 h7.row_owns
 obtain ⟨q7,hq7⟩:∃ q,q6++d=q:=⟨_,rfl⟩
 have e7:q6.length+d.length=q7.length:=by rw [←hq7,List.length_append]
 rw [←List.map_append,hq7,e7] at h7
 rw [e7] at hr
 have HR7:=Zh hr
 have HL6:=Zh hl6
 have HQ6:=Zh hq6
 have HQ7:=Zh hq7
 have HE7:=Zh e7
 have h7b:∀ x ∈ q7,isByte x:=by
  rw [←hq7,hq6,HQ5.out,HQ4.out]
  intro x hx
  simp only [List.mem_append] at hx
  rcases hx with (((hx|hx)|hx)|hx)|hx
  ·simp [magicB] at hx
   unfold isByte
   omega
  ·exact Zq67 _ _ x hx
  ·exact Zq67 _ _ x hx
  ·exact Zq67 _ _ x hx
  ·exact HB.out x hx
 have hl7:q7.length=18+d.length:=by have:=HE7.out;have:=HL6.out;omega
 have HSE:=Zh (Zq790 _ q7 w7 (SliceSrc.of_owns h7.row_owns (Zq56 q7)) h7b (by have:=HK.out;omega))
 have H7:=Zh h7
 clear h6 h7 hr hq6 hl6 hq7 e7 h7b hl7
 go_wp2_with fail
 refine NoPanic.normal ?_
 go_wp2_with (at_builtin;refine Lib.wpList_append_run _ rfl (.tmp 24) (.tmp 26) 46 46 rfl _ _ rfl rfl _ _ HR7.out ?_)
 refine HSE.out.mono ?_
 rintro e w8 ⟨v8,rfl,hb8,ho8⟩
 obtain ⟨q8,hq8⟩:∃ q,q7++putB (crcOf q7) 4=q:=⟨_,rfl⟩
 rw [hq8] at ho8
 have HQ8:=Zh hq8
 obtain ⟨A8,c8,rfl⟩:=Zq17 ho8
 have H8:=Zh (H7.out.row_fresh hb8 ho8)
 clear hb8 ho8 hq8
 go_wp2_with fail
 go_ret2
 refine ⟨A8,c8,q8,rfl,?_,((H8.out.pull 2 _ rfl).drop.pull 1 _ rfl).drop⟩
 have e7:headB ⟨tag,seq,d⟩=q7:=by
  rw [←HQ7.out,HQ6.out,HQ5.out,HQ4.out]
  rfl
 unfold Zq23
 rw [e7]
 exact HQ8.out.symm
end
end Go.Proofs.YtpjchngjhijgmaaGreat
