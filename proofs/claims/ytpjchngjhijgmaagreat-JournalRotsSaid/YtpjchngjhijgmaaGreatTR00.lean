import Derived.Test.YtpjchngjhijgmaaGreatJQ00
import Derived.Test.YtpjchngjhijgmaaGreatJQ01
import Derived.Test.YtpjchngjhijgmaaGreatJQ02
import Derived.Test.YtpjchngjhijgmaaGreatJQ03
import Derived.Test.YtpjchngjhijgmaaGreatJQ04
import Derived.Test.YtpjchngjhijgmaaGreatJQ05
import Derived.Test.YtpjchngjhijgmaaGreatJQ06
import Derived.Test.YtpjchngjhijgmaaGreatJQ07
import Derived.Test.YtpjchngjhijgmaaGreatJQ08
import Derived.Test.YtpjchngjhijgmaaGreatJQ09
import Derived.Test.YtpjchngjhijgmaaGreatJQ10
import Derived.Test.YtpjchngjhijgmaaGreatJQ11
import Derived.Test.YtpjchngjhijgmaaGreatJQ12
import Derived.Test.YtpjchngjhijgmaaGreatJQ13
import Derived.Test.YtpjchngjhijgmaaGreatJQ14
import Derived.Test.YtpjchngjhijgmaaGreatJQ15
import Derived.Test.YtpjchngjhijgmaaGreatJQ16
import Derived.Test.YtpjchngjhijgmaaGreatJQ17
import Derived.Test.YtpjchngjhijgmaaGreatJQ18
import Derived.Test.YtpjchngjhijgmaaGreatJQ19
import Derived.Test.YtpjchngjhijgmaaGreatJQ20
import Derived.Test.YtpjchngjhijgmaaGreatJQ21
import Derived.Test.YtpjchngjhijgmaaGreatJQ22
import Derived.Test.YtpjchngjhijgmaaGreatJQ23
import Derived.Test.YtpjchngjhijgmaaGreatJQ24
import Derived.Test.YtpjchngjhijgmaaGreatJQ25
import Derived.Test.YtpjchngjhijgmaaGreatJQ26
import Derived.Test.YtpjchngjhijgmaaGreatJQ27
import Derived.Test.YtpjchngjhijgmaaGreatJQ28
import Derived.Test.YtpjchngjhijgmaaGreatJQ29
import Derived.Test.YtpjchngjhijgmaaGreatJQ30
import Derived.Test.YtpjchngjhijgmaaGreatJQ31
import Derived.Test.YtpjchngjhijgmaaGreatJQ32
import Derived.Test.YtpjchngjhijgmaaGreatJQ33
import Derived.Test.YtpjchngjhijgmaaGreatJQ34
import Derived.Test.YtpjchngjhijgmaaGreatJQ35
import Derived.Test.YtpjchngjhijgmaaGreatJQ36
import Derived.Test.YtpjchngjhijgmaaGreatJQ37
import Derived.Test.YtpjchngjhijgmaaGreatJQ38
import Derived.Test.YtpjchngjhijgmaaGreatJQ39
import Derived.Test.YtpjchngjhijgmaaGreatJQ40
set_option linter.all false
namespace Go.Proofs.YtpjchngjhijgmaaGreat
open Go.RowKit
def xorB (a x:Int):Int:=bits .xor .u8 a x
def xorAt (b:List Int) (i:Nat) (x:Int):List Int:=b.set i (xorB (b.getD i 0) x)
def rotS (S:Str) (k:K4) (i:Int) (x:Int):Bool × Str :=
 if S.on=false then (false,S) else
  match get k S.seen with
  | none=>(false,S)
  | some t=>if i<0∨(t.b.length:Int)≤i then (false,S) else
   (true,{ S with
     seen:=put k { t with b:=xorAt t.b i.toNat x } S.seen
     dry:=match get k S.dry with
      | none=>S.dry
      | some d=>if i<d.b.length then put k { d with b:=xorAt d.b i.toNat x } S.dry else S.dry })
section
variable {W w : World} {I : Hp} {l : List HP} {p : Nat} {S : Str}
theorem St.row_setR {g n c:Nat} {b:List Int} (h:St W I w (Zq68 (.slice (some ⟨g,0,none⟩) n c) b::l)) (hn:n=b.length) (i:Nat) (x:Int) (hi:i<b.length) :
  w.cell? ⟨g,i,none⟩=some (byteV (b.getD i 0))∧w.frozen? ⟨g,i,none⟩=false∧g<w.heap.size∧St W I (w.setCell ⟨g,i,none⟩ (byteV x)) (Zq68 (.slice (some ⟨g,0,none⟩) n c) (b.set i x)::l):=by
 subst hn
 obtain ⟨hl,⟨e,_⟩|⟨g',cap,cur,e,h1,h2,h3,h4,h5⟩⟩:=h.row_open
 ·simp at e
 ·simp only [Value.slice.injEq,Option.some.injEq,Addr.mk.injEq,and_true,true_and] at e
  obtain ⟨rfl,rfl⟩:=e
  have hci:cur[i]?=some (byteV (b.getD i 0)):=by
   have h6:(cur.toList.take (b.length*1))[i]?=some (byteV (b.getD i 0)):=by
    rw [h4,List.getElem?_map,List.getElem?_eq_getElem hi]
    simp [List.getD,List.getElem?_eq_getElem hi]
   rw [List.getElem?_take_of_lt (by omega)] at h6
   simpa using h6
  refine ⟨(Zq1 h5.heap i).trans hci,frozen_of_row h5.heap i,h5.lt,?_⟩
  have h6:=h5.setCell i (byteV x)
  have h7:St W I (w.setCell ⟨g,i,none⟩ (byteV x)) (HP.row 5 1 (.slice (some ⟨g,0,none⟩) b.length c) b.length ((b.set i x).map byteV)::l):=h6.row_shut (by simp) h1 h2 (by simpa using h3) (by
   rw [Array.toList_setIfInBounds,List.take_set,h4,List.map_set])
  unfold Zq68
  rw [List.length_set]
  exact h7
theorem row_some {g:Value} {b:List Int} (h:St W I w (Zq68 g b::l)) (hb:b≠[]):∃ a c,g=.slice (some ⟨a,0,none⟩) b.length c:=by
 obtain ⟨_,⟨_,e,_⟩|⟨g',cap,cur,e,_⟩⟩:=h.row_open
 ·exact absurd (List.eq_nil_of_length_eq_zero e) hb
 ·exact ⟨g',cap,e⟩
set_option maxRecDepth 4000
set_option maxHeartbeats 4000000
theorem rot_spec (k:K4) (i x:Int) {m:Nat} (h:St W I w (Zq8 p S::l)) (hk:Keeps S m) :
  Calls Tryz.prog 32 #[.pointer (some ⟨p,0,none⟩),k.val,.int .i64 i,.int .u8 x] w fun e w'=>e=.returned (.bool (rotS S k i x).1)∧St W I w' (Zq8 p (rotS S k i x).2::l):=by
 obtain ⟨k0,k1,k2,k3⟩:=k
 simp only [K4.val]
 obtain ⟨B,h1⟩:=(h.alloc (.cells #[.int .i64 k0,.int .i64 k1,.int .i64 k2,.int .i64 k3] 43) |>.pull 1 _ rfl).store_open
 obtain ⟨w1,hw1⟩:∃ w1,w.alloc (.cells #[.int .i64 k0,.int .i64 k1,.int .i64 k2,.int .i64 k3] 43)=w1:=⟨_,rfl⟩
 rw [hw1] at h1
 have HW1:=Zh hw1
 obtain ⟨B0,h0⟩:=h.store_open
 have c4:=h0.blk 4
 have ltp:=h0.lt
 have c5:=h1.blk 5
 have hxk:=(h1.pull 6 _ rfl).heap
 have x0:=Zq1 hxk 0
 have x1:=Zq1 hxk 1
 have x2:=Zq1 hxk 2
 have x3:=Zq1 hxk 3
 simp [storeCells] at c4 c5 x0 x1 x2 x3
 have H:=Zh h
 have H1:=Zh h1
 have HKI:=Zh hk
 cases ho:S.on with
 | false =>
  rw [ho] at c4
  have HDS:=Zh (show rotS S ⟨k0,k1,k2,k3⟩ i x=(false,S) by simp [rotS,ho])
  clear h h0 h1 hk hw1 hxk ho c5 x0 x1 x2 x3
  go_enter Tryz.func32,Tryz.ntmps32
  go_wp2_with fail
  go_ret
  rw [HDS.out]
  exact ⟨rfl,H.out.keep (Zq3 _ _)⟩
 | true =>
  rw [ho] at c4
  rcases (h1.pull 1 _ rfl).mapOf_look Tryz.underlying112 (z:=.pointer none) (fun w=>by kernel_rfl) ⟨k0,k1,k2,k3⟩ with ⟨hn,hl⟩|⟨v1,t,hn,hl,h2⟩
  ·have hl':=fun nq=>hl (w1.drewN nq) (below_drewN (Below.refl _ _) nq) true
   simp only [keyKT,K4.val,if_true] at hl'
   have HDS:=Zh (show rotS S ⟨k0,k1,k2,k3⟩ i x=(false,S) by simp [rotS,ho,hn])
   clear h h0 h1 hk hw1 hxk ho hl hn
   go_enter Tryz.func32,Tryz.ntmps32
   go_wp2_with fail
   rw [HW1.out]
   clear c4
   go_quiet (fail)
   go_wp2_with fail
   go_ret
   rw [HDS.out]
   exact ⟨rfl,St.store_shut (((H1.out.pull 6 _ rfl).drop).drewN nq)⟩
  ·have hl':=fun nq=>hl (w1.drewN nq) (below_drewN (Below.refl _ _) nq) true
   simp only [keyKT,K4.val,if_true] at hl'
   obtain ⟨bt,mt,vb,rfl,h3⟩:=h2.thing_open
   have b0:=Zq1 h3.heap 0
   have ltb:=h3.lt
   simp at b0
   obtain ⟨Ab,cb,rfl⟩:=Zq15 (h3.pull 1 _ rfl).row_owns
   have hsm:=hk.inv.seen _ (get_mem hn)
   have hbl:(t.b.length:Int)≤20480:=by have:=hsm.1;simp only at this;omega
   by_cases hc:i<0∨(t.b.length:Int)≤i
   ·have HDS:=Zh (show rotS S ⟨k0,k1,k2,k3⟩ i x=(false,S) by simp [rotS,ho,hn,hc])
    clear h h0 h1 h2 h3 hk hw1 hxk ho hl hn hsm
    by_cases hi:i<0
    ·have hd:decide (i<0)=true:=by simpa using hi
     clear hc hi
     go_enter Tryz.func32,Tryz.ntmps32
     go_wp2_with fail
     rw [HW1.out]
     clear c4
     go_quiet (fail)
     go_wp2_with fail
     go_ret
     rw [HDS.out]
     exact ⟨rfl,St.store_shut (((H1.out.pull 6 _ rfl).drop).drewN nq)⟩
    ·have hd:decide (i<0)=false:=by simpa using hi
     have hi2:(t.b.length:Int)≤i:=by omega
     have hd2:decide ((t.b.length:Int)≤i)=true:=by simpa using hi2
     clear hc
     go_enter Tryz.func32,Tryz.ntmps32
     go_wp2_with fail
     rw [HW1.out]
     clear c4
     go_quiet (fail)
     go_wp2_with fail
     go_ret
     rw [HDS.out]
     exact ⟨rfl,St.store_shut (((H1.out.pull 6 _ rfl).drop).drewN nq)⟩
   ·obtain ⟨j,rfl⟩:∃ j:Nat,i=j:=⟨i.toNat,by omega⟩
    have hjl:j<t.b.length:=by omega
    obtain ⟨g,cg,hg⟩:=row_some (h3.pull 1 _ rfl) (fun e=>by rw [e] at hjl;simp at hjl)
    simp only [Value.slice.injEq,true_and] at hg
    obtain ⟨rfl,rfl⟩:=hg
    have hd:decide ((j:Int)<0)=false:=by rw [decide_eq_false_iff_not];omega
    have hd2:decide (t.b.length≤j)=false:=by rw [decide_eq_false_iff_not];omega
    have HN:=Zh hn
    have HO:=Zh ho
    have H3:=Zh h3
    have HSM:=Zh hsm
    clear h h0 h1 h2 h3 hk hw1 hxk ho hl hn hsm hc
    go_enter Tryz.func32,Tryz.ntmps32
    go_wp2_with fail
    rw [HW1.out]
    clear c4
    go_quiet (fail)
    have h4:=H3.out.drewN nq
    obtain ⟨w2,hw2⟩:∃ w2,w1.drewN nq=w2:=⟨_,rfl⟩
    rw [hw2] at h4 ⊢
    have b0:=Zq1 h4.heap 0
    simp at b0
    obtain ⟨r1,r2,r3,h5⟩:=(h4.pull 1 _ rfl).row_setR rfl j (xorB (t.b.getD j 0) x) hjl
    obtain ⟨a,ha⟩:∃ a,t.b.getD j 0=a:=⟨_,rfl⟩
    have hst:xorAt t.b j x=t.b.set j (xorB a x):=by unfold xorAt;rw [ha]
    rw [ha] at r1 h5
    rw [←hst] at h5
    clear h4 hw2 x0 x1 x2 x3 c5 hl' ha
    unfold byteV at r1 h5
    unfold xorB at h5
    have hb5:=HN.out
    obtain ⟨w3,hw3⟩:∃ w3,w2.setCell ⟨g,j,none⟩ (.int .u8 (bits .xor .u8 a x))=w3:=⟨_,rfl⟩
    rw [hw3] at h5
    have HW3:=Zh hw3
    have HST:=Zh hst
    clear hst hw3 hb5
    have c6:=(h5.pull 4 _ rfl).blk 6
    have hxk:=(h5.pull 9 _ rfl).heap
    have x0:=Zq1 hxk 0
    have x1:=Zq1 hxk 1
    have x2:=Zq1 hxk 2
    have x3:=Zq1 hxk 3
    simp [storeCells] at c6 x0 x1 x2 x3
    have hxl:(xorAt t.b j x).length=t.b.length:=by simp [xorAt]
    have h6:=(St.thing_shut (t:={ t with b:=xorAt t.b j x }) (h5.pull 1 _ rfl))
    have h7:St W I w3 (Zq20 p S B::HP.mapOf keyKT Zq16 B.m1 (put ⟨k0,k1,k2,k3⟩ { t with b:=xorAt t.b j x } S.seen)::dryHP B S::Zq61 B S::keyHP B S::HP.imm (Zq140 B.vk S.keep)::HP.pt w.heap.size (.cells #[.int .i64 k0,.int .i64 k1,.int .i64 k2,.int .i64 k3] 43)::l):=(h6.hole_back).pull 1 _ rfl
    rcases (h7.pull 2 _ rfl).mapOf_look Tryz.underlying112 (z:=.pointer none) (fun w=>by kernel_rfl) ⟨k0,k1,k2,k3⟩ with ⟨hdn,hdl⟩|⟨v2,d,hdn,hdl,h8⟩
    ·have hl':=fun nq=>hdl (w3.drewN nq) (below_drewN (Below.refl _ _) nq) true
     simp only [keyKT,K4.val,if_true] at hl'
     have HDS:=Zh (show rotS S ⟨k0,k1,k2,k3⟩ j x=(true,{ S with seen:=put ⟨k0,k1,k2,k3⟩ { t with b:=xorAt t.b j x } S.seen }) by
      simp only [rotS,HO.out,HN.out,hdn]
      rw [if_neg (by decide),if_neg (by omega)]
      rfl)
     have H7:=Zh h7
     clear h5 h6 h7 hdl hdn hxk hxl
     go_wp2_with fail
     rw [HW3.out]
     clear r1 r2 r3 b0
     go_quiet (fail)
     go_wp2_with fail
     go_ret
     rw [HDS.out]
     exact ⟨rfl,St.store_shut (B:=B) (S:={ S with seen:=put ⟨k0,k1,k2,k3⟩ { t with b:=xorAt t.b j x } S.seen }) (((H7.out.pull 6 _ rfl).drop).drewN nq)⟩
    ·have hl':=fun nq=>hdl (w3.drewN nq) (below_drewN (Below.refl _ _) nq) true
     simp only [keyKT,K4.val,if_true] at hl'
     obtain ⟨dt,dm,vd,rfl,h9⟩:=h8.thing_open
     have d0:=Zq1 h9.heap 0
     simp at d0
     obtain ⟨Ad,cd,rfl⟩:=Zq15 (h9.pull 1 _ rfl).row_owns
     have hsd:=HKI.out.inv.dry _ (get_mem hdn)
     by_cases hjd:j<d.b.length
     ·obtain ⟨gd,cgd,hgd⟩:=row_some (h9.pull 1 _ rfl) (fun e=>by rw [e] at hjd;simp at hjd)
      simp only [Value.slice.injEq,true_and] at hgd
      obtain ⟨rfl,rfl⟩:=hgd
      have HDS:=Zh (show rotS S ⟨k0,k1,k2,k3⟩ j x=(true,{ S with seen:=put ⟨k0,k1,k2,k3⟩ { t with b:=xorAt t.b j x } S.seen,dry:=put ⟨k0,k1,k2,k3⟩ { d with b:=xorAt d.b j x } S.dry }) by
       simp only [rotS,HO.out,HN.out,hdn]
       rw [if_neg (by decide),if_neg (by omega),if_pos (by omega)]
       rfl)
      have H9:=Zh h9
      clear h5 h6 h7 h8 h9 hdl hdn hxk hxl hsd
      go_wp2_with fail
      rw [HW3.out]
      clear r1 r2 r3 b0
      go_quiet (fail)
      have h10:=H9.out.drewN nq
      obtain ⟨w4,hw4⟩:∃ w4,w3.drewN nq=w4:=⟨_,rfl⟩
      rw [hw4] at h10 ⊢
      have d0:=Zq1 h10.heap 0
      simp at d0
      obtain ⟨r1,r2,r3,h11⟩:=(h10.pull 1 _ rfl).row_setR rfl j (xorB (d.b.getD j 0) x) hjd
      obtain ⟨a',ha⟩:∃ a,d.b.getD j 0=a:=⟨_,rfl⟩
      have hst:xorAt d.b j x=d.b.set j (xorB a' x):=by unfold xorAt;rw [ha]
      rw [ha] at r1 h11
      rw [←hst] at h11
      unfold byteV at r1 h11
      unfold xorB at h11
      have H11:=Zh h11
      clear h10 h11 hw4 hst ha x0 x1 x2 x3 c6 hl'
      go_wp2_with fail
      go_ret
      rw [HDS.out]
      have h12:=(St.thing_shut (t:={ d with b:=xorAt d.b j x }) (H11.out.pull 1 _ rfl)).hole_back
      exact ⟨rfl,St.store_shut (B:=B) (S:={ S with seen:=put ⟨k0,k1,k2,k3⟩ { t with b:=xorAt t.b j x } S.seen,dry:=put ⟨k0,k1,k2,k3⟩ { d with b:=xorAt d.b j x } S.dry }) (((h12.pull 6 _ rfl).drop).perm (m:=Zq20 p S B::HP.mapOf keyKT Zq16 B.m1 (put ⟨k0,k1,k2,k3⟩ { t with b:=xorAt t.b j x } S.seen)::HP.mapOf keyKT Zq16 B.m2 ((⟨k0,k1,k2,k3⟩,{ d with b:=xorAt d.b j x })::del ⟨k0,k1,k2,k3⟩ S.dry)::Zq61 B S::keyHP B S::HP.imm (Zq140 B.vk S.keep)::l) (by ((try simp only [Zl0,Zl1,Zl2,Zl3]);repeat (first|with_reducible exact List.Perm.refl _|(apply Zq6;(· repeat (first|with_reducible exact Zq5|with_reducible apply Zq2)))))))⟩
     ·have hd3:decide (j<d.b.length)=false:=by rw [decide_eq_false_iff_not];omega
      have HDS:=Zh (show rotS S ⟨k0,k1,k2,k3⟩ j x=(true,{ S with seen:=put ⟨k0,k1,k2,k3⟩ { t with b:=xorAt t.b j x } S.seen }) by
       simp only [rotS,HO.out,HN.out,hdn]
       rw [if_neg (by decide),if_neg (by omega),if_neg (by omega)]
       rfl)
      have H7:=Zh h7
      clear h5 h6 h7 h8 h9 hdl hdn hxk hxl hsd
      go_wp2_with fail
      rw [HW3.out]
      clear r1 r2 r3 b0
      go_quiet (fail)
      go_wp2_with fail
      go_ret
      rw [HDS.out]
      exact ⟨rfl,St.store_shut (B:=B) (S:={ S with seen:=put ⟨k0,k1,k2,k3⟩ { t with b:=xorAt t.b j x } S.seen }) (((H7.out.pull 6 _ rfl).drop).drewN nq)⟩
end
end Go.Proofs.YtpjchngjhijgmaaGreat
namespace Go.Proofs.YtpjchngjhijgmaaGreat
open Go.RowKit
theorem runs_take {es:List En} {s:Int} (h:runs es s) (n:Nat):runs (es.take n) s:=by
 rw [←List.take_append_drop n es] at h
 exact (Zq520.1 h).1
end Go.Proofs.YtpjchngjhijgmaaGreat
namespace Go.Proofs.YtpjchngjhijgmaaGreat
open Go.RowKit
section
variable {W w w' : World} {I : Hp} {l : List HP} {p q : Nat} {J : Jn} {S : Str}
set_option maxRecDepth 8000
set_option maxHeartbeats 8000000
theorem jread_spec (pos most:Int) (h:St W I w (Zq8 p S::jnHP q p J::l)) (hB:JB J) (hpm:pos≤4611686018427387904) (hE:∀ e ∈ J.l,e.okB=true) :
  Calls Tryz.prog 28 #[.pointer (some ⟨q,0,none⟩),.int .i64 pos,.int .i64 most] w fun e w'=>∃ I' v,I.sub I'∧e=.returned (.tuple #[v,.int .i64 (readJ S J pos most).2])∧St W I' w' (Zq26 v (readJ S J pos most).1::Zq8 p S::jnHP q p (mayJ2 S J)::l):=by
 have HM:=Zh (Zq317 h)
 have HSM:=Zh (@Zq319 S J)
 obtain ⟨⟨es,why⟩,hR⟩:∃ x,x=readJ S J pos most:=⟨_,rfl⟩
 rw [←hR]
 unfold readJ Zq731 at hR
 obtain ⟨e0,he0⟩:∃ x,x=mayJ S J:=⟨_,rfl⟩
 rw [←he0] at HM HSM hR
 simp only [Prod.mk.injEq] at hR
 obtain ⟨hes,hwhy⟩:=hR
 rw [←hwhy] at hes
 have HES:=Zh hes
 have HWHY:=Zh hwhy
 have HB:=Zh hB
 have HEE:=Zh hE
 clear h hB he0 hes hwhy hE
 by_cases h0:e0=0
 ·subst h0
  have HW2:=Zh (HWHY.out.trans (if_neg (by simp)))
  have hsame:=HSM.out rfl
  rw [hsame] at HM ⊢
  have HE:=Zh (fun w1 L (h:St W I w1 (jnHP q p J::L))=>Zq111 h HB.out)
  obtain ⟨en,hen⟩:∃ x,x=endJ J:=⟨_,rfl⟩
  rw [←hen] at HE HW2
  have HEN:=Zh hen
  obtain ⟨fi,hfi⟩:∃ x,x=J.r.first:=⟨_,rfl⟩
  rw [←hfi] at HW2
  have HFI:=Zh hfi
  have hfr:=HB.out.first
  rw [←hfi] at hfr
  have w1:IntKind.i64.wrap (fi - 1)=fi - 1:=by rw [IntKind.wrap_i64];omega
  clear HSM hsame hen hfi
  go_enter Tryz.func28,Tryz.ntmps28
  go_wp2_with fail
  refine HM.out.mono ?_
  rintro e w2 ⟨rfl,h2⟩
  have H2:=Zh h2
  clear h2 HM
  by_cases hp0:pos<0
  ·have e1:=HW2.out.trans (if_pos (.inl hp0))
   subst e1
   have e2:=HES.out.trans (if_neg (by decide))
   subst e2
   go_wp2_with fail
   go_ret2
   exact ⟨I,_,Hp.sub.refl _,rfl,H2.out.ents_nil⟩
  ·go_wp2_with fail
   refine (HE.out _ _ (H2.out.pull 1 _ rfl)).mono ?_
   rintro e w3 ⟨rfl,hb3⟩
   have H3:=Zh (H2.out.keep hb3)
   clear hb3 H2
   by_cases hpe:en<pos
   ·have e1:=HW2.out.trans (if_pos (.inr (.inl hpe)))
    subst e1
    have e2:=HES.out.trans (if_neg (by decide))
    subst e2
    go_wp2_with fail
    go_ret2
    exact ⟨I,_,Hp.sub.refl _,rfl,H3.out.ents_nil⟩
   ·by_cases hm0:most<0
    ·have e1:=HW2.out.trans (if_pos (.inr (.inr hm0)))
     subst e1
     have e2:=HES.out.trans (if_neg (by decide))
     subst e2
     go_wp2_with fail
     go_ret2
     exact ⟨I,_,Hp.sub.refl _,rfl,H3.out.ents_nil⟩
    ·have HW3:=Zh (HW2.out.trans (if_neg (by omega)))
     obtain ⟨⟨vt,vc,vl,va⟩,hrI,h4⟩:=(H3.out.pull 1 _ rfl).jn_open
     obtain ⟨Al,cl,e1,hncl,_,hnil⟩:=(h4.pull 1 _ rfl).ents_slice
     simp only at e1 hrI h4
     subst e1
     have k4:=jn_c4 h4
     rw [←HFI.out] at k4
     have k8:=jn_c8 h4
     simp only at k8
     have lq:=h4.lt
     have HRI:=Zh hrI
     have H4:=Zh h4
     clear hrI h4 H3
     by_cases hpf:pos<fi - 1
     ·have e1:=HW3.out.trans (if_pos hpf)
      subst e1
      have e2:=HES.out.trans (if_neg (by decide))
      subst e2
      have h5:=St.jn_shut (J:=J) (V:=⟨vt,vc,.slice Al J.l.length cl,va⟩) HRI.out H4.out
      have H5:=Zh (h5.pull 1 _ rfl)
      clear h5 H4
      go_wp2_with fail
      go_ret2
      exact ⟨I,_,Hp.sub.refl _,rfl,H5.out.ents_nil⟩
     ·have e1:=HW3.out.trans (if_neg hpf)
      subst e1
      have e2:=HES.out.trans (if_pos rfl)
      have HES2:=Zh e2
      obtain ⟨n,hnn⟩:∃ x,x=J.l.length:=⟨_,rfl⟩
      have HNN:=Zh hnn
      obtain ⟨k,hk⟩:∃ k:Nat,(k:Int)=pos - fi+1:=⟨(pos - fi+1).toNat,by omega⟩
      have hkn:k≤n:=by
       have:=HEN.out
       unfold endJ at this
       rw [←HFI.out,←hnn] at this
       omega
      rw [←hnn] at k8 H4 hncl
      have w2:IntKind.i64.wrap (pos - fi)=pos - fi:=by rw [IntKind.wrap_i64];omega
      have w3:IntKind.i64.wrap (pos - fi+1)=(k:Int):=by rw [IntKind.wrap_i64];omega
      clear e2 hnn
      go_upto_region 9 with fail
      go_quiet (fail)
      have hkt:(pos - fi+1).toNat=k:=by omega
      rw [hkt]
      obtain ⟨A9,hA9⟩:∃ x,x=(if cl=k then Al else Option.map (fun x=>x.add (k*3)) Al):=⟨_,rfl⟩
      rw [←hA9]
      have HA9:=Zh (show ∀ g qq,Al=some ⟨g,qq,none⟩→cl≠k→A9=some ⟨g,qq+k*3,none⟩ from fun g qq e hc=>by
       rw [hA9,if_neg hc,e,Option.map_some,add_plain])
      obtain ⟨n2,hn2⟩:∃ x,x=n - k:=⟨_,rfl⟩
      obtain ⟨c2,hc2⟩:∃ x,x=cl - k:=⟨_,rfl⟩
      rw [←hn2,←hc2]
      have hnc2:n2≤c2:=by omega
      obtain ⟨t,ht⟩:∃ t:Nat,(t:Int)=min most (n2:Int):=⟨(min most (n2:Int)).toNat,by omega⟩
      have htn:t≤n2:=by omega
      have hmin:=ht.symm
      have HLST:=Zh (show es=((J.l.drop k).take t) by
       rw [HES2.out]
       unfold readL
       rw [←HFI.out,hkt]
       have hdl:(J.l.drop k).length=n2:=by rw [List.length_drop,←HNN.out];omega
       by_cases hle:most≤(n2:Int)
       ·rw [show most.toNat=t by omega]
       ·rw [List.take_of_length_le (by omega),List.take_of_length_le (by omega)])
      have H5:=Zh ((H4.out.drewN nq).ents_nil)
      have HLE:=Zh (show k+t≤n∧n≤cl by omega)
      clear hA9 hkt ht w2 w3 hk hncl hnil H4 k4 k8 lq HES2 HES HWHY HW2 HW3 HE HEN hn2 hc2
      go_wp2_with fail
      go_loopw [9,60] (fun a9 a60 wr=>∃ (i:Nat) (I':Hp) (A8:Option Addr) (c8:Nat),a60=.int .i64 i∧a9=.slice A8 i c8∧i≤t∧I.sub I'∧St W I' wr (Zq26 (.slice A8 i c8) ((J.l.drop k).take i)::jnBlk q p J ⟨vt,vc,.slice Al n cl,va⟩::Zq26 (.slice Al n cl) J.l::Zq19 va J.at_::Zq8 p S::l)) (fun _ a60 _=>t - (intOf a60).toNat)
      case atStart=>exact ⟨0,I,none,0,rfl,rfl,Nat.zero_le _,Hp.sub.refl _,H5.out⟩
      case round =>
       obtain ⟨i,I',A8,c8,rfl,rfl,hi,hsub,hst⟩:=hrel
       have hle:=HLE.out
       have hn5:=HB.out.len
       rw [←HNN.out] at hn5
       clear H5
       by_cases hlt:i<t
       ·have hlt2:(i:Int)<(t:Int):=by omega
        have hkl:k+i<J.l.length:=by rw [←HNN.out];omega
        obtain ⟨e,he⟩:∃ e,J.l[k+i]?=some e:=⟨_,List.getElem?_eq_getElem hkl⟩
        obtain ⟨g,qq,c3,vd,e2,hg,hbd,hbb,y0,y1,y2⟩:=(hst.pull 2 _ rfl).ents_cell he
        rw [←HNN.out] at e2
        simp only [Value.slice.injEq] at e2
        obtain ⟨rfl,hnn,rfl⟩:=e2
        clear hnn
        obtain rfl:=HA9.out g qq rfl (by omega)
        have ha1:qq+(k+i)*3=qq+k*3+i*3:=by omega
        rw [ha1] at y0 y1 y2
        obtain ⟨Ad,cd,rfl⟩:=hbd.isSl
        have htk:(J.l.drop k).take (i+1)=(J.l.drop k).take i++[e]:=by
         rw [List.take_add_one,List.getElem?_drop,he];rfl
        have hil:((J.l.drop k).take i).length=i:=by rw [List.length_take,List.length_drop];omega
        have h5:=hst.alloc (.cells #[.int .i64 e.tag,.int .i64 e.seq,.slice Ad e.data.length cd] 50)
        have hcl:=fun w1 (L:List HP) (h1:St W I' w1 L)=>Zq24 (.slice Ad e.data.length cd) e.data.length (e.data.map byteV) w1 (Zq29 h1 hbd)
        have HTK:=Zh htk
        have HIL:=Zh hil
        have HBB:=Zh hbb
        have HSUB:=Zh hsub
        have HCL:=Zh hcl
        have hok:=HEE.out e (List.mem_of_getElem? he)
        obtain ⟨tg,sq,d⟩:=e
        simp only at y0 y1 y2 h5 HBB HCL
        obtain ⟨dl,hdl⟩:∃ x,x=d.length:=⟨_,rfl⟩
        have hdl9:dl≤1000000:=by have:=(En.okB_iff.1 hok).2.2;simp only at this;omega
        have HDL:=Zh hdl
        rw [←hdl] at y2 h5 HCL
        obtain ⟨g12,hg12⟩:∃ x,x=wr.heap.size:=⟨_,rfl⟩
        rw [←hg12] at h5
        have H5:=Zh h5
        clear hst h5 htk hil hbb hsub hcl he hbd hdl ha1 hkl hok
        go_upto_region 13 with fail
        rw [←hg12]
        have h5:=H5.out
        generalize (World.alloc _ _:World)=w5 at h5 ⊢
        clear y0 y1 y2 hg H5 hg12
        obtain ⟨z0,z1,z2⟩:=Zq62 h5
        have lg:=h5.lt
        have fg:=frozen_of_row h5.heap
        have HC2:=Zh (HCL.out w5 _ h5 hdl9)
        have H5:=Zh h5
        clear h5 HCL
        go_wp2_with fail
        refine HC2.out.mono ?_
        rintro e w6 ⟨v6,rfl,ho6,hb6⟩
        obtain ⟨A6,c6,rfl⟩:=Zq15 ho6
        rw [HDL.out] at ho6
        obtain ⟨I6,s6,hB6,h6⟩:=Zq31 H5.out hb6 ho6
        rw [←HDL.out] at hB6
        clear z0 z1 z2 lg fg ho6 hb6 H5 HC2
        obtain ⟨z0,z1,z2⟩:=Zq62 h6
        have lg:=h6.lt
        have fg:=frozen_of_row h6.heap
        have h7:=(h6.set3 (.int .i64 tg) (.int .i64 sq) (.slice A6 dl c6))
        have h7:St W I6 (w6.setCell ⟨g12,2,none⟩ (.slice A6 dl c6)) (HP.pt g12 (.cells #[.int .i64 tg,.int .i64 sq,.slice A6 dl c6] 50)::Zq26 (.slice A8 i c8) ((J.l.drop k).take i)::jnBlk q p J ⟨vt,vc,.slice (some ⟨g,qq,none⟩) n cl,va⟩::Zq26 (.slice (some ⟨g,qq,none⟩) n cl) J.l::Zq19 va J.at_::Zq8 p S::l):=by
         have:=h6.setCell 2 (.slice A6 dl c6)
         simp only [List.setIfInBounds_toArray,Zl4,Zl5] at this
         exact this
        obtain ⟨A9,c9,w9,hr9,h9⟩:=St.ents_append (e:=⟨tg,sq,d⟩) (g:=(w6.setCell ⟨g12,2,none⟩ (.slice A6 dl c6)).heap.size) rfl (h7.pull 1 _ rfl) (vd:=.slice A6 dl c6) hB6 HBB.out (by rw [HIL.out];have:=HB.out.len;rw [←HNN.out] at this;omega)
        rw [HIL.out] at hr9 h9
        rw [←HTK.out] at h9
        rw [World.size_setCell] at hr9
        have H9:=Zh ((h9.pull 1 _ rfl).drop)
        have HR9:=Zh hr9
        have S6:=Zh (HSUB.out.trans s6)
        clear h6 h9 hr9 s6 hB6 HTK HIL HBB
        go_wp2_with (at_builtin;refine Lib.wpList_append_run _ rfl (.tmp 68) (.tmp 70) 58 58 rfl _ _ rfl rfl _ _ HR9.out ?_)
        go_roundw
        case rel=>exact ⟨i+1,I6,A9,c9,by go_num,rfl,by omega,S6.out,H9.out⟩
        case measure=>first|(simp [intOf];done)|(simp [intOf];omega)|fail
       ·obtain rfl:i=t:=by omega
        have hlt2:¬ (i:Int)<(i:Int):=by omega
        rw [←HLST.out] at hst
        have h5:=St.jn_shut (J:=J) (V:=⟨vt,vc,.slice Al n cl,va⟩) (HRI.out.mono hsub) (hst.perm (by ((try simp only [Zl0,Zl1,Zl2,Zl3]);repeat (first|with_reducible exact List.Perm.refl _|(apply Zq6;(· repeat (first|with_reducible exact Zq5|with_reducible apply Zq2)))))):St W I' wr (jnBlk q p J ⟨vt,vc,.slice Al n cl,va⟩::Zq26 (.slice Al n cl) J.l::Zq19 va J.at_::Zq26 (.slice A8 i c8) es::Zq8 p S::l))
        have H5:=Zh h5
        have HSUB:=Zh hsub
        clear hst h5 hsub
        go_wp2_with fail
        go_ret2
        have h6:St W I' wr (Zq26 (.slice A8 i c8) es::Zq8 p S::jnHP q p J::l):=H5.out.perm (by ((try simp only [Zl0,Zl1,Zl2,Zl3]);repeat (first|with_reducible exact List.Perm.refl _|(apply Zq6;(· repeat (first|with_reducible exact Zq5|with_reducible apply Zq2))))))
        first|exact ⟨I',_,HSUB.out,rfl,h6⟩|exact ⟨I',HSUB.out,_,rfl,h6⟩|fail
 ·have e1:=HWHY.out.trans (if_pos h0)
  subst e1
  have hes:=HES.out.trans (if_neg h0)
  subst hes
  have hne:(why != 0)=true:=by simpa using h0
  go_enter Tryz.func28,Tryz.ntmps28
  go_wp2_with fail
  refine HM.out.mono ?_
  rintro e w2 ⟨rfl,h2⟩
  have H2:=Zh h2
  clear h2
  go_wp2_with fail
  go_ret2
  exact ⟨I,_,Hp.sub.refl _,rfl,H2.out.ents_nil⟩
end
end Go.Proofs.YtpjchngjhijgmaaGreat
namespace Go.Proofs.YtpjchngjhijgmaaGreat
open Go.RowKit
theorem JOK.may2 {S:Str} {J:Jn} (h:JOK S J):mayJ2 S J=J:=Zq319 h.may
end Go.Proofs.YtpjchngjhijgmaaGreat
