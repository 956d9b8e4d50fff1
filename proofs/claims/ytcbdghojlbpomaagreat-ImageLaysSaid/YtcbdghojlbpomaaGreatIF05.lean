import Derived.Test.YtcbdghojlbpomaaGreatIF04
set_option linter.all false
set_option maxRecDepth 4000
set_option maxHeartbeats 8000000
open Go.RowKit
open Go.IntKind (i64 u64)
open Go.Value (int pointer slice)
open Go.Obj (cells)
namespace Go.Proofs.YtcbdghojlbpomaaGreat
open Tryz
open HP (pt mapOf)
variable {W w w':World} {I:Hp} {l:List HP}
section
variable {p : Nat} {S : Str}
theorem Zgf (h:St W I w (Zd p S::l)):Calls prog 43 #[pointer (some ⟨p,0,none⟩)] w fun e w'=>e=.returned (.bool S.on)∧w=w':=by
 obtain ⟨B,h1⟩:=h.store_open;have c4:=h1.blk 4;simp [storeCells] at c4;clear h h1;go_enter func43,ntmps43;go_wp2;go_ret;exact ⟨rfl,rfl⟩
theorem ZcJ (h:St W I w (Zd p S::l)):Calls prog 74 #[pointer (some ⟨p,0,none⟩)] w fun e w'=>e=.returned (int i64 (max 0 (wrap64 (S.room - S.used))))∧Below w.heap.size w w':=by
 obtain ⟨B,h1⟩:=h.store_open;have c0:=h1.blk 0;have c1:=h1.blk 1;simp [storeCells] at c0 c1;clear h h1;go_enter func74,ntmps74;go_wp2_with fail;refine ZaD [0,1,2,4,5,6] [3,7,8] [9,10] (by kernel_rfl) (by kernel_rfl) ?_;simp only [pickL,Zg,Zi];repeat (refine ZaA _ (Or.inl ⟨by rfl,by intro w;go_simp;try with_reducible rfl⟩) ?_;(try go_frame))
 refine ZaB ?_;repeat still_step
 refine ZaI ?_;go_wp2;refine Zu ?_;go_wp2;go_ret;exact ⟨rfl,(ZR _ _).drew⟩
end
def whyS (S:Str) (k:K4):Int:=if mayS S k=0 then (if (get k S.seen).isSome then 0 else 4) else mayS S k
structure Keeps (S:Str) (m:Nat):Prop where
 inv:Inv S (S.late.length+m)
 keep:S.armed=false
 fuse:0<=S.fuse∧S.fuse<=9223372036854775807
 lates:∀ x ∈ S.late,x.2.length+m<=100000
theorem Inv.fewer {S:Str} {m n:Nat} (h:Inv S m) (hn:n<=m):Inv S n:=⟨h.rise,fun g=>ZQ (Nat.add_le_add_left hn _) (h.many g),h.seen,h.dry,h.late,h.lateN⟩
section
variable {p : Nat} {S : Str}
theorem Zdn (I:Hp):Zw I (slice none 0 0) []:=⟨none,0,rfl,rfl,Z9 _,by unfold maxLen;omega,fun _=>rfl,fun h=>absurd h (by simp)⟩
theorem ZcG (k:K4) (h:St W I w (Zd p S::l)) :
  Calls prog 179 #[pointer (some ⟨p,0,none⟩),k.val] w fun e w'=>Below w.heap.size w w'∧St W I w' (Zd p S::l) ∧
   ((whyS S k≠0∧e=.returned (.tuple #[pointer none,int i64 (whyS S k)])) ∨
    ∃ q t B,whyS S k=0∧get k S.seen=some t∧e=.returned (.tuple #[pointer q,int i64 0])∧St W I w' (Zv (pointer q) t::HP.hole keyKT Zv B.m1 k (pointer q) (del k S.seen)::ZV p S B::dryHP B S::Zan B S::keyHP B S::HP.imm (Zbe B.vk S.keep)::l)):=by
 obtain ⟨B,h1⟩:=h.store_open;refine (Zm5 k h1).mono ?_;rintro e w' ⟨hb,⟨h2,rfl⟩|⟨h2,h3,rfl⟩|⟨v,t,h2,h3,rfl,h4⟩⟩
 ·exact ⟨hb,h.keep hb,.inl (by rw [show whyS S k=mayS S k by simp [whyS,h2]];exact ⟨h2,rfl⟩)⟩
 ·exact ⟨hb,h.keep hb,.inl (by rw [show whyS S k=4 by simp [whyS,h2,h3]];exact ⟨by decide,rfl⟩)⟩
 ·obtain ⟨bt,mt,vb,rfl,_⟩:=St.thing_open (v:=v) (t:=t) h4;exact ⟨hb,h.keep hb,.inr ⟨_,t,B,by simp [whyS,h2,h3],h3,rfl,h4.keep hb⟩⟩
def dropS (S:Str) (k:K4):Int × Str:=if whyS S k=0 then (offE (doS S k ⟨3,0,[],⟨#[]⟩⟩).1,(doS S k ⟨3,0,[],⟨#[]⟩⟩).2) else (whyS S k,S)
theorem ZeU (k:K4) {m:Nat} (h:St W I w (Zd p S::l)) (hk:Keeps S m) :
  Calls prog 133 #[pointer (some ⟨p,0,none⟩),k.val] w fun e w'=>∃ I',I.sub I'∧e=.returned (int i64 (dropS S k).1)∧St W I' w' (Zd p (dropS S k).2::l):=by
 have hth:=ZcG k (h.alloc (cells #[int i64 k.kind,int i64 k.img,int i64 k.num,int i64 k.snap] 150) |>.pull 1 _ rfl);obtain ⟨k0,k1,k2,k3⟩:=k;simp only [K4.val] at hth |-;have HT:=Zh hth;clear hth;go_enter func133,ntmps133;go_wp2_with fail;refine HT.o.mono ?_;clear HT;rintro e w2 ⟨hb,h2,⟨hw,rfl⟩|⟨q,t,B,hw,hg,rfl,h3⟩⟩
 ·have HW:=Zh hw;have H2:=Zh h2;have HDS:=Zh (show dropS S ⟨k0,k1,k2,k3⟩=(whyS S ⟨k0,k1,k2,k3⟩,S) by simp [dropS,hw]);clear h2 hb;go_wp2;go_ret;rw [HDS.o];exact ⟨I,Hp.sub.refl _,rfl,(H2.o.pull 1 _ rfl).drop⟩
 ·have hxk:=(h2.pull 1 _ rfl).heap;have x0:=Zc hxk 0;have x1:=Zc hxk 1;have x2:=Zc hxk 2;have x3:=Zc hxk 3;simp at x0 x1 x2 x3;have HDS:=Zh (show dropS S ⟨k0,k1,k2,k3⟩=(offE (doS S ⟨k0,k1,k2,k3⟩ ⟨3,0,[],⟨#[]⟩⟩).1,(doS S ⟨k0,k1,k2,k3⟩ ⟨3,0,[],⟨#[]⟩⟩).2) by simp [dropS,hw]);have H2:=Zh h2;have HK:=Zh hk;clear h2 h3 hxk hb hw hg hk h;go_wp2_with fail;have hdo:=Zc3 ⟨k0,k1,k2,k3⟩ ⟨3,0,[],⟨#[]⟩⟩ (slice none 0 0) H2.o (Zdn I) (by unfold Dd.fits Dd.good;simp) HK.o.keep HK.o.fuse (HK.o.inv.fewer (ZcV _ _));simp only [K4.val] at hdo;refine hdo.mono ?_;rintro e w3 ⟨I3,hs3,rfl,h3⟩;have H3:=Zh h3;have HS3:=Zh hs3;clear h3 hs3 hdo;go_wp2;go_ret;rw [HDS.o];exact ⟨I3,HS3.o,rfl,(H3.o.pull 1 _ rfl).drop⟩
end
def cutD (t:TS) (size:Int):Dd:=⟨2,max 0 (min size t.b.length),[],⟨#[]⟩⟩
def trimS (S:Str) (k:K4) (size:Int):Int × Str :=
 match get k S.seen with
 | some t=>if whyS S k=0 then (offE (doS S k (cutD t size)).1,(doS S k (cutD t size)).2) else (whyS S k,S)
 | none=>(whyS S k,S)
section
variable {p : Nat} {S : Str}
theorem ZjL (k:K4) (size:Int) {m:Nat} (h:St W I w (Zd p S::l)) (hk:Keeps S m) :
  Calls prog 208 #[pointer (some ⟨p,0,none⟩),k.val,int i64 size] w fun e w'=>∃ I',I.sub I'∧e=.returned (int i64 (trimS S k size).1)∧St W I' w' (Zd p (trimS S k size).2::l):=by
 have hth:=ZcG k (h.alloc (cells #[int i64 k.kind,int i64 k.img,int i64 k.num,int i64 k.snap] 150) |>.pull 1 _ rfl);obtain ⟨k0,k1,k2,k3⟩:=k;simp only [K4.val] at hth |-;have HT:=Zh hth;clear hth;go_enter func208,ntmps208;go_wp2_with fail;refine HT.o.mono ?_;clear HT;rintro e w2 ⟨hb,h2,⟨hw,rfl⟩|⟨q,t,B,hw,hg,rfl,h3⟩⟩
 ·have HW:=Zh hw;have H2:=Zh h2;have HDS:=Zh (show trimS S ⟨k0,k1,k2,k3⟩ size=(whyS S ⟨k0,k1,k2,k3⟩,S) by unfold trimS;split <;> simp [hw]);clear h2 hb;go_wp2;go_ret;rw [HDS.o];exact ⟨I,Hp.sub.refl _,rfl,(H2.o.pull 1 _ rfl).drop⟩
 ·have hxk:=(h2.pull 1 _ rfl).heap;have x0:=Zc hxk 0;have x1:=Zc hxk 1;have x2:=Zc hxk 2;have x3:=Zc hxk 3;simp at x0 x1 x2 x3;obtain ⟨bt,mt,vb,hq,h4⟩:=St.thing_open (v:=pointer q) (t:=t) h3;simp only [Zd5] at hq;subst hq;obtain ⟨Ab,cb,rfl⟩:=ZD (h4.pull 1 _ rfl).row_owns;have b0:=Zc h4.heap 0;simp at b0;have HDS:=Zh (show trimS S ⟨k0,k1,k2,k3⟩ size=(offE (doS S ⟨k0,k1,k2,k3⟩ (cutD t size)).1,(doS S ⟨k0,k1,k2,k3⟩ (cutD t size)).2) by simp [trimS,hw,hg]);have htb:=(get_mem hg);have hsm:=hk.inv.seen _ htb;have H2:=Zh h2;have HK:=Zh hk;have HSM:=Zh hsm;clear h2 h3 h4 hxk hb hw hg hk h htb hsm;go_wp2_with fail;refine ZaD [0,2,3,4,5] [1,6,7,8,9,10] [11,12] (by kernel_rfl) (by kernel_rfl) ?_;simp only [pickL,Zg,Zi];repeat (refine ZaA _ (Or.inl ⟨by rfl,by intro w;go_simp;try with_reducible rfl⟩) ?_;(try go_frame))
  refine ZaB ?_;repeat still_step
  refine ZaI ?_;go_wp2_with fail
  have hdo:=Zc3 ⟨k0,k1,k2,k3⟩ (cutD t size) (slice none 0 0) H2.o.drew (Zdn I) (by
   have h9:t.b.length<=20480:=HSM.o.1;unfold Dd.fits Dd.good cutD;simp
   omega) HK.o.keep HK.o.fuse (HK.o.inv.fewer (ZcV _ _))
  simp only [K4.val,cutD] at hdo;refine hdo.mono ?_;rintro e w3 ⟨I3,hs3,rfl,h3⟩;have H3:=Zh h3;have HS3:=Zh hs3;clear h3 hs3 hdo;go_wp2;refine Zu ?_;go_wp2;go_ret;rw [HDS.o];exact ⟨I3,HS3.o,rfl,(H3.o.pull 1 _ rfl).drop⟩
end
def lenAt (S:Str) (k:K4):Int:=if whyS S k=0 then (match get k S.seen with|some t=>(t.b.length:Int)|none=>0) else 0
section
variable {p : Nat} {S : Str}
theorem ZbV (k:K4) (h:St W I w (Zd p S::l)) :
  Calls prog 132 #[pointer (some ⟨p,0,none⟩),k.val] w fun e w'=>Below w.heap.size w w'∧e=.returned (.tuple #[int i64 (lenAt S k),int i64 (whyS S k)]):=by
 have hth:=ZcG k (h.alloc (cells #[int i64 k.kind,int i64 k.img,int i64 k.num,int i64 k.snap] 150) |>.pull 1 _ rfl);have hbl:=(ZR w.heap.size w).alloc (Z9 _) (cells #[int i64 k.kind,int i64 k.img,int i64 k.num,int i64 k.snap] 150);obtain ⟨k0,k1,k2,k3⟩:=k;simp only [K4.val] at hth |-;have HT:=Zh hth;have HBL:=Zh hbl;clear hth hbl;go_enter func132,ntmps132;go_wp2_with fail;refine HT.o.mono ?_;clear HT;rintro e w2 ⟨hb,h2,⟨hw,rfl⟩|⟨q,t,B,hw,hg,rfl,h3⟩⟩
 ·have HW:=Zh hw;have HB:=Zh (HBL.o.trans (hb.mono (by simp)));have HDS:=Zh (show lenAt S ⟨k0,k1,k2,k3⟩=0 by simp [lenAt,hw]);clear h2 hb;go_wp2;go_ret2;rw [HDS.o];exact ⟨HB.o,rfl⟩
 ·obtain ⟨bt,mt,vb,hq,h4⟩:=St.thing_open (v:=pointer q) (t:=t) h3;simp only [Zd5] at hq;subst hq;obtain ⟨Ab,cb,rfl⟩:=ZD (h4.pull 1 _ rfl).row_owns;have b0:=Zc h4.heap 0;simp at b0;have HB:=Zh (HBL.o.trans (hb.mono (by simp)));have HDS:=Zh (show lenAt S ⟨k0,k1,k2,k3⟩=t.b.length by simp [lenAt,hw,hg]);have HW:=Zh hw;clear h2 h3 h4 hb hw hg h;go_wp2;go_ret2;rw [HDS.o,HW.o];exact ⟨HB.o,rfl⟩
end
def ZaQ (S:Str) (g:G2):List K4:=if S.on then Zj S g else []
section
variable {p : Nat} {S : Str}
theorem Zoq (ks:List K4):∀ u ∈ kflat ks,u.oneCell'=true:=fun u hu=>by
 unfold kflat at hu;obtain ⟨k,_,hk⟩:=Zcz.1 hu;simp only [K4.vals,ZO,List.mem_nil_iff,ZcQ] at hk;rcases hk with rfl|rfl|rfl|rfl <;> rfl
theorem ZhP (kind img:Int) (h:St W I w (Zd p S::l)) (hn:(Zj S ⟨kind,img⟩).length<=1000000) :
  Calls prog 203 #[pointer (some ⟨p,0,none⟩),int i64 kind,int i64 img] w fun e w'=>∃ v,e=.returned v∧Below w.heap.size w w' ∧
   w'.ownsRow w.heap.size 150 4 v (ZaQ S ⟨kind,img⟩).length (kflat (ZaQ S ⟨kind,img⟩)):=by
 obtain ⟨B,h1⟩:=h.store_open;have c4:=h1.blk 4;have c8:=h1.blk 8;simp [storeCells] at c4 c8;cases ho:S.on with
 | false =>
  rw [ho] at c4;rw [show ZaQ S ⟨kind,img⟩=[] by simp [ZaQ,ho]];clear h h1;go_enter func203,ntmps203;go_wp2;go_ret;exact ⟨_,rfl,ZR _ _,rfl,.inl ⟨rfl,rfl⟩⟩
 | true =>
  rw [ho] at c4;rw [show ZaQ S ⟨kind,img⟩=Zj S ⟨kind,img⟩ by simp [ZaQ,ho]];obtain ⟨vk,HK,hlk,h3,hback,hput⟩:=(h1.pull 4 _ rfl).look_or (x0:=[]) underlying143 (fun w=>by kernel_rfl) (fun I w l h=>h.row_nil _ _) ⟨kind,img⟩;have hl:=hlk _ (ZR _ _) false;simp only [grpKT,G2.val] at hl;have hown:w.ownsRow 0 150 4 vk (Zj S ⟨kind,img⟩).length (kflat (Zj S ⟨kind,img⟩)):=h3.row_owns;have hsrc:=SliceSrc.of_owns hown (Zoq _);obtain ⟨A,c,rfl⟩:=ZD hown;have HC:=Zh (Zmg _ _ _ _ hsrc hn);clear h h1 h3 hback hput hlk hown hsrc;go_enter func203,ntmps203;go_wp2_with fail;refine HC.o.mono ?_;rintro e w2 ⟨v,rfl,h4,h5⟩;have H4:=Zh h4;have H5:=Zh h5;clear h4 h5 HC;go_wp2;go_ret;exact ⟨v,rfl,H5.o,H4.o⟩
end
def newS (room:Int):Str:=⟨max 0 (min room 1048576),0,0,0,true,[],[],[],[],false,0,0,[]⟩
section
variable {p : Nat} {S : Str}
theorem Zky (room:Int) (h:St W I w l) :
  Calls prog 54 #[int i64 room] w fun e w'=>∃ p,e=.returned (pointer (some ⟨p,0,none⟩))∧St W I w' (Zd p (newS room)::l):=by
 have hmm:=@run_makeMap prog;have h4:=(((h.alloc (.map #[] 0)).alloc (.map #[] 0)).alloc (.map #[] 0)).alloc (.map #[] 0);have h5:=h4.alloc (cells (storeCells (newS room) ⟨w.heap.size,w.heap.size+1,w.heap.size+1+1,w.heap.size+1+1+1,slice none 0 0⟩) 145);simp only [Zb2] at h5;have H5:=Zh h5;clear h h4 h5;go_enter func54,ntmps54;go_wp2;go_ret;have h6:=(H5.o.pull 4 _ rfl).mapOf_made (T:=keyKT) (own:=Zv);have h7:=(h6.pull 4 _ rfl).mapOf_made (T:=keyKT) (own:=Zv);have h8:=(h7.pull 4 _ rfl).mapOf_made (T:=keyKT) (own:=Zbo);have h9:=(h8.pull 4 _ rfl).mapOf_made (T:=grpKT) (own:=Z6);have h10:=St.imm_shut (A:=Zbe (slice none 0 0) []) (ZpE I) h9;refine ⟨_,rfl,St.store_shut (B:=⟨w.heap.size,w.heap.size+1,w.heap.size+1+1,w.heap.size+1+1+1,slice none 0 0⟩) ?_⟩;exact h10.perm (m:=pt (w.heap.size+1+1+1+1) (cells (storeCells (newS room) ⟨w.heap.size,w.heap.size+1,w.heap.size+1+1,w.heap.size+1+1+1,slice none 0 0⟩) 145)::mapOf keyKT Zv w.heap.size []::mapOf keyKT Zv (w.heap.size+1) []::mapOf keyKT Zbo (w.heap.size+1+1) []::mapOf grpKT Z6 (w.heap.size+1+1+1) []::HP.imm (Zbe (slice none 0 0) [])::l) (by ((try simp only [Zx,Zy,ZZ,ZP]);repeat (first|with_reducible exact Zad _|(apply Zaq;(· repeat (first|with_reducible exact Zap|with_reducible apply Zao))))))
end
theorem Zhj (room:Int):Keeps (newS room) 100000 :=
 ⟨⟨fun g=>List.Pairwise.nil,fun g=>by simp [newS,Zj,get],fun x hx=>(by cases hx),fun x hx=>(by cases hx),fun x hx=>(by cases hx),fun x hx=>(by cases hx)⟩,by simp [newS],by simp [newS],fun x hx=>(by cases hx)⟩
theorem ZjM {keep:List Int} {torn:Int}:∀ {ss:List K4} {i:Nat} {S:Str} {n:Int} {m:Nat},Inv S (ss.length+m)->Inv (fallL keep torn ss i S n).1 m
 | [],_,_,_,m,h=>by simpa [fallL] using h
 | k::ss,i,S,n,m,h=>by
  unfold fallL;exact ZjM (ZpF (by rw [Zat,show ss.length+1+m=(ss.length+m)+1 by omega] at h;exact h))
theorem Zmp {S:Str} {m:Nat} (keep:List Int) (torn:Int) (h:Keeps S m):Keeps (fallS S keep torn).1 m:=by
 unfold fallS;split
 ·have hl:(sortK (S.late.map (·.1))).length=S.late.length:=by rw [(ZjK _).length_eq,ZE]
  have h1:Inv (fallL keep torn (sortK (S.late.map (·.1))) 0 S 0).1 m:=ZjM (by rw [hl];exact h.inv);refine ⟨?_,by simp [ZhY,fuseS],by simp [ZhY,fuseS],fun x hx=>(by cases hx)⟩;show Inv _ (0+m);rw [Zar];exact ⟨h1.rise,h1.many,h1.seen,h1.dry,fun x hx=>(by cases hx),fun x hx=>(by cases hx)⟩
 ·exact h
theorem ZgI {S:Str} {m:Nat} (h:Keeps S m):Keeps (ZT S).2 m:=by
 unfold ZT;split
 ·split
  ·refine ⟨⟨h.inv.rise,h.inv.many,h.inv.seen,h.inv.dry,h.inv.late,h.inv.lateN⟩,h.keep,?_,h.lates⟩;have:=h.fuse;constructor <;> simp only <;> omega
  ·exact Zmp _ _ h
 ·exact h
theorem Keeps.fewer {S:Str} {m n:Nat} (h:Keeps S m) (hn:n<=m):Keeps S n :=
 ⟨h.inv.fewer (by omega),h.keep,h.fuse,fun x hx=>ZQ (Nat.add_le_add_left hn _) (h.lates x hx)⟩
theorem Zqq {K V:Type} [DecidableEq K] (a:K) (v:V) (L:List (K × V)):(put a v L).length<=L.length+1:=by
 unfold put del;rw [Zat];have:=Zbi (fun p:K × V=>decide (p.1≠a)) L;omega
theorem ZeV {S:Str} {k:K4} {d:Dd} {m:Nat} (hd:d.fits) (h:Keeps S (m+2)):Keeps (doS S k d).2 m:=by
 have hb:=ZgI h;unfold doS;split
 ·exact hb.fewer (by omega)
 ·simp only;generalize (ZT S).2=S1 at hb |-;have h1:=Zkw (k:=k) (was:=wrap64 (sizeO (get k S1.seen))) (m:=S1.late.length+m+1) (hb.inv.fewer (by omega)) (ZfE (Zhh hb.inv.seen k) hd);have hk:(showS S1 k (wrap64 (sizeO (get k S1.seen))) (stepD (get k S1.seen) d)).armed=S1.armed:=rfl;have hf:(showS S1 k (wrap64 (sizeO (get k S1.seen))) (stepD (get k S1.seen) d)).fuse=S1.fuse:=rfl;have hl:(showS S1 k (wrap64 (sizeO (get k S1.seen))) (stepD (get k S1.seen) d)).late=S1.late:=rfl;generalize showS S1 k (wrap64 (sizeO (get k S1.seen))) (stepD (get k S1.seen) d)=S2 at h1 hk hf hl |-;have hln:(lateAt S2 k).length+(m+2)<=100000:=by
   unfold lateAt;cases hg:get k S2.late with
   | none=>have h3:=hb.inv.many ⟨0,0⟩;simp only [Option.getD_none,ZaH];omega
   | some x=>exact hb.lates _ (hl ▸ get_mem hg)
  have hpl:=Zqq k (lateAt S2 k++[d]) S2.late;refine ⟨⟨h1.rise,fun g=>?_,h1.seen,h1.dry,?_,?_⟩,?_,?_,?_⟩
  ·have h3:=h1.many g;rw [<-hl] at h3;show (Zj S2 g).length+((put k (lateAt S2 k++[d]) S2.late).length+m)<=100000;omega
  ·intro x hx d' hd';rcases ZO.1 hx with rfl|hx
   ·rcases ZY.1 hd' with h4|h4
    ·exact (h1.lateAt k).2 d' h4
    ·rw [Zaz.1 h4];exact hd
   ·exact h1.late x (Z1.1 hx).1 d' hd'
  ·intro x hx;rcases ZO.1 hx with rfl|hx
   ·simp only [ZA,Zat,ZaH];omega
   ·exact h1.lateN x (Z1.1 hx).1
  ·show S2.armed=false;rw [hk];exact hb.keep
  ·show 0<=S2.fuse∧S2.fuse<=_;rw [hf];exact hb.fuse
  ·intro x hx;rcases ZO.1 hx with rfl|hx
   ·simp only [ZA,Zat,ZaH];omega
   ·have:=hb.lates x (hl ▸ (Z1.1 hx).1);omega
section
variable {P : Program} {k : TypeId} {K : Type} [DecidableEq K] {α : Type}
variable {T : KT P k K} {own : Value -> α -> HP} {W w w2 : World} {b : Nat} {L : List (K × α)}
theorem St.mapOf_len (h:St W I w (mapOf T own b L::l)) {t e:TypeId} (ht:P.underlying t=some (.map k e)) (ty:TypeId) (hw:Below w.heap.size w w2) :
  (Builtin.len_ #[t] ty #[.map (some b)]).run P w2=.ok (int i64 (L.length:Int)) w2:=by
 obtain ⟨M,hp,h⟩:=h.mapOf_open;obtain ⟨es,clock,L1,q,p,s⟩:=h.map_open;have hb:=(hw.block b s.lt).trans s.heap;have hl:es.size=L.length:=by
  have h1:=congrArg List.length q.1;have h2:=p.length_eq;have h3:=hp.length_eq;simp at h1 h2 h3;omega
 simp [Builtin.len_,Za3 ht,MapKept.run_getObj_map hb,goInt,hl]
end
def madeD:Dd:=⟨0,0,[],⟨#[]⟩⟩
def makeS (S:Str) (k:K4):Int × Str :=
 if whyS S k=0 then (5,S) else if whyS S k≠4 then (whyS S k,S) else if 2000<=S.seen.length then (6,S) else (offE (doS S k madeD).1,(doS S k madeD).2)
section
variable {p : Nat} {S : Str}
theorem Zhk (k:K4) {m:Nat} (h:St W I w (Zd p S::l)) (hk:Keeps S m) :
  Calls prog 138 #[pointer (some ⟨p,0,none⟩),k.val] w fun e w'=>∃ I',I.sub I'∧e=.returned (int i64 (makeS S k).1)∧St W I' w' (Zd p (makeS S k).2::l):=by
 have hth:=ZcG k (h.alloc (cells #[int i64 k.kind,int i64 k.img,int i64 k.num,int i64 k.snap] 150) |>.pull 1 _ rfl);obtain ⟨k0,k1,k2,k3⟩:=k;simp only [K4.val] at hth |-;have HT:=Zh hth;clear hth;go_enter func138,ntmps138;go_wp2_with fail;refine HT.o.mono ?_;clear HT;rintro e w2 ⟨hb,h2,⟨hw,rfl⟩|⟨q,t,B,hw,hg,rfl,h3⟩⟩
 ·by_cases h4:whyS S ⟨k0,k1,k2,k3⟩=4
  ·rw [h4];obtain ⟨B,h5⟩:=h2.store_open;have c5:=h5.blk 5;simp [storeCells] at c5;have hlen:=fun ty=>(h5.pull 1 _ rfl).mapOf_len underlying141 ty (ZR _ _);by_cases hn:2000<=S.seen.length
   ·have HDS:=Zh (show makeS S ⟨k0,k1,k2,k3⟩=(6,S) by simp [makeS,h4,hn]);have H2:=Zh h2;have hn':(2000:Int)<=(S.seen.length:Int):=by omega
    clear h2 h5 hb hw h4 h hk hn;go_wp2;go_ret;rw [HDS.o];exact ⟨I,Hp.sub.refl _,rfl,(H2.o.pull 1 _ rfl).drop⟩
   ·have HDS:=Zh (show makeS S ⟨k0,k1,k2,k3⟩=(offE (doS S ⟨k0,k1,k2,k3⟩ madeD).1,(doS S ⟨k0,k1,k2,k3⟩ madeD).2) by simp [makeS,h4,hn]);have hxk:=(h2.pull 1 _ rfl).heap;have x0:=Zc hxk 0;have x1:=Zc hxk 1;have x2:=Zc hxk 2;have x3:=Zc hxk 3;simp at x0 x1 x2 x3;have H2:=Zh h2;have HK:=Zh hk;have hn':decide ((2000:Int)<=(S.seen.length:Int))=false:=by rw [Zk];omega
    clear h2 h5 hb hw h4 h hk hxk hn;go_wp2_with fail;have hdo:=Zc3 ⟨k0,k1,k2,k3⟩ madeD (slice none 0 0) H2.o (Zdn I) (by unfold Dd.fits Dd.good madeD;simp) HK.o.keep HK.o.fuse (HK.o.inv.fewer (ZcV _ _));simp only [K4.val,madeD] at hdo;refine hdo.mono ?_;rintro e w3 ⟨I3,hs3,rfl,h3⟩;have H3:=Zh h3;have HS3:=Zh hs3;clear h3 hs3 hdo;go_wp2;go_ret;rw [HDS.o];exact ⟨I3,HS3.o,rfl,(H3.o.pull 1 _ rfl).drop⟩
  ·have b0:(whyS S ⟨k0,k1,k2,k3⟩==0)=false:=by simpa using hw
   have b4:(whyS S ⟨k0,k1,k2,k3⟩ != 4)=true:=by simpa using h4
   have HDS:=Zh (show makeS S ⟨k0,k1,k2,k3⟩=(whyS S ⟨k0,k1,k2,k3⟩,S) by simp [makeS,hw,h4]);have H2:=Zh h2;clear h2 hb hw h4 h hk;go_wp2;go_ret;rw [HDS.o];exact ⟨I,Hp.sub.refl _,rfl,(H2.o.pull 1 _ rfl).drop⟩
 ·have HDS:=Zh (show makeS S ⟨k0,k1,k2,k3⟩=(5,S) by simp [makeS,hw]);have H2:=Zh h2;clear h2 h3 hb hw hg h hk;go_wp2;go_ret;rw [HDS.o];exact ⟨I,Hp.sub.refl _,rfl,(H2.o.pull 1 _ rfl).drop⟩
end
def roomS (S:Str):Int:=max 0 (wrap64 (S.room - S.used))
def Z5 (off:Int) (p:List Int):Dd:=⟨1,off,p,⟨#[]⟩⟩
def ZbU (S:Str) (t:TS) (off:Int) (p:List Int):Int :=
 if off<0∨16384<(p.length:Int)∨16384 - (p.length:Int)<off then 3 else if p≠[]∧roomS S<off+p.length - t.b.length then 6 else 0
def ZaW (S:Str) (k:K4) (off:Int) (p:List Int):Int × Str :=
 match get k S.seen with
 | none=>(whyS S k,S)
 | some t=>if whyS S k≠0 then (whyS S k,S) else if ZbU S t off p≠0 then (ZbU S t off p,S) else (offE (doS S k (Z5 off p)).1,(doS S k (Z5 off p)).2)
theorem Zi9 {S:Str} {k:K4} {off:Int} {p:List Int} (h:whyS S k≠0):ZaW S k off p=(whyS S k,S):=by
 unfold ZaW;split <;> simp [h]
theorem Zja {S:Str} {k:K4} {off:Int} {p:List Int} {t:TS} (h:whyS S k=0) (hg:get k S.seen=some t) (hw:ZbU S t off p≠0):ZaW S k off p=(ZbU S t off p,S):=by
 simp [ZaW,h,hg,hw]
theorem ZjN {S:Str} {k:K4} {off:Int} {p:List Int} {t:TS} (h:whyS S k=0) (hg:get k S.seen=some t) (hw:ZbU S t off p=0):ZaW S k off p=(offE (doS S k (Z5 off p)).1,(doS S k (Z5 off p)).2):=by
 simp [ZaW,h,hg,hw]
section
variable {p : Nat} {S : Str}
theorem Zee (k:K4) (off:Int) (pv:Value) (b:List Int) {m:Nat} (h:St W I w (Zd p S::l)) (hk:Keeps S m) (hp:SliceSrc w 1 pv b.length (b.map byteV)) (hbl:b.length<=1000000000) :
  Calls prog 209 #[pointer (some ⟨p,0,none⟩),k.val,int i64 off,pv] w fun e w'=>∃ I',I.sub I'∧e=.returned (int i64 (ZaW S k off b).1)∧St W I' w' (Zd p (ZaW S k off b).2::l):=by
 have hth:=ZcG k (h.alloc (cells #[int i64 k.kind,int i64 k.img,int i64 k.num,int i64 k.snap] 150) |>.pull 1 _ rfl);have HSR:=Zh hp;obtain ⟨Ap,cp,rfl,_⟩:=hp;obtain ⟨k0,k1,k2,k3⟩:=k;simp only [K4.val] at hth |-;have HT:=Zh hth;clear hth;have hbn:(b.length:Int)<=1000000000:=by omega
 go_enter func209,ntmps209;go_wp2_with fail;refine HT.o.mono ?_;clear HT;rintro e w2 ⟨hb,h2,⟨hw,rfl⟩|⟨q,t,B,hw,hg,rfl,h3⟩⟩
 ·have HDS:=Zh (Zi9 (S:=S) (k:=⟨k0,k1,k2,k3⟩) (off:=off) (p:=b) hw);have H2:=Zh h2;have b0:(whyS S ⟨k0,k1,k2,k3⟩ != 0)=true:=by simpa using hw
  clear h2 hb hw h hk;go_wp2;go_ret;rw [HDS.o];exact ⟨I,Hp.sub.refl _,rfl,(H2.o.pull 1 _ rfl).drop⟩
 ·obtain ⟨bt,mt,vb,hq,h4⟩:=St.thing_open (v:=pointer q) (t:=t) h3;simp only [Zd5] at hq;subst hq;obtain ⟨Ab,cb,rfl⟩:=ZD (h4.pull 1 _ rfl).row_owns;have c0:=Zc h4.heap 0;have ltb:=h4.lt;simp at c0;by_cases hc:off<0∨16384<(b.length:Int)∨16384 - (b.length:Int)<off
  ·have HDS:=Zh ((Zja (S:=S) (off:=off) (p:=b) hw hg (by simp [ZbU,hc])).trans (show (ZbU S t off b,S)=(3,S) by simp [ZbU,hc]));have H2:=Zh h2;clear h2 h3 h4 hb hw hg h hk c0 ltb;by_cases ha:off<0
   ·go_wp2;go_ret;rw [HDS.o];exact ⟨I,Hp.sub.refl _,rfl,(H2.o.pull 1 _ rfl).drop⟩
   ·by_cases ha2:16384<(b.length:Int)
    ·go_wp2;go_ret;rw [HDS.o];exact ⟨I,Hp.sub.refl _,rfl,(H2.o.pull 1 _ rfl).drop⟩
    ·have ha3:16384 - (b.length:Int)<off:=by omega
     go_wp2;go_ret;rw [HDS.o];exact ⟨I,Hp.sub.refl _,rfl,(H2.o.pull 1 _ rfl).drop⟩
  ·have ha:¬ off<0:=by omega
   have ha2:¬ 16384<(b.length:Int):=by omega
   have ha3:¬ 16384 - (b.length:Int)<off:=by omega
   have hsm:t.b.length<=20480:=(hk.inv.seen _ (get_mem hg)).1;have hfit:(Z5 off b).fits:=by
    unfold Dd.fits Dd.good Z5;simp;omega
   have hxk:=(h2.pull 1 _ rfl).heap;have x0:=Zc hxk 0;have x1:=Zc hxk 1;have x2:=Zc hxk 2;have x3:=Zc hxk 3;simp at x0 x1 x2 x3;have HFIT:=Zh hfit;have HK:=Zh hk;have HB:=Zh hb;have HOK:=fun h0=>Zh (ZjN (S:=S) (off:=off) (p:=b) hw hg h0);have HBAD:=fun h0=>Zh (Zja (S:=S) (off:=off) (p:=b) hw hg h0);have H2:=Zh h2;have hwd:ZbU S t off b=if b≠[]∧roomS S<off+b.length - t.b.length then 6 else 0:=by simp [ZbU,hc]
   have HWD:=Zh hwd;have HHK:=Zh HOK;have HHB:=Zh HBAD;clear h2 h3 h4 hb hw hg h hk hxk hfit HOK HBAD hc hwd;by_cases hb0:b=[]
   ·have HDS:=HHK.o (by rw [HWD.o];simp [hb0]);have hl0:decide (0<b.length)=false:=by simp [hb0]
    have HB0:=Zh hb0;clear hb0 HHK HHB HWD;go_wp2_with fail;go_quiet (fail);have HA:=Zh (H2.o.drewN nq);have HSA:=Zh (HSR.o.below (((ZM _ _).trans (HB.o.mono (by simp))).trans (⟨rfl,rfl,rfl,Z9 _,fun _ _=>rfl⟩:Below w.heap.size w2 (w2.drewN nq))));have x0a:(w2.drewN nq).cell? ⟨w.heap.size,0,none⟩=some (int i64 k0):=x0;have x1a:(w2.drewN nq).cell? ⟨w.heap.size,1,none⟩=some (int i64 k1):=x1;have x2a:(w2.drewN nq).cell? ⟨w.heap.size,2,none⟩=some (int i64 k2):=x2;have x3a:(w2.drewN nq).cell? ⟨w.heap.size,3,none⟩=some (int i64 k3):=x3;obtain ⟨wa,hwa⟩:∃ wa,w2.drewN nq=wa:=⟨_,rfl⟩;rw [hwa] at HA HSA x0a x1a x2a x3a |-;clear hwa x0 x1 x2 x3 c0 H2 HB;go_wp2_with fail;refine Z3 (fun w'=>w'.cell? ⟨w.heap.size,0,none⟩=some (int i64 k0)∧w'.cell? ⟨w.heap.size,1,none⟩=some (int i64 k1)∧w'.cell? ⟨w.heap.size,2,none⟩=some (int i64 k2)∧w'.cell? ⟨w.heap.size,3,none⟩=some (int i64 k3)) [0,1,2,3] [4,5] [6,7] (by kernel_rfl) (by kernel_rfl) (by (exact ⟨x0a,x1a,x2a,x3a⟩)) ?_;simp only [pickL,Zg,Zi];repeat (refine Zs _ (Or.inl ⟨by rfl,by (intro w hSw;(try dsimp only at hSw);go_simp;try with_reducible rfl)⟩) ?_;(try go_frame))
    refine ZC ?_;unfold Zp;go_wp2_with fail;refine (Za4 _ b.length (b.map byteV) _ (HSA.o.below (ZR _ _).drew) (by omega)).mono ?_;rintro e w4 ⟨v4,rfl,ho4,hb4⟩;obtain ⟨A4,c4,rfl⟩:=ZD ho4;obtain ⟨I4,hI4,hB4,h5⟩:=ZcA HA.o.drew hb4 ho4;have hxk:=(h5.pull 1 _ rfl).heap;have y0:=Zc hxk 0;have y1:=Zc hxk 1;have y2:=Zc hxk 2;have y3:=Zc hxk 3;simp at y0 y1 y2 y3;have H5:=Zh h5;have HI4:=Zh hI4;have HB4:=Zh hB4;clear h5 hI4 hB4 hb4 ho4 hxk x0a x1a x2a x3a;go_wp2;refine Zt ⟨y0,y1,y2,y3⟩ ?_;unfold Zp;go_wp2;refine Zt ⟨y0,y1,y2,y3⟩ ?_;unfold Zp;go_wp2_with fail;have hdo:=Zc3 ⟨k0,k1,k2,k3⟩ (Z5 off b) (slice A4 b.length c4) H5.o HB4.o HFIT.o HK.o.keep HK.o.fuse (HK.o.inv.fewer (ZcV _ _));simp only [K4.val,Z5] at hdo;refine hdo.mono ?_;rintro e w6 ⟨I6,hs6,rfl,h6⟩;have H6:=Zh h6;have HS6:=Zh hs6;clear h6 hs6 hdo;go_wp2;refine Zu ?_;go_wp2;go_ret;rw [HDS.o];exact ⟨I6,HI4.o.trans HS6.o,rfl,(H6.o.pull 1 _ rfl).drop⟩
   ·have hl0:decide (0<b.length)=true:=by
     rw [Ze];exact ZeB.2 hb0
    have hs1:IntKind.i64.wrap (off+(b.length:Int))=off+b.length:=IntWalk.i64_in _ (by omega);have hs2:IntKind.i64.wrap (off+(b.length:Int) - (t.b.length:Int))=off+b.length - t.b.length:=IntWalk.i64_in _ (by omega);clear hsm;go_wp2_with fail;refine Z3 (fun w'=>w'.cell? ⟨bt,0,none⟩=some (slice Ab t.b.length cb)) [0,1,2,3,4,5,6,7,8,9,10,11,12,13,14] [15] [16,17,18] (by kernel_rfl) (by kernel_rfl) (by (exact c0)) ?_;simp only [pickL,Zg,Zi];repeat (refine Zs _ (Or.inl ⟨by rfl,by (intro w hSw;(try dsimp only at hSw);go_simp;try with_reducible rfl)⟩) ?_;(try go_frame))
    refine ZC ?_;unfold Zp;go_wp2_with fail;refine (ZcJ H2.o.drew).mono ?_;rintro e w3 ⟨rfl,hb3⟩;have c03:=(hb3.cell (p:=⟨bt,0,none⟩) ltb).trans c0;have HB3:=Zh hb3;clear hb3 c0;go_wp2;refine Zt c03 ?_;unfold Zp;rw [show max 0 (wrap64 (S.room - S.used))=roomS S from rfl];have HB0:=Zh hb0;by_cases hf:roomS S<off+(b.length:Int) - (t.b.length:Int)
    ·have hfd:decide (roomS S<off+(b.length:Int) - (t.b.length:Int))=true:=by simpa using hf
     have h6:ZbU S t off b=6:=by rw [HWD.o,Zb ⟨hb0,hf⟩]
     have HDS:=Zh ((HHB.o (by rw [h6];decide)).out);have H6:=Zh h6;clear hf hb0 h6 HHB HHK HWD c03;go_wp2;refine Zu ?_;go_wp2;go_ret;rw [HDS.o,H6.o];exact ⟨I,Hp.sub.refl _,rfl,((H2.o.drew.keep HB3.o).pull 1 _ rfl).drop⟩
    ·have hfd:decide (roomS S<off+(b.length:Int) - (t.b.length:Int))=false:=by simpa using hf
     have HDS:=(HHK.o (by rw [HWD.o,Za (fun h=>hf h.2)]));have HA:=Zh (H2.o.drew.keep HB3.o);have HSA:=Zh (HSR.o.below (((ZM _ _).trans (HB.o.mono (by simp))).trans ((ZR _ _).drew.trans (HB3.o.mono (by have:=HB.o.size;simp at this |-;omega)))));have hxk:=(HA.o.pull 1 _ rfl).heap;have x0a:=Zc hxk 0;have x1a:=Zc hxk 1;have x2a:=Zc hxk 2;have x3a:=Zc hxk 3;simp at x0a x1a x2a x3a;clear hf hb0 HHB HHK HWD c03 hxk x0 x1 x2 x3 H2 HB HB3;go_wp2;refine Zu ?_;clear hfd hl0 hs1 hs2;go_wp2_with fail;refine Z3 (fun w'=>w'.cell? ⟨w.heap.size,0,none⟩=some (int i64 k0)∧w'.cell? ⟨w.heap.size,1,none⟩=some (int i64 k1)∧w'.cell? ⟨w.heap.size,2,none⟩=some (int i64 k2)∧w'.cell? ⟨w.heap.size,3,none⟩=some (int i64 k3)) [0,1,2,3] [4,5] [6,7] (by kernel_rfl) (by kernel_rfl) (by (exact ⟨x0a,x1a,x2a,x3a⟩)) ?_;simp only [pickL,Zg,Zi];repeat (refine Zs _ (Or.inl ⟨by rfl,by (intro w hSw;(try dsimp only at hSw);go_simp;try with_reducible rfl)⟩) ?_;(try go_frame))
     refine ZC ?_;unfold Zp;go_wp2_with fail;refine (Za4 _ b.length (b.map byteV) _ (HSA.o.below (ZR _ _).drew) (by omega)).mono ?_;rintro e w4 ⟨v4,rfl,ho4,hb4⟩;obtain ⟨A4,c4,rfl⟩:=ZD ho4;obtain ⟨I4,hI4,hB4,h5⟩:=ZcA HA.o.drew hb4 ho4;have hxk:=(h5.pull 1 _ rfl).heap;have y0:=Zc hxk 0;have y1:=Zc hxk 1;have y2:=Zc hxk 2;have y3:=Zc hxk 3;simp at y0 y1 y2 y3;have H5:=Zh h5;have HI4:=Zh hI4;have HB4:=Zh hB4;clear h5 hI4 hB4 hb4 ho4 hxk x0a x1a x2a x3a;go_wp2;refine Zt ⟨y0,y1,y2,y3⟩ ?_;unfold Zp;go_wp2;refine Zt ⟨y0,y1,y2,y3⟩ ?_;unfold Zp;go_wp2_with fail;have hdo:=Zc3 ⟨k0,k1,k2,k3⟩ (Z5 off b) (slice A4 b.length c4) H5.o HB4.o HFIT.o HK.o.keep HK.o.fuse (HK.o.inv.fewer (ZcV _ _));simp only [K4.val,Z5] at hdo;refine hdo.mono ?_;rintro e w6 ⟨I6,hs6,rfl,h6⟩;have H6:=Zh h6;have HS6:=Zh hs6;clear h6 hs6 hdo;go_wp2;refine Zu ?_;go_wp2;go_ret;rw [HDS.o];exact ⟨I6,HI4.o.trans HS6.o,rfl,(H6.o.pull 1 _ rfl).drop⟩
end
def Zch (S:Str) (k:K4) (p:List Int):Int × Str :=
 match get k S.seen with
 | none=>(whyS S k,S)
 | some t=>ZaW S k t.b.length p
theorem Zmq {S:Str} {k:K4} {p:List Int} (h:whyS S k≠0):Zch S k p=(whyS S k,S):=by
 unfold Zch;split
 ·rfl
 ·exact Zi9 h
section
variable {p : Nat} {S : Str}
theorem Zmr (k:K4) (pv:Value) (b:List Int) {m:Nat} (h:St W I w (Zd p S::l)) (hk:Keeps S m) (hp:SliceSrc w 1 pv b.length (b.map byteV)) (hbl:b.length<=1000000000) :
  Calls prog 238 #[pointer (some ⟨p,0,none⟩),k.val,pv] w fun e w'=>∃ I',I.sub I'∧e=.returned (int i64 (Zch S k b).1)∧St W I' w' (Zd p (Zch S k b).2::l):=by
 have hth:=ZcG k (h.alloc (cells #[int i64 k.kind,int i64 k.img,int i64 k.num,int i64 k.snap] 150) |>.pull 1 _ rfl);have HSR:=Zh hp;obtain ⟨Ap,cp,rfl,_⟩:=hp;obtain ⟨k0,k1,k2,k3⟩:=k;simp only [K4.val] at hth |-;have HT:=Zh hth;clear hth;go_enter func238,ntmps238;go_wp2_with fail;refine HT.o.mono ?_;clear HT;rintro e w2 ⟨hb,h2,⟨hw,rfl⟩|⟨q,t,B,hw,hg,rfl,h3⟩⟩
 ·have HDS:=Zh (Zmq (S:=S) (k:=⟨k0,k1,k2,k3⟩) (p:=b) hw);have H2:=Zh h2;have b0:(whyS S ⟨k0,k1,k2,k3⟩ != 0)=true:=by simpa using hw
  clear h2 hb hw h hk;go_wp2;go_ret;rw [HDS.o];exact ⟨I,Hp.sub.refl _,rfl,(H2.o.pull 1 _ rfl).drop⟩
 ·obtain ⟨bt,mt,vb,hq,h4⟩:=St.thing_open (v:=pointer q) (t:=t) h3;simp only [Zd5] at hq;subst hq;obtain ⟨Ab,cb,rfl⟩:=ZD (h4.pull 1 _ rfl).row_owns;have c0:=Zc h4.heap 0;simp at c0;have hxk:=(h2.pull 1 _ rfl).heap;have x0:=Zc hxk 0;have x1:=Zc hxk 1;have x2:=Zc hxk 2;have x3:=Zc hxk 3;simp at x0 x1 x2 x3;have HDS:=Zh (show Zch S ⟨k0,k1,k2,k3⟩ b=ZaW S ⟨k0,k1,k2,k3⟩ t.b.length b by simp [Zch,hg]);have HSA:=Zh (HSR.o.below ((ZM _ _).trans (hb.mono (by simp))));have H2:=Zh h2;have HK:=Zh hk;clear h2 h3 h4 hb hw hg h hk hxk;go_wp2_with fail;refine ZaD [0,2,3,4,7] [1,5,6] [8,9] (by kernel_rfl) (by kernel_rfl) ?_;simp only [pickL,Zg,Zi];repeat (refine ZaA _ (Or.inl ⟨by rfl,by intro w;go_simp;try with_reducible rfl⟩) ?_;(try go_frame))
  refine ZaB ?_;repeat still_step
  refine ZaI ?_;go_wp2_with fail;have hdo:=Zee ⟨k0,k1,k2,k3⟩ t.b.length _ b H2.o.drew HK.o (HSA.o.below (ZR _ _).drew) hbl;simp only [K4.val] at hdo;refine hdo.mono ?_;rintro e w3 ⟨I3,hs3,rfl,h3⟩;have H3:=Zh h3;have HS3:=Zh hs3;clear h3 hs3 hdo;go_wp2;refine Zu ?_;go_wp2;go_ret;rw [HDS.o];exact ⟨I3,HS3.o,rfl,(H3.o.pull 1 _ rfl).drop⟩
end
def readS (S:Str) (k:K4) (off n:Int):List Int × Int :=
 if whyS S k=0 then
  match get k S.seen with
  | none=>([],4)
  | some t=>if off<0∨(t.b.length:Int)<off∨n<0 then ([],3) else ((t.b.drop off.toNat).take (min n.toNat (t.b.length - off.toNat)),0)
 else ([],whyS S k)
section
variable {p : Nat} {S : Str}
theorem ZpG (k:K4) (off n:Int) (h:St W I w (Zd p S::l)) (hbad:(readS S k off n).2≠0) :
  Calls prog 215 #[pointer (some ⟨p,0,none⟩),k.val,int i64 off,int i64 n] w fun e w'=>Below w.heap.size w w'∧e=.returned (.tuple #[slice none 0 0,int i64 (readS S k off n).2]):=by
 have hth:=ZcG k (h.alloc (cells #[int i64 k.kind,int i64 k.img,int i64 k.num,int i64 k.snap] 150) |>.pull 1 _ rfl);have hbl:=(ZR w.heap.size w).alloc (Z9 _) (cells #[int i64 k.kind,int i64 k.img,int i64 k.num,int i64 k.snap] 150);obtain ⟨k0,k1,k2,k3⟩:=k;simp only [K4.val] at hth |-;have HT:=Zh hth;have HBL:=Zh hbl;clear hth hbl;go_enter func215,ntmps215;go_wp2_with fail;refine HT.o.mono ?_;clear HT;rintro e w2 ⟨hb,h2,⟨hw,rfl⟩|⟨q,t,B,hw,hg,rfl,h3⟩⟩
 ·have HW:=Zh hw;have HB:=Zh (HBL.o.trans (hb.mono (by simp)));have HDS:=Zh (show (readS S ⟨k0,k1,k2,k3⟩ off n).2=whyS S ⟨k0,k1,k2,k3⟩ by simp [readS,hw]);clear h2 hb hbad;go_wp2;go_ret2;rw [HDS.o];exact ⟨HB.o,rfl⟩
 ·obtain ⟨bt,mt,vb,hq,h4⟩:=St.thing_open (v:=pointer q) (t:=t) h3;simp only [Zd5] at hq;subst hq;obtain ⟨Ab,cb,rfl⟩:=ZD (h4.pull 1 _ rfl).row_owns;have b0:=Zc h4.heap 0;simp at b0;have HB:=Zh (HBL.o.trans (hb.mono (by simp)));have hc:off<0∨(t.b.length:Int)<off∨n<0:=by
   by_cases hc:off<0∨(t.b.length:Int)<off∨n<0
   ·exact hc
   ·exact absurd (by simp [readS,hw,hg,hc]) hbad
  have HDS:=Zh (show (readS S ⟨k0,k1,k2,k3⟩ off n).2=3 by simp [readS,hw,hg,hc]);clear h2 h3 h4 hb hw hg h hbad;by_cases ha:off<0
  ·go_wp2;go_ret2;rw [HDS.o];exact ⟨HB.o,rfl⟩
  ·by_cases hb2:(t.b.length:Int)<off
   ·go_wp2;go_ret2;rw [HDS.o];exact ⟨HB.o,rfl⟩
   ·have hn:n<0:=by omega
    go_wp2;go_ret2;rw [HDS.o];exact ⟨HB.o,rfl⟩
end
theorem Zjb {w:World} {s:Nat} {A:Option Addr} {n c lo hi:Nat} {xs:List Value} (h:SliceSrc w s (slice A n c) n xs) (hnc:n<=c) (h1:lo<=hi) (h2:hi<=n) :
  SliceSrc w s (sliced A lo hi c s) (hi - lo) ((xs.drop (lo*s)).take ((hi - lo)*s)):=by
 obtain ⟨A1,c1,e,hsrc,hA⟩:=h;simp only [ZF,ZK] at e;obtain ⟨rfl,rfl⟩:=e;unfold sliced;refine ⟨_,_,rfl,⟨?_,fun hp=>?_,fun u hu=>hsrc.one u (List.mem_of_mem_drop (Zd3 hu))⟩,fun e=>?_⟩
 ·have:=hsrc.len;rw [ZN,Zas,this];have h3:(hi - lo)*s+lo*s<=n*s:=by rw [<-Zbj];exact Zcj _ (by omega)
  omega
 ·obtain ⟨ad,rfl,hc⟩:=hsrc.cells (by omega);have hne:¬ c=lo:=by omega
  rw [Za hne];refine ⟨_,rfl,fun j u hu=>?_⟩;rw [Zci] at hu;split at hu
  ·rw [Zb9] at hu;have:=hc _ u hu;rw [<-this];congr 1;unfold Addr.add;split <;> split <;> (try split) <;> (try omega) <;> simp_all <;> omega
  ·cases hu
 ·split at e
  ·rw [hA e];simp
  ·cases A with
   | none=>rw [hA rfl];simp
   | some a=>cases e
section
variable {p : Nat} {S : Str}
theorem Zqr (k:K4) (off n:Int) (h:St W I w (Zd p S::l)) (hgood:(readS S k off n).2=0) (hsm:∀ x ∈ S.seen,x.2.b.length<=1000000) :
  Calls prog 215 #[pointer (some ⟨p,0,none⟩),k.val,int i64 off,int i64 n] w fun e w'=>Below w.heap.size w w'∧∃ v,e=.returned (.tuple #[v,int i64 0])∧w'.ownsRow w.heap.size 5 1 v (readS S k off n).1.length ((readS S k off n).1.map byteV):=by
 have hth:=ZcG k (h.alloc (cells #[int i64 k.kind,int i64 k.img,int i64 k.num,int i64 k.snap] 150) |>.pull 1 _ rfl);have hbl:=(ZR w.heap.size w).alloc (Z9 _) (cells #[int i64 k.kind,int i64 k.img,int i64 k.num,int i64 k.snap] 150);obtain ⟨k0,k1,k2,k3⟩:=k;simp only [K4.val] at hth |-;have HT:=Zh hth;have HBL:=Zh hbl;clear hth hbl;go_enter func215,ntmps215;go_wp2_with fail;refine HT.o.mono ?_;clear HT;rintro e w2 ⟨hb,h2,⟨hw,rfl⟩|⟨q,t,B,hw,hg,rfl,h3⟩⟩
 ·exact absurd hgood (by simp [readS,hw])
 ·obtain ⟨bt,mt,vb,hq,h4⟩:=St.thing_open (v:=pointer q) (t:=t) h3;simp only [Zd5] at hq;subst hq;have hown:=(h4.pull 1 _ rfl).row_owns;have hcap:∀ A c,vb=slice A t.b.length c->t.b.length<=c:=by
   rintro A c rfl;rcases hown.2 with ⟨e1,e2⟩|⟨g,cap,cur,e1,_,_,h1,_⟩
   ·simp only [ZF] at e1;omega
   ·simp only [ZF] at e1;omega
  obtain ⟨Ab,cb,rfl⟩:=ZD hown;have hcap:=hcap _ _ rfl;have hsrc:SliceSrc w2 1 (slice Ab t.b.length cb) t.b.length (t.b.map byteV):=SliceSrc.of_owns hown (Zac _);have b0:=Zc h4.heap 0;simp at b0;have HB:=Zh (HBL.o.trans (hb.mono (by simp)));have hc:¬ (off<0∨(t.b.length:Int)<off∨n<0):=fun hc=>by simp [readS,hw,hg,hc] at hgood
  have htl:=hsm _ (get_mem hg);obtain ⟨o,rfl⟩:∃ o:Nat,off=o:=⟨off.toNat,by omega⟩;obtain ⟨n,rfl⟩:∃ n':Nat,n=n':=⟨n.toNat,by omega⟩;obtain ⟨j,hj⟩:∃ j,min n (t.b.length - o)=j:=⟨_,rfl⟩;have hrd:(readS S ⟨k0,k1,k2,k3⟩ o n).1=(t.b.drop o).take j:=by
   simp [readS,hw,hg];rw [Za (by omega)];simp [hj]
  have HRD:=Zh hrd;have hmin:min (n:Int) ((t.b.length:Int) - (o:Int))=(j:Int):=by omega
  have hsum:IntKind.i64.wrap ((o:Int)+(j:Int))=((o+j:Nat):Int):=by rw [Z2];simp only at htl;omega
  have hdif:IntKind.i64.wrap ((t.b.length:Int) - (o:Int))=(t.b.length:Int) - o:=by rw [Z2];simp only at htl;omega
  have hoj:o+j<=t.b.length:=by omega
  have hoc:o+j<=cb:=by omega
  have hps:=Zjb (lo:=o) (hi:=o+j) hsrc hcap (by omega) hoj;rw [show o+j - o=j by omega,ZaT,ZaT,<-Zdb,<-ZcR] at hps;have hon:o<=t.b.length:=by omega
  have HSL:=Zh hps;have htl2:t.b.length<=1000000:=htl;have HJ:=Zh hj;clear h2 h3 h4 hb hw hg h hgood hsrc hown hrd hps hsm hj htl hcap;have HJL:=Zh (show ((t.b.drop o).take j).length=j by rw [ZN,Zas];omega);clear hcap;by_cases hco:cb=o
  ·obtain rfl:j=0:=by omega
   have HSM:Hid (SliceSrc w2 1 (slice Ab 0 0) 0 (List.map byteV (List.take 0 (List.drop o t.b)))):=Zh (by have:=HSL.o;simpa [sliced,hco] using this);clear HSL HJ;go_wp2_with fail;refine ZaD [0,1,2,4,5,6,7,8,9,12] [3,10,11,13,14,15] [16,17,18,19] (by kernel_rfl) (by kernel_rfl) ?_;simp only [pickL,Zg,Zi];repeat (refine ZaA _ (Or.inl ⟨by rfl,by intro w;go_simp;try with_reducible rfl⟩) ?_;(try go_frame))
   refine ZaB ?_;repeat still_step
   refine ZaI ?_;go_wp2_with fail;refine (Za4 _ _ _ _ (HSM.o.below (ZR _ _).drew) (by omega)).mono ?_;rintro e w4 ⟨v4,rfl,ho4,hb4⟩;have HO4:=Zh ho4;have HB4:=Zh ((HB.o.drew).trans (hb4.mono HB.o.size));have HLE:=Zh HB.o.size;clear ho4 hb4 HSM hmin hsum hdif;go_wp2;refine Zu ?_;go_wp2;go_ret2;rw [HRD.o,HJL.o];exact ⟨HB4.o,v4,rfl,Zft HO4.o HLE.o⟩
  ·have HSM:Hid (SliceSrc w2 1 (slice (Option.map (fun x=>x.add o) Ab) j (cb - o)) j (List.map byteV (List.take j (List.drop o t.b)))):=Zh (by have:=HSL.o;simpa [sliced,hco] using this);clear HSL HJ;go_wp2_with fail;refine ZaD [0,1,2,4,5,6,7,8,9,12] [3,10,11,13,14,15] [16,17,18,19] (by kernel_rfl) (by kernel_rfl) ?_;simp only [pickL,Zg,Zi];repeat (refine ZaA _ (Or.inl ⟨by rfl,by intro w;go_simp;try with_reducible rfl⟩) ?_;(try go_frame))
   refine ZaB ?_;repeat still_step
   refine ZaI ?_;go_wp2_with fail;refine (Za4 _ _ _ _ (HSM.o.below (ZR _ _).drew) (by omega)).mono ?_;rintro e w4 ⟨v4,rfl,ho4,hb4⟩;have HO4:=Zh ho4;have HB4:=Zh ((HB.o.drew).trans (hb4.mono HB.o.size));have HLE:=Zh HB.o.size;clear ho4 hb4 HSM hmin hsum hdif;go_wp2;refine Zu ?_;go_wp2;go_ret2;rw [HRD.o,HJL.o];exact ⟨HB4.o,v4,rfl,Zft HO4.o HLE.o⟩
theorem Zor (k:K4) (off n:Int) {m:Nat} (h:St W I w (Zd p S::l)) (hk:Inv S m) :
  Calls prog 215 #[pointer (some ⟨p,0,none⟩),k.val,int i64 off,int i64 n] w fun e w'=>Below w.heap.size w w'∧∃ v,e=.returned (.tuple #[v,int i64 (readS S k off n).2])∧w'.ownsRow w.heap.size 5 1 v (readS S k off n).1.length ((readS S k off n).1.map byteV):=by
 by_cases h0:(readS S k off n).2=0
 ·rw [h0];exact Zqr k off n h h0 fun x hx=>by have:=(hk.seen x hx).1;omega
 ·refine (ZpG k off n h h0).mono ?_;rintro e w' ⟨hb,rfl⟩;have e1:(readS S k off n).1=[]:=by
   unfold readS at h0 |-;split
   ·rename_i h1;rw [Zb h1] at h0;split
    ·rfl
    ·rename_i t ht;split
     ·rfl
     ·rename_i h2;simp only [ht,h2,Zau] at h0;exact absurd trivial h0
   ·rfl
  rw [e1];exact ⟨hb,_,rfl,Zfi _ _ _ _⟩
end
def attrS (S:Str) (k:K4) (nm:ByteArray):List Int × Int :=
 if whyS S k=0 then
  match get k S.seen with
  | none=>([],4)
  | some t=>match get nm t.attr with
   | none=>([],4)
   | some v=>(v,0)
 else ([],whyS S k)
section
variable {p : Nat} {S : Str}
theorem ZeW (k:K4) (nm:ByteArray) {m:Nat} (h:St W I w (Zd p S::l)) (hk:Inv S m) :
  Calls prog 107 #[pointer (some ⟨p,0,none⟩),k.val,.string nm] w fun e w'=>Below w.heap.size w w'∧∃ v,e=.returned (.tuple #[v,int i64 (attrS S k nm).2])∧w'.ownsRow w.heap.size 5 1 v (attrS S k nm).1.length ((attrS S k nm).1.map byteV):=by
 have hth:=ZcG k (h.alloc (cells #[int i64 k.kind,int i64 k.img,int i64 k.num,int i64 k.snap] 150) |>.pull 1 _ rfl);have hbl:=(ZR w.heap.size w).alloc (Z9 _) (cells #[int i64 k.kind,int i64 k.img,int i64 k.num,int i64 k.snap] 150);obtain ⟨k0,k1,k2,k3⟩:=k;simp only [K4.val] at hth |-;have HT:=Zh hth;have HBL:=Zh hbl;clear hth hbl;go_enter func107,ntmps107;go_wp2_with fail;refine HT.o.mono ?_;clear HT;rintro e w2 ⟨hb,h2,⟨hw,rfl⟩|⟨q,t,B,hw,hg,rfl,h3⟩⟩
 ·have HB:=Zh (HBL.o.trans (hb.mono (by simp)));have HDS:=Zh (show attrS S ⟨k0,k1,k2,k3⟩ nm=([],whyS S ⟨k0,k1,k2,k3⟩) by simp [attrS,hw]);have b0:(whyS S ⟨k0,k1,k2,k3⟩ != 0)=true:=by simpa using hw
  clear h2 hb hw h hk;go_wp2;go_ret2;rw [HDS.o];exact ⟨HB.o,_,rfl,Zfi _ _ _ _⟩
 ·obtain ⟨bt,mt,vb,hq,h4⟩:=St.thing_open (v:=pointer q) (t:=t) h3;simp only [Zd5] at hq;subst hq;have b1:=Zc h4.heap 1;simp at b1;have HB:=Zh (HBL.o.trans (hb.mono (by simp)));have hsm:=hk.seen _ (get_mem hg);rcases (h4.pull 2 _ rfl).mapOf_look underlying216 (z:=slice none 0 0) (fun w=>by kernel_rfl) nm with ⟨hn,hl⟩|⟨v,x,hn,hl,h5⟩
  ·have hl0:=hl w2 (ZR _ _) true;simp only [Zaf,Zaw] at hl0;have HDS:=Zh (show attrS S ⟨k0,k1,k2,k3⟩ nm=([],4) by simp [attrS,hw,hg,hn]);clear h2 h3 h4 hb hw hg h hk hn hl hsm;go_wp2;go_ret2;rw [HDS.o];exact ⟨HB.o,_,rfl,Zfi _ _ _ _⟩
  ·have hl0:=hl w2 (ZR _ _) true;simp only [Zaf,Zaw] at hl0;have HDS:=Zh (show attrS S ⟨k0,k1,k2,k3⟩ nm=(x,0) by simp [attrS,hw,hg,hn]);have hxl:x.length<=1000000:=by have:=hsm.2 _ (get_mem hn);simp only at this;omega
   obtain ⟨hbx,_⟩:=h5.imm_open;have hbx:Zw I v x:=hbx;have hsv:=ZbT h5 hbx;obtain ⟨A2,k2',rfl,_⟩:=hbx;have HSV:=Zh hsv;clear h2 h3 h4 h5 hb hw hg h hk hn hl hsm hsv;go_wp2_with fail;refine (Za4 _ _ _ _ HSV.o hxl).mono ?_;rintro e w4 ⟨v4,rfl,ho4,hb4⟩;have HO4:=Zh ho4;have HB4:=Zh (HB.o.trans (hb4.mono HB.o.size));have HLE:=Zh HB.o.size;clear ho4 hb4 HSV;go_wp2;go_ret2;rw [HDS.o];exact ⟨HB4.o,v4,rfl,Zft HO4.o HLE.o⟩
end
def setD (nm:ByteArray) (v:List Int):Dd:=⟨4,0,v,nm⟩
def growS (t:TS) (nm:ByteArray) (v:List Int):Int :=
 (if v=[] then 0 else (nm.size:Int)+v.length) - (match get nm t.attr with|some old=>(nm.size:Int)+old.length|none=>0)
def Zbx (S:Str) (t:TS) (nm:ByteArray) (v:List Int):Int :=
 if nm.size<1∨20<nm.size∨4096<v.length then 1 else if roomS S<growS t nm v then 6 else 0
def setS (S:Str) (k:K4) (nm:ByteArray) (v:List Int):Int × Str :=
 match get k S.seen with
 | none=>(whyS S k,S)
 | some t=>if whyS S k≠0 then (whyS S k,S) else if Zbx S t nm v≠0 then (Zbx S t nm v,S) else (offE (doS S k (setD nm v)).1,(doS S k (setD nm v)).2)
theorem ZpH {S:Str} {k:K4} {nm:ByteArray} {v:List Int} (h:whyS S k≠0):setS S k nm v=(whyS S k,S):=by
 unfold setS;split <;> simp [h]
theorem Zkz {S:Str} {k:K4} {nm:ByteArray} {v:List Int} {t:TS} (h:whyS S k=0) (hg:get k S.seen=some t) (hw:Zbx S t nm v≠0):setS S k nm v=(Zbx S t nm v,S):=by
 simp [setS,h,hg,hw]
theorem ZhQ {S:Str} {k:K4} {nm:ByteArray} {v:List Int} {t:TS} (h:whyS S k=0) (hg:get k S.seen=some t) (hw:Zbx S t nm v=0):setS S k nm v=(offE (doS S k (setD nm v)).1,(doS S k (setD nm v)).2):=by
 simp [setS,h,hg,hw]
section
variable {p : Nat} {S : Str}
theorem ZkA (k:K4) (nm:ByteArray) (pv:Value) (b:List Int) {m:Nat} (h:St W I w (Zd p S::l)) (hk:Keeps S m) (hp:SliceSrc w 1 pv b.length (b.map byteV)) (hbl:b.length<=1000000000) :
  Calls prog 177 #[pointer (some ⟨p,0,none⟩),k.val,.string nm,pv] w fun e w'=>∃ I',I.sub I'∧e=.returned (int i64 (setS S k nm b).1)∧St W I' w' (Zd p (setS S k nm b).2::l):=by
 have hth:=ZcG k (h.alloc (cells #[int i64 k.kind,int i64 k.img,int i64 k.num,int i64 k.snap] 150) |>.pull 1 _ rfl);have HSR:=Zh hp;obtain ⟨Ap,cp,rfl,_⟩:=hp;obtain ⟨k0,k1,k2,k3⟩:=k;simp only [K4.val] at hth |-;have HT:=Zh hth;clear hth;go_enter func177,ntmps177;go_wp2_with fail;refine HT.o.mono ?_;clear HT;rintro e w2 ⟨hb,h2,⟨hw,rfl⟩|⟨q,t,B,hw,hg,rfl,h3⟩⟩
 ·have HDS:=Zh (ZpH (S:=S) (k:=⟨k0,k1,k2,k3⟩) (nm:=nm) (v:=b) hw);have H2:=Zh h2;have b0:(whyS S ⟨k0,k1,k2,k3⟩ != 0)=true:=by simpa using hw
  clear h2 hb hw h hk;go_wp2;go_ret;rw [HDS.o];exact ⟨I,Hp.sub.refl _,rfl,(H2.o.pull 1 _ rfl).drop⟩
 ·obtain ⟨bt,mt,vb,hq,h4⟩:=St.thing_open (v:=pointer q) (t:=t) h3;simp only [Zd5] at hq;subst hq;have c1:=Zc h4.heap 1;simp at c1;by_cases hc:nm.size<1∨20<nm.size∨4096<b.length
  ·have HDS:=Zh ((Zkz (S:=S) (nm:=nm) (v:=b) hw hg (by rw [Zbx,Zb hc];decide)).trans (show (Zbx S t nm b,S)=(1,S) by rw [Zbx,Zb hc]));have H2:=Zh h2;clear h2 h3 h4 hb hw hg h hk c1;by_cases ha:nm.size<1
   ·have d1:decide ((nm.size:Int)<1)=true:=by rw [Ze];omega
    have d1':nm.size=0:=by omega
    clear hc ha;go_wp2;go_ret;rw [HDS.o];exact ⟨I,Hp.sub.refl _,rfl,(H2.o.pull 1 _ rfl).drop⟩
   ·have d1:decide ((nm.size:Int)<1)=false:=by rw [Zk];omega
    by_cases ha2:20<nm.size
    ·have d2:decide (20<(nm.size:Int))=true:=by rw [Ze];omega
     clear hc;go_wp2;go_ret;rw [HDS.o];exact ⟨I,Hp.sub.refl _,rfl,(H2.o.pull 1 _ rfl).drop⟩
    ·have d2:decide (20<(nm.size:Int))=false:=by rw [Zk];omega
     have d3:decide (4096<(b.length:Int))=true:=by rw [Ze];omega
     have ha3:4096<b.length:=by omega
     clear hc;go_wp2;go_ret;rw [HDS.o];exact ⟨I,Hp.sub.refl _,rfl,(H2.o.pull 1 _ rfl).drop⟩
  ·have hn1:(1:Int)<=nm.size:=by omega
   have hn2:(nm.size:Int)<=20:=by omega
   have hn3:(b.length:Int)<=4096:=by omega
   have hsm:=hk.inv.seen _ (get_mem hg);have hfit:(setD nm b).fits:=by
    unfold Dd.fits Dd.good setD;simp;omega
   have HFIT:=Zh hfit;have HK:=Zh hk;have HB:=Zh hb;have HOK:=fun h0=>Zh (ZhQ (S:=S) (nm:=nm) (v:=b) hw hg h0);have HBAD:=fun h0=>Zh (Zkz (S:=S) (nm:=nm) (v:=b) hw hg h0);have H2:=Zh h2;have HWD:=Zh (show Zbx S t nm b=if roomS S<growS t nm b then 6 else 0 by rw [Zbx,Za hc]);have HHK:=Zh HOK;have HHB:=Zh HBAD;rcases (h4.pull 2 _ rfl).mapOf_look underlying216 (z:=slice none 0 0) (fun w=>by kernel_rfl) nm with ⟨hn,hl⟩|⟨v,x,hn,hl,h5⟩
   ·have hl0:=hl w2 (ZR _ _) true;simp only [Zaf,Zaw] at hl0;have HGR:=Zh (show growS t nm b=(if b=[] then 0 else (nm.size:Int)+b.length) by simp [growS,hn]);clear h2 h3 h4 hb hw hg h hk HOK HBAD hc hl hn hsm hfit;by_cases hv0:b=[]
    ·have hd0:decide (0<b.length)=false:=by simp [hv0]
     have HV0:=Zh hv0;clear hv0;go_wp2_with fail;refine (ZcJ H2.o).mono ?_;rintro e w3 ⟨rfl,hb3⟩;have HB3:=Zh hb3;clear hb3;have hf:¬ roomS S<growS t nm b:=by rw [HGR.o,Zb HV0.o];unfold roomS;omega
     have hfd:decide (roomS S<0)=false:=by unfold roomS;rw [Zk];omega
     rw [show max 0 (wrap64 (S.room - S.used))=roomS S from rfl];have HDS:=HHK.o (by rw [HWD.o,Za hf]);have HA:=Zh (H2.o.keep HB3.o);have HSA:=Zh (HSR.o.below (((ZM _ _).trans (HB.o.mono (by simp))).trans (HB3.o.mono (by have:=HB.o.size;simp at this |-;omega))));have hxk:=(HA.o.pull 1 _ rfl).heap;have x0a:=Zc hxk 0;have x1a:=Zc hxk 1;have x2a:=Zc hxk 2;have x3a:=Zc hxk 3;simp at x0a x1a x2a x3a;clear hf HHB HHK HWD hxk H2 HB HB3 hl0 c1;go_wp2_with fail;clear hfd;refine Z3 (fun w'=>w'.cell? ⟨w.heap.size,0,none⟩=some (int i64 k0)∧w'.cell? ⟨w.heap.size,1,none⟩=some (int i64 k1)∧w'.cell? ⟨w.heap.size,2,none⟩=some (int i64 k2)∧w'.cell? ⟨w.heap.size,3,none⟩=some (int i64 k3)) [0,1,2,3] [4,5] [6,7] (by kernel_rfl) (by kernel_rfl) (by (exact ⟨x0a,x1a,x2a,x3a⟩)) ?_;simp only [pickL,Zg,Zi];repeat (refine Zs _ (Or.inl ⟨by rfl,by (intro w hSw;(try dsimp only at hSw);go_simp;try with_reducible rfl)⟩) ?_;(try go_frame))
     refine ZC ?_;unfold Zp;go_wp2_with fail;refine (Za4 _ b.length (b.map byteV) _ (HSA.o.below (ZR _ _).drew) (by omega)).mono ?_;rintro e w4 ⟨v4,rfl,ho4,hb4⟩;obtain ⟨A4,c4,rfl⟩:=ZD ho4;obtain ⟨I4,hI4,hB4,h5⟩:=ZcA HA.o.drew hb4 ho4;have hxk:=(h5.pull 1 _ rfl).heap;have y0:=Zc hxk 0;have y1:=Zc hxk 1;have y2:=Zc hxk 2;have y3:=Zc hxk 3;simp at y0 y1 y2 y3;have H5:=Zh h5;have HI4:=Zh hI4;have HB4:=Zh hB4;clear h5 hI4 hB4 hb4 ho4 hxk x0a x1a x2a x3a;go_wp2;refine Zt ⟨y0,y1,y2,y3⟩ ?_;unfold Zp;go_wp2;refine Zt ⟨y0,y1,y2,y3⟩ ?_;unfold Zp;go_wp2_with fail;have hdo:=Zc3 ⟨k0,k1,k2,k3⟩ (setD nm b) (slice A4 b.length c4) H5.o HB4.o HFIT.o HK.o.keep HK.o.fuse (HK.o.inv.fewer (ZcV _ _));simp only [K4.val,setD] at hdo;refine hdo.mono ?_;rintro e w6 ⟨I6,hs6,rfl,h6⟩;have H6:=Zh h6;have HS6:=Zh hs6;clear h6 hs6 hdo;go_wp2;refine Zu ?_;go_wp2;go_ret;rw [HDS.o];exact ⟨I6,HI4.o.trans HS6.o,rfl,(H6.o.pull 1 _ rfl).drop⟩
    ·have hd0:decide (0<b.length)=true:=by rw [Ze];exact ZeB.2 hv0
     have HV0:=Zh hv0;clear hv0;go_wp2_with fail;refine (ZcJ H2.o).mono ?_;rintro e w3 ⟨rfl,hb3⟩;have HB3:=Zh hb3;clear hb3;have HE:=Zh (show (nm.size:Int)+(b.length:Int)=growS t nm b by rw [HGR.o,Za HV0.o]);rw [show max 0 (wrap64 (S.room - S.used))=roomS S from rfl,HE.o];by_cases hf:roomS S<growS t nm b
     ·have hfd:decide (roomS S<growS t nm b)=true:=by simpa using hf
      have h6:Zbx S t nm b=6:=by rw [HWD.o,Zb hf]
      have HDS:=Zh ((HHB.o (by rw [h6];decide)).out);have H6:=Zh h6;clear hf h6 HHB HHK HWD;go_wp2;go_ret;rw [HDS.o,H6.o];exact ⟨I,Hp.sub.refl _,rfl,((H2.o.keep HB3.o).pull 1 _ rfl).drop⟩
     ·have hfd:decide (roomS S<growS t nm b)=false:=by simpa using hf
      have HDS:=HHK.o (by rw [HWD.o,Za hf]);have HA:=Zh (H2.o.keep HB3.o);have HSA:=Zh (HSR.o.below (((ZM _ _).trans (HB.o.mono (by simp))).trans (HB3.o.mono (by have:=HB.o.size;simp at this |-;omega))));have hxk:=(HA.o.pull 1 _ rfl).heap;have x0a:=Zc hxk 0;have x1a:=Zc hxk 1;have x2a:=Zc hxk 2;have x3a:=Zc hxk 3;simp at x0a x1a x2a x3a;clear hf HHB HHK HWD hxk H2 HB HB3 hl0 c1;go_wp2_with fail;clear hfd;refine Z3 (fun w'=>w'.cell? ⟨w.heap.size,0,none⟩=some (int i64 k0)∧w'.cell? ⟨w.heap.size,1,none⟩=some (int i64 k1)∧w'.cell? ⟨w.heap.size,2,none⟩=some (int i64 k2)∧w'.cell? ⟨w.heap.size,3,none⟩=some (int i64 k3)) [0,1,2,3] [4,5] [6,7] (by kernel_rfl) (by kernel_rfl) (by (exact ⟨x0a,x1a,x2a,x3a⟩)) ?_;simp only [pickL,Zg,Zi];repeat (refine Zs _ (Or.inl ⟨by rfl,by (intro w hSw;(try dsimp only at hSw);go_simp;try with_reducible rfl)⟩) ?_;(try go_frame))
      refine ZC ?_;unfold Zp;go_wp2_with fail;refine (Za4 _ b.length (b.map byteV) _ (HSA.o.below (ZR _ _).drew) (by omega)).mono ?_;rintro e w4 ⟨v4,rfl,ho4,hb4⟩;obtain ⟨A4,c4,rfl⟩:=ZD ho4;obtain ⟨I4,hI4,hB4,h5⟩:=ZcA HA.o.drew hb4 ho4;have hxk:=(h5.pull 1 _ rfl).heap;have y0:=Zc hxk 0;have y1:=Zc hxk 1;have y2:=Zc hxk 2;have y3:=Zc hxk 3;simp at y0 y1 y2 y3;have H5:=Zh h5;have HI4:=Zh hI4;have HB4:=Zh hB4;clear h5 hI4 hB4 hb4 ho4 hxk x0a x1a x2a x3a;go_wp2;refine Zt ⟨y0,y1,y2,y3⟩ ?_;unfold Zp;go_wp2;refine Zt ⟨y0,y1,y2,y3⟩ ?_;unfold Zp;go_wp2_with fail;have hdo:=Zc3 ⟨k0,k1,k2,k3⟩ (setD nm b) (slice A4 b.length c4) H5.o HB4.o HFIT.o HK.o.keep HK.o.fuse (HK.o.inv.fewer (ZcV _ _));simp only [K4.val,setD] at hdo;refine hdo.mono ?_;rintro e w6 ⟨I6,hs6,rfl,h6⟩;have H6:=Zh h6;have HS6:=Zh hs6;clear h6 hs6 hdo;go_wp2;refine Zu ?_;go_wp2;go_ret;rw [HDS.o];exact ⟨I6,HI4.o.trans HS6.o,rfl,(H6.o.pull 1 _ rfl).drop⟩
   ·have hl0:=hl w2 (ZR _ _) true;simp only [Zaf,Zaw] at hl0;have hxl:(x.length:Int)<=4096:=by have:=hsm.2 _ (get_mem hn);simp only at this;omega
    obtain ⟨hbx,_⟩:=h5.imm_open;have hbx:Zw I v x:=hbx;obtain ⟨A2,k2',rfl,_⟩:=hbx;have HGR:=Zh (show growS t nm b=(if b=[] then 0 else (nm.size:Int)+b.length) - ((nm.size:Int)+x.length) by simp [growS,hn]);clear h2 h3 h4 h5 hb hw hg h hk HOK HBAD hc hl hn hsm hfit;by_cases hv0:b=[]
    ·have hd0:decide (0<b.length)=false:=by simp [hv0]
     have HV0:=Zh hv0;clear hv0;go_wp2_with fail;refine (ZcJ H2.o).mono ?_;rintro e w3 ⟨rfl,hb3⟩;have HB3:=Zh hb3;clear hb3;have HE:=Zh (show -((nm.size:Int)+(x.length:Int))=growS t nm b by rw [HGR.o,Zb HV0.o];omega);rw [show max 0 (wrap64 (S.room - S.used))=roomS S from rfl,HE.o];by_cases hf:roomS S<growS t nm b
     ·have hfd:decide (roomS S<growS t nm b)=true:=by simpa using hf
      have h6:Zbx S t nm b=6:=by rw [HWD.o,Zb hf]
      have HDS:=Zh ((HHB.o (by rw [h6];decide)).out);have H6:=Zh h6;clear hf h6 HHB HHK HWD;go_wp2;go_ret;rw [HDS.o,H6.o];exact ⟨I,Hp.sub.refl _,rfl,((H2.o.keep HB3.o).pull 1 _ rfl).drop⟩
     ·have hfd:decide (roomS S<growS t nm b)=false:=by simpa using hf
      have HDS:=HHK.o (by rw [HWD.o,Za hf]);have HA:=Zh (H2.o.keep HB3.o);have HSA:=Zh (HSR.o.below (((ZM _ _).trans (HB.o.mono (by simp))).trans (HB3.o.mono (by have:=HB.o.size;simp at this |-;omega))));have hxk:=(HA.o.pull 1 _ rfl).heap;have x0a:=Zc hxk 0;have x1a:=Zc hxk 1;have x2a:=Zc hxk 2;have x3a:=Zc hxk 3;simp at x0a x1a x2a x3a;clear hf HHB HHK HWD hxk H2 HB HB3 hl0 c1;go_wp2_with fail;clear hfd;refine Z3 (fun w'=>w'.cell? ⟨w.heap.size,0,none⟩=some (int i64 k0)∧w'.cell? ⟨w.heap.size,1,none⟩=some (int i64 k1)∧w'.cell? ⟨w.heap.size,2,none⟩=some (int i64 k2)∧w'.cell? ⟨w.heap.size,3,none⟩=some (int i64 k3)) [0,1,2,3] [4,5] [6,7] (by kernel_rfl) (by kernel_rfl) (by (exact ⟨x0a,x1a,x2a,x3a⟩)) ?_;simp only [pickL,Zg,Zi];repeat (refine Zs _ (Or.inl ⟨by rfl,by (intro w hSw;(try dsimp only at hSw);go_simp;try with_reducible rfl)⟩) ?_;(try go_frame))
      refine ZC ?_;unfold Zp;go_wp2_with fail;refine (Za4 _ b.length (b.map byteV) _ (HSA.o.below (ZR _ _).drew) (by omega)).mono ?_;rintro e w4 ⟨v4,rfl,ho4,hb4⟩;obtain ⟨A4,c4,rfl⟩:=ZD ho4;obtain ⟨I4,hI4,hB4,h5⟩:=ZcA HA.o.drew hb4 ho4;have hxk:=(h5.pull 1 _ rfl).heap;have y0:=Zc hxk 0;have y1:=Zc hxk 1;have y2:=Zc hxk 2;have y3:=Zc hxk 3;simp at y0 y1 y2 y3;have H5:=Zh h5;have HI4:=Zh hI4;have HB4:=Zh hB4;clear h5 hI4 hB4 hb4 ho4 hxk x0a x1a x2a x3a;go_wp2;refine Zt ⟨y0,y1,y2,y3⟩ ?_;unfold Zp;go_wp2;refine Zt ⟨y0,y1,y2,y3⟩ ?_;unfold Zp;go_wp2_with fail;have hdo:=Zc3 ⟨k0,k1,k2,k3⟩ (setD nm b) (slice A4 b.length c4) H5.o HB4.o HFIT.o HK.o.keep HK.o.fuse (HK.o.inv.fewer (ZcV _ _));simp only [K4.val,setD] at hdo;refine hdo.mono ?_;rintro e w6 ⟨I6,hs6,rfl,h6⟩;have H6:=Zh h6;have HS6:=Zh hs6;clear h6 hs6 hdo;go_wp2;refine Zu ?_;go_wp2;go_ret;rw [HDS.o];exact ⟨I6,HI4.o.trans HS6.o,rfl,(H6.o.pull 1 _ rfl).drop⟩
    ·have hd0:decide (0<b.length)=true:=by rw [Ze];exact ZeB.2 hv0
     have HV0:=Zh hv0;clear hv0;go_wp2_with fail;refine (ZcJ H2.o).mono ?_;rintro e w3 ⟨rfl,hb3⟩;have HB3:=Zh hb3;clear hb3;have HE:=Zh (show (nm.size:Int)+(b.length:Int) - ((nm.size:Int)+(x.length:Int))=growS t nm b by rw [HGR.o,Za HV0.o]);rw [show max 0 (wrap64 (S.room - S.used))=roomS S from rfl,HE.o];by_cases hf:roomS S<growS t nm b
     ·have hfd:decide (roomS S<growS t nm b)=true:=by simpa using hf
      have h6:Zbx S t nm b=6:=by rw [HWD.o,Zb hf]
      have HDS:=Zh ((HHB.o (by rw [h6];decide)).out);have H6:=Zh h6;clear hf h6 HHB HHK HWD;go_wp2;go_ret;rw [HDS.o,H6.o];exact ⟨I,Hp.sub.refl _,rfl,((H2.o.keep HB3.o).pull 1 _ rfl).drop⟩
     ·have hfd:decide (roomS S<growS t nm b)=false:=by simpa using hf
      have HDS:=HHK.o (by rw [HWD.o,Za hf]);have HA:=Zh (H2.o.keep HB3.o);have HSA:=Zh (HSR.o.below (((ZM _ _).trans (HB.o.mono (by simp))).trans (HB3.o.mono (by have:=HB.o.size;simp at this |-;omega))));have hxk:=(HA.o.pull 1 _ rfl).heap;have x0a:=Zc hxk 0;have x1a:=Zc hxk 1;have x2a:=Zc hxk 2;have x3a:=Zc hxk 3;simp at x0a x1a x2a x3a;clear hf HHB HHK HWD hxk H2 HB HB3 hl0 c1;go_wp2_with fail;clear hfd;refine Z3 (fun w'=>w'.cell? ⟨w.heap.size,0,none⟩=some (int i64 k0)∧w'.cell? ⟨w.heap.size,1,none⟩=some (int i64 k1)∧w'.cell? ⟨w.heap.size,2,none⟩=some (int i64 k2)∧w'.cell? ⟨w.heap.size,3,none⟩=some (int i64 k3)) [0,1,2,3] [4,5] [6,7] (by kernel_rfl) (by kernel_rfl) (by (exact ⟨x0a,x1a,x2a,x3a⟩)) ?_;simp only [pickL,Zg,Zi];repeat (refine Zs _ (Or.inl ⟨by rfl,by (intro w hSw;(try dsimp only at hSw);go_simp;try with_reducible rfl)⟩) ?_;(try go_frame))
      refine ZC ?_;unfold Zp;go_wp2_with fail;refine (Za4 _ b.length (b.map byteV) _ (HSA.o.below (ZR _ _).drew) (by omega)).mono ?_;rintro e w4 ⟨v4,rfl,ho4,hb4⟩;obtain ⟨A4,c4,rfl⟩:=ZD ho4;obtain ⟨I4,hI4,hB4,h5⟩:=ZcA HA.o.drew hb4 ho4;have hxk:=(h5.pull 1 _ rfl).heap;have y0:=Zc hxk 0;have y1:=Zc hxk 1;have y2:=Zc hxk 2;have y3:=Zc hxk 3;simp at y0 y1 y2 y3;have H5:=Zh h5;have HI4:=Zh hI4;have HB4:=Zh hB4;clear h5 hI4 hB4 hb4 ho4 hxk x0a x1a x2a x3a;go_wp2;refine Zt ⟨y0,y1,y2,y3⟩ ?_;unfold Zp;go_wp2;refine Zt ⟨y0,y1,y2,y3⟩ ?_;unfold Zp;go_wp2_with fail;have hdo:=Zc3 ⟨k0,k1,k2,k3⟩ (setD nm b) (slice A4 b.length c4) H5.o HB4.o HFIT.o HK.o.keep HK.o.fuse (HK.o.inv.fewer (ZcV _ _));simp only [K4.val,setD] at hdo;refine hdo.mono ?_;rintro e w6 ⟨I6,hs6,rfl,h6⟩;have H6:=Zh h6;have HS6:=Zh hs6;clear h6 hs6 hdo;go_wp2;refine Zu ?_;go_wp2;go_ret;rw [HDS.o];exact ⟨I6,HI4.o.trans HS6.o,rfl,(H6.o.pull 1 _ rfl).drop⟩
end
def dryBy (dry seen:List (K4 × TS)) (done:List K4):List (K4 × TS):=dry.filter (fun x=>!done.contains x.1)++seen.filter (fun x=>done.contains x.1)
theorem Znc {dry seen:List (K4 × TS)} {a b:List K4} (h:a.Perm b):dryBy dry seen a=dryBy dry seen b:=by
 have e:∀ x:K4,a.contains x=b.contains x:=fun x=>by
  rw [Zai,ZcW,ZcW];exact h.mem_iff
 unfold dryBy;simp only [e]
theorem Zos (dry seen:List (K4 × TS)):dryBy dry seen []=dry:=by
 unfold dryBy;have h1:dry.filter (fun x=>!([]:List K4).contains x.1)=dry:=Zcy.2 fun x _=>by simp
 have h2:seen.filter (fun x=>([]:List K4).contains x.1)=[]:=Zd2.2 fun x _=>by simp
 rw [h1,h2,ZdG]
theorem ZjO {dry seen:List (K4 × TS)} {done:List K4} {a:K4} (ha:a ∉ done):del a (dryBy dry seen done)=dry.filter (fun x=>!(a::done).contains x.1)++seen.filter (fun x=>done.contains x.1):=by
 unfold del dryBy;rw [Zca,ZdY,ZdY];congr 1
 ·refine Zd6 fun x _=>?_;rw [Zai];simp
 ·refine Zd6 fun x _=>?_;rw [Zai];simp only [ne_eq,decide_not,Zak,Zgr,Zk,ZcW];exact ⟨fun h=>h.2,fun h=>⟨fun e=>ha (e ▸ h),h⟩⟩
theorem Znd {dry seen D:List (K4 × TS)} {done:List K4} {a:K4} (ha:a ∉ done) (hg:get a seen=none) (hD:D.Perm (dryBy dry seen done)):(del a D).Perm (dryBy dry seen (a::done)):=by
 refine (Zcq hD).trans ?_;rw [ZjO ha];unfold dryBy;have e:seen.filter (fun x=>done.contains x.1)=seen.filter (fun x=>(a::done).contains x.1):=Zd6 fun x hx=>by
  have:=get_none.1 hg x hx;rw [Zai,ZcW,ZcW,ZO];exact ⟨.inr,fun h=>h.resolve_left this⟩
 rw [e]
theorem Zot {dry seen D:List (K4 × TS)} {done:List K4} {a:K4} {t:TS} (ha:a ∉ done) (hn:(seen.map (·.1)).Nodup) (hg:get a seen=some t) (hD:D.Perm (dryBy dry seen done)):(put a t D).Perm (dryBy dry seen (a::done)):=by
 unfold put;refine ((Zcq hD).cons _).trans ?_;rw [ZjO ha];unfold dryBy;refine Zb8.symm.trans (List.Perm.append_left _ ?_);have h1:(seen.filter (fun x=>(a::done).contains x.1)).Perm (((a,t)::del a seen).filter (fun x=>(a::done).contains x.1)):=(ZeI hn hg).filter _;refine List.Perm.trans ?_ h1.symm;rw [Zfn (by simp)];refine List.Perm.cons _ ?_;unfold del;rw [ZdY];have e:seen.filter (fun x=>done.contains x.1)=seen.filter (fun x=>(a::done).contains x.1&&decide (x.1≠a)):=Zd6 fun x _=>by
  rw [Zai];simp only [Zak,ZcW,ZO,Ze];exact ⟨fun h=>⟨.inr h,fun e=>ha (e ▸ h)⟩,fun h=>h.1.resolve_left h.2⟩
 rw [e]
def ZbX (S:Str):List (K4 × TS):=dryBy S.dry S.seen (S.late.map (·.1))
def Zr (S:Str):Int × Str :=
 if S.on=false then (7,S) else if (ZT S).1 then (7,(ZT S).2) else
  (0,{ (ZT S).2 with dry:=ZbX (ZT S).2,late:=[],wet:=0,deeds:=wrap64 ((ZT S).2.deeds+1) })
section
variable {p : Nat} {S : Str}
theorem Zms {α:Type} {a b:List α} (h:a.Nodup) (p:a.Perm b):b.Nodup:=p.nodup_iff.1 h
theorem St.drop_own {α:Type} {own:Value->α->HP} (M:List (K4 × Value × α)) (A:HP) (h:St W I w (A::(M.map (own3 own)++l))):St W I w (A::l):=by
 have h1:St W I w (M.map (own3 own)++(A::l)):=h.perm Zb8.symm;exact h1.drops
theorem ZdN {m:Nat} (h:St W I w (Zd p S::l)) (hk:Keeps S m) :
  Calls prog 134 #[pointer (some ⟨p,0,none⟩)] w fun e w'=>∃ I',I.sub I'∧e=.returned (int i64 (Zr S).1)∧St W I' w' (Zd p (Zr S).2::l):=by
 obtain ⟨B0,h1⟩:=h.store_open;have c4:=h1.blk 4;simp [storeCells] at c4;cases ho:S.on with
 | false =>
  rw [ho] at c4;have HDS:=Zh (show Zr S=(7,S) by simp [Zr,ho]);have H:=Zh h;clear h h1 hk;go_enter func134,ntmps134;go_wp2;go_ret;rw [HDS.o];exact ⟨I,Hp.sub.refl _,rfl,H.o⟩
 | true =>
  rw [ho] at c4;have HBS:=Zh (Zi7 h hk.keep hk.fuse (fun _=>hk.inv.fewer (ZcV _ _)));have HO:=Zh ho;have HKI:=Zh hk;clear h h1 hk ho;go_enter func134,ntmps134;go_wp2_with fail;refine HBS.o.mono ?_;clear HBS c4;rintro e w2 ⟨I2,hs2,rfl,h2⟩;have HS2:=Zh hs2;cases hb:(ZT S).1 with
  | true =>
   have HDS:=Zh (show Zr S=(7,(ZT S).2) by simp [Zr,HO.o,hb]);have H2:=Zh h2;clear hs2 h2 hb;go_wp2;go_ret;rw [HDS.o];exact ⟨I2,HS2.o,rfl,H2.o⟩
  | false =>
   have hki:=ZgI HKI.o;obtain ⟨S1,hS1⟩:∃ S1,(ZT S).2=S1:=⟨_,rfl⟩;have hdo:Zr S=(0,{ S1 with dry:=ZbX S1,late:=[],wet:=0,deeds:=wrap64 (S1.deeds+1) }):=by
    rw [<-hS1];simp [Zr,HO.o,hb]
   rw [hS1] at h2 hki;obtain ⟨B,h3⟩:=h2.store_open;have c7:=h3.blk 7;have ltp:=h3.lt;simp [storeCells] at c7;have hns:=(h3.pull 1 _ rfl).mapOf_nodup;obtain ⟨M,hM,h4⟩:=(h3.pull 3 _ rfl).mapOf_open;have h5:=St.drop_own M _ h4;have hnl:=h5.map_nodup;obtain ⟨w3,hrun,hsz,h6⟩:=h5.range (P:=prog) underlying142;have hkeys:((M.map fst3).map (·.1)).Perm (S1.late.map (·.1)):=by
    have:=hM.map (·.1);rwa [<-ZfP] at this
   have HDO:=Zh hdo;have HKI1:=Zh hki;have HNS:=Zh hns;have HNL:=Zh hnl;have HKY:=Zh hkeys;have H6:=Zh h6;have HSZ:=Zh hsz;clear hs2 h2 hb hki hS1 hdo h3 hns hM h4 h5 hnl h6 hkeys hsz HKI;have hmm:=@run_makeMap prog;go_wp2_with fail
   go_loopw [3] (fun _ wr=>∃ (left:List (K4 × Value)) (done:List K4) (D:List (K4 × TS)) (I1:Hp),(left.map (·.1)++done).Perm ((M.map fst3).map (·.1))∧D.Perm (dryBy S1.dry S1.seen done)∧I2.sub I1 ∧
    St W I1 wr (HP.iter keyKT B.m3 w2.heap.size (M.map fst3) left::ZV p S1 B::ZbD B S1::mapOf keyKT Zv B.m2 D::keyHP B S1::HP.imm (Zbe B.vk S1.keep)::l)) (fun _ wr=>wr.rangeLeft B.m3 w2.heap.size)
   case atStart =>
    refine ⟨M.map fst3,[],S1.dry,I2,by simp,by rw [Zos],Hp.sub.refl _,?_⟩;exact H6.o
   case round =>
    obtain ⟨left,done,D,I1,hpd,hD,hI1,hst⟩:=hrel;have hbk:=(hst.pull 1 _ rfl).blk;have hlp:=(hst.pull 1 _ rfl).lt;rcases hst.next 0 with ⟨rfl,hrun⟩|⟨a,v,left',w4,hpm,hmem,hrun,hsz2,hent,hst2⟩
    ·have c2:=hbk 2;have f7:=frozen_of_row (hst.pull 1 _ rfl).heap 7;have f3:=frozen_of_row (hst.pull 1 _ rfl).heap 3;have f2:=frozen_of_row (hst.pull 1 _ rfl).heap 2;have c3:=hbk 3;have c7r:=hbk 7;simp [storeCells] at c2 c3 c7r;have HS:=Zh hst;have HQ:=Zh hpd;have HDD:=Zh hD;have HI1:=Zh hI1;clear hst hpd hD hI1 hbk;go_wp2;go_ret;have h9:St W I1 _ (ZV p { S1 with dry:=ZbX S1,late:=[],wet:=0,deeds:=wrap64 (S1.deeds+1) } { B with m3:=wr.heap.size }::_):=(((HS.o.pull 1 _ rfl).setCell 7 (.map (some wr.heap.size))).setCell 3 (int i64 0)).setCell 2 (int i64 (wrap64 (S1.deeds+1)));have h10:=h9.alloc (.map #[] 0);simp only [World.size_setCell] at h10;have h11:=h10.mapOf_made (T:=keyKT) (own:=Zbo);have hdn:D.Perm (ZbX S1):=by
      have h1:done.Perm (S1.late.map (·.1)):=by
       have:=HQ.o;simp only [Zc6,ZP] at this;exact this.trans HKY.o
      unfold ZbX;rw [<-Znc h1];exact HDD.o
     rw [HDO.o];refine ⟨I1,HS2.o.trans HI1.o,rfl,St.store_shut (B:={ B with m3:=wr.heap.size }) ?_⟩;have h12:=(h11.perm (m:=mapOf keyKT Zv B.m2 D::HP.iter keyKT B.m3 w2.heap.size (M.map fst3) []::ZV p { S1 with dry:=ZbX S1,late:=[],wet:=0,deeds:=wrap64 (S1.deeds+1) } { B with m3:=wr.heap.size }::ZbD B S1::mapOf keyKT Zbo wr.heap.size []::keyHP B S1::HP.imm (Zbe B.vk S1.keep)::l) (by ((try simp only [Zx,Zy,ZZ,ZP]);repeat (first|with_reducible exact Zad _|(apply Zaq;(· repeat (first|with_reducible exact Zap|with_reducible apply Zao))))))).mapOf_perm hdn;exact ((h12.pull 1 _ rfl).drop).perm (m:=ZV p { S1 with dry:=ZbX S1,late:=[],wet:=0,deeds:=wrap64 (S1.deeds+1) } { B with m3:=wr.heap.size }::ZbD B S1::mapOf keyKT Zv B.m2 (ZbX S1)::mapOf keyKT Zbo wr.heap.size []::keyHP B S1::HP.imm (Zbe B.vk S1.keep)::l) (by ((try simp only [Zx,Zy,ZZ,ZP]);repeat (first|with_reducible exact Zad _|(apply Zaq;(· repeat (first|with_reducible exact Zap|with_reducible apply Zao))))))
    ·obtain ⟨a0,a1,a2,a3⟩:=a;simp only [keyKT,K4.val] at hrun hent;have HS:=Zh hst2;have HS1:=Zh hst;have HQ:=Zh hpd;have HDD:=Zh hD;have HI1:=Zh hI1;have HPM:=Zh hpm;clear hst hpd hD hI1 hbk hst2 hpm hmem;go_wp2_with fail;have hnd:(⟨a0,a1,a2,a3⟩:K4) ∉ done:=fun hm=>by
      have h1:=Zms HNL.o (((HPM.o.map (·.1)).append_right done).symm.trans HQ.o).symm;exact (Za9.1 (show ((⟨a0,a1,a2,a3⟩:K4)::(left'.map (·.1)++done)).Nodup from h1)).1 (Zfj _ hm)
     have hpd':(left'.map (·.1)++((⟨a0,a1,a2,a3⟩:K4)::done)).Perm ((M.map fst3).map (·.1)):=by
      refine Zb8.trans ?_;exact (((HPM.o.map (·.1)).append_right done).symm.trans HQ.o)
     have h7:=HS.o.alloc (cells #[int i64 a0,int i64 a1,int i64 a2,int i64 a3] 150);rw [hsz2] at h7;obtain ⟨w5,hw5⟩:∃ w5,w4.alloc (cells #[int i64 a0,int i64 a1,int i64 a2,int i64 a3] 150)=w5:=⟨_,rfl⟩;rw [hw5] at h7 |-;have x0:=Zc h7.heap 0;have x1:=Zc h7.heap 1;have x2:=Zc h7.heap 2;have x3:=Zc h7.heap 3;have c5:=(h7.pull 2 _ rfl).blk 5;have c6:=(h7.pull 2 _ rfl).blk 6;simp [storeCells] at x0 x1 x2 x3 c5 c6;have HND:=Zh hnd;have HPD:=Zh hpd';rcases (h7.pull 3 _ rfl).mapOf_look underlying141 (z:=pointer none) (fun w=>by kernel_rfl) ⟨a0,a1,a2,a3⟩ with ⟨hn,hl⟩|⟨v1,t,hn,hl,h8⟩
     ·have hl':=fun nq=>hl (w5.drewN nq) (below_drewN (ZR _ _) nq) true;simp only [keyKT,K4.val,Zaw] at hl';have H7:=Zh h7;have HN:=Zh hn;clear h7 hw5 hl hn hnd hpd' hrun hent;go_wp2_with fail;go_quiet (fail);go_wp2_with fail;clear hl' x0 x1 x2 x3 c5 c6;have h8:=H7.o.drewN nq;obtain ⟨w6,hw6⟩:∃ w6,w5.drewN nq=w6:=⟨_,rfl⟩;rw [hw6] at h8 |-;clear hw6;have x0:=Zc h8.heap 0;have x1:=Zc h8.heap 1;have x2:=Zc h8.heap 2;have x3:=Zc h8.heap 3;have c6:=(h8.pull 2 _ rfl).blk 6;simp [storeCells] at x0 x1 x2 x3 c6;obtain ⟨w7,hr7,hs7,h9⟩:=(h8.drew.pull 4 _ rfl).mapOf_del (P:=prog) (ty:=0) underlying141 (⟨a0,a1,a2,a3⟩:K4);simp only [keyKT,K4.val] at hr7;have H9:=Zh h9;clear h8 h9 hs7;refine ZaD [0,1,2] [3,4] [5] (by kernel_rfl) (by kernel_rfl) ?_;simp only [pickL,Zg,Zi];repeat (refine ZaA _ (Or.inl ⟨by rfl,by intro w;go_simp;try with_reducible rfl⟩) ?_;(try go_frame))
      refine ZaB ?_;repeat still_step
      refine ZaI ?_;go_wp2;refine Zu ?_;go_wp2_with fail;have H10:=Zh (((H9.o.pull 1 _ rfl).drop).perm (m:=HP.iter keyKT B.m3 w2.heap.size (M.map fst3) left'::ZV p S1 B::ZbD B S1::mapOf keyKT Zv B.m2 (del ⟨a0,a1,a2,a3⟩ D)::keyHP B S1::HP.imm (Zbe B.vk S1.keep)::l) (by ((try simp only [Zx,Zy,ZZ,ZP]);repeat (first|with_reducible exact Zad _|(apply Zaq;(· repeat (first|with_reducible exact Zap|with_reducible apply Zao)))))));go_roundw;case rel=>exact ⟨left',⟨a0,a1,a2,a3⟩::done,_,I1,HPD.o,Znd HND.o HN.o HDD.o,HI1.o,H10.o⟩
      case measure =>
       rw [H10.o.iter_left,HS1.o.iter_left];simp [HPM.o.length_eq]
     ·have hl':=fun nq=>hl (w5.drewN nq) (below_drewN (ZR _ _) nq) true;simp only [keyKT,K4.val,Zaw] at hl';obtain ⟨bt,mt,vb,rfl,_⟩:=h8.thing_open;have hsm:=HKI1.o.inv.seen _ (get_mem hn);have HSM:=Zh hsm;have H8:=Zh h8;have HN:=Zh hn;clear h7 h8 hw5 hl hn hnd hpd' hrun hent hsm;go_wp2_with fail;go_quiet (fail);go_wp2_with fail;clear hl' x0 x1 x2 x3 c5 c6;have h8:=H8.o.drewN nq;obtain ⟨w6,hw6⟩:∃ w6,w5.drewN nq=w6:=⟨_,rfl⟩;rw [hw6] at h8 |-;clear hw6;have x0:=Zc (h8.pull 2 _ rfl).heap 0;have x1:=Zc (h8.pull 2 _ rfl).heap 1;have x2:=Zc (h8.pull 2 _ rfl).heap 2;have x3:=Zc (h8.pull 2 _ rfl).heap 3;have c6:=(h8.pull 4 _ rfl).blk 6;simp [storeCells] at x0 x1 x2 x3 c6;have H9:=Zh h8;clear h8;refine Z3 (fun w'=>w'.cell? ⟨wr.heap.size,0,none⟩=some (int i64 a0)∧w'.cell? ⟨wr.heap.size,1,none⟩=some (int i64 a1)∧w'.cell? ⟨wr.heap.size,2,none⟩=some (int i64 a2)∧w'.cell? ⟨wr.heap.size,3,none⟩=some (int i64 a3)∧w'.cell? ⟨p,6,none⟩=some (.map (some B.m2))) [0,1,2,3,4,5] [6] [7] (by kernel_rfl) (by kernel_rfl) (by (exact ⟨x0,x1,x2,x3,c6⟩)) ?_;simp only [pickL,Zg,Zi];repeat (refine Zs _ (Or.inl ⟨by rfl,by (intro w hSw;(try dsimp only at hSw);go_simp;try with_reducible rfl)⟩) ?_;(try go_frame))
      refine ZC ?_;unfold Zp;go_wp2_with fail;refine (Zpz H9.o.drew (by have:=HSM.o.1;omega) (fun x hx=>by have:=HSM.o.2 x hx;omega)).mono ?_;rintro e w10 ⟨vo,I10,rfl,hI10,h10⟩;have hkA:=(h10.pull 3 _ rfl).heap;have y0:=Zc hkA 0;have y1:=Zc hkA 1;have y2:=Zc hkA 2;have y3:=Zc hkA 3;have y6:=(h10.pull 5 _ rfl).blk 6;simp [storeCells] at y0 y1 y2 y3 y6;obtain ⟨bo,mo,vbo,hvo,_⟩:=h10.thing_open;obtain ⟨w11,hr11,hs11,h11⟩:=(h10.perm (m:=Zv vo t::mapOf keyKT Zv B.m2 D::Zv (pointer (some ⟨bt,0,none⟩)) t::HP.hole keyKT Zv B.m1 (⟨a0,a1,a2,a3⟩:K4) (pointer (some ⟨bt,0,none⟩)) (del (⟨a0,a1,a2,a3⟩:K4) S1.seen)::pt wr.heap.size (cells #[int i64 a0,int i64 a1,int i64 a2,int i64 a3] 150)::HP.iter keyKT B.m3 w2.heap.size (M.map fst3) left'::ZV p S1 B::keyHP B S1::HP.imm (Zbe B.vk S1.keep)::l) (by ((try simp only [Zx,Zy,ZZ,ZP]);repeat (first|with_reducible exact Zad _|(apply Zaq;(· repeat (first|with_reducible exact Zap|with_reducible apply Zao))))))).mapOf_put (P:=prog) underlying141 (⟨a0,a1,a2,a3⟩:K4);simp only [keyKT,K4.val] at hr11;subst hvo;have H11:=Zh h11;have HR11:=Zh hr11;have HI10:=Zh hI10;clear h10 h11 hr11 hs11 hI10 x0 x1 x2 x3 c6 hkA;go_wp2;refine Zt ⟨y0,y1,y2,y3,y6⟩ ?_;have hr11:=HR11.o;unfold Zp;go_wp2;refine Zu ?_;clear hr11 y0 y1 y2 y3 y6;go_wp2_with fail;have h12:St W I10 _ (ZbD B S1::_):=(St.hole_back ((H11.o.pull 1 _ rfl).perm (m:=Zv (pointer (some ⟨bt,0,none⟩)) t::HP.hole keyKT Zv B.m1 (⟨a0,a1,a2,a3⟩:K4) (pointer (some ⟨bt,0,none⟩)) (del (⟨a0,a1,a2,a3⟩:K4) S1.seen)::mapOf keyKT Zv B.m2 (put (⟨a0,a1,a2,a3⟩:K4) t D)::pt wr.heap.size (cells #[int i64 a0,int i64 a1,int i64 a2,int i64 a3] 150)::HP.iter keyKT B.m3 w2.heap.size (M.map fst3) left'::ZV p S1 B::keyHP B S1::HP.imm (Zbe B.vk S1.keep)::l) (by ((try simp only [Zx,Zy,ZZ,ZP]);repeat (first|with_reducible exact Zad _|(apply Zaq;(· repeat (first|with_reducible exact Zap|with_reducible apply Zao)))))))).mapOf_perm (ZeI HNS.o HN.o).symm;have H10:=Zh (((h12.pull 2 _ rfl).drop).perm (m:=HP.iter keyKT B.m3 w2.heap.size (M.map fst3) left'::ZV p S1 B::ZbD B S1::mapOf keyKT Zv B.m2 (put ⟨a0,a1,a2,a3⟩ t D)::keyHP B S1::HP.imm (Zbe B.vk S1.keep)::l) (by ((try simp only [Zx,Zy,ZZ,ZP]);repeat (first|with_reducible exact Zad _|(apply Zaq;(· repeat (first|with_reducible exact Zap|with_reducible apply Zao)))))));clear h12;go_roundw;case rel=>exact ⟨left',⟨a0,a1,a2,a3⟩::done,_,I10,HPD.o,Zot HND.o HNS.o HN.o HDD.o,HI1.o.trans HI10.o,H10.o⟩
      case measure =>
       rw [H10.o.iter_left,HS1.o.iter_left];simp [HPM.o.length_eq]
end
theorem Zne {S:Str} {t:TS} {off:Int} {p:List Int} (h:ZbU S t off p=0):(Z5 off p).fits:=by
 unfold ZbU at h;split at h
 ·cases h
 ·rename_i hc;unfold Dd.fits Dd.good Z5;simp;omega
theorem ZpI {S:Str} {t:TS} {nm:ByteArray} {v:List Int} (h:Zbx S t nm v=0):(setD nm v).fits:=by
 unfold Zbx at h;split at h
 ·cases h
 ·rename_i hc;unfold Dd.fits Dd.good setD;simp;omega
theorem Zou:madeD.fits:=by unfold Dd.fits Dd.good madeD;simp
theorem Zov:(⟨3,0,[],⟨#[]⟩⟩:Dd).fits:=by unfold Dd.fits Dd.good;simp
theorem Zeb {S:Str} {k:K4} {m:Nat} (h:Keeps S (m+2)):Keeps (makeS S k).2 m:=by
 unfold makeS;split
 ·exact h.fewer (by omega)
 ·split
  ·exact h.fewer (by omega)
  ·split
   ·exact h.fewer (by omega)
   ·exact ZeV Zou h
theorem ZdO {S:Str} {k:K4} {off:Int} {p:List Int} {m:Nat} (h:Keeps S (m+2)):Keeps (ZaW S k off p).2 m:=by
 unfold ZaW;split
 ·exact h.fewer (by omega)
 ·split
  ·exact h.fewer (by omega)
  ·split
   ·exact h.fewer (by omega)
   ·rename_i hw;exact ZeV (Zne (by simpa using hw)) h
theorem Zir {S:Str} {k:K4} {p:List Int} {m:Nat} (h:Keeps S (m+2)):Keeps (Zch S k p).2 m:=by
 unfold Zch;split
 ·exact h.fewer (by omega)
 ·exact ZdO h
theorem ZfF {S:Str} {k:K4} {nm:ByteArray} {v:List Int} {m:Nat} (h:Keeps S (m+2)):Keeps (setS S k nm v).2 m:=by
 unfold setS;split
 ·exact h.fewer (by omega)
 ·split
  ·exact h.fewer (by omega)
  ·split
   ·exact h.fewer (by omega)
   ·rename_i hw;exact ZeV (ZpI (by simpa using hw)) h
theorem ZdP {S:Str} {k:K4} {m:Nat} (h:Keeps S (m+2)):Keeps (dropS S k).2 m:=by
 unfold dropS;split
 ·exact ZeV Zov h
 ·exact h.fewer (by omega)
theorem ZgO {S:Str} {k:K4} {n:Int} {m:Nat} (h:Keeps S (m+2)):Keeps (trimS S k n).2 m:=by
 unfold trimS;split
 ·rename_i t ht;split
  ·refine ZeV ?_ h;have h9:t.b.length<=20480:=(h.inv.seen _ (get_mem ht)).1;unfold Dd.fits Dd.good cutD;simp;omega
  ·exact h.fewer (by omega)
 ·exact h.fewer (by omega)
theorem Zmt {dry seen:List (K4 × TS)} {done:List K4} (h1:∀ x ∈ dry,x.2.small) (h2:∀ x ∈ seen,x.2.small):∀ x ∈ dryBy dry seen done,x.2.small:=fun x hx=>by
 rcases ZY.1 hx with h|h
 ·exact h1 x (Z1.1 h).1
 ·exact h2 x (Z1.1 h).1
theorem ZbS {S:Str} {m:Nat} (h:Keeps S m):Keeps (Zr S).2 m:=by
 have hb:=ZgI h;unfold Zr;split
 ·exact h
 ·split
  ·exact hb
  ·refine ⟨⟨hb.inv.rise,fun g=>?_,hb.inv.seen,Zmt hb.inv.dry hb.inv.seen,fun x hx=>(by cases hx),fun x hx=>(by cases hx)⟩,hb.keep,hb.fuse,fun x hx=>(by cases hx)⟩;have h3:=hb.inv.many g;show (Zj (ZT S).2 g).length+(0+m)<=100000;omega
def Zrj (S:Str):Str:={ S with on:=true }
end Go.Proofs.YtcbdghojlbpomaaGreat
