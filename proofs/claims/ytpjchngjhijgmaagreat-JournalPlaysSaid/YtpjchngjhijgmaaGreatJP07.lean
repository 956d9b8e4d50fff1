import Derived.Test.YtpjchngjhijgmaaGreatJP06
set_option linter.all false
set_option maxRecDepth 4000
set_option maxHeartbeats 8000000
open Go.RowKit
open Go.IntKind (i64 u64)
open Go.Value (int pointer slice)
open Go.Obj (cells)
namespace Go.Proofs.YtpjchngjhijgmaaGreat
open Tryz
open HP (pt mapOf)
variable {W w w':World} {I:Hp} {l:List HP}
section
variable {p : Nat} {S : Str}
theorem Zix (h:St W I w (Zj p S::l)):Calls prog 55 #[pointer (some ⟨p,0,none⟩)] w fun e w'=>e=.returned (.bool S.on)∧w=w':=by
 obtain ⟨B,h1⟩:=h.store_open;have c4:=h1.blk 4;simp [storeCells] at c4;clear h h1;go_enter func55,ntmps55;go_wp2;go_ret;exact ⟨rfl,rfl⟩
theorem Zfn (h:St W I w (Zj p S::l)):Calls prog 174 #[pointer (some ⟨p,0,none⟩)] w fun e w'=>e=.returned (int i64 (max 0 (wrap64 (S.room - S.used))))∧Below w.heap.size w w':=by
 obtain ⟨B,h1⟩:=h.store_open;have c0:=h1.blk 0;have c1:=h1.blk 1;simp [storeCells] at c0 c1;clear h h1;go_enter func174,ntmps174;go_wp2_with fail;refine ZaM [0,1,2,4,5,6] [3,7,8] [9,10] (by kernel_rfl) (by kernel_rfl) ?_;simp only [pickL,Zg,Zi];repeat (refine ZaE _ (Or.inl ⟨by rfl,by intro w;go_simp;try with_reducible rfl⟩) ?_;(try go_frame))
 refine ZaF ?_;repeat still_step
 refine ZaQ ?_;go_wp2;refine Zw ?_;go_wp2;go_ret;exact ⟨rfl,(ZI _ _).drew⟩
end
def whyS (S:Str) (k:K4):Int:=if mayS S k=0 then (if (get k S.seen).isSome then 0 else 4) else mayS S k
structure Keeps (S:Str) (m:Nat):Prop where
 inv:Inv S (S.late.length+m)
 keep:S.armed=false
 fuse:0<=S.fuse∧S.fuse<=9223372036854775807
 lates:∀ x ∈ S.late,x.2.length+m<=100000
theorem Inv.fewer {S:Str} {m n:Nat} (h:Inv S m) (hn:n<=m):Inv S n:=⟨h.rise,fun g=>Zaw (Nat.add_le_add_left hn _) (h.many g),h.seen,h.dry,h.late,h.lateN⟩
section
variable {p : Nat} {S : Str}
theorem Zgf (I:Hp):BytesI I (slice none 0 0) []:=⟨none,0,rfl,rfl,ZC _,by unfold maxLen;omega,fun _=>rfl,fun h=>absurd h (by simp)⟩
theorem Zdg (k:K4) (h:St W I w (Zj p S::l)) :
  Calls prog 65 #[pointer (some ⟨p,0,none⟩),k.val] w fun e w'=>Below w.heap.size w w'∧St W I w' (Zj p S::l) ∧
   ((whyS S k≠0∧e=.returned (.tuple #[pointer none,int i64 (whyS S k)])) ∨
    ∃ q t B,whyS S k=0∧get k S.seen=some t∧e=.returned (.tuple #[pointer q,int i64 0])∧St W I w' (ZD (pointer q) t::HP.hole keyKT ZD B.m1 k (pointer q) (del k S.seen)::Zab p S B::dryHP B S::Zav B S::keyHP B S::HP.imm (ZbD B.vk S.keep)::l)):=by
 obtain ⟨B,h1⟩:=h.store_open;refine (Zpk k h1).mono ?_;rintro e w' ⟨hb,⟨h2,rfl⟩|⟨h2,h3,rfl⟩|⟨v,t,h2,h3,rfl,h4⟩⟩
 ·exact ⟨hb,h.keep hb,.inl (by rw [show whyS S k=mayS S k by simp [whyS,h2]];exact ⟨h2,rfl⟩)⟩
 ·exact ⟨hb,h.keep hb,.inl (by rw [show whyS S k=4 by simp [whyS,h2,h3]];exact ⟨by decide,rfl⟩)⟩
 ·obtain ⟨bt,mt,vb,rfl,_⟩:=St.thing_open (v:=v) (t:=t) h4;exact ⟨hb,h.keep hb,.inr ⟨_,t,B,by simp [whyS,h2,h3],h3,rfl,h4.keep hb⟩⟩
def dropS (S:Str) (k:K4):Int × Str:=if whyS S k=0 then (offE (doS S k ⟨3,0,[],⟨#[]⟩⟩).1,(doS S k ⟨3,0,[],⟨#[]⟩⟩).2) else (whyS S k,S)
theorem Zlg (k:K4) {m:Nat} (h:St W I w (Zj p S::l)) (hk:Keeps S m) :
  Calls prog 74 #[pointer (some ⟨p,0,none⟩),k.val] w fun e w'=>∃ I',I.sub I'∧e=.returned (int i64 (dropS S k).1)∧St W I' w' (Zj p (dropS S k).2::l):=by
 have hth:=Zdg k (h.alloc (cells #[int i64 k.kind,int i64 k.img,int i64 k.num,int i64 k.snap] 43) |>.pull 1 _ rfl);obtain ⟨k0,k1,k2,k3⟩:=k;simp only [K4.val] at hth |-;have HT:=Zh hth;clear hth;go_enter func74,ntmps74;go_wp2_with fail;refine HT.o.mono ?_;clear HT;rintro e w2 ⟨hb,h2,⟨hw,rfl⟩|⟨q,t,B,hw,hg,rfl,h3⟩⟩
 ·have HW:=Zh hw;have H2:=Zh h2;have HDS:=Zh (show dropS S ⟨k0,k1,k2,k3⟩=(whyS S ⟨k0,k1,k2,k3⟩,S) by simp [dropS,hw]);clear h2 hb;go_wp2;go_ret;rw [HDS.o];exact ⟨I,Hp.sub.refl _,rfl,(H2.o.pull 1 _ rfl).drop⟩
 ·have hxk:=(h2.pull 1 _ rfl).heap;have x0:=Zc hxk 0;have x1:=Zc hxk 1;have x2:=Zc hxk 2;have x3:=Zc hxk 3;simp at x0 x1 x2 x3;have HDS:=Zh (show dropS S ⟨k0,k1,k2,k3⟩=(offE (doS S ⟨k0,k1,k2,k3⟩ ⟨3,0,[],⟨#[]⟩⟩).1,(doS S ⟨k0,k1,k2,k3⟩ ⟨3,0,[],⟨#[]⟩⟩).2) by simp [dropS,hw]);have H2:=Zh h2;have HK:=Zh hk;clear h2 h3 hxk hb hw hg hk h;go_wp2_with fail;have hdo:=ZdB ⟨k0,k1,k2,k3⟩ ⟨3,0,[],⟨#[]⟩⟩ (slice none 0 0) H2.o (Zgf I) (by unfold Dd.fits Dd.good;simp) HK.o.keep HK.o.fuse (HK.o.inv.fewer (Zdp _ _));simp only [K4.val] at hdo;refine hdo.mono ?_;rintro e w3 ⟨I3,hs3,rfl,h3⟩;have H3:=Zh h3;have HS3:=Zh hs3;clear h3 hs3 hdo;go_wp2;go_ret;rw [HDS.o];exact ⟨I3,HS3.o,rfl,(H3.o.pull 1 _ rfl).drop⟩
end
def cutD (t:TS) (size:Int):Dd:=⟨2,max 0 (min size t.b.length),[],⟨#[]⟩⟩
def trimS (S:Str) (k:K4) (size:Int):Int × Str :=
 match get k S.seen with
 | some t=>if whyS S k=0 then (offE (doS S k (cutD t size)).1,(doS S k (cutD t size)).2) else (whyS S k,S)
 | none=>(whyS S k,S)
section
variable {p : Nat} {S : Str}
theorem ZqQ (k:K4) (size:Int) {m:Nat} (h:St W I w (Zj p S::l)) (hk:Keeps S m) :
  Calls prog 156 #[pointer (some ⟨p,0,none⟩),k.val,int i64 size] w fun e w'=>∃ I',I.sub I'∧e=.returned (int i64 (trimS S k size).1)∧St W I' w' (Zj p (trimS S k size).2::l):=by
 have hth:=Zdg k (h.alloc (cells #[int i64 k.kind,int i64 k.img,int i64 k.num,int i64 k.snap] 43) |>.pull 1 _ rfl);obtain ⟨k0,k1,k2,k3⟩:=k;simp only [K4.val] at hth |-;have HT:=Zh hth;clear hth;go_enter func156,ntmps156;go_wp2_with fail;refine HT.o.mono ?_;clear HT;rintro e w2 ⟨hb,h2,⟨hw,rfl⟩|⟨q,t,B,hw,hg,rfl,h3⟩⟩
 ·have HW:=Zh hw;have H2:=Zh h2;have HDS:=Zh (show trimS S ⟨k0,k1,k2,k3⟩ size=(whyS S ⟨k0,k1,k2,k3⟩,S) by unfold trimS;split <;> simp [hw]);clear h2 hb;go_wp2;go_ret;rw [HDS.o];exact ⟨I,Hp.sub.refl _,rfl,(H2.o.pull 1 _ rfl).drop⟩
 ·have hxk:=(h2.pull 1 _ rfl).heap;have x0:=Zc hxk 0;have x1:=Zc hxk 1;have x2:=Zc hxk 2;have x3:=Zc hxk 3;simp at x0 x1 x2 x3;obtain ⟨bt,mt,vb,hq,h4⟩:=St.thing_open (v:=pointer q) (t:=t) h3;simp only [Zev] at hq;subst hq;obtain ⟨Ab,cb,rfl⟩:=ZA (h4.pull 1 _ rfl).row_owns;have b0:=Zc h4.heap 0;simp at b0;have HDS:=Zh (show trimS S ⟨k0,k1,k2,k3⟩ size=(offE (doS S ⟨k0,k1,k2,k3⟩ (cutD t size)).1,(doS S ⟨k0,k1,k2,k3⟩ (cutD t size)).2) by simp [trimS,hw,hg]);have htb:=(get_mem hg);have hsm:=hk.inv.seen _ htb;have H2:=Zh h2;have HK:=Zh hk;have HSM:=Zh hsm;clear h2 h3 h4 hxk hb hw hg hk h htb hsm;go_wp2_with fail;refine ZaM [0,2,3,4,5] [1,6,7,8,9,10] [11,12] (by kernel_rfl) (by kernel_rfl) ?_;simp only [pickL,Zg,Zi];repeat (refine ZaE _ (Or.inl ⟨by rfl,by intro w;go_simp;try with_reducible rfl⟩) ?_;(try go_frame))
  refine ZaF ?_;repeat still_step
  refine ZaQ ?_;go_wp2_with fail
  have hdo:=ZdB ⟨k0,k1,k2,k3⟩ (cutD t size) (slice none 0 0) H2.o.drew (Zgf I) (by
   have h9:t.b.length<=20480:=HSM.o.1;unfold Dd.fits Dd.good cutD;simp
   omega) HK.o.keep HK.o.fuse (HK.o.inv.fewer (Zdp _ _))
  simp only [K4.val,cutD] at hdo;refine hdo.mono ?_;rintro e w3 ⟨I3,hs3,rfl,h3⟩;have H3:=Zh h3;have HS3:=Zh hs3;clear h3 hs3 hdo;go_wp2;refine Zw ?_;go_wp2;go_ret;rw [HDS.o];exact ⟨I3,HS3.o,rfl,(H3.o.pull 1 _ rfl).drop⟩
end
def lenAt (S:Str) (k:K4):Int:=if whyS S k=0 then (match get k S.seen with|some t=>(t.b.length:Int)|none=>0) else 0
section
variable {p : Nat} {S : Str}
theorem Zgu (k:K4) (h:St W I w (Zj p S::l)) :
  Calls prog 71 #[pointer (some ⟨p,0,none⟩),k.val] w fun e w'=>Below w.heap.size w w'∧e=.returned (.tuple #[int i64 (lenAt S k),int i64 (whyS S k)]):=by
 have hth:=Zdg k (h.alloc (cells #[int i64 k.kind,int i64 k.img,int i64 k.num,int i64 k.snap] 43) |>.pull 1 _ rfl);have hbl:=(ZI w.heap.size w).alloc (ZC _) (cells #[int i64 k.kind,int i64 k.img,int i64 k.num,int i64 k.snap] 43);obtain ⟨k0,k1,k2,k3⟩:=k;simp only [K4.val] at hth |-;have HT:=Zh hth;have HBL:=Zh hbl;clear hth hbl;go_enter func71,ntmps71;go_wp2_with fail;refine HT.o.mono ?_;clear HT;rintro e w2 ⟨hb,h2,⟨hw,rfl⟩|⟨q,t,B,hw,hg,rfl,h3⟩⟩
 ·have HW:=Zh hw;have HB:=Zh (HBL.o.trans (hb.mono (by simp)));have HDS:=Zh (show lenAt S ⟨k0,k1,k2,k3⟩=0 by simp [lenAt,hw]);clear h2 hb;go_wp2;go_ret2;rw [HDS.o];exact ⟨HB.o,rfl⟩
 ·obtain ⟨bt,mt,vb,hq,h4⟩:=St.thing_open (v:=pointer q) (t:=t) h3;simp only [Zev] at hq;subst hq;obtain ⟨Ab,cb,rfl⟩:=ZA (h4.pull 1 _ rfl).row_owns;have b0:=Zc h4.heap 0;simp at b0;have HB:=Zh (HBL.o.trans (hb.mono (by simp)));have HDS:=Zh (show lenAt S ⟨k0,k1,k2,k3⟩=t.b.length by simp [lenAt,hw,hg]);have HW:=Zh hw;clear h2 h3 h4 hb hw hg h;go_wp2;go_ret2;rw [HDS.o,HW.o];exact ⟨HB.o,rfl⟩
end
def Zau (S:Str) (g:G2):List K4:=if S.on then Zp S g else []
section
variable {p : Nat} {S : Str}
theorem ZqR (ks:List K4):∀ u ∈ kflat ks,u.oneCell'=true:=fun u hu=>by
 unfold kflat at hu;obtain ⟨k,_,hk⟩:=Zcs.1 hu;simp only [K4.vals,Z4,List.mem_nil_iff,Zbi] at hk;rcases hk with rfl|rfl|rfl|rfl <;> rfl
theorem Ziy (kind img:Int) (h:St W I w (Zj p S::l)) (hn:(Zp S ⟨kind,img⟩).length<=1000000) :
  Calls prog 84 #[pointer (some ⟨p,0,none⟩),int i64 kind,int i64 img] w fun e w'=>∃ v,e=.returned v∧Below w.heap.size w w' ∧
   w'.ownsRow w.heap.size 43 4 v (Zau S ⟨kind,img⟩).length (kflat (Zau S ⟨kind,img⟩)):=by
 obtain ⟨B,h1⟩:=h.store_open;have c4:=h1.blk 4;have c8:=h1.blk 8;simp [storeCells] at c4 c8;cases ho:S.on with
 | false =>
  rw [ho] at c4;rw [show Zau S ⟨kind,img⟩=[] by simp [Zau,ho]];clear h h1;go_enter func84,ntmps84;go_wp2;go_ret;exact ⟨_,rfl,ZI _ _,rfl,.inl ⟨rfl,rfl⟩⟩
 | true =>
  rw [ho] at c4;rw [show Zau S ⟨kind,img⟩=Zp S ⟨kind,img⟩ by simp [Zau,ho]];obtain ⟨vk,HK,hlk,h3,hback,hput⟩:=(h1.pull 4 _ rfl).look_or (x0:=[]) underlying114 (fun w=>by kernel_rfl) (fun I w l h=>h.row_nil _ _) ⟨kind,img⟩;have hl:=hlk _ (ZI _ _) false;simp only [grpKT,G2.val] at hl;have hown:w.ownsRow 0 43 4 vk (Zp S ⟨kind,img⟩).length (kflat (Zp S ⟨kind,img⟩)):=h3.row_owns;have hsrc:=SliceSrc.of_owns hown (ZqR _);obtain ⟨A,c,rfl⟩:=ZA hown;have HC:=Zh (Zok _ _ _ _ hsrc hn);clear h h1 h3 hback hput hlk hown hsrc;go_enter func84,ntmps84;go_wp2_with fail;refine HC.o.mono ?_;rintro e w2 ⟨v,rfl,h4,h5⟩;have H4:=Zh h4;have H5:=Zh h5;clear h4 h5 HC;go_wp2;go_ret;exact ⟨v,rfl,H5.o,H4.o⟩
end
def newS (room:Int):Str:=⟨max 0 (min room 1048576),0,0,0,true,[],[],[],[],false,0,0,[]⟩
section
variable {p : Nat} {S : Str}
theorem Zl4 (room:Int) (h:St W I w l) :
  Calls prog 33 #[int i64 room] w fun e w'=>∃ p,e=.returned (pointer (some ⟨p,0,none⟩))∧St W I w' (Zj p (newS room)::l):=by
 have hmm:=@run_makeMap prog;have h4:=(((h.alloc (.map #[] 0)).alloc (.map #[] 0)).alloc (.map #[] 0)).alloc (.map #[] 0);have h5:=h4.alloc (cells (storeCells (newS room) ⟨w.heap.size,w.heap.size+1,w.heap.size+1+1,w.heap.size+1+1+1,slice none 0 0⟩) 116);simp only [Zew] at h5;have H5:=Zh h5;clear h h4 h5;go_enter func33,ntmps33;go_wp2;go_ret;have h6:=(H5.o.pull 4 _ rfl).mapOf_made (T:=keyKT) (own:=ZD);have h7:=(h6.pull 4 _ rfl).mapOf_made (T:=keyKT) (own:=ZD);have h8:=(h7.pull 4 _ rfl).mapOf_made (T:=keyKT) (own:=ZbO);have h9:=(h8.pull 4 _ rfl).mapOf_made (T:=grpKT) (own:=Zal);have h10:=St.imm_shut (A:=ZbD (slice none 0 0) []) (Zr7 I) h9;refine ⟨_,rfl,St.store_shut (B:=⟨w.heap.size,w.heap.size+1,w.heap.size+1+1,w.heap.size+1+1+1,slice none 0 0⟩) ?_⟩;exact h10.perm (m:=pt (w.heap.size+1+1+1+1) (cells (storeCells (newS room) ⟨w.heap.size,w.heap.size+1,w.heap.size+1+1,w.heap.size+1+1+1,slice none 0 0⟩) 116)::mapOf keyKT ZD w.heap.size []::mapOf keyKT ZD (w.heap.size+1) []::mapOf keyKT ZbO (w.heap.size+1+1) []::mapOf grpKT Zal (w.heap.size+1+1+1) []::HP.imm (ZbD (slice none 0 0) [])::l) (by ((try simp only [ZE,ZF,ZG,Zu]);repeat (first|with_reducible exact ZK _|(apply ZP;(· repeat (first|with_reducible exact ZO|with_reducible apply ZN))))))
end
theorem Zgg (room:Int):Keeps (newS room) 100000 :=
 ⟨⟨fun g=>List.Pairwise.nil,fun g=>by simp [newS,Zp,get],fun x hx=>(by cases hx),fun x hx=>(by cases hx),fun x hx=>(by cases hx),fun x hx=>(by cases hx)⟩,by simp [newS],by simp [newS],fun x hx=>(by cases hx)⟩
theorem Zlh {keep:List Int} {torn:Int}:∀ {ss:List K4} {i:Nat} {S:Str} {n:Int} {m:Nat},Inv S (ss.length+m)->Inv (fallL keep torn ss i S n).1 m
 | [],_,_,_,m,h=>by simpa [fallL] using h
 | k::ss,i,S,n,m,h=>by
  unfold fallL;exact Zlh (Zr8 (by rw [Z9,show ss.length+1+m=(ss.length+m)+1 by omega] at h;exact h))
theorem Zor {S:Str} {m:Nat} (keep:List Int) (torn:Int) (h:Keeps S m):Keeps (fallS S keep torn).1 m:=by
 unfold fallS;split
 ·have hl:(sortK (S.late.map (·.1))).length=S.late.length:=by rw [(Zlf _).length_eq,Za7]
  have h1:Inv (fallL keep torn (sortK (S.late.map (·.1))) 0 S 0).1 m:=Zlh (by rw [hl];exact h.inv);refine ⟨?_,by simp [ZiD,fuseS],by simp [ZiD,fuseS],fun x hx=>(by cases hx)⟩;show Inv _ (0+m);rw [ZX];exact ⟨h1.rise,h1.many,h1.seen,h1.dry,fun x hx=>(by cases hx),fun x hx=>(by cases hx)⟩
 ·exact h
theorem Zg1 {S:Str} {m:Nat} (h:Keeps S m):Keeps (Z5 S).2 m:=by
 unfold Z5;split
 ·split
  ·refine ⟨⟨h.inv.rise,h.inv.many,h.inv.seen,h.inv.dry,h.inv.late,h.inv.lateN⟩,h.keep,?_,h.lates⟩;have:=h.fuse;constructor <;> simp only <;> omega
  ·exact Zor _ _ h
 ·exact h
theorem Keeps.fewer {S:Str} {m n:Nat} (h:Keeps S m) (hn:n<=m):Keeps S n :=
 ⟨h.inv.fewer (by omega),h.keep,h.fuse,fun x hx=>Zaw (Nat.add_le_add_left hn _) (h.lates x hx)⟩
theorem Zmx {K V:Type} [DecidableEq K] (a:K) (v:V) (L:List (K × V)):(put a v L).length<=L.length+1:=by
 unfold put del;rw [Z9];have:=ZiX (fun p:K × V=>decide (p.1≠a)) L;omega
theorem Zfc {S:Str} {k:K4} {d:Dd} {m:Nat} (hd:d.fits) (h:Keeps S (m+2)):Keeps (doS S k d).2 m:=by
 have hb:=Zg1 h;unfold doS;split
 ·exact hb.fewer (by omega)
 ·simp only;generalize (Z5 S).2=S1 at hb |-;have h1:=Zl2 (k:=k) (was:=wrap64 (sizeO (get k S1.seen))) (m:=S1.late.length+m+1) (hb.inv.fewer (by omega)) (Zga (ZhU hb.inv.seen k) hd);have hk:(showS S1 k (wrap64 (sizeO (get k S1.seen))) (stepD (get k S1.seen) d)).armed=S1.armed:=rfl;have hf:(showS S1 k (wrap64 (sizeO (get k S1.seen))) (stepD (get k S1.seen) d)).fuse=S1.fuse:=rfl;have hl:(showS S1 k (wrap64 (sizeO (get k S1.seen))) (stepD (get k S1.seen) d)).late=S1.late:=rfl;generalize showS S1 k (wrap64 (sizeO (get k S1.seen))) (stepD (get k S1.seen) d)=S2 at h1 hk hf hl |-;have hln:(lateAt S2 k).length+(m+2)<=100000:=by
   unfold lateAt;cases hg:get k S2.late with
   | none=>have h3:=hb.inv.many ⟨0,0⟩;simp only [Option.getD_none,ZaZ];omega
   | some x=>exact hb.lates _ (hl ▸ get_mem hg)
  have hpl:=Zmx k (lateAt S2 k++[d]) S2.late;refine ⟨⟨h1.rise,fun g=>?_,h1.seen,h1.dry,?_,?_⟩,?_,?_,?_⟩
  ·have h3:=h1.many g;rw [<-hl] at h3;show (Zp S2 g).length+((put k (lateAt S2 k++[d]) S2.late).length+m)<=100000;omega
  ·intro x hx d' hd';rcases Z4.1 hx with rfl|hx
   ·rcases Za6.1 hd' with h4|h4
    ·exact (h1.lateAt k).2 d' h4
    ·rw [Zbj.1 h4];exact hd
   ·exact h1.late x (Za4.1 hx).1 d' hd'
  ·intro x hx;rcases Z4.1 hx with rfl|hx
   ·simp only [Zs,Z9,ZaZ];omega
   ·exact h1.lateN x (Za4.1 hx).1
  ·show S2.armed=false;rw [hk];exact hb.keep
  ·show 0<=S2.fuse∧S2.fuse<=_;rw [hf];exact hb.fuse
  ·intro x hx;rcases Z4.1 hx with rfl|hx
   ·simp only [Zs,Z9,ZaZ];omega
   ·have:=hb.lates x (hl ▸ (Za4.1 hx).1);omega
section
variable {P : Program} {k : TypeId} {K : Type} [DecidableEq K] {α : Type}
variable {T : KT P k K} {own : Value -> α -> HP} {W w w2 : World} {b : Nat} {L : List (K × α)}
theorem St.mapOf_len (h:St W I w (mapOf T own b L::l)) {t e:TypeId} (ht:P.underlying t=some (.map k e)) (ty:TypeId) (hw:Below w.heap.size w w2) :
  (Builtin.len_ #[t] ty #[.map (some b)]).run P w2=.ok (int i64 (L.length:Int)) w2:=by
 obtain ⟨M,hp,h⟩:=h.mapOf_open;obtain ⟨es,clock,L1,q,p,s⟩:=h.map_open;have hb:=(hw.block b s.lt).trans s.heap;have hl:es.size=L.length:=by
  have h1:=congrArg List.length q.1;have h2:=p.length_eq;have h3:=hp.length_eq;simp at h1 h2 h3;omega
 simp [Builtin.len_,Zbh ht,MapKept.run_getObj_map hb,goInt,hl]
end
def madeD:Dd:=⟨0,0,[],⟨#[]⟩⟩
def makeS (S:Str) (k:K4):Int × Str :=
 if whyS S k=0 then (5,S) else if whyS S k≠4 then (whyS S k,S) else if 2000<=S.seen.length then (6,S) else (offE (doS S k madeD).1,(doS S k madeD).2)
section
variable {p : Nat} {S : Str}
theorem Zli (k:K4) {m:Nat} (h:St W I w (Zj p S::l)) (hk:Keeps S m) :
  Calls prog 72 #[pointer (some ⟨p,0,none⟩),k.val] w fun e w'=>∃ I',I.sub I'∧e=.returned (int i64 (makeS S k).1)∧St W I' w' (Zj p (makeS S k).2::l):=by
 have hth:=Zdg k (h.alloc (cells #[int i64 k.kind,int i64 k.img,int i64 k.num,int i64 k.snap] 43) |>.pull 1 _ rfl);obtain ⟨k0,k1,k2,k3⟩:=k;simp only [K4.val] at hth |-;have HT:=Zh hth;clear hth;go_enter func72,ntmps72;go_wp2_with fail;refine HT.o.mono ?_;clear HT;rintro e w2 ⟨hb,h2,⟨hw,rfl⟩|⟨q,t,B,hw,hg,rfl,h3⟩⟩
 ·by_cases h4:whyS S ⟨k0,k1,k2,k3⟩=4
  ·rw [h4];obtain ⟨B,h5⟩:=h2.store_open;have c5:=h5.blk 5;simp [storeCells] at c5;have hlen:=fun ty=>(h5.pull 1 _ rfl).mapOf_len underlying112 ty (ZI _ _);by_cases hn:2000<=S.seen.length
   ·have HDS:=Zh (show makeS S ⟨k0,k1,k2,k3⟩=(6,S) by simp [makeS,h4,hn]);have H2:=Zh h2;have hn':(2000:Int)<=(S.seen.length:Int):=by omega
    clear h2 h5 hb hw h4 h hk hn;go_wp2;go_ret;rw [HDS.o];exact ⟨I,Hp.sub.refl _,rfl,(H2.o.pull 1 _ rfl).drop⟩
   ·have HDS:=Zh (show makeS S ⟨k0,k1,k2,k3⟩=(offE (doS S ⟨k0,k1,k2,k3⟩ madeD).1,(doS S ⟨k0,k1,k2,k3⟩ madeD).2) by simp [makeS,h4,hn]);have hxk:=(h2.pull 1 _ rfl).heap;have x0:=Zc hxk 0;have x1:=Zc hxk 1;have x2:=Zc hxk 2;have x3:=Zc hxk 3;simp at x0 x1 x2 x3;have H2:=Zh h2;have HK:=Zh hk;have hn':decide ((2000:Int)<=(S.seen.length:Int))=false:=by rw [ZT];omega
    clear h2 h5 hb hw h4 h hk hxk hn;go_wp2_with fail;have hdo:=ZdB ⟨k0,k1,k2,k3⟩ madeD (slice none 0 0) H2.o (Zgf I) (by unfold Dd.fits Dd.good madeD;simp) HK.o.keep HK.o.fuse (HK.o.inv.fewer (Zdp _ _));simp only [K4.val,madeD] at hdo;refine hdo.mono ?_;rintro e w3 ⟨I3,hs3,rfl,h3⟩;have H3:=Zh h3;have HS3:=Zh hs3;clear h3 hs3 hdo;go_wp2;go_ret;rw [HDS.o];exact ⟨I3,HS3.o,rfl,(H3.o.pull 1 _ rfl).drop⟩
  ·have b0:(whyS S ⟨k0,k1,k2,k3⟩==0)=false:=by simpa using hw
   have b4:(whyS S ⟨k0,k1,k2,k3⟩ != 4)=true:=by simpa using h4
   have HDS:=Zh (show makeS S ⟨k0,k1,k2,k3⟩=(whyS S ⟨k0,k1,k2,k3⟩,S) by simp [makeS,hw,h4]);have H2:=Zh h2;clear h2 hb hw h4 h hk;go_wp2;go_ret;rw [HDS.o];exact ⟨I,Hp.sub.refl _,rfl,(H2.o.pull 1 _ rfl).drop⟩
 ·have HDS:=Zh (show makeS S ⟨k0,k1,k2,k3⟩=(5,S) by simp [makeS,hw]);have H2:=Zh h2;clear h2 h3 hb hw hg h hk;go_wp2;go_ret;rw [HDS.o];exact ⟨I,Hp.sub.refl _,rfl,(H2.o.pull 1 _ rfl).drop⟩
end
def roomS (S:Str):Int:=max 0 (wrap64 (S.room - S.used))
def ZbQ (off:Int) (p:List Int):Dd:=⟨1,off,p,⟨#[]⟩⟩
def ZbW (S:Str) (t:TS) (off:Int) (p:List Int):Int :=
 if off<0∨16384<(p.length:Int)∨16384 - (p.length:Int)<off then 3 else if p≠[]∧roomS S<off+p.length - t.b.length then 6 else 0
def ZbA (S:Str) (k:K4) (off:Int) (p:List Int):Int × Str :=
 match get k S.seen with
 | none=>(whyS S k,S)
 | some t=>if whyS S k≠0 then (whyS S k,S) else if ZbW S t off p≠0 then (ZbW S t off p,S) else (offE (doS S k (ZbQ off p)).1,(doS S k (ZbQ off p)).2)
theorem Zhu {S:Str} {k:K4} {off:Int} {p:List Int} (h:whyS S k≠0):ZbA S k off p=(whyS S k,S):=by
 unfold ZbA;split <;> simp [h]
theorem Zhv {S:Str} {k:K4} {off:Int} {p:List Int} {t:TS} (h:whyS S k=0) (hg:get k S.seen=some t) (hw:ZbW S t off p≠0):ZbA S k off p=(ZbW S t off p,S):=by
 simp [ZbA,h,hg,hw]
theorem Zgh {S:Str} {k:K4} {off:Int} {p:List Int} {t:TS} (h:whyS S k=0) (hg:get k S.seen=some t) (hw:ZbW S t off p=0):ZbA S k off p=(offE (doS S k (ZbQ off p)).1,(doS S k (ZbQ off p)).2):=by
 simp [ZbA,h,hg,hw]
section
variable {p : Nat} {S : Str}
theorem Zkq (k:K4) (off:Int) (pv:Value) (b:List Int) {m:Nat} (h:St W I w (Zj p S::l)) (hk:Keeps S m) (hp:SliceSrc w 1 pv b.length (b.map byteV)) (hbl:b.length<=1000000000) :
  Calls prog 133 #[pointer (some ⟨p,0,none⟩),k.val,int i64 off,pv] w fun e w'=>∃ I',I.sub I'∧e=.returned (int i64 (ZbA S k off b).1)∧St W I' w' (Zj p (ZbA S k off b).2::l):=by
 have hth:=Zdg k (h.alloc (cells #[int i64 k.kind,int i64 k.img,int i64 k.num,int i64 k.snap] 43) |>.pull 1 _ rfl);have HSR:=Zh hp;obtain ⟨Ap,cp,rfl,_⟩:=hp;obtain ⟨k0,k1,k2,k3⟩:=k;simp only [K4.val] at hth |-;have HT:=Zh hth;clear hth;have hbn:(b.length:Int)<=1000000000:=by omega
 go_enter func133,ntmps133;go_wp2_with fail;refine HT.o.mono ?_;clear HT;rintro e w2 ⟨hb,h2,⟨hw,rfl⟩|⟨q,t,B,hw,hg,rfl,h3⟩⟩
 ·have HDS:=Zh (Zhu (S:=S) (k:=⟨k0,k1,k2,k3⟩) (off:=off) (p:=b) hw);have H2:=Zh h2;have b0:(whyS S ⟨k0,k1,k2,k3⟩ != 0)=true:=by simpa using hw
  clear h2 hb hw h hk;go_wp2;go_ret;rw [HDS.o];exact ⟨I,Hp.sub.refl _,rfl,(H2.o.pull 1 _ rfl).drop⟩
 ·obtain ⟨bt,mt,vb,hq,h4⟩:=St.thing_open (v:=pointer q) (t:=t) h3;simp only [Zev] at hq;subst hq;obtain ⟨Ab,cb,rfl⟩:=ZA (h4.pull 1 _ rfl).row_owns;have c0:=Zc h4.heap 0;have ltb:=h4.lt;simp at c0;by_cases hc:off<0∨16384<(b.length:Int)∨16384 - (b.length:Int)<off
  ·have HDS:=Zh ((Zhv (S:=S) (off:=off) (p:=b) hw hg (by simp [ZbW,hc])).trans (show (ZbW S t off b,S)=(3,S) by simp [ZbW,hc]));have H2:=Zh h2;clear h2 h3 h4 hb hw hg h hk c0 ltb;by_cases ha:off<0
   ·go_wp2;go_ret;rw [HDS.o];exact ⟨I,Hp.sub.refl _,rfl,(H2.o.pull 1 _ rfl).drop⟩
   ·by_cases ha2:16384<(b.length:Int)
    ·go_wp2;go_ret;rw [HDS.o];exact ⟨I,Hp.sub.refl _,rfl,(H2.o.pull 1 _ rfl).drop⟩
    ·have ha3:16384 - (b.length:Int)<off:=by omega
     go_wp2;go_ret;rw [HDS.o];exact ⟨I,Hp.sub.refl _,rfl,(H2.o.pull 1 _ rfl).drop⟩
  ·have ha:¬ off<0:=by omega
   have ha2:¬ 16384<(b.length:Int):=by omega
   have ha3:¬ 16384 - (b.length:Int)<off:=by omega
   have hsm:t.b.length<=20480:=(hk.inv.seen _ (get_mem hg)).1;have hfit:(ZbQ off b).fits:=by
    unfold Dd.fits Dd.good ZbQ;simp;omega
   have hxk:=(h2.pull 1 _ rfl).heap;have x0:=Zc hxk 0;have x1:=Zc hxk 1;have x2:=Zc hxk 2;have x3:=Zc hxk 3;simp at x0 x1 x2 x3;have HFIT:=Zh hfit;have HK:=Zh hk;have HB:=Zh hb;have HOK:=fun h0=>Zh (Zgh (S:=S) (off:=off) (p:=b) hw hg h0);have HBAD:=fun h0=>Zh (Zhv (S:=S) (off:=off) (p:=b) hw hg h0);have H2:=Zh h2;have hwd:ZbW S t off b=if b≠[]∧roomS S<off+b.length - t.b.length then 6 else 0:=by simp [ZbW,hc]
   have HWD:=Zh hwd;have HHK:=Zh HOK;have HHB:=Zh HBAD;clear h2 h3 h4 hb hw hg h hk hxk hfit HOK HBAD hc hwd;by_cases hb0:b=[]
   ·have HDS:=HHK.o (by rw [HWD.o];simp [hb0]);have hl0:decide (0<b.length)=false:=by simp [hb0]
    have HB0:=Zh hb0;clear hb0 HHK HHB HWD;go_wp2_with fail;go_quiet (fail);have HA:=Zh (H2.o.drewN nq);have HSA:=Zh (HSR.o.below (((ZS _ _).trans (HB.o.mono (by simp))).trans (⟨rfl,rfl,rfl,ZC _,fun _ _=>rfl⟩:Below w.heap.size w2 (w2.drewN nq))));have x0a:(w2.drewN nq).cell? ⟨w.heap.size,0,none⟩=some (int i64 k0):=x0;have x1a:(w2.drewN nq).cell? ⟨w.heap.size,1,none⟩=some (int i64 k1):=x1;have x2a:(w2.drewN nq).cell? ⟨w.heap.size,2,none⟩=some (int i64 k2):=x2;have x3a:(w2.drewN nq).cell? ⟨w.heap.size,3,none⟩=some (int i64 k3):=x3;obtain ⟨wa,hwa⟩:∃ wa,w2.drewN nq=wa:=⟨_,rfl⟩;rw [hwa] at HA HSA x0a x1a x2a x3a |-;clear hwa x0 x1 x2 x3 c0 H2 HB;go_wp2_with fail;refine Zay (fun w'=>w'.cell? ⟨w.heap.size,0,none⟩=some (int i64 k0)∧w'.cell? ⟨w.heap.size,1,none⟩=some (int i64 k1)∧w'.cell? ⟨w.heap.size,2,none⟩=some (int i64 k2)∧w'.cell? ⟨w.heap.size,3,none⟩=some (int i64 k3)) [0,1,2,3] [4,5] [6,7] (by kernel_rfl) (by kernel_rfl) (by (exact ⟨x0a,x1a,x2a,x3a⟩)) ?_;simp only [pickL,Zg,Zi];repeat (refine ZM _ (Or.inl ⟨by rfl,by (intro w hSw;(try dsimp only at hSw);go_simp;try with_reducible rfl)⟩) ?_;(try go_frame))
    refine Z7 ?_;unfold Zr;go_wp2_with fail;refine (Zbk _ b.length (b.map byteV) _ (HSA.o.below (ZI _ _).drew) (by omega)).mono ?_;rintro e w4 ⟨v4,rfl,ho4,hb4⟩;obtain ⟨A4,c4,rfl⟩:=ZA ho4;obtain ⟨I4,hI4,hB4,h5⟩:=ZbU HA.o.drew hb4 ho4;have hxk:=(h5.pull 1 _ rfl).heap;have y0:=Zc hxk 0;have y1:=Zc hxk 1;have y2:=Zc hxk 2;have y3:=Zc hxk 3;simp at y0 y1 y2 y3;have H5:=Zh h5;have HI4:=Zh hI4;have HB4:=Zh hB4;clear h5 hI4 hB4 hb4 ho4 hxk x0a x1a x2a x3a;go_wp2;refine Zm ⟨y0,y1,y2,y3⟩ ?_;unfold Zr;go_wp2;refine Zm ⟨y0,y1,y2,y3⟩ ?_;unfold Zr;go_wp2_with fail;have hdo:=ZdB ⟨k0,k1,k2,k3⟩ (ZbQ off b) (slice A4 b.length c4) H5.o HB4.o HFIT.o HK.o.keep HK.o.fuse (HK.o.inv.fewer (Zdp _ _));simp only [K4.val,ZbQ] at hdo;refine hdo.mono ?_;rintro e w6 ⟨I6,hs6,rfl,h6⟩;have H6:=Zh h6;have HS6:=Zh hs6;clear h6 hs6 hdo;go_wp2;refine Zw ?_;go_wp2;go_ret;rw [HDS.o];exact ⟨I6,HI4.o.trans HS6.o,rfl,(H6.o.pull 1 _ rfl).drop⟩
   ·have hl0:decide (0<b.length)=true:=by
     rw [Zk];exact ZgN.2 hb0
    have hs1:IntKind.i64.wrap (off+(b.length:Int))=off+b.length:=IntWalk.i64_in _ (by omega);have hs2:IntKind.i64.wrap (off+(b.length:Int) - (t.b.length:Int))=off+b.length - t.b.length:=IntWalk.i64_in _ (by omega);clear hsm;go_wp2_with fail;refine Zay (fun w'=>w'.cell? ⟨bt,0,none⟩=some (slice Ab t.b.length cb)) [0,1,2,3,4,5,6,7,8,9,10,11,12,13,14] [15] [16,17,18] (by kernel_rfl) (by kernel_rfl) (by (exact c0)) ?_;simp only [pickL,Zg,Zi];repeat (refine ZM _ (Or.inl ⟨by rfl,by (intro w hSw;(try dsimp only at hSw);go_simp;try with_reducible rfl)⟩) ?_;(try go_frame))
    refine Z7 ?_;unfold Zr;go_wp2_with fail;refine (Zfn H2.o.drew).mono ?_;rintro e w3 ⟨rfl,hb3⟩;have c03:=(hb3.cell (p:=⟨bt,0,none⟩) ltb).trans c0;have HB3:=Zh hb3;clear hb3 c0;go_wp2;refine Zm c03 ?_;unfold Zr;rw [show max 0 (wrap64 (S.room - S.used))=roomS S from rfl];have HB0:=Zh hb0;by_cases hf:roomS S<off+(b.length:Int) - (t.b.length:Int)
    ·have hfd:decide (roomS S<off+(b.length:Int) - (t.b.length:Int))=true:=by simpa using hf
     have h6:ZbW S t off b=6:=by rw [HWD.o,Zb ⟨hb0,hf⟩]
     have HDS:=Zh ((HHB.o (by rw [h6];decide)).out);have H6:=Zh h6;clear hf hb0 h6 HHB HHK HWD c03;go_wp2;refine Zw ?_;go_wp2;go_ret;rw [HDS.o,H6.o];exact ⟨I,Hp.sub.refl _,rfl,((H2.o.drew.keep HB3.o).pull 1 _ rfl).drop⟩
    ·have hfd:decide (roomS S<off+(b.length:Int) - (t.b.length:Int))=false:=by simpa using hf
     have HDS:=(HHK.o (by rw [HWD.o,Za (fun h=>hf h.2)]));have HA:=Zh (H2.o.drew.keep HB3.o);have HSA:=Zh (HSR.o.below (((ZS _ _).trans (HB.o.mono (by simp))).trans ((ZI _ _).drew.trans (HB3.o.mono (by have:=HB.o.size;simp at this |-;omega)))));have hxk:=(HA.o.pull 1 _ rfl).heap;have x0a:=Zc hxk 0;have x1a:=Zc hxk 1;have x2a:=Zc hxk 2;have x3a:=Zc hxk 3;simp at x0a x1a x2a x3a;clear hf hb0 HHB HHK HWD c03 hxk x0 x1 x2 x3 H2 HB HB3;go_wp2;refine Zw ?_;clear hfd hl0 hs1 hs2;go_wp2_with fail;refine Zay (fun w'=>w'.cell? ⟨w.heap.size,0,none⟩=some (int i64 k0)∧w'.cell? ⟨w.heap.size,1,none⟩=some (int i64 k1)∧w'.cell? ⟨w.heap.size,2,none⟩=some (int i64 k2)∧w'.cell? ⟨w.heap.size,3,none⟩=some (int i64 k3)) [0,1,2,3] [4,5] [6,7] (by kernel_rfl) (by kernel_rfl) (by (exact ⟨x0a,x1a,x2a,x3a⟩)) ?_;simp only [pickL,Zg,Zi];repeat (refine ZM _ (Or.inl ⟨by rfl,by (intro w hSw;(try dsimp only at hSw);go_simp;try with_reducible rfl)⟩) ?_;(try go_frame))
     refine Z7 ?_;unfold Zr;go_wp2_with fail;refine (Zbk _ b.length (b.map byteV) _ (HSA.o.below (ZI _ _).drew) (by omega)).mono ?_;rintro e w4 ⟨v4,rfl,ho4,hb4⟩;obtain ⟨A4,c4,rfl⟩:=ZA ho4;obtain ⟨I4,hI4,hB4,h5⟩:=ZbU HA.o.drew hb4 ho4;have hxk:=(h5.pull 1 _ rfl).heap;have y0:=Zc hxk 0;have y1:=Zc hxk 1;have y2:=Zc hxk 2;have y3:=Zc hxk 3;simp at y0 y1 y2 y3;have H5:=Zh h5;have HI4:=Zh hI4;have HB4:=Zh hB4;clear h5 hI4 hB4 hb4 ho4 hxk x0a x1a x2a x3a;go_wp2;refine Zm ⟨y0,y1,y2,y3⟩ ?_;unfold Zr;go_wp2;refine Zm ⟨y0,y1,y2,y3⟩ ?_;unfold Zr;go_wp2_with fail;have hdo:=ZdB ⟨k0,k1,k2,k3⟩ (ZbQ off b) (slice A4 b.length c4) H5.o HB4.o HFIT.o HK.o.keep HK.o.fuse (HK.o.inv.fewer (Zdp _ _));simp only [K4.val,ZbQ] at hdo;refine hdo.mono ?_;rintro e w6 ⟨I6,hs6,rfl,h6⟩;have H6:=Zh h6;have HS6:=Zh hs6;clear h6 hs6 hdo;go_wp2;refine Zw ?_;go_wp2;go_ret;rw [HDS.o];exact ⟨I6,HI4.o.trans HS6.o,rfl,(H6.o.pull 1 _ rfl).drop⟩
end
def ZaJ (S:Str) (k:K4) (p:List Int):Int × Str :=
 match get k S.seen with
 | none=>(whyS S k,S)
 | some t=>ZbA S k t.b.length p
theorem Zos {S:Str} {k:K4} {p:List Int} (h:whyS S k≠0):ZaJ S k p=(whyS S k,S):=by
 unfold ZaJ;split
 ·rfl
 ·exact Zhu h
section
variable {p : Nat} {S : Str}
theorem Zot (k:K4) (pv:Value) (b:List Int) {m:Nat} (h:St W I w (Zj p S::l)) (hk:Keeps S m) (hp:SliceSrc w 1 pv b.length (b.map byteV)) (hbl:b.length<=1000000000) :
  Calls prog 73 #[pointer (some ⟨p,0,none⟩),k.val,pv] w fun e w'=>∃ I',I.sub I'∧e=.returned (int i64 (ZaJ S k b).1)∧St W I' w' (Zj p (ZaJ S k b).2::l):=by
 have hth:=Zdg k (h.alloc (cells #[int i64 k.kind,int i64 k.img,int i64 k.num,int i64 k.snap] 43) |>.pull 1 _ rfl);have HSR:=Zh hp;obtain ⟨Ap,cp,rfl,_⟩:=hp;obtain ⟨k0,k1,k2,k3⟩:=k;simp only [K4.val] at hth |-;have HT:=Zh hth;clear hth;go_enter func73,ntmps73;go_wp2_with fail;refine HT.o.mono ?_;clear HT;rintro e w2 ⟨hb,h2,⟨hw,rfl⟩|⟨q,t,B,hw,hg,rfl,h3⟩⟩
 ·have HDS:=Zh (Zos (S:=S) (k:=⟨k0,k1,k2,k3⟩) (p:=b) hw);have H2:=Zh h2;have b0:(whyS S ⟨k0,k1,k2,k3⟩ != 0)=true:=by simpa using hw
  clear h2 hb hw h hk;go_wp2;go_ret;rw [HDS.o];exact ⟨I,Hp.sub.refl _,rfl,(H2.o.pull 1 _ rfl).drop⟩
 ·obtain ⟨bt,mt,vb,hq,h4⟩:=St.thing_open (v:=pointer q) (t:=t) h3;simp only [Zev] at hq;subst hq;obtain ⟨Ab,cb,rfl⟩:=ZA (h4.pull 1 _ rfl).row_owns;have c0:=Zc h4.heap 0;simp at c0;have hxk:=(h2.pull 1 _ rfl).heap;have x0:=Zc hxk 0;have x1:=Zc hxk 1;have x2:=Zc hxk 2;have x3:=Zc hxk 3;simp at x0 x1 x2 x3;have HDS:=Zh (show ZaJ S ⟨k0,k1,k2,k3⟩ b=ZbA S ⟨k0,k1,k2,k3⟩ t.b.length b by simp [ZaJ,hg]);have HSA:=Zh (HSR.o.below ((ZS _ _).trans (hb.mono (by simp))));have H2:=Zh h2;have HK:=Zh hk;clear h2 h3 h4 hb hw hg h hk hxk;go_wp2_with fail;refine ZaM [0,2,3,4,7] [1,5,6] [8,9] (by kernel_rfl) (by kernel_rfl) ?_;simp only [pickL,Zg,Zi];repeat (refine ZaE _ (Or.inl ⟨by rfl,by intro w;go_simp;try with_reducible rfl⟩) ?_;(try go_frame))
  refine ZaF ?_;repeat still_step
  refine ZaQ ?_;go_wp2_with fail;have hdo:=Zkq ⟨k0,k1,k2,k3⟩ t.b.length _ b H2.o.drew HK.o (HSA.o.below (ZI _ _).drew) hbl;simp only [K4.val] at hdo;refine hdo.mono ?_;rintro e w3 ⟨I3,hs3,rfl,h3⟩;have H3:=Zh h3;have HS3:=Zh hs3;clear h3 hs3 hdo;go_wp2;refine Zw ?_;go_wp2;go_ret;rw [HDS.o];exact ⟨I3,HS3.o,rfl,(H3.o.pull 1 _ rfl).drop⟩
end
def readS (S:Str) (k:K4) (off n:Int):List Int × Int :=
 if whyS S k=0 then
  match get k S.seen with
  | none=>([],4)
  | some t=>if off<0∨(t.b.length:Int)<off∨n<0 then ([],3) else ((t.b.drop off.toNat).take (min n.toNat (t.b.length - off.toNat)),0)
 else ([],whyS S k)
section
variable {p : Nat} {S : Str}
theorem Zr9 (k:K4) (off n:Int) (h:St W I w (Zj p S::l)) (hbad:(readS S k off n).2≠0) :
  Calls prog 23 #[pointer (some ⟨p,0,none⟩),k.val,int i64 off,int i64 n] w fun e w'=>Below w.heap.size w w'∧e=.returned (.tuple #[slice none 0 0,int i64 (readS S k off n).2]):=by
 have hth:=Zdg k (h.alloc (cells #[int i64 k.kind,int i64 k.img,int i64 k.num,int i64 k.snap] 43) |>.pull 1 _ rfl);have hbl:=(ZI w.heap.size w).alloc (ZC _) (cells #[int i64 k.kind,int i64 k.img,int i64 k.num,int i64 k.snap] 43);obtain ⟨k0,k1,k2,k3⟩:=k;simp only [K4.val] at hth |-;have HT:=Zh hth;have HBL:=Zh hbl;clear hth hbl;go_enter func23,ntmps23;go_wp2_with fail;refine HT.o.mono ?_;clear HT;rintro e w2 ⟨hb,h2,⟨hw,rfl⟩|⟨q,t,B,hw,hg,rfl,h3⟩⟩
 ·have HW:=Zh hw;have HB:=Zh (HBL.o.trans (hb.mono (by simp)));have HDS:=Zh (show (readS S ⟨k0,k1,k2,k3⟩ off n).2=whyS S ⟨k0,k1,k2,k3⟩ by simp [readS,hw]);clear h2 hb hbad;go_wp2;go_ret2;rw [HDS.o];exact ⟨HB.o,rfl⟩
 ·obtain ⟨bt,mt,vb,hq,h4⟩:=St.thing_open (v:=pointer q) (t:=t) h3;simp only [Zev] at hq;subst hq;obtain ⟨Ab,cb,rfl⟩:=ZA (h4.pull 1 _ rfl).row_owns;have b0:=Zc h4.heap 0;simp at b0;have HB:=Zh (HBL.o.trans (hb.mono (by simp)));have hc:off<0∨(t.b.length:Int)<off∨n<0:=by
   by_cases hc:off<0∨(t.b.length:Int)<off∨n<0
   ·exact hc
   ·exact absurd (by simp [readS,hw,hg,hc]) hbad
  have HDS:=Zh (show (readS S ⟨k0,k1,k2,k3⟩ off n).2=3 by simp [readS,hw,hg,hc]);clear h2 h3 h4 hb hw hg h hbad;by_cases ha:off<0
  ·go_wp2;go_ret2;rw [HDS.o];exact ⟨HB.o,rfl⟩
  ·by_cases hb2:(t.b.length:Int)<off
   ·go_wp2;go_ret2;rw [HDS.o];exact ⟨HB.o,rfl⟩
   ·have hn:n<0:=by omega
    go_wp2;go_ret2;rw [HDS.o];exact ⟨HB.o,rfl⟩
end
theorem Zpr {w:World} {s:Nat} {A:Option Addr} {n c lo hi:Nat} {xs:List Value} (h:SliceSrc w s (slice A n c) n xs) (hnc:n<=c) (h1:lo<=hi) (h2:hi<=n) :
  SliceSrc w s (sliced A lo hi c s) (hi - lo) ((xs.drop (lo*s)).take ((hi - lo)*s)):=by
 obtain ⟨A1,c1,e,hsrc,hA⟩:=h;simp only [Zz,ZaR] at e;obtain ⟨rfl,rfl⟩:=e;unfold sliced;refine ⟨_,_,rfl,⟨?_,fun hp=>?_,fun u hu=>hsrc.one u (Zda (ZbI hu))⟩,fun e=>?_⟩
 ·have:=hsrc.len;rw [ZJ,ZW,this];have h3:(hi - lo)*s+lo*s<=n*s:=by rw [<-ZcK];exact Zdb _ (by omega)
  omega
 ·obtain ⟨ad,rfl,hc⟩:=hsrc.cells (by omega);have hne:¬ c=lo:=by omega
  rw [Za hne];refine ⟨_,rfl,fun j u hu=>?_⟩;rw [ZcG] at hu;split at hu
  ·rw [Zbw] at hu;have:=hc _ u hu;rw [<-this];congr 1;unfold Addr.add;split <;> split <;> (try split) <;> (try omega) <;> simp_all <;> omega
  ·cases hu
 ·split at e
  ·rw [hA e];simp
  ·cases A with
   | none=>rw [hA rfl];simp
   | some a=>cases e
section
variable {p : Nat} {S : Str}
theorem ZsT (k:K4) (off n:Int) (h:St W I w (Zj p S::l)) (hgood:(readS S k off n).2=0) (hsm:∀ x ∈ S.seen,x.2.b.length<=1000000) :
  Calls prog 23 #[pointer (some ⟨p,0,none⟩),k.val,int i64 off,int i64 n] w fun e w'=>Below w.heap.size w w'∧∃ v,e=.returned (.tuple #[v,int i64 0])∧w'.ownsRow w.heap.size 5 1 v (readS S k off n).1.length ((readS S k off n).1.map byteV):=by
 have hth:=Zdg k (h.alloc (cells #[int i64 k.kind,int i64 k.img,int i64 k.num,int i64 k.snap] 43) |>.pull 1 _ rfl);have hbl:=(ZI w.heap.size w).alloc (ZC _) (cells #[int i64 k.kind,int i64 k.img,int i64 k.num,int i64 k.snap] 43);obtain ⟨k0,k1,k2,k3⟩:=k;simp only [K4.val] at hth |-;have HT:=Zh hth;have HBL:=Zh hbl;clear hth hbl;go_enter func23,ntmps23;go_wp2_with fail;refine HT.o.mono ?_;clear HT;rintro e w2 ⟨hb,h2,⟨hw,rfl⟩|⟨q,t,B,hw,hg,rfl,h3⟩⟩
 ·exact absurd hgood (by simp [readS,hw])
 ·obtain ⟨bt,mt,vb,hq,h4⟩:=St.thing_open (v:=pointer q) (t:=t) h3;simp only [Zev] at hq;subst hq;have hown:=(h4.pull 1 _ rfl).row_owns;have hcap:∀ A c,vb=slice A t.b.length c->t.b.length<=c:=by
   rintro A c rfl;rcases hown.2 with ⟨e1,e2⟩|⟨g,cap,cur,e1,_,_,h1,_⟩
   ·simp only [Zz] at e1;omega
   ·simp only [Zz] at e1;omega
  obtain ⟨Ab,cb,rfl⟩:=ZA hown;have hcap:=hcap _ _ rfl;have hsrc:SliceSrc w2 1 (slice Ab t.b.length cb) t.b.length (t.b.map byteV):=SliceSrc.of_owns hown (Zcb _);have b0:=Zc h4.heap 0;simp at b0;have HB:=Zh (HBL.o.trans (hb.mono (by simp)));have hc:¬ (off<0∨(t.b.length:Int)<off∨n<0):=fun hc=>by simp [readS,hw,hg,hc] at hgood
  have htl:=hsm _ (get_mem hg);obtain ⟨o,rfl⟩:∃ o:Nat,off=o:=⟨off.toNat,by omega⟩;obtain ⟨n,rfl⟩:∃ n':Nat,n=n':=⟨n.toNat,by omega⟩;obtain ⟨j,hj⟩:∃ j,min n (t.b.length - o)=j:=⟨_,rfl⟩;have hrd:(readS S ⟨k0,k1,k2,k3⟩ o n).1=(t.b.drop o).take j:=by
   simp [readS,hw,hg];rw [Za (by omega)];simp [hj]
  have HRD:=Zh hrd;have hmin:min (n:Int) ((t.b.length:Int) - (o:Int))=(j:Int):=by omega
  have hsum:IntKind.i64.wrap ((o:Int)+(j:Int))=((o+j:Nat):Int):=by rw [Zx];simp only at htl;omega
  have hdif:IntKind.i64.wrap ((t.b.length:Int) - (o:Int))=(t.b.length:Int) - o:=by rw [Zx];simp only at htl;omega
  have hoj:o+j<=t.b.length:=by omega
  have hoc:o+j<=cb:=by omega
  have hps:=Zpr (lo:=o) (hi:=o+j) hsrc hcap (by omega) hoj;rw [show o+j - o=j by omega,Zcj,Zcj,<-ZeY,<-Zd8] at hps;have hon:o<=t.b.length:=by omega
  have HSL:=Zh hps;have htl2:t.b.length<=1000000:=htl;have HJ:=Zh hj;clear h2 h3 h4 hb hw hg h hgood hsrc hown hrd hps hsm hj htl hcap;have HJL:=Zh (show ((t.b.drop o).take j).length=j by rw [ZJ,ZW];omega);clear hcap;by_cases hco:cb=o
  ·obtain rfl:j=0:=by omega
   have HSM:Hid (SliceSrc w2 1 (slice Ab 0 0) 0 (List.map byteV (List.take 0 (List.drop o t.b)))):=Zh (by have:=HSL.o;simpa [sliced,hco] using this);clear HSL HJ;go_wp2_with fail;refine ZaM [0,1,2,4,5,6,7,8,9,12] [3,10,11,13,14,15] [16,17,18,19] (by kernel_rfl) (by kernel_rfl) ?_;simp only [pickL,Zg,Zi];repeat (refine ZaE _ (Or.inl ⟨by rfl,by intro w;go_simp;try with_reducible rfl⟩) ?_;(try go_frame))
   refine ZaF ?_;repeat still_step
   refine ZaQ ?_;go_wp2_with fail;refine (Zbk _ _ _ _ (HSM.o.below (ZI _ _).drew) (by omega)).mono ?_;rintro e w4 ⟨v4,rfl,ho4,hb4⟩;have HO4:=Zh ho4;have HB4:=Zh ((HB.o.drew).trans (hb4.mono HB.o.size));have HLE:=Zh HB.o.size;clear ho4 hb4 HSM hmin hsum hdif;go_wp2;refine Zw ?_;go_wp2;go_ret2;rw [HRD.o,HJL.o];exact ⟨HB4.o,v4,rfl,Zg0 HO4.o HLE.o⟩
  ·have HSM:Hid (SliceSrc w2 1 (slice (Option.map (fun x=>x.add o) Ab) j (cb - o)) j (List.map byteV (List.take j (List.drop o t.b)))):=Zh (by have:=HSL.o;simpa [sliced,hco] using this);clear HSL HJ;go_wp2_with fail;refine ZaM [0,1,2,4,5,6,7,8,9,12] [3,10,11,13,14,15] [16,17,18,19] (by kernel_rfl) (by kernel_rfl) ?_;simp only [pickL,Zg,Zi];repeat (refine ZaE _ (Or.inl ⟨by rfl,by intro w;go_simp;try with_reducible rfl⟩) ?_;(try go_frame))
   refine ZaF ?_;repeat still_step
   refine ZaQ ?_;go_wp2_with fail;refine (Zbk _ _ _ _ (HSM.o.below (ZI _ _).drew) (by omega)).mono ?_;rintro e w4 ⟨v4,rfl,ho4,hb4⟩;have HO4:=Zh ho4;have HB4:=Zh ((HB.o.drew).trans (hb4.mono HB.o.size));have HLE:=Zh HB.o.size;clear ho4 hb4 HSM hmin hsum hdif;go_wp2;refine Zw ?_;go_wp2;go_ret2;rw [HRD.o,HJL.o];exact ⟨HB4.o,v4,rfl,Zg0 HO4.o HLE.o⟩
theorem Zlj (k:K4) (off n:Int) {m:Nat} (h:St W I w (Zj p S::l)) (hk:Inv S m) :
  Calls prog 23 #[pointer (some ⟨p,0,none⟩),k.val,int i64 off,int i64 n] w fun e w'=>Below w.heap.size w w'∧∃ v,e=.returned (.tuple #[v,int i64 (readS S k off n).2])∧w'.ownsRow w.heap.size 5 1 v (readS S k off n).1.length ((readS S k off n).1.map byteV):=by
 by_cases h0:(readS S k off n).2=0
 ·rw [h0];exact ZsT k off n h h0 fun x hx=>by have:=(hk.seen x hx).1;omega
 ·refine (Zr9 k off n h h0).mono ?_;rintro e w' ⟨hb,rfl⟩;have e1:(readS S k off n).1=[]:=by
   unfold readS at h0 |-;split
   ·rename_i h1;rw [Zb h1] at h0;split
    ·rfl
    ·rename_i t ht;split
     ·rfl
     ·rename_i h2;simp only [ht,h2,Zas] at h0;exact absurd trivial h0
   ·rfl
  rw [e1];exact ⟨hb,_,rfl,ZeU _ _ _ _⟩
end
def attrS (S:Str) (k:K4) (nm:ByteArray):List Int × Int :=
 if whyS S k=0 then
  match get k S.seen with
  | none=>([],4)
  | some t=>match get nm t.attr with
   | none=>([],4)
   | some v=>(v,0)
 else ([],whyS S k)
section
variable {p : Nat} {S : Str}
theorem ZhW (k:K4) (nm:ByteArray) {m:Nat} (h:St W I w (Zj p S::l)) (hk:Inv S m) :
  Calls prog 143 #[pointer (some ⟨p,0,none⟩),k.val,.string nm] w fun e w'=>Below w.heap.size w w'∧∃ v,e=.returned (.tuple #[v,int i64 (attrS S k nm).2])∧w'.ownsRow w.heap.size 5 1 v (attrS S k nm).1.length ((attrS S k nm).1.map byteV):=by
 have hth:=Zdg k (h.alloc (cells #[int i64 k.kind,int i64 k.img,int i64 k.num,int i64 k.snap] 43) |>.pull 1 _ rfl);have hbl:=(ZI w.heap.size w).alloc (ZC _) (cells #[int i64 k.kind,int i64 k.img,int i64 k.num,int i64 k.snap] 43);obtain ⟨k0,k1,k2,k3⟩:=k;simp only [K4.val] at hth |-;have HT:=Zh hth;have HBL:=Zh hbl;clear hth hbl;go_enter func143,ntmps143;go_wp2_with fail;refine HT.o.mono ?_;clear HT;rintro e w2 ⟨hb,h2,⟨hw,rfl⟩|⟨q,t,B,hw,hg,rfl,h3⟩⟩
 ·have HB:=Zh (HBL.o.trans (hb.mono (by simp)));have HDS:=Zh (show attrS S ⟨k0,k1,k2,k3⟩ nm=([],whyS S ⟨k0,k1,k2,k3⟩) by simp [attrS,hw]);have b0:(whyS S ⟨k0,k1,k2,k3⟩ != 0)=true:=by simpa using hw
  clear h2 hb hw h hk;go_wp2;go_ret2;rw [HDS.o];exact ⟨HB.o,_,rfl,ZeU _ _ _ _⟩
 ·obtain ⟨bt,mt,vb,hq,h4⟩:=St.thing_open (v:=pointer q) (t:=t) h3;simp only [Zev] at hq;subst hq;have b1:=Zc h4.heap 1;simp at b1;have HB:=Zh (HBL.o.trans (hb.mono (by simp)));have hsm:=hk.seen _ (get_mem hg);rcases (h4.pull 2 _ rfl).mapOf_look underlying127 (z:=slice none 0 0) (fun w=>by kernel_rfl) nm with ⟨hn,hl⟩|⟨v,x,hn,hl,h5⟩
  ·have hl0:=hl w2 (ZI _ _) true;simp only [Zao,Zan] at hl0;have HDS:=Zh (show attrS S ⟨k0,k1,k2,k3⟩ nm=([],4) by simp [attrS,hw,hg,hn]);clear h2 h3 h4 hb hw hg h hk hn hl hsm;go_wp2;go_ret2;rw [HDS.o];exact ⟨HB.o,_,rfl,ZeU _ _ _ _⟩
  ·have hl0:=hl w2 (ZI _ _) true;simp only [Zao,Zan] at hl0;have HDS:=Zh (show attrS S ⟨k0,k1,k2,k3⟩ nm=(x,0) by simp [attrS,hw,hg,hn]);have hxl:x.length<=1000000:=by have:=hsm.2 _ (get_mem hn);simp only at this;omega
   obtain ⟨hbx,_⟩:=h5.imm_open;have hbx:BytesI I v x:=hbx;have hsv:=ZaW h5 hbx;obtain ⟨A2,k2',rfl,_⟩:=hbx;have HSV:=Zh hsv;clear h2 h3 h4 h5 hb hw hg h hk hn hl hsm hsv;go_wp2_with fail;refine (Zbk _ _ _ _ HSV.o hxl).mono ?_;rintro e w4 ⟨v4,rfl,ho4,hb4⟩;have HO4:=Zh ho4;have HB4:=Zh (HB.o.trans (hb4.mono HB.o.size));have HLE:=Zh HB.o.size;clear ho4 hb4 HSV;go_wp2;go_ret2;rw [HDS.o];exact ⟨HB4.o,v4,rfl,Zg0 HO4.o HLE.o⟩
end
def setD (nm:ByteArray) (v:List Int):Dd:=⟨4,0,v,nm⟩
def growS (t:TS) (nm:ByteArray) (v:List Int):Int :=
 (if v=[] then 0 else (nm.size:Int)+v.length) - (match get nm t.attr with|some old=>(nm.size:Int)+old.length|none=>0)
def Zb6 (S:Str) (t:TS) (nm:ByteArray) (v:List Int):Int :=
 if nm.size<1∨20<nm.size∨4096<v.length then 1 else if roomS S<growS t nm v then 6 else 0
def setS (S:Str) (k:K4) (nm:ByteArray) (v:List Int):Int × Str :=
 match get k S.seen with
 | none=>(whyS S k,S)
 | some t=>if whyS S k≠0 then (whyS S k,S) else if Zb6 S t nm v≠0 then (Zb6 S t nm v,S) else (offE (doS S k (setD nm v)).1,(doS S k (setD nm v)).2)
theorem Zsa {S:Str} {k:K4} {nm:ByteArray} {v:List Int} (h:whyS S k≠0):setS S k nm v=(whyS S k,S):=by
 unfold setS;split <;> simp [h]
theorem Zl5 {S:Str} {k:K4} {nm:ByteArray} {v:List Int} {t:TS} (h:whyS S k=0) (hg:get k S.seen=some t) (hw:Zb6 S t nm v≠0):setS S k nm v=(Zb6 S t nm v,S):=by
 simp [setS,h,hg,hw]
theorem Zmy {S:Str} {k:K4} {nm:ByteArray} {v:List Int} {t:TS} (h:whyS S k=0) (hg:get k S.seen=some t) (hw:Zb6 S t nm v=0):setS S k nm v=(offE (doS S k (setD nm v)).1,(doS S k (setD nm v)).2):=by
 simp [setS,h,hg,hw]
section
variable {p : Nat} {S : Str}
theorem Zsb (k:K4) (nm:ByteArray) (pv:Value) (b:List Int) {m:Nat} (h:St W I w (Zj p S::l)) (hk:Keeps S m) (hp:SliceSrc w 1 pv b.length (b.map byteV)) (hbl:b.length<=1000000000) :
  Calls prog 151 #[pointer (some ⟨p,0,none⟩),k.val,.string nm,pv] w fun e w'=>∃ I',I.sub I'∧e=.returned (int i64 (setS S k nm b).1)∧St W I' w' (Zj p (setS S k nm b).2::l):=by
 have hth:=Zdg k (h.alloc (cells #[int i64 k.kind,int i64 k.img,int i64 k.num,int i64 k.snap] 43) |>.pull 1 _ rfl);have HSR:=Zh hp;obtain ⟨Ap,cp,rfl,_⟩:=hp;obtain ⟨k0,k1,k2,k3⟩:=k;simp only [K4.val] at hth |-;have HT:=Zh hth;clear hth;go_enter func151,ntmps151;go_wp2_with fail;refine HT.o.mono ?_;clear HT;rintro e w2 ⟨hb,h2,⟨hw,rfl⟩|⟨q,t,B,hw,hg,rfl,h3⟩⟩
 ·have HDS:=Zh (Zsa (S:=S) (k:=⟨k0,k1,k2,k3⟩) (nm:=nm) (v:=b) hw);have H2:=Zh h2;have b0:(whyS S ⟨k0,k1,k2,k3⟩ != 0)=true:=by simpa using hw
  clear h2 hb hw h hk;go_wp2;go_ret;rw [HDS.o];exact ⟨I,Hp.sub.refl _,rfl,(H2.o.pull 1 _ rfl).drop⟩
 ·obtain ⟨bt,mt,vb,hq,h4⟩:=St.thing_open (v:=pointer q) (t:=t) h3;simp only [Zev] at hq;subst hq;have c1:=Zc h4.heap 1;simp at c1;by_cases hc:nm.size<1∨20<nm.size∨4096<b.length
  ·have HDS:=Zh ((Zl5 (S:=S) (nm:=nm) (v:=b) hw hg (by rw [Zb6,Zb hc];decide)).trans (show (Zb6 S t nm b,S)=(1,S) by rw [Zb6,Zb hc]));have H2:=Zh h2;clear h2 h3 h4 hb hw hg h hk c1;by_cases ha:nm.size<1
   ·have d1:decide ((nm.size:Int)<1)=true:=by rw [Zk];omega
    have d1':nm.size=0:=by omega
    clear hc ha;go_wp2;go_ret;rw [HDS.o];exact ⟨I,Hp.sub.refl _,rfl,(H2.o.pull 1 _ rfl).drop⟩
   ·have d1:decide ((nm.size:Int)<1)=false:=by rw [ZT];omega
    by_cases ha2:20<nm.size
    ·have d2:decide (20<(nm.size:Int))=true:=by rw [Zk];omega
     clear hc;go_wp2;go_ret;rw [HDS.o];exact ⟨I,Hp.sub.refl _,rfl,(H2.o.pull 1 _ rfl).drop⟩
    ·have d2:decide (20<(nm.size:Int))=false:=by rw [ZT];omega
     have d3:decide (4096<(b.length:Int))=true:=by rw [Zk];omega
     have ha3:4096<b.length:=by omega
     clear hc;go_wp2;go_ret;rw [HDS.o];exact ⟨I,Hp.sub.refl _,rfl,(H2.o.pull 1 _ rfl).drop⟩
  ·have hn1:(1:Int)<=nm.size:=by omega
   have hn2:(nm.size:Int)<=20:=by omega
   have hn3:(b.length:Int)<=4096:=by omega
   have hsm:=hk.inv.seen _ (get_mem hg);have hfit:(setD nm b).fits:=by
    unfold Dd.fits Dd.good setD;simp;omega
   have HFIT:=Zh hfit;have HK:=Zh hk;have HB:=Zh hb;have HOK:=fun h0=>Zh (Zmy (S:=S) (nm:=nm) (v:=b) hw hg h0);have HBAD:=fun h0=>Zh (Zl5 (S:=S) (nm:=nm) (v:=b) hw hg h0);have H2:=Zh h2;have HWD:=Zh (show Zb6 S t nm b=if roomS S<growS t nm b then 6 else 0 by rw [Zb6,Za hc]);have HHK:=Zh HOK;have HHB:=Zh HBAD;rcases (h4.pull 2 _ rfl).mapOf_look underlying127 (z:=slice none 0 0) (fun w=>by kernel_rfl) nm with ⟨hn,hl⟩|⟨v,x,hn,hl,h5⟩
   ·have hl0:=hl w2 (ZI _ _) true;simp only [Zao,Zan] at hl0;have HGR:=Zh (show growS t nm b=(if b=[] then 0 else (nm.size:Int)+b.length) by simp [growS,hn]);clear h2 h3 h4 hb hw hg h hk HOK HBAD hc hl hn hsm hfit;by_cases hv0:b=[]
    ·have hd0:decide (0<b.length)=false:=by simp [hv0]
     have HV0:=Zh hv0;clear hv0;go_wp2_with fail;refine (Zfn H2.o).mono ?_;rintro e w3 ⟨rfl,hb3⟩;have HB3:=Zh hb3;clear hb3;have hf:¬ roomS S<growS t nm b:=by rw [HGR.o,Zb HV0.o];unfold roomS;omega
     have hfd:decide (roomS S<0)=false:=by unfold roomS;rw [ZT];omega
     rw [show max 0 (wrap64 (S.room - S.used))=roomS S from rfl];have HDS:=HHK.o (by rw [HWD.o,Za hf]);have HA:=Zh (H2.o.keep HB3.o);have HSA:=Zh (HSR.o.below (((ZS _ _).trans (HB.o.mono (by simp))).trans (HB3.o.mono (by have:=HB.o.size;simp at this |-;omega))));have hxk:=(HA.o.pull 1 _ rfl).heap;have x0a:=Zc hxk 0;have x1a:=Zc hxk 1;have x2a:=Zc hxk 2;have x3a:=Zc hxk 3;simp at x0a x1a x2a x3a;clear hf HHB HHK HWD hxk H2 HB HB3 hl0 c1;go_wp2_with fail;clear hfd;refine Zay (fun w'=>w'.cell? ⟨w.heap.size,0,none⟩=some (int i64 k0)∧w'.cell? ⟨w.heap.size,1,none⟩=some (int i64 k1)∧w'.cell? ⟨w.heap.size,2,none⟩=some (int i64 k2)∧w'.cell? ⟨w.heap.size,3,none⟩=some (int i64 k3)) [0,1,2,3] [4,5] [6,7] (by kernel_rfl) (by kernel_rfl) (by (exact ⟨x0a,x1a,x2a,x3a⟩)) ?_;simp only [pickL,Zg,Zi];repeat (refine ZM _ (Or.inl ⟨by rfl,by (intro w hSw;(try dsimp only at hSw);go_simp;try with_reducible rfl)⟩) ?_;(try go_frame))
     refine Z7 ?_;unfold Zr;go_wp2_with fail;refine (Zbk _ b.length (b.map byteV) _ (HSA.o.below (ZI _ _).drew) (by omega)).mono ?_;rintro e w4 ⟨v4,rfl,ho4,hb4⟩;obtain ⟨A4,c4,rfl⟩:=ZA ho4;obtain ⟨I4,hI4,hB4,h5⟩:=ZbU HA.o.drew hb4 ho4;have hxk:=(h5.pull 1 _ rfl).heap;have y0:=Zc hxk 0;have y1:=Zc hxk 1;have y2:=Zc hxk 2;have y3:=Zc hxk 3;simp at y0 y1 y2 y3;have H5:=Zh h5;have HI4:=Zh hI4;have HB4:=Zh hB4;clear h5 hI4 hB4 hb4 ho4 hxk x0a x1a x2a x3a;go_wp2;refine Zm ⟨y0,y1,y2,y3⟩ ?_;unfold Zr;go_wp2;refine Zm ⟨y0,y1,y2,y3⟩ ?_;unfold Zr;go_wp2_with fail;have hdo:=ZdB ⟨k0,k1,k2,k3⟩ (setD nm b) (slice A4 b.length c4) H5.o HB4.o HFIT.o HK.o.keep HK.o.fuse (HK.o.inv.fewer (Zdp _ _));simp only [K4.val,setD] at hdo;refine hdo.mono ?_;rintro e w6 ⟨I6,hs6,rfl,h6⟩;have H6:=Zh h6;have HS6:=Zh hs6;clear h6 hs6 hdo;go_wp2;refine Zw ?_;go_wp2;go_ret;rw [HDS.o];exact ⟨I6,HI4.o.trans HS6.o,rfl,(H6.o.pull 1 _ rfl).drop⟩
    ·have hd0:decide (0<b.length)=true:=by rw [Zk];exact ZgN.2 hv0
     have HV0:=Zh hv0;clear hv0;go_wp2_with fail;refine (Zfn H2.o).mono ?_;rintro e w3 ⟨rfl,hb3⟩;have HB3:=Zh hb3;clear hb3;have HE:=Zh (show (nm.size:Int)+(b.length:Int)=growS t nm b by rw [HGR.o,Za HV0.o]);rw [show max 0 (wrap64 (S.room - S.used))=roomS S from rfl,HE.o];by_cases hf:roomS S<growS t nm b
     ·have hfd:decide (roomS S<growS t nm b)=true:=by simpa using hf
      have h6:Zb6 S t nm b=6:=by rw [HWD.o,Zb hf]
      have HDS:=Zh ((HHB.o (by rw [h6];decide)).out);have H6:=Zh h6;clear hf h6 HHB HHK HWD;go_wp2;go_ret;rw [HDS.o,H6.o];exact ⟨I,Hp.sub.refl _,rfl,((H2.o.keep HB3.o).pull 1 _ rfl).drop⟩
     ·have hfd:decide (roomS S<growS t nm b)=false:=by simpa using hf
      have HDS:=HHK.o (by rw [HWD.o,Za hf]);have HA:=Zh (H2.o.keep HB3.o);have HSA:=Zh (HSR.o.below (((ZS _ _).trans (HB.o.mono (by simp))).trans (HB3.o.mono (by have:=HB.o.size;simp at this |-;omega))));have hxk:=(HA.o.pull 1 _ rfl).heap;have x0a:=Zc hxk 0;have x1a:=Zc hxk 1;have x2a:=Zc hxk 2;have x3a:=Zc hxk 3;simp at x0a x1a x2a x3a;clear hf HHB HHK HWD hxk H2 HB HB3 hl0 c1;go_wp2_with fail;clear hfd;refine Zay (fun w'=>w'.cell? ⟨w.heap.size,0,none⟩=some (int i64 k0)∧w'.cell? ⟨w.heap.size,1,none⟩=some (int i64 k1)∧w'.cell? ⟨w.heap.size,2,none⟩=some (int i64 k2)∧w'.cell? ⟨w.heap.size,3,none⟩=some (int i64 k3)) [0,1,2,3] [4,5] [6,7] (by kernel_rfl) (by kernel_rfl) (by (exact ⟨x0a,x1a,x2a,x3a⟩)) ?_;simp only [pickL,Zg,Zi];repeat (refine ZM _ (Or.inl ⟨by rfl,by (intro w hSw;(try dsimp only at hSw);go_simp;try with_reducible rfl)⟩) ?_;(try go_frame))
      refine Z7 ?_;unfold Zr;go_wp2_with fail;refine (Zbk _ b.length (b.map byteV) _ (HSA.o.below (ZI _ _).drew) (by omega)).mono ?_;rintro e w4 ⟨v4,rfl,ho4,hb4⟩;obtain ⟨A4,c4,rfl⟩:=ZA ho4;obtain ⟨I4,hI4,hB4,h5⟩:=ZbU HA.o.drew hb4 ho4;have hxk:=(h5.pull 1 _ rfl).heap;have y0:=Zc hxk 0;have y1:=Zc hxk 1;have y2:=Zc hxk 2;have y3:=Zc hxk 3;simp at y0 y1 y2 y3;have H5:=Zh h5;have HI4:=Zh hI4;have HB4:=Zh hB4;clear h5 hI4 hB4 hb4 ho4 hxk x0a x1a x2a x3a;go_wp2;refine Zm ⟨y0,y1,y2,y3⟩ ?_;unfold Zr;go_wp2;refine Zm ⟨y0,y1,y2,y3⟩ ?_;unfold Zr;go_wp2_with fail;have hdo:=ZdB ⟨k0,k1,k2,k3⟩ (setD nm b) (slice A4 b.length c4) H5.o HB4.o HFIT.o HK.o.keep HK.o.fuse (HK.o.inv.fewer (Zdp _ _));simp only [K4.val,setD] at hdo;refine hdo.mono ?_;rintro e w6 ⟨I6,hs6,rfl,h6⟩;have H6:=Zh h6;have HS6:=Zh hs6;clear h6 hs6 hdo;go_wp2;refine Zw ?_;go_wp2;go_ret;rw [HDS.o];exact ⟨I6,HI4.o.trans HS6.o,rfl,(H6.o.pull 1 _ rfl).drop⟩
   ·have hl0:=hl w2 (ZI _ _) true;simp only [Zao,Zan] at hl0;have hxl:(x.length:Int)<=4096:=by have:=hsm.2 _ (get_mem hn);simp only at this;omega
    obtain ⟨hbx,_⟩:=h5.imm_open;have hbx:BytesI I v x:=hbx;obtain ⟨A2,k2',rfl,_⟩:=hbx;have HGR:=Zh (show growS t nm b=(if b=[] then 0 else (nm.size:Int)+b.length) - ((nm.size:Int)+x.length) by simp [growS,hn]);clear h2 h3 h4 h5 hb hw hg h hk HOK HBAD hc hl hn hsm hfit;by_cases hv0:b=[]
    ·have hd0:decide (0<b.length)=false:=by simp [hv0]
     have HV0:=Zh hv0;clear hv0;go_wp2_with fail;refine (Zfn H2.o).mono ?_;rintro e w3 ⟨rfl,hb3⟩;have HB3:=Zh hb3;clear hb3;have HE:=Zh (show -((nm.size:Int)+(x.length:Int))=growS t nm b by rw [HGR.o,Zb HV0.o];omega);rw [show max 0 (wrap64 (S.room - S.used))=roomS S from rfl,HE.o];by_cases hf:roomS S<growS t nm b
     ·have hfd:decide (roomS S<growS t nm b)=true:=by simpa using hf
      have h6:Zb6 S t nm b=6:=by rw [HWD.o,Zb hf]
      have HDS:=Zh ((HHB.o (by rw [h6];decide)).out);have H6:=Zh h6;clear hf h6 HHB HHK HWD;go_wp2;go_ret;rw [HDS.o,H6.o];exact ⟨I,Hp.sub.refl _,rfl,((H2.o.keep HB3.o).pull 1 _ rfl).drop⟩
     ·have hfd:decide (roomS S<growS t nm b)=false:=by simpa using hf
      have HDS:=HHK.o (by rw [HWD.o,Za hf]);have HA:=Zh (H2.o.keep HB3.o);have HSA:=Zh (HSR.o.below (((ZS _ _).trans (HB.o.mono (by simp))).trans (HB3.o.mono (by have:=HB.o.size;simp at this |-;omega))));have hxk:=(HA.o.pull 1 _ rfl).heap;have x0a:=Zc hxk 0;have x1a:=Zc hxk 1;have x2a:=Zc hxk 2;have x3a:=Zc hxk 3;simp at x0a x1a x2a x3a;clear hf HHB HHK HWD hxk H2 HB HB3 hl0 c1;go_wp2_with fail;clear hfd;refine Zay (fun w'=>w'.cell? ⟨w.heap.size,0,none⟩=some (int i64 k0)∧w'.cell? ⟨w.heap.size,1,none⟩=some (int i64 k1)∧w'.cell? ⟨w.heap.size,2,none⟩=some (int i64 k2)∧w'.cell? ⟨w.heap.size,3,none⟩=some (int i64 k3)) [0,1,2,3] [4,5] [6,7] (by kernel_rfl) (by kernel_rfl) (by (exact ⟨x0a,x1a,x2a,x3a⟩)) ?_;simp only [pickL,Zg,Zi];repeat (refine ZM _ (Or.inl ⟨by rfl,by (intro w hSw;(try dsimp only at hSw);go_simp;try with_reducible rfl)⟩) ?_;(try go_frame))
      refine Z7 ?_;unfold Zr;go_wp2_with fail;refine (Zbk _ b.length (b.map byteV) _ (HSA.o.below (ZI _ _).drew) (by omega)).mono ?_;rintro e w4 ⟨v4,rfl,ho4,hb4⟩;obtain ⟨A4,c4,rfl⟩:=ZA ho4;obtain ⟨I4,hI4,hB4,h5⟩:=ZbU HA.o.drew hb4 ho4;have hxk:=(h5.pull 1 _ rfl).heap;have y0:=Zc hxk 0;have y1:=Zc hxk 1;have y2:=Zc hxk 2;have y3:=Zc hxk 3;simp at y0 y1 y2 y3;have H5:=Zh h5;have HI4:=Zh hI4;have HB4:=Zh hB4;clear h5 hI4 hB4 hb4 ho4 hxk x0a x1a x2a x3a;go_wp2;refine Zm ⟨y0,y1,y2,y3⟩ ?_;unfold Zr;go_wp2;refine Zm ⟨y0,y1,y2,y3⟩ ?_;unfold Zr;go_wp2_with fail;have hdo:=ZdB ⟨k0,k1,k2,k3⟩ (setD nm b) (slice A4 b.length c4) H5.o HB4.o HFIT.o HK.o.keep HK.o.fuse (HK.o.inv.fewer (Zdp _ _));simp only [K4.val,setD] at hdo;refine hdo.mono ?_;rintro e w6 ⟨I6,hs6,rfl,h6⟩;have H6:=Zh h6;have HS6:=Zh hs6;clear h6 hs6 hdo;go_wp2;refine Zw ?_;go_wp2;go_ret;rw [HDS.o];exact ⟨I6,HI4.o.trans HS6.o,rfl,(H6.o.pull 1 _ rfl).drop⟩
    ·have hd0:decide (0<b.length)=true:=by rw [Zk];exact ZgN.2 hv0
     have HV0:=Zh hv0;clear hv0;go_wp2_with fail;refine (Zfn H2.o).mono ?_;rintro e w3 ⟨rfl,hb3⟩;have HB3:=Zh hb3;clear hb3;have HE:=Zh (show (nm.size:Int)+(b.length:Int) - ((nm.size:Int)+(x.length:Int))=growS t nm b by rw [HGR.o,Za HV0.o]);rw [show max 0 (wrap64 (S.room - S.used))=roomS S from rfl,HE.o];by_cases hf:roomS S<growS t nm b
     ·have hfd:decide (roomS S<growS t nm b)=true:=by simpa using hf
      have h6:Zb6 S t nm b=6:=by rw [HWD.o,Zb hf]
      have HDS:=Zh ((HHB.o (by rw [h6];decide)).out);have H6:=Zh h6;clear hf h6 HHB HHK HWD;go_wp2;go_ret;rw [HDS.o,H6.o];exact ⟨I,Hp.sub.refl _,rfl,((H2.o.keep HB3.o).pull 1 _ rfl).drop⟩
     ·have hfd:decide (roomS S<growS t nm b)=false:=by simpa using hf
      have HDS:=HHK.o (by rw [HWD.o,Za hf]);have HA:=Zh (H2.o.keep HB3.o);have HSA:=Zh (HSR.o.below (((ZS _ _).trans (HB.o.mono (by simp))).trans (HB3.o.mono (by have:=HB.o.size;simp at this |-;omega))));have hxk:=(HA.o.pull 1 _ rfl).heap;have x0a:=Zc hxk 0;have x1a:=Zc hxk 1;have x2a:=Zc hxk 2;have x3a:=Zc hxk 3;simp at x0a x1a x2a x3a;clear hf HHB HHK HWD hxk H2 HB HB3 hl0 c1;go_wp2_with fail;clear hfd;refine Zay (fun w'=>w'.cell? ⟨w.heap.size,0,none⟩=some (int i64 k0)∧w'.cell? ⟨w.heap.size,1,none⟩=some (int i64 k1)∧w'.cell? ⟨w.heap.size,2,none⟩=some (int i64 k2)∧w'.cell? ⟨w.heap.size,3,none⟩=some (int i64 k3)) [0,1,2,3] [4,5] [6,7] (by kernel_rfl) (by kernel_rfl) (by (exact ⟨x0a,x1a,x2a,x3a⟩)) ?_;simp only [pickL,Zg,Zi];repeat (refine ZM _ (Or.inl ⟨by rfl,by (intro w hSw;(try dsimp only at hSw);go_simp;try with_reducible rfl)⟩) ?_;(try go_frame))
      refine Z7 ?_;unfold Zr;go_wp2_with fail;refine (Zbk _ b.length (b.map byteV) _ (HSA.o.below (ZI _ _).drew) (by omega)).mono ?_;rintro e w4 ⟨v4,rfl,ho4,hb4⟩;obtain ⟨A4,c4,rfl⟩:=ZA ho4;obtain ⟨I4,hI4,hB4,h5⟩:=ZbU HA.o.drew hb4 ho4;have hxk:=(h5.pull 1 _ rfl).heap;have y0:=Zc hxk 0;have y1:=Zc hxk 1;have y2:=Zc hxk 2;have y3:=Zc hxk 3;simp at y0 y1 y2 y3;have H5:=Zh h5;have HI4:=Zh hI4;have HB4:=Zh hB4;clear h5 hI4 hB4 hb4 ho4 hxk x0a x1a x2a x3a;go_wp2;refine Zm ⟨y0,y1,y2,y3⟩ ?_;unfold Zr;go_wp2;refine Zm ⟨y0,y1,y2,y3⟩ ?_;unfold Zr;go_wp2_with fail;have hdo:=ZdB ⟨k0,k1,k2,k3⟩ (setD nm b) (slice A4 b.length c4) H5.o HB4.o HFIT.o HK.o.keep HK.o.fuse (HK.o.inv.fewer (Zdp _ _));simp only [K4.val,setD] at hdo;refine hdo.mono ?_;rintro e w6 ⟨I6,hs6,rfl,h6⟩;have H6:=Zh h6;have HS6:=Zh hs6;clear h6 hs6 hdo;go_wp2;refine Zw ?_;go_wp2;go_ret;rw [HDS.o];exact ⟨I6,HI4.o.trans HS6.o,rfl,(H6.o.pull 1 _ rfl).drop⟩
end
def dryBy (dry seen:List (K4 × TS)) (done:List K4):List (K4 × TS):=dry.filter (fun x=>!done.contains x.1)++seen.filter (fun x=>done.contains x.1)
theorem Zps {dry seen:List (K4 × TS)} {a b:List K4} (h:a.Perm b):dryBy dry seen a=dryBy dry seen b:=by
 have e:∀ x:K4,a.contains x=b.contains x:=fun x=>by
  rw [Zb8,Zdq,Zdq];exact h.mem_iff
 unfold dryBy;simp only [e]
theorem ZqS (dry seen:List (K4 × TS)):dryBy dry seen []=dry:=by
 unfold dryBy;have h1:dry.filter (fun x=>!([]:List K4).contains x.1)=dry:=Zd6.2 fun x _=>by simp
 have h2:seen.filter (fun x=>([]:List K4).contains x.1)=[]:=Zm9.2 fun x _=>by simp
 rw [h1,h2,Zbc]
theorem Zlk {dry seen:List (K4 × TS)} {done:List K4} {a:K4} (ha:a ∉ done):del a (dryBy dry seen done)=dry.filter (fun x=>!(a::done).contains x.1)++seen.filter (fun x=>done.contains x.1):=by
 unfold del dryBy;rw [ZfI,ZgI,ZgI];congr 1
 ·refine ZiZ fun x _=>?_;rw [Zb8];simp
 ·refine ZiZ fun x _=>?_;rw [Zb8];simp only [Zbn,decide_not,ZR,ZgG,ZT,Zdq];exact ⟨fun h=>h.2,fun h=>⟨fun e=>ha (e ▸ h),h⟩⟩
theorem Zpt {dry seen D:List (K4 × TS)} {done:List K4} {a:K4} (ha:a ∉ done) (hg:get a seen=none) (hD:D.Perm (dryBy dry seen done)):(del a D).Perm (dryBy dry seen (a::done)):=by
 refine (ZcZ hD).trans ?_;rw [Zlk ha];unfold dryBy;have e:seen.filter (fun x=>done.contains x.1)=seen.filter (fun x=>(a::done).contains x.1):=ZiZ fun x hx=>by
  have:=get_none.1 hg x hx;rw [Zb8,Zdq,Zdq,Z4];exact ⟨.inr,fun h=>h.resolve_left this⟩
 rw [e]
theorem ZqT {dry seen D:List (K4 × TS)} {done:List K4} {a:K4} {t:TS} (ha:a ∉ done) (hn:(seen.map (·.1)).Nodup) (hg:get a seen=some t) (hD:D.Perm (dryBy dry seen done)):(put a t D).Perm (dryBy dry seen (a::done)):=by
 unfold put;refine ((ZcZ hD).cons _).trans ?_;rw [Zlk ha];unfold dryBy;refine ZcI.symm.trans (List.Perm.append_left _ ?_);have h1:(seen.filter (fun x=>(a::done).contains x.1)).Perm (((a,t)::del a seen).filter (fun x=>(a::done).contains x.1)):=(ZeE hn hg).filter _;refine List.Perm.trans ?_ h1.symm;rw [Zi0 (by simp)];refine List.Perm.cons _ ?_;unfold del;rw [ZgI];have e:seen.filter (fun x=>done.contains x.1)=seen.filter (fun x=>(a::done).contains x.1&&decide (x.1≠a)):=ZiZ fun x _=>by
  rw [Zb8];simp only [ZR,Zdq,Z4,Zk];exact ⟨fun h=>⟨.inr h,fun e=>ha (e ▸ h)⟩,fun h=>h.1.resolve_left h.2⟩
 rw [e]
def Zcp (S:Str):List (K4 × TS):=dryBy S.dry S.seen (S.late.map (·.1))
def ZB (S:Str):Int × Str :=
 if S.on=false then (7,S) else if (Z5 S).1 then (7,(Z5 S).2) else
  (0,{ (Z5 S).2 with dry:=Zcp (Z5 S).2,late:=[],wet:=0,deeds:=wrap64 ((Z5 S).2.deeds+1) })
section
variable {p : Nat} {S : Str}
theorem Zou {α:Type} {a b:List α} (h:a.Nodup) (p:a.Perm b):b.Nodup:=p.nodup_iff.1 h
theorem St.drop_own {α:Type} {own:Value->α->HP} (M:List (K4 × Value × α)) (A:HP) (h:St W I w (A::(M.map (own3 own)++l))):St W I w (A::l):=by
 have h1:St W I w (M.map (own3 own)++(A::l)):=h.perm ZcI.symm;exact h1.drops
theorem Zec {m:Nat} (h:St W I w (Zj p S::l)) (hk:Keeps S m) :
  Calls prog 58 #[pointer (some ⟨p,0,none⟩)] w fun e w'=>∃ I',I.sub I'∧e=.returned (int i64 (ZB S).1)∧St W I' w' (Zj p (ZB S).2::l):=by
 obtain ⟨B0,h1⟩:=h.store_open;have c4:=h1.blk 4;simp [storeCells] at c4;cases ho:S.on with
 | false =>
  rw [ho] at c4;have HDS:=Zh (show ZB S=(7,S) by simp [ZB,ho]);have H:=Zh h;clear h h1 hk;go_enter func58,ntmps58;go_wp2;go_ret;rw [HDS.o];exact ⟨I,Hp.sub.refl _,rfl,H.o⟩
 | true =>
  rw [ho] at c4;have HBS:=Zh (Zko h hk.keep hk.fuse (fun _=>hk.inv.fewer (Zdp _ _)));have HO:=Zh ho;have HKI:=Zh hk;clear h h1 hk ho;go_enter func58,ntmps58;go_wp2_with fail;refine HBS.o.mono ?_;clear HBS c4;rintro e w2 ⟨I2,hs2,rfl,h2⟩;have HS2:=Zh hs2;cases hb:(Z5 S).1 with
  | true =>
   have HDS:=Zh (show ZB S=(7,(Z5 S).2) by simp [ZB,HO.o,hb]);have H2:=Zh h2;clear hs2 h2 hb;go_wp2;go_ret;rw [HDS.o];exact ⟨I2,HS2.o,rfl,H2.o⟩
  | false =>
   have hki:=Zg1 HKI.o;obtain ⟨S1,hS1⟩:∃ S1,(Z5 S).2=S1:=⟨_,rfl⟩;have hdo:ZB S=(0,{ S1 with dry:=Zcp S1,late:=[],wet:=0,deeds:=wrap64 (S1.deeds+1) }):=by
    rw [<-hS1];simp [ZB,HO.o,hb]
   rw [hS1] at h2 hki;obtain ⟨B,h3⟩:=h2.store_open;have c7:=h3.blk 7;have ltp:=h3.lt;simp [storeCells] at c7;have hns:=(h3.pull 1 _ rfl).mapOf_nodup;obtain ⟨M,hM,h4⟩:=(h3.pull 3 _ rfl).mapOf_open;have h5:=St.drop_own M _ h4;have hnl:=h5.map_nodup;obtain ⟨w3,hrun,hsz,h6⟩:=h5.range (P:=prog) underlying113;have hkeys:((M.map fst3).map (·.1)).Perm (S1.late.map (·.1)):=by
    have:=hM.map (·.1);rwa [<-Zge] at this
   have HDO:=Zh hdo;have HKI1:=Zh hki;have HNS:=Zh hns;have HNL:=Zh hnl;have HKY:=Zh hkeys;have H6:=Zh h6;have HSZ:=Zh hsz;clear hs2 h2 hb hki hS1 hdo h3 hns hM h4 h5 hnl h6 hkeys hsz HKI;have hmm:=@run_makeMap prog;go_wp2_with fail
   go_loopw [3] (fun _ wr=>∃ (left:List (K4 × Value)) (done:List K4) (D:List (K4 × TS)) (I1:Hp),(left.map (·.1)++done).Perm ((M.map fst3).map (·.1))∧D.Perm (dryBy S1.dry S1.seen done)∧I2.sub I1 ∧
    St W I1 wr (HP.iter keyKT B.m3 w2.heap.size (M.map fst3) left::Zab p S1 B::Zb5 B S1::mapOf keyKT ZD B.m2 D::keyHP B S1::HP.imm (ZbD B.vk S1.keep)::l)) (fun _ wr=>wr.rangeLeft B.m3 w2.heap.size)
   case atStart =>
    refine ⟨M.map fst3,[],S1.dry,I2,by simp,by rw [ZqS],Hp.sub.refl _,?_⟩;exact H6.o
   case round =>
    obtain ⟨left,done,D,I1,hpd,hD,hI1,hst⟩:=hrel;have hbk:=(hst.pull 1 _ rfl).blk;have hlp:=(hst.pull 1 _ rfl).lt;rcases hst.next 0 with ⟨rfl,hrun⟩|⟨a,v,left',w4,hpm,hmem,hrun,hsz2,hent,hst2⟩
    ·have c2:=hbk 2;have f7:=frozen_of_row (hst.pull 1 _ rfl).heap 7;have f3:=frozen_of_row (hst.pull 1 _ rfl).heap 3;have f2:=frozen_of_row (hst.pull 1 _ rfl).heap 2;have c3:=hbk 3;have c7r:=hbk 7;simp [storeCells] at c2 c3 c7r;have HS:=Zh hst;have HQ:=Zh hpd;have HDD:=Zh hD;have HI1:=Zh hI1;clear hst hpd hD hI1 hbk;go_wp2;go_ret;have h9:St W I1 _ (Zab p { S1 with dry:=Zcp S1,late:=[],wet:=0,deeds:=wrap64 (S1.deeds+1) } { B with m3:=wr.heap.size }::_):=(((HS.o.pull 1 _ rfl).setCell 7 (.map (some wr.heap.size))).setCell 3 (int i64 0)).setCell 2 (int i64 (wrap64 (S1.deeds+1)));have h10:=h9.alloc (.map #[] 0);simp only [World.size_setCell] at h10;have h11:=h10.mapOf_made (T:=keyKT) (own:=ZbO);have hdn:D.Perm (Zcp S1):=by
      have h1:done.Perm (S1.late.map (·.1)):=by
       have:=HQ.o;simp only [Zcr,Zu] at this;exact this.trans HKY.o
      unfold Zcp;rw [<-Zps h1];exact HDD.o
     rw [HDO.o];refine ⟨I1,HS2.o.trans HI1.o,rfl,St.store_shut (B:={ B with m3:=wr.heap.size }) ?_⟩;have h12:=(h11.perm (m:=mapOf keyKT ZD B.m2 D::HP.iter keyKT B.m3 w2.heap.size (M.map fst3) []::Zab p { S1 with dry:=Zcp S1,late:=[],wet:=0,deeds:=wrap64 (S1.deeds+1) } { B with m3:=wr.heap.size }::Zb5 B S1::mapOf keyKT ZbO wr.heap.size []::keyHP B S1::HP.imm (ZbD B.vk S1.keep)::l) (by ((try simp only [ZE,ZF,ZG,Zu]);repeat (first|with_reducible exact ZK _|(apply ZP;(· repeat (first|with_reducible exact ZO|with_reducible apply ZN))))))).mapOf_perm hdn;exact ((h12.pull 1 _ rfl).drop).perm (m:=Zab p { S1 with dry:=Zcp S1,late:=[],wet:=0,deeds:=wrap64 (S1.deeds+1) } { B with m3:=wr.heap.size }::Zb5 B S1::mapOf keyKT ZD B.m2 (Zcp S1)::mapOf keyKT ZbO wr.heap.size []::keyHP B S1::HP.imm (ZbD B.vk S1.keep)::l) (by ((try simp only [ZE,ZF,ZG,Zu]);repeat (first|with_reducible exact ZK _|(apply ZP;(· repeat (first|with_reducible exact ZO|with_reducible apply ZN))))))
    ·obtain ⟨a0,a1,a2,a3⟩:=a;simp only [keyKT,K4.val] at hrun hent;have HS:=Zh hst2;have HS1:=Zh hst;have HQ:=Zh hpd;have HDD:=Zh hD;have HI1:=Zh hI1;have HPM:=Zh hpm;clear hst hpd hD hI1 hbk hst2 hpm hmem;go_wp2_with fail;have hnd:(⟨a0,a1,a2,a3⟩:K4) ∉ done:=fun hm=>by
      have h1:=Zou HNL.o (((HPM.o.map (·.1)).append_right done).symm.trans HQ.o).symm;exact (ZbR.1 (show ((⟨a0,a1,a2,a3⟩:K4)::(left'.map (·.1)++done)).Nodup from h1)).1 (List.mem_append_right _ hm)
     have hpd':(left'.map (·.1)++((⟨a0,a1,a2,a3⟩:K4)::done)).Perm ((M.map fst3).map (·.1)):=by
      refine ZcI.trans ?_;exact (((HPM.o.map (·.1)).append_right done).symm.trans HQ.o)
     have h7:=HS.o.alloc (cells #[int i64 a0,int i64 a1,int i64 a2,int i64 a3] 43);rw [hsz2] at h7;obtain ⟨w5,hw5⟩:∃ w5,w4.alloc (cells #[int i64 a0,int i64 a1,int i64 a2,int i64 a3] 43)=w5:=⟨_,rfl⟩;rw [hw5] at h7 |-;have x0:=Zc h7.heap 0;have x1:=Zc h7.heap 1;have x2:=Zc h7.heap 2;have x3:=Zc h7.heap 3;have c5:=(h7.pull 2 _ rfl).blk 5;have c6:=(h7.pull 2 _ rfl).blk 6;simp [storeCells] at x0 x1 x2 x3 c5 c6;have HND:=Zh hnd;have HPD:=Zh hpd';rcases (h7.pull 3 _ rfl).mapOf_look underlying112 (z:=pointer none) (fun w=>by kernel_rfl) ⟨a0,a1,a2,a3⟩ with ⟨hn,hl⟩|⟨v1,t,hn,hl,h8⟩
     ·have hl':=fun nq=>hl (w5.drewN nq) (below_drewN (ZI _ _) nq) true;simp only [keyKT,K4.val,Zan] at hl';have H7:=Zh h7;have HN:=Zh hn;clear h7 hw5 hl hn hnd hpd' hrun hent;go_wp2_with fail;go_quiet (fail);go_wp2_with fail;clear hl' x0 x1 x2 x3 c5 c6;have h8:=H7.o.drewN nq;obtain ⟨w6,hw6⟩:∃ w6,w5.drewN nq=w6:=⟨_,rfl⟩;rw [hw6] at h8 |-;clear hw6;have x0:=Zc h8.heap 0;have x1:=Zc h8.heap 1;have x2:=Zc h8.heap 2;have x3:=Zc h8.heap 3;have c6:=(h8.pull 2 _ rfl).blk 6;simp [storeCells] at x0 x1 x2 x3 c6;obtain ⟨w7,hr7,hs7,h9⟩:=(h8.drew.pull 4 _ rfl).mapOf_del (P:=prog) (ty:=0) underlying112 (⟨a0,a1,a2,a3⟩:K4);simp only [keyKT,K4.val] at hr7;have H9:=Zh h9;clear h8 h9 hs7;refine ZaM [0,1,2] [3,4] [5] (by kernel_rfl) (by kernel_rfl) ?_;simp only [pickL,Zg,Zi];repeat (refine ZaE _ (Or.inl ⟨by rfl,by intro w;go_simp;try with_reducible rfl⟩) ?_;(try go_frame))
      refine ZaF ?_;repeat still_step
      refine ZaQ ?_;go_wp2;refine Zw ?_;go_wp2_with fail;have H10:=Zh (((H9.o.pull 1 _ rfl).drop).perm (m:=HP.iter keyKT B.m3 w2.heap.size (M.map fst3) left'::Zab p S1 B::Zb5 B S1::mapOf keyKT ZD B.m2 (del ⟨a0,a1,a2,a3⟩ D)::keyHP B S1::HP.imm (ZbD B.vk S1.keep)::l) (by ((try simp only [ZE,ZF,ZG,Zu]);repeat (first|with_reducible exact ZK _|(apply ZP;(· repeat (first|with_reducible exact ZO|with_reducible apply ZN)))))));go_roundw;case rel=>exact ⟨left',⟨a0,a1,a2,a3⟩::done,_,I1,HPD.o,Zpt HND.o HN.o HDD.o,HI1.o,H10.o⟩
      case measure =>
       rw [H10.o.iter_left,HS1.o.iter_left];simp [HPM.o.length_eq]
     ·have hl':=fun nq=>hl (w5.drewN nq) (below_drewN (ZI _ _) nq) true;simp only [keyKT,K4.val,Zan] at hl';obtain ⟨bt,mt,vb,rfl,_⟩:=h8.thing_open;have hsm:=HKI1.o.inv.seen _ (get_mem hn);have HSM:=Zh hsm;have H8:=Zh h8;have HN:=Zh hn;clear h7 h8 hw5 hl hn hnd hpd' hrun hent hsm;go_wp2_with fail;go_quiet (fail);go_wp2_with fail;clear hl' x0 x1 x2 x3 c5 c6;have h8:=H8.o.drewN nq;obtain ⟨w6,hw6⟩:∃ w6,w5.drewN nq=w6:=⟨_,rfl⟩;rw [hw6] at h8 |-;clear hw6;have x0:=Zc (h8.pull 2 _ rfl).heap 0;have x1:=Zc (h8.pull 2 _ rfl).heap 1;have x2:=Zc (h8.pull 2 _ rfl).heap 2;have x3:=Zc (h8.pull 2 _ rfl).heap 3;have c6:=(h8.pull 4 _ rfl).blk 6;simp [storeCells] at x0 x1 x2 x3 c6;have H9:=Zh h8;clear h8;refine Zay (fun w'=>w'.cell? ⟨wr.heap.size,0,none⟩=some (int i64 a0)∧w'.cell? ⟨wr.heap.size,1,none⟩=some (int i64 a1)∧w'.cell? ⟨wr.heap.size,2,none⟩=some (int i64 a2)∧w'.cell? ⟨wr.heap.size,3,none⟩=some (int i64 a3)∧w'.cell? ⟨p,6,none⟩=some (.map (some B.m2))) [0,1,2,3,4,5] [6] [7] (by kernel_rfl) (by kernel_rfl) (by (exact ⟨x0,x1,x2,x3,c6⟩)) ?_;simp only [pickL,Zg,Zi];repeat (refine ZM _ (Or.inl ⟨by rfl,by (intro w hSw;(try dsimp only at hSw);go_simp;try with_reducible rfl)⟩) ?_;(try go_frame))
      refine Z7 ?_;unfold Zr;go_wp2_with fail;refine (Zr2 H9.o.drew (by have:=HSM.o.1;omega) (fun x hx=>by have:=HSM.o.2 x hx;omega)).mono ?_;rintro e w10 ⟨vo,I10,rfl,hI10,h10⟩;have hkA:=(h10.pull 3 _ rfl).heap;have y0:=Zc hkA 0;have y1:=Zc hkA 1;have y2:=Zc hkA 2;have y3:=Zc hkA 3;have y6:=(h10.pull 5 _ rfl).blk 6;simp [storeCells] at y0 y1 y2 y3 y6;obtain ⟨bo,mo,vbo,hvo,_⟩:=h10.thing_open;obtain ⟨w11,hr11,hs11,h11⟩:=(h10.perm (m:=ZD vo t::mapOf keyKT ZD B.m2 D::ZD (pointer (some ⟨bt,0,none⟩)) t::HP.hole keyKT ZD B.m1 (⟨a0,a1,a2,a3⟩:K4) (pointer (some ⟨bt,0,none⟩)) (del (⟨a0,a1,a2,a3⟩:K4) S1.seen)::pt wr.heap.size (cells #[int i64 a0,int i64 a1,int i64 a2,int i64 a3] 43)::HP.iter keyKT B.m3 w2.heap.size (M.map fst3) left'::Zab p S1 B::keyHP B S1::HP.imm (ZbD B.vk S1.keep)::l) (by ((try simp only [ZE,ZF,ZG,Zu]);repeat (first|with_reducible exact ZK _|(apply ZP;(· repeat (first|with_reducible exact ZO|with_reducible apply ZN))))))).mapOf_put (P:=prog) underlying112 (⟨a0,a1,a2,a3⟩:K4);simp only [keyKT,K4.val] at hr11;subst hvo;have H11:=Zh h11;have HR11:=Zh hr11;have HI10:=Zh hI10;clear h10 h11 hr11 hs11 hI10 x0 x1 x2 x3 c6 hkA;go_wp2;refine Zm ⟨y0,y1,y2,y3,y6⟩ ?_;have hr11:=HR11.o;unfold Zr;go_wp2;refine Zw ?_;clear hr11 y0 y1 y2 y3 y6;go_wp2_with fail;have h12:St W I10 _ (Zb5 B S1::_):=(St.hole_back ((H11.o.pull 1 _ rfl).perm (m:=ZD (pointer (some ⟨bt,0,none⟩)) t::HP.hole keyKT ZD B.m1 (⟨a0,a1,a2,a3⟩:K4) (pointer (some ⟨bt,0,none⟩)) (del (⟨a0,a1,a2,a3⟩:K4) S1.seen)::mapOf keyKT ZD B.m2 (put (⟨a0,a1,a2,a3⟩:K4) t D)::pt wr.heap.size (cells #[int i64 a0,int i64 a1,int i64 a2,int i64 a3] 43)::HP.iter keyKT B.m3 w2.heap.size (M.map fst3) left'::Zab p S1 B::keyHP B S1::HP.imm (ZbD B.vk S1.keep)::l) (by ((try simp only [ZE,ZF,ZG,Zu]);repeat (first|with_reducible exact ZK _|(apply ZP;(· repeat (first|with_reducible exact ZO|with_reducible apply ZN)))))))).mapOf_perm (ZeE HNS.o HN.o).symm;have H10:=Zh (((h12.pull 2 _ rfl).drop).perm (m:=HP.iter keyKT B.m3 w2.heap.size (M.map fst3) left'::Zab p S1 B::Zb5 B S1::mapOf keyKT ZD B.m2 (put ⟨a0,a1,a2,a3⟩ t D)::keyHP B S1::HP.imm (ZbD B.vk S1.keep)::l) (by ((try simp only [ZE,ZF,ZG,Zu]);repeat (first|with_reducible exact ZK _|(apply ZP;(· repeat (first|with_reducible exact ZO|with_reducible apply ZN)))))));clear h12;go_roundw;case rel=>exact ⟨left',⟨a0,a1,a2,a3⟩::done,_,I10,HPD.o,ZqT HND.o HNS.o HN.o HDD.o,HI1.o.trans HI10.o,H10.o⟩
      case measure =>
       rw [H10.o.iter_left,HS1.o.iter_left];simp [HPM.o.length_eq]
end
theorem Zpu {S:Str} {t:TS} {off:Int} {p:List Int} (h:ZbW S t off p=0):(ZbQ off p).fits:=by
 unfold ZbW at h;split at h
 ·cases h
 ·rename_i hc;unfold Dd.fits Dd.good ZbQ;simp;omega
theorem Zsc {S:Str} {t:TS} {nm:ByteArray} {v:List Int} (h:Zb6 S t nm v=0):(setD nm v).fits:=by
 unfold Zb6 at h;split at h
 ·cases h
 ·rename_i hc;unfold Dd.fits Dd.good setD;simp;omega
theorem ZqU:madeD.fits:=by unfold Dd.fits Dd.good madeD;simp
theorem ZqV:(⟨3,0,[],⟨#[]⟩⟩:Dd).fits:=by unfold Dd.fits Dd.good;simp
theorem ZfW {S:Str} {k:K4} {m:Nat} (h:Keeps S (m+2)):Keeps (makeS S k).2 m:=by
 unfold makeS;split
 ·exact h.fewer (by omega)
 ·split
  ·exact h.fewer (by omega)
  ·split
   ·exact h.fewer (by omega)
   ·exact Zfc ZqU h
theorem Zjv {S:Str} {k:K4} {off:Int} {p:List Int} {m:Nat} (h:Keeps S (m+2)):Keeps (ZbA S k off p).2 m:=by
 unfold ZbA;split
 ·exact h.fewer (by omega)
 ·split
  ·exact h.fewer (by omega)
  ·split
   ·exact h.fewer (by omega)
   ·rename_i hw;exact Zfc (Zpu (by simpa using hw)) h
theorem Zjl {S:Str} {k:K4} {p:List Int} {m:Nat} (h:Keeps S (m+2)):Keeps (ZaJ S k p).2 m:=by
 unfold ZaJ;split
 ·exact h.fewer (by omega)
 ·exact Zjv h
theorem Zkr {S:Str} {k:K4} {nm:ByteArray} {v:List Int} {m:Nat} (h:Keeps S (m+2)):Keeps (setS S k nm v).2 m:=by
 unfold setS;split
 ·exact h.fewer (by omega)
 ·split
  ·exact h.fewer (by omega)
  ·split
   ·exact h.fewer (by omega)
   ·rename_i hw;exact Zfc (Zsc (by simpa using hw)) h
theorem Zhh {S:Str} {k:K4} {m:Nat} (h:Keeps S (m+2)):Keeps (dropS S k).2 m:=by
 unfold dropS;split
 ·exact Zfc ZqV h
 ·exact h.fewer (by omega)
theorem ZfX {S:Str} {k:K4} {n:Int} {m:Nat} (h:Keeps S (m+2)):Keeps (trimS S k n).2 m:=by
 unfold trimS;split
 ·rename_i t ht;split
  ·refine Zfc ?_ h;have h9:t.b.length<=20480:=(h.inv.seen _ (get_mem ht)).1;unfold Dd.fits Dd.good cutD;simp;omega
  ·exact h.fewer (by omega)
 ·exact h.fewer (by omega)
theorem Zov {dry seen:List (K4 × TS)} {done:List K4} (h1:∀ x ∈ dry,x.2.small) (h2:∀ x ∈ seen,x.2.small):∀ x ∈ dryBy dry seen done,x.2.small:=fun x hx=>by
 rcases Za6.1 hx with h|h
 ·exact h1 x (Za4.1 h).1
 ·exact h2 x (Za4.1 h).1
theorem ZeC {S:Str} {m:Nat} (h:Keeps S m):Keeps (ZB S).2 m:=by
 have hb:=Zg1 h;unfold ZB;split
 ·exact h
 ·split
  ·exact hb
  ·refine ⟨⟨hb.inv.rise,fun g=>?_,hb.inv.seen,Zov hb.inv.dry hb.inv.seen,fun x hx=>(by cases hx),fun x hx=>(by cases hx)⟩,hb.keep,hb.fuse,fun x hx=>(by cases hx)⟩;have h3:=hb.inv.many g;show (Zp (Z5 S).2 g).length+(0+m)<=100000;omega
def ZtR (S:Str):Str:={ S with on:=true }
end Go.Proofs.YtpjchngjhijgmaaGreat
