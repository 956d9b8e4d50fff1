import Derived.Test.YtcbdghojlbpomaaGreatIL02
set_option linter.all false
namespace Go.Proofs.YtcbdghojlbpomaaGreat
open Tryz
open HP (pt mapOf)
open Go.IntKind (i64 u64)
open Go.Value (int pointer slice)
open Go.Obj (cells)
open Go.RowKit
theorem objs_ex (l:Ly):∀ size:Nat,∃ n,IsObjs l size n
 | 0=>⟨0,IsObjs.zero l⟩
 | k+1=>by
  obtain ⟨n,h⟩:=objs_ex l k;exact ⟨_,h.succ⟩
section
variable {W w : World} {I : Hp} {l : List HP} {p q : Nat} {S : Str}
set_option maxRecDepth 4000
set_option maxHeartbeats 8000000
theorem objects_at (l:Ly) (hl:l.ok) (size:Nat) (hsz:size<=512) {N:Nat} (hN:IsObjs l size N) (w:World):Calls prog 89 #[l.val,int i64 size] w fun e w'=>e=.returned (int i64 N)∧Below w.heap.size w w' :=
 (Zl9 l hl size hsz w).mono (by rintro e w' ⟨k,rfl,hk,hb⟩;rw [hk.same hN];exact ⟨rfl,hb⟩)
structure PartAt (W w:World) (I:Hp) (l:List HP) (p q:Nat) (S:Str) (h:Hd) (R:List RO) (n:Nat) (m:Mk) (N:Nat):Prop where
 st:St W I w (Zd p S::imgHP q p h::l)
 ij:IJ S h R
 at_:(heldL h.marks)[n]?=some m
 objs:IsObjs h.l m.size N
theorem ipart_neg (h:Hd) (R:List RO) (n:Nat) (m:Mk) (N:Nat) (num:Int) (P:PartAt W w I l p q S h R n m N) (hneg:num<0) :
  Calls prog 29 #[pointer (some ⟨q,0,none⟩),int i64 n,int i64 num] w fun e w'=>∃ I',I.sub I'∧e=.returned (.tuple #[slice none 0 0,int i64 3])∧St W I' w' (Zd p S::imgHP q p h::l):=by
 obtain ⟨hs,J,hat,hob⟩:=P;have HM:=Zh (ZbK hs J.st.live.on);have hnm:∀ x ∈ h.marks,1<=x.name.size:=fun x hx=>(Mk.named_size (J.ok.names x hx)).1;obtain ⟨x,m',hx,hm1,hm2,hm3⟩:=held_in (Zay hat);have hsz:m.size<=512:=by rw [hm3];exact J.ok.sizes m' hm1
 have HH:=Zh (iheldL_spec h hnm x hx (ZQ J.ok.many (by decide)) (hs.pull 1 _ rfl));have hll:(heldL h.marks).length<=1000:=ZQ (heldL_len h.marks) (ZQ J.ok.many (by decide));have OBJ:=Zh (fun (wx:World)=>objects_at h.l J.ok.shape m.size hsz hob wx);have OPEN:=Zh (fun (wx:World) (I':Hp) (l':List HP) (hst:St W I' wx (imgHP q p h::l'))=>hst.img_open);obtain ⟨ms,hms⟩:∃ x,heldL h.marks=x:=⟨_,rfl⟩;rw [hms] at HH hll hat;have HAT:=Zh hat;have hnl:n<ms.length:=(ZS.1 hat).1;clear hs J hat hob hx hm1 hm2 hm3 hms hnm;obtain ⟨F1,hF1⟩:∃ x,imgHP q p h=x:=⟨_,rfl⟩;simp only [hF1] at HH OPEN |-;clear hF1;obtain ⟨sz,⟨o,u,cn⟩,nx,sq,mks⟩:=h;obtain ⟨mi,mn,mz,mg⟩:=m;simp only [Ly.val] at *;have d0:decide ((n:Int)<0)=false:=by rw [Zk];omega
 have d1:decide ((ms.length:Int)<=(n:Int))=false:=by rw [Zk];omega
 have d2:decide (num<0)=true:=by rw [Ze];exact hneg
 go_enter func29,ntmps29;go_wp2_with fail;refine HM.o.mono ?_;rintro x w2 ⟨rfl,rfl⟩;go_wp2_with fail;refine HH.o.mono ?_;rintro x w2 ⟨I2,A,c,hs2,rfl,hr2,h2⟩;obtain ⟨b,bo,e1,hc⟩:=ZbJ (i:=n) (mk:=Mk.vals) (k:=4) hr2 (Hp.sub.refl _) h2 (fun _=>rfl) HAT.o;simp only [ZF,Zae,ZK] at e1;subst e1;have y0:w2.cell? ⟨b,bo+n*4,none⟩=some (int i64 mi):=hc 0 (by decide);have y1:w2.cell? ⟨b,bo+n*4+1,none⟩=some (.string mn):=hc 1 (by decide);have y2:w2.cell? ⟨b,bo+n*4+2,none⟩=some (int i64 (mz:Int)):=hc 2 (by decide);have y3:w2.cell? ⟨b,bo+n*4+3,none⟩=some (.bool mg):=hc 3 (by decide);have lt0:b<w2.heap.size:=cell_ltH y0;have h3:=h2.alloc (cells #[int i64 mi,.string mn,int i64 mz,.bool mg] 66);obtain ⟨g10,hg10⟩:∃ g,w2.heap.size=g:=⟨_,rfl⟩;rw [hg10] at h3;have HG10:=Zh hg10;have H3:=Zh h3;have HS2:=Zh hs2;clear h2 h3 hg10 hr2 hs2 hc HH;go_upto_region 8 with fail;rw [HG10.o];have h3:=H3.o;generalize (World.alloc _ _:World)=w3 at h3 |-;clear y0 y1 y2 y3 lt0 HG10 H3;have hcell:∀ (w':World) (I':Hp) (l1:List HP),St W I' w' (pt g10 (cells #[int i64 mi,.string mn,int i64 mz,.bool mg] 66)::F1::l1)->(w'.cell? ⟨q,0,none⟩=some (pointer (some ⟨p,0,none⟩))∧w'.cell? ⟨q,1,none⟩=some (int i64 0)∧w'.cell? ⟨q,3,none⟩=some (int i64 o)∧w'.cell? ⟨q,4,none⟩=some (int i64 u)∧w'.cell? ⟨q,5,none⟩=some (int i64 cn)∧w'.cell? ⟨g10,0,none⟩=some (int i64 mi)∧w'.cell? ⟨g10,2,none⟩=some (int i64 mz)):=fun w' I' l1 h1=>by
  obtain ⟨v1,_,h1i⟩:=OPEN.o _ _ _ (h1.pull 1 _ rfl);obtain ⟨c0,c1,c2,c3,c4,c5,c6,c7,c8,c9⟩:=Zz h1i;obtain ⟨z0,z1,z2,z3⟩:=ZX h1;exact ⟨c0,c1,c3,c4,c5,z0,z2⟩
 have HC:=Zh hcell;have H4:=Zh h3.drew;have H3:=Zh h3;clear hcell h3 OPEN;go_quiet (fail);have H5:=Zh (H3.o.drewN nq);clear H4 HC H3;go_wp2;go_ret2;exact ⟨I2,HS2.o,rfl,(H5.o.drop.pull 1 _ rfl)⟩
theorem ipart_spec (h:Hd) (R:List RO) (n:Nat) (m:Mk) (N:Nat) (num:Nat) {mk:Nat} (P:PartAt W w I l p q S h R n m N) (hk:Keeps S mk) (hlt:num<N) :
  Calls prog 29 #[pointer (some ⟨q,0,none⟩),int i64 n,int i64 num] w fun e w'=>∃ I',I.sub I'∧∃ v,e=.returned (.tuple #[v,int i64 0])∧Zw I' v (partR h R m num)∧St W I' w' (Zd p S::imgHP q p h::l):=by
 obtain ⟨hs,J,hat,hob⟩:=P;have HM:=Zh (ZbK hs J.st.live.on);have hnm:∀ x ∈ h.marks,1<=x.name.size:=fun x hx=>(Mk.named_size (J.ok.names x hx)).1;obtain ⟨x,m',hx,hm1,hm2,hm3⟩:=held_in (Zay hat);have hsz:m.size<=512:=by rw [hm3];exact J.ok.sizes m' hm1
 have HH:=Zh (iheldL_spec h hnm x hx (ZQ J.ok.many (by decide)) (hs.pull 1 _ rfl));have hll:(heldL h.marks).length<=1000:=ZQ (heldL_len h.marks) (ZQ J.ok.many (by decide));have OBJ:=Zh (fun (wx:World)=>objects_at h.l J.ok.shape m.size hsz hob wx);have OPEN:=Zh (fun (wx:World) (I':Hp) (l':List HP) (hst:St W I' wx (imgHP q p h::l'))=>hst.img_open);have hid:=held_id J.img (Zay hat);have hidt:m.id<=1073741824:=by have:=J.img.next;have:=J.ok.next;omega
 have hNe:N<=every:=by
  rcases hob.top with q|⟨y,hy,q⟩
  ·omega
  ·have:=Zfx J.ok.shape (x:=y) (by omega);omega
 have hb64:ZI h.l m.size num<=64:=ZqK J.ok.shape ..;have htell:=(J.st.tell J.hd.mid (k:=num) (by omega) (snap:=m.id) (by omega) hidt).1;have hread:=J.st.reads J.hd.mid (snap:=m.id) (by omega) hidt num 0 (ZI h.l m.size num) (by omega) (by omega);have THERE:=Zh (fun (wx:World) (I':Hp) (l':List HP) (hst:St W I' wx (Zd p S::l'))=>ZiX 0 num m.id hst hk.inv);have READ:=Zh (fun (wx:World) (I':Hp) (l':List HP) (hst:St W I' wx (Zd p S::l'))=>ZnE 0 num m.id ((0:Nat):Int) (ZI h.l m.size num) hst hk.inv);rw [htell] at THERE;rw [hread] at READ;have BYT:=Zh (fun (wx:World)=>Zg8 h.l J.ok.shape m.size num hsz (by unfold every at hNe;omega) wx);have hpr:partR h R m num=if (ratR (objAt R num) m.id).isSome then (List.range (ZI h.l m.size num)).map fun j=>byteO (objAt R num) m.id (0+j) else []:=by
  unfold partR;simp only [Zar]
 rw [hpr];obtain ⟨BS,hBS⟩:∃ x,((List.range (ZI h.l m.size num)).map fun j=>byteO (objAt R num) m.id (0+j))=x:=⟨_,rfl⟩;obtain ⟨is,his⟩:∃ x,(ratR (objAt R num) m.id).isSome=x:=⟨_,rfl⟩;obtain ⟨bn,hbn⟩:∃ x,ZI h.l m.size num=x:=⟨_,rfl⟩;rw [hBS] at READ |-;rw [his] at THERE |-;rw [hbn] at READ BYT;clear hid hidt hNe hb64 htell hread hpr hBS his hbn hk;obtain ⟨ms,hms⟩:∃ x,heldL h.marks=x:=⟨_,rfl⟩;rw [hms] at HH hll hat;have HAT:=Zh hat;have hnl:n<ms.length:=(ZS.1 hat).1;clear hs J hat hob hx hm1 hm2 hm3 hms hnm;obtain ⟨F1,hF1⟩:∃ x,imgHP q p h=x:=⟨_,rfl⟩;simp only [hF1] at HH OPEN |-;clear hF1;obtain ⟨sz,⟨o,u,cn⟩,nx,sq,mks⟩:=h;obtain ⟨mi,mn,mz,mg⟩:=m;simp only [Ly.val] at *;have d0:decide ((n:Int)<0)=false:=by rw [Zk];omega
 have d1:decide ((ms.length:Int)<=(n:Int))=false:=by rw [Zk];omega
 have d2:decide ((num:Int)<0)=false:=by rw [Zk];omega
 have d3:decide ((N:Int)<=(num:Int))=false:=by rw [Zk];omega
 go_enter func29,ntmps29;go_wp2_with fail;refine HM.o.mono ?_;rintro x w2 ⟨rfl,rfl⟩;go_wp2_with fail;refine HH.o.mono ?_;rintro x w2 ⟨I2,A,c,hs2,rfl,hr2,h2⟩;obtain ⟨b,bo,e1,hc⟩:=ZbJ (i:=n) (mk:=Mk.vals) (k:=4) hr2 (Hp.sub.refl _) h2 (fun _=>rfl) HAT.o;simp only [ZF,Zae,ZK] at e1;subst e1;have y0:w2.cell? ⟨b,bo+n*4,none⟩=some (int i64 mi):=hc 0 (by decide);have y1:w2.cell? ⟨b,bo+n*4+1,none⟩=some (.string mn):=hc 1 (by decide);have y2:w2.cell? ⟨b,bo+n*4+2,none⟩=some (int i64 (mz:Int)):=hc 2 (by decide);have y3:w2.cell? ⟨b,bo+n*4+3,none⟩=some (.bool mg):=hc 3 (by decide);have lt0:b<w2.heap.size:=cell_ltH y0;have h3:=h2.alloc (cells #[int i64 mi,.string mn,int i64 mz,.bool mg] 66);obtain ⟨g10,hg10⟩:∃ g,w2.heap.size=g:=⟨_,rfl⟩;rw [hg10] at h3;have HG10:=Zh hg10;have H3:=Zh h3;have HS2:=Zh hs2;clear h2 h3 hg10 hr2 hs2 hc HH;go_upto_region 8 with fail;rw [HG10.o];have h3:=H3.o;generalize (World.alloc _ _:World)=w3 at h3 |-;clear y0 y1 y2 y3 lt0 HG10 H3;have hcell:∀ (w':World) (I':Hp) (l1:List HP),St W I' w' (pt g10 (cells #[int i64 mi,.string mn,int i64 mz,.bool mg] 66)::F1::l1)->(w'.cell? ⟨q,0,none⟩=some (pointer (some ⟨p,0,none⟩))∧w'.cell? ⟨q,1,none⟩=some (int i64 0)∧w'.cell? ⟨q,3,none⟩=some (int i64 o)∧w'.cell? ⟨q,4,none⟩=some (int i64 u)∧w'.cell? ⟨q,5,none⟩=some (int i64 cn)∧w'.cell? ⟨g10,0,none⟩=some (int i64 mi)∧w'.cell? ⟨g10,2,none⟩=some (int i64 mz)):=fun w' I' l1 h1=>by
  obtain ⟨v1,_,h1i⟩:=OPEN.o _ _ _ (h1.pull 1 _ rfl);obtain ⟨c0,c1,c2,c3,c4,c5,c6,c7,c8,c9⟩:=Zz h1i;obtain ⟨z0,z1,z2,z3⟩:=ZX h1;exact ⟨c0,c1,c3,c4,c5,z0,z2⟩
 have HC:=Zh hcell;have H4:=Zh h3.drew;have H3:=Zh h3;clear hcell h3 OPEN;refine wp_region_detz (fun w'=>w'.cell? ⟨q,0,none⟩=some (pointer (some ⟨p,0,none⟩))∧w'.cell? ⟨q,1,none⟩=some (int i64 0)∧w'.cell? ⟨q,3,none⟩=some (int i64 o)∧w'.cell? ⟨q,4,none⟩=some (int i64 u)∧w'.cell? ⟨q,5,none⟩=some (int i64 cn)∧w'.cell? ⟨g10,0,none⟩=some (int i64 mi)∧w'.cell? ⟨g10,2,none⟩=some (int i64 mz)) [(0,false),(1,false),(2,false),(3,false),(4,false),(5,false),(6,false),(7,false),(8,false),(9,false),(10,false),(11,false),(12,false),(13,false)] [] [] (by kernel_rfl) (by kernel_rfl) (by (intro w' hb;exact HC.o _ _ _ (H4.o.keep hb))) ?_;repeat (first|refine ch_plain (by rfl) _ (by rfl) (by intro w;go_simp;try with_reducible rfl) ?_|refine ch_val (by rfl) _ (by rfl) (by (intro w hSw;(try dsimp only at hSw);go_simp;try with_reducible rfl)) ?_|refine ch_skip (by rfl) (by rfl) ?_|fail);(try go_frame)
 refine ch_call (by rfl) (int i64 N) (89) (#[.agg #[int i64 o,int i64 u,int i64 cn],int i64 mz]) (by rfl) (by intro w;go_simp;try with_reducible rfl) (by (rintro w1 S;exact OBJ.o w1)) ?_
 (try go_frame)
 repeat (first|refine ch_plain (by rfl) _ (by rfl) (by intro w;go_simp;try with_reducible rfl) ?_|refine ch_val (by rfl) _ (by rfl) (by (intro w hSw;(try dsimp only at hSw);go_simp;try with_reducible rfl)) ?_|refine ch_skip (by rfl) (by rfl) ?_|fail);(try go_frame)
 refine ch_nil ?_;refine al_nil ?_;rintro w9 hz;have H5:=Zh (H4.o.keep hz.below);clear hz H4 H3;go_wp2;refine Zu ?_;have Q5:=Zh (HC.o _ _ _ H5.o);have HTH:=Zh (THERE.o _ _ _ (H5.o.drew.pull 2 _ rfl));go_upto_region 10 with fail;have Q6:=Zh (HC.o _ _ _ H5.o.drew);refine ZcY (fun w'=>w'.cell? ⟨q,0,none⟩=some (pointer (some ⟨p,0,none⟩))∧w'.cell? ⟨q,1,none⟩=some (int i64 0)∧w'.cell? ⟨q,3,none⟩=some (int i64 o)∧w'.cell? ⟨q,4,none⟩=some (int i64 u)∧w'.cell? ⟨q,5,none⟩=some (int i64 cn)∧w'.cell? ⟨g10,0,none⟩=some (int i64 mi)∧w'.cell? ⟨g10,2,none⟩=some (int i64 mz)) [0,1,2,3,4,5,6,7,8,9,10,11,12,13,14,15] (Tp.pull [0,1,2,3,4,5,6,7,8,9,10] (Tp.one 11 (Tp.pull [12,13,14,15] Tp.leaf))) [16] (by kernel_rfl) (by kernel_rfl) (by (exact Q6.o)) ?_;unfold wpTp
 (try simp only [pickL,Zg,Zi])
 repeat (first|refine Zs _ (Or.inl ⟨by rfl,by (intro w hSw;(try dsimp only at hSw);go_simp;try with_reducible rfl)⟩) ?_|refine Zs _ (Or.inr ⟨by rfl,rfl⟩) ?_|fail);(try go_frame)
 refine ZC ?_;unfold wpTp
 (try simp only [pickL,Zg,Zi])
 go_wp2_with fail;refine HTH.o.mono ?_;rintro x w6 ⟨I6,hs6,rfl,h6⟩;have h7:=(h6.pull 2 _ rfl).pull 2 _ rfl;simp only [Zx,Zy] at h7;have Q7:=Zh (HC.o _ _ _ h7);have H7:=Zh h7;have HS6:=Zh (HS2.o.trans hs6);clear h6 h7 hs6 HTH;go_wp2;refine Zt Q7.o ?_;unfold wpTp
 (try simp only [pickL,Zg,Zi])
 repeat (first|refine Zs _ (Or.inl ⟨by rfl,by (intro w hSw;(try dsimp only at hSw);go_simp;try with_reducible rfl)⟩) ?_|refine Zs _ (Or.inr ⟨by rfl,rfl⟩) ?_|fail);(try go_frame)
 refine ZC ?_;unfold wpTp
 (try simp only [pickL,Zg,Zi])
 go_wp2;refine Zu ?_;cases is with
 | false =>
  go_wp2_with fail;refine (ZeQ q 0 (by decide) _).mono ?_;rintro x w8 ⟨rfl,rfl⟩;go_wp2;go_ret2;refine ⟨I6,HS6.o,slice none 0 0,rfl,?_,H7.o.drop.pull 1 _ rfl⟩;exact ⟨none,0,rfl,by simp,Z9 _,by unfold maxLen;omega,fun _=>rfl,fun h=>absurd h (by simp)⟩
 | true =>
  go_upto_region 13 with fail;have Q8:=Zh (HC.o _ _ _ H7.o.drew);clear Q5 Q6 Q7;refine ZcY (fun w'=>w'.cell? ⟨q,0,none⟩=some (pointer (some ⟨p,0,none⟩))∧w'.cell? ⟨q,1,none⟩=some (int i64 0)∧w'.cell? ⟨q,3,none⟩=some (int i64 o)∧w'.cell? ⟨q,4,none⟩=some (int i64 u)∧w'.cell? ⟨q,5,none⟩=some (int i64 cn)∧w'.cell? ⟨g10,0,none⟩=some (int i64 mi)∧w'.cell? ⟨g10,2,none⟩=some (int i64 mz)) [0,1,2,3,4,5,6,7,8,9,10,11,12,13,14,15,16,17,18,19,20,21,22,23,24] (Tp.pull [0,1,2,3,4,5,6,7,8,9,10,11,12,13,14,15,16,17,18] (Tp.one 19 (Tp.one 20 (Tp.pull [21,22,23,24] Tp.leaf)))) [25] (by kernel_rfl) (by kernel_rfl) (by (exact Q8.o)) ?_;unfold wpTp
  (try simp only [pickL,Zg,Zi])
  repeat (first|refine Zs _ (Or.inl ⟨by rfl,by (intro w hSw;(try dsimp only at hSw);go_simp;try with_reducible rfl)⟩) ?_|refine Zs _ (Or.inr ⟨by rfl,rfl⟩) ?_|fail);(try go_frame)
  refine ZC ?_;unfold wpTp
  (try simp only [pickL,Zg,Zi])
  go_wp2_with fail;refine (BYT.o _).mono ?_;rintro x w8 ⟨rfl,hb8⟩;have h8:=H7.o.drew.keep hb8;have Q9:=Zh (HC.o _ _ _ h8);have HRD:=Zh (READ.o _ _ _ (h8.pull 2 _ rfl));clear h8 hb8;go_wp2;refine Zt Q9.o ?_;unfold wpTp
  (try simp only [pickL,Zg,Zi])
  go_wp2_with fail;refine HRD.o.mono ?_;rintro x w10 ⟨v,I10,hs10,rfl,hv,h10⟩;have h11:=(h10.pull 2 _ rfl).pull 2 _ rfl;simp only [Zx,Zy] at h11;have Q11:=Zh (HC.o _ _ _ h11);obtain ⟨AV,cV,rfl,_⟩:=RowI.cap hv;have HV:=Zh hv;have H11:=Zh h11;have HS10:=Zh (HS6.o.trans hs10);clear h10 h11 hs10 HRD hv;go_wp2;refine Zt Q11.o ?_;unfold wpTp
  (try simp only [pickL,Zg,Zi])
  repeat (first|refine Zs _ (Or.inl ⟨by rfl,by (intro w hSw;(try dsimp only at hSw);go_simp;try with_reducible rfl)⟩) ?_|refine Zs _ (Or.inr ⟨by rfl,rfl⟩) ?_|fail);(try go_frame)
  refine ZC ?_;unfold wpTp
  (try simp only [pickL,Zg,Zi])
  go_wp2;refine Zu ?_;go_wp2_with fail;refine (ZeQ q 0 (by decide) _).mono ?_;rintro x w12 ⟨rfl,rfl⟩;go_wp2;go_ret2;exact ⟨I10,HS10.o,slice AV BS.length cV,rfl,HV.o,H11.o.drop.pull 1 _ rfl⟩
end
end Go.Proofs.YtcbdghojlbpomaaGreat
