import Derived.Test.YtcbdghojlbpomaaGreatIL03
set_option linter.all false
namespace Go.Proofs.YtcbdghojlbpomaaGreat
open Tryz
open HP (pt mapOf)
open Go.IntKind (i64 u64)
open Go.Value (int pointer slice)
open Go.Obj (cells)
open Go.RowKit
theorem back_obj {l:Ly} (h:l.ok) {a b:Nat} (hab:a<=b):backN l a 0<=backN l b 0:=by
 have hc:=h.c1;have hP:=l.Ppos;have hd:=Nat.div_le_div_right (c:=l.count) hab;unfold backN;rw [Nat.zero_div,Nat.zero_mod,Zbg,Zbg,Zbg,Zbg];refine Zcj _ ?_;by_cases e:a / l.count=b / l.count
 ·rw [e];have h1:=Zcl a l.count;have h2:=Zcl b l.count;rw [e] at h1;omega
 ·have hlt:a / l.count+1<=b / l.count:=by omega
  have h1:=Zcj l.P hlt;have h2:=Zcj l.count h1;rw [Zbj,Zd8,Zbj] at h2;have h3:l.count<=l.P*l.count:=Nat.le_mul_of_pos_left _ hP;have h4:=ZaU a (show l.count > 0 by omega);omega
theorem objs_in {l:Ly} (h:l.ok) {size N k:Nat} (hN:IsObjs l size N) (hk:k<N):0<ZI l size k:=by
 have h8:=Zlg h.o1 h.o2;refine (ZfV h size k (i:=0) (by omega)).2 ?_;rcases hN.top with q|⟨x,hx,q⟩
 ·omega
 ·refine Nat.lt_of_le_of_lt (back_obj h (show k<=(ZB l x).1 by omega)) (Nat.lt_of_le_of_lt ?_ hx);have hb:=Zg4 h x;rcases Zbf (ZB l x).2 with e|e
  ·rw [e] at hb;omega
  ·have:=ZqA h (o:=(ZB l x).1) e;omega
def layR (h:Hd) (R:List RO) (k:Nat) (p:List Int):List RO:=R.set k (rlay (objAt R k) h.newest p)
theorem HdI.lay {h:Hd} {R:List RO} (H:HdI h R) {N k:Nat} {p:List Int} (hN:IsObjs h.l h.size N) (hk:k<N) (hp:p.length<=ZI h.l h.size k) :
  HdI h (layR h R k p)∧(∀ s,0<s->s<=h.newest->∀ x,byteR h.l (layR h R k p) s x=byteR h.l R s x)∧∀ x,byteR h.l (layR h R k p) 0 x=if (ZB h.l x).1=k then p.getD (ZB h.l x).2 0 else byteR h.l R 0 x:=by
 have hke:k<every:=by
  rcases hN.top with q|⟨y,hy,q⟩
  ·omega
  ·have:=Zfx H.ok.shape (x:=y) (by have:=H.ok.size;omega);omega
 have hh:((rlay (objAt R k) h.newest p).h.getD [])=p:=by
  unfold rlay;rw [<-Zcr,rat_head];by_cases e:p=[]
  ·rw [Zb e,e];rfl
  ·rw [Za e];rfl
 obtain ⟨a,b,c⟩:=H.img.set hke (o':=rlay (objAt R k) h.newest p) (.inr ⟨_,rfl⟩) (by rw [hh];exact hp);refine ⟨⟨a,H.marks,H.ok,fun j hj=>?_⟩,fun s h0 hs x=>Zek (b s h0 hs) x,fun x=>?_⟩
 ·unfold layR;rw [ZiD fun e=>?_]
  ·exact H.nz j hj
  ·subst e;have h1:=objs_in H.ok.shape hN hk;have h2:=Zjg H.ok.shape H.ok.size j;omega
 ·unfold byteR byteO;rw [Zcr,Zcr];have:=c (ZB h.l x).1;unfold layR;rw [this];by_cases e:(ZB h.l x).1=k
  ·rw [Zb e,Zb e,hh]
  ·rw [Za e,Za e]
section
variable {W w : World} {I : Hp} {l : List HP} {p q : Nat} {S : Str}
set_option maxRecDepth 4000
set_option maxHeartbeats 8000000
theorem bytes_at (l:Ly) (hl:l.ok) (size b:Nat) (hsz:size<=512) (hb:b<=1048576) {n:Nat} (hn:ZI l size b=n) (w:World):Calls prog 92 #[l.val,int i64 size,int i64 b] w fun e w'=>e=.returned (int i64 n)∧Below w.heap.size w w':=by
 have:=Zg8 l hl size b hsz hb w;rw [hn] at this;exact this
theorem ilay_range (h:Hd) (R:List RO) (N:Nat) (num:Int) (A:Option Addr) (n c:Nat) (hs:St W I w (Zd p S::imgHP q p h::l)) (J:IJ S h R) (hN:IsObjs h.l h.size N) (hnum:num<0∨(N:Int)<=num) :
  Calls prog 32 #[pointer (some ⟨q,0,none⟩),int i64 num,slice A n c] w fun e w'=>e=.returned (int i64 3)∧St W I w' (Zd p S::imgHP q p h::l):=by
 have HM:=Zh (ZbK hs J.st.live.on);have OBJ:=Zh (fun (wx:World)=>objects_at h.l J.ok.shape h.size J.ok.size hN wx);obtain ⟨v,hv,hi⟩:=(hs.pull 1 _ rfl).img_open;obtain ⟨AM,cM,rfl,_⟩:=RowI.cap hv;have HI:=Zh hi;have HV:=Zh hv;have SHUT:=Zh (fun (I':Hp) (wx:World) (l':List HP) (hv:(mksIP (slice AM h.marks.length cM) h.marks).p I') (hst:St W I' wx (pt q (cells (ZdT p h (slice AM h.marks.length cM)) 119)::l'))=>hst.img_shut hv);have HC0:=Zh (fun (w':World) (I':Hp) (l1:List HP) (h1:St W I' w' (pt q (cells (ZdT p h (slice AM h.marks.length cM)) 119)::l1))=>Zz h1);obtain ⟨ml,hml⟩:∃ x,h.marks.length=x:=⟨_,rfl⟩;obtain ⟨F1,hF1⟩:∃ x,pt q (cells (ZdT p h (slice AM h.marks.length cM)) 119)=x:=⟨_,rfl⟩;rw [hF1] at HI HC0 SHUT;clear hs J hi hv;obtain ⟨FI,hFI⟩:∃ x,imgHP q p h=x:=⟨_,rfl⟩;rw [hFI] at SHUT |-;obtain ⟨sz,⟨o,u,cn⟩,nx,sq,mks⟩:=h
 have HC:=Zh (fun (w':World) (I':Hp) (l1:List HP) (h1:St W I' w' (F1::l1))=>show w'.cell? ⟨q,0,none⟩=some (pointer (some ⟨p,0,none⟩))∧w'.cell? ⟨q,1,none⟩=some (int i64 0)∧w'.cell? ⟨q,2,none⟩=some (int i64 sz)∧w'.cell? ⟨q,3,none⟩=some (int i64 o)∧w'.cell? ⟨q,4,none⟩=some (int i64 u)∧w'.cell? ⟨q,5,none⟩=some (int i64 cn)∧w'.cell? ⟨q,6,none⟩=some (int i64 nx)∧w'.cell? ⟨q,7,none⟩=some (int i64 sq)∧w'.cell? ⟨q,8,none⟩=some (slice AM ml cM) from by
  obtain ⟨c0,c1,c2,c3,c4,c5,c6,c7,c8,c9⟩:=HC0.o w' I' l1 h1;simp only at hml;rw [hml] at c8
  exact ⟨c0,c1,c2,c3,c4,c5,c6,c7,c8⟩)
 simp only [Ly.val] at *;clear HC0 hF1 hFI hml hN;by_cases hneg:num<0
 ·have d2:decide (num<0)=true:=by rw [Ze];exact hneg
  go_enter func32,ntmps32;go_wp2_with fail;refine HM.o.mono ?_;rintro x w2 ⟨rfl,rfl⟩;go_upto_region 4 with fail;go_quiet (fail);have HX:=Zh (HI.o.drewN nq);clear HC HI;go_wp2;go_ret;exact ⟨rfl,SHUT.o _ _ _ HV.o HX.o |>.pull 1 _ rfl⟩
 ·have d2:decide (num<0)=false:=by rw [Zk];exact hneg
  have d3:decide ((N:Int)<=num)=true:=by rw [Ze];omega
  go_enter func32,ntmps32;go_wp2_with fail;refine HM.o.mono ?_;rintro x w2 ⟨rfl,rfl⟩;go_upto_region 4 with fail;refine wp_region_detz (fun w'=>w'.cell? ⟨q,0,none⟩=some (pointer (some ⟨p,0,none⟩))∧w'.cell? ⟨q,1,none⟩=some (int i64 0)∧w'.cell? ⟨q,2,none⟩=some (int i64 sz)∧w'.cell? ⟨q,3,none⟩=some (int i64 o)∧w'.cell? ⟨q,4,none⟩=some (int i64 u)∧w'.cell? ⟨q,5,none⟩=some (int i64 cn)∧w'.cell? ⟨q,6,none⟩=some (int i64 nx)∧w'.cell? ⟨q,7,none⟩=some (int i64 sq)∧w'.cell? ⟨q,8,none⟩=some (slice AM ml cM)) [(0,false),(1,false),(2,false),(3,false),(4,false),(5,false),(6,false),(7,false),(8,false),(9,false),(10,false),(11,false),(12,false),(13,false),(14,false),(15,false),(16,false)] [] [17] (by kernel_rfl) (by kernel_rfl) (by (intro w' hb;exact HC.o _ _ _ (HI.o.drew.keep hb))) ?_;repeat (first|refine ch_plain (by rfl) _ (by rfl) (by intro w;go_simp;try with_reducible rfl) ?_|refine ch_val (by rfl) _ (by rfl) (by (intro w hSw;(try dsimp only at hSw);go_simp;try with_reducible rfl)) ?_|refine ch_skip (by rfl) (by rfl) ?_|fail);(try go_frame)
  refine ch_call (by rfl) (int i64 N) (89) (#[.agg #[int i64 o,int i64 u,int i64 cn],int i64 sz]) (by rfl) (by intro w;go_simp;try with_reducible rfl) (by (rintro w1 S;exact OBJ.o w1)) ?_
  (try go_frame)
  repeat (first|refine ch_plain (by rfl) _ (by rfl) (by intro w;go_simp;try with_reducible rfl) ?_|refine ch_val (by rfl) _ (by rfl) (by (intro w hSw;(try dsimp only at hSw);go_simp;try with_reducible rfl)) ?_|refine ch_skip (by rfl) (by rfl) ?_|fail);(try go_frame)
  refine ch_nil ?_;refine al_nil ?_;rintro w3 hz;have H3:=Zh (HI.o.drew.keep hz.below);clear hz HI;go_wp2;refine Zu ?_;have HX:=H3;clear HC;go_wp2;go_ret;exact ⟨rfl,SHUT.o _ _ _ HV.o HX.o |>.pull 1 _ rfl⟩
theorem ilay_arg (h:Hd) (R:List RO) (N num:Nat) (A:Option Addr) (n c:Nat) (hs:St W I w (Zd p S::imgHP q p h::l)) (J:IJ S h R) (hN:IsObjs h.l h.size N) (hnum:num<N) (hbig:ZI h.l h.size num<n) :
  Calls prog 32 #[pointer (some ⟨q,0,none⟩),int i64 num,slice A n c] w fun e w'=>e=.returned (int i64 1)∧St W I w' (Zd p S::imgHP q p h::l):=by
 have HM:=Zh (ZbK hs J.st.live.on);have OBJ:=Zh (fun (wx:World)=>objects_at h.l J.ok.shape h.size J.ok.size hN wx);have hke:num<=1048576:=by
  rcases hN.top with q|⟨y,hy,q⟩
  ·omega
  ·have:=Zfx J.ok.shape (x:=y) (by have:=J.ok.size;omega);unfold every at this;omega
 obtain ⟨bn,hbn⟩:∃ x,ZI h.l h.size num=x:=⟨_,rfl⟩;have BYT:=Zh (fun (wx:World)=>bytes_at h.l J.ok.shape h.size num J.ok.size hke hbn wx);rw [hbn] at hbig;obtain ⟨v,hv,hi⟩:=(hs.pull 1 _ rfl).img_open;obtain ⟨AM,cM,rfl,_⟩:=RowI.cap hv;have HI:=Zh hi;have HV:=Zh hv;have SHUT:=Zh (fun (I':Hp) (wx:World) (l':List HP) (hv:(mksIP (slice AM h.marks.length cM) h.marks).p I') (hst:St W I' wx (pt q (cells (ZdT p h (slice AM h.marks.length cM)) 119)::l'))=>hst.img_shut hv);have HC0:=Zh (fun (w':World) (I':Hp) (l1:List HP) (h1:St W I' w' (pt q (cells (ZdT p h (slice AM h.marks.length cM)) 119)::l1))=>Zz h1);obtain ⟨ml,hml⟩:∃ x,h.marks.length=x:=⟨_,rfl⟩;obtain ⟨F1,hF1⟩:∃ x,pt q (cells (ZdT p h (slice AM h.marks.length cM)) 119)=x:=⟨_,rfl⟩;rw [hF1] at HI HC0 SHUT;clear hs J hi hv hbn;obtain ⟨FI,hFI⟩:∃ x,imgHP q p h=x:=⟨_,rfl⟩;rw [hFI] at SHUT |-;obtain ⟨sz,⟨o,u,cn⟩,nx,sq,mks⟩:=h
 have HC:=Zh (fun (w':World) (I':Hp) (l1:List HP) (h1:St W I' w' (F1::l1))=>show w'.cell? ⟨q,0,none⟩=some (pointer (some ⟨p,0,none⟩))∧w'.cell? ⟨q,1,none⟩=some (int i64 0)∧w'.cell? ⟨q,2,none⟩=some (int i64 sz)∧w'.cell? ⟨q,3,none⟩=some (int i64 o)∧w'.cell? ⟨q,4,none⟩=some (int i64 u)∧w'.cell? ⟨q,5,none⟩=some (int i64 cn)∧w'.cell? ⟨q,6,none⟩=some (int i64 nx)∧w'.cell? ⟨q,7,none⟩=some (int i64 sq)∧w'.cell? ⟨q,8,none⟩=some (slice AM ml cM) from by
  obtain ⟨c0,c1,c2,c3,c4,c5,c6,c7,c8,c9⟩:=HC0.o w' I' l1 h1;simp only at hml;rw [hml] at c8
  exact ⟨c0,c1,c2,c3,c4,c5,c6,c7,c8⟩)
 simp only [Ly.val] at *;clear HC0 hF1 hFI hml hN;have d2:decide ((num:Int)<0)=false:=by rw [Zk];omega
 have d3:decide ((N:Int)<=(num:Int))=false:=by rw [Zk];omega
 have d4:decide ((bn:Int)<(n:Int))=true:=by rw [Ze];omega
 go_enter func32,ntmps32;go_wp2_with fail;refine HM.o.mono ?_;rintro x w2 ⟨rfl,rfl⟩;go_upto_region 4 with fail;refine wp_region_detz (fun w'=>w'.cell? ⟨q,0,none⟩=some (pointer (some ⟨p,0,none⟩))∧w'.cell? ⟨q,1,none⟩=some (int i64 0)∧w'.cell? ⟨q,2,none⟩=some (int i64 sz)∧w'.cell? ⟨q,3,none⟩=some (int i64 o)∧w'.cell? ⟨q,4,none⟩=some (int i64 u)∧w'.cell? ⟨q,5,none⟩=some (int i64 cn)∧w'.cell? ⟨q,6,none⟩=some (int i64 nx)∧w'.cell? ⟨q,7,none⟩=some (int i64 sq)∧w'.cell? ⟨q,8,none⟩=some (slice AM ml cM)) [(0,false),(1,false),(2,false),(3,false),(4,false),(5,false),(6,false),(7,false),(8,false),(9,false),(10,false),(11,false),(12,false),(13,false),(14,false),(15,false),(16,false)] [] [17] (by kernel_rfl) (by kernel_rfl) (by (intro w' hb;exact HC.o _ _ _ (HI.o.drew.keep hb))) ?_;repeat (first|refine ch_plain (by rfl) _ (by rfl) (by intro w;go_simp;try with_reducible rfl) ?_|refine ch_val (by rfl) _ (by rfl) (by (intro w hSw;(try dsimp only at hSw);go_simp;try with_reducible rfl)) ?_|refine ch_skip (by rfl) (by rfl) ?_|fail);(try go_frame)
 refine ch_call (by rfl) (int i64 N) (89) (#[.agg #[int i64 o,int i64 u,int i64 cn],int i64 sz]) (by rfl) (by intro w;go_simp;try with_reducible rfl) (by (rintro w1 S;exact OBJ.o w1)) ?_
 (try go_frame)
 repeat (first|refine ch_plain (by rfl) _ (by rfl) (by intro w;go_simp;try with_reducible rfl) ?_|refine ch_val (by rfl) _ (by rfl) (by (intro w hSw;(try dsimp only at hSw);go_simp;try with_reducible rfl)) ?_|refine ch_skip (by rfl) (by rfl) ?_|fail);(try go_frame)
 refine ch_nil ?_;refine al_nil ?_;rintro w3 hz;have H3:=Zh (HI.o.drew.keep hz.below);clear hz HI;go_wp2;refine Zu ?_;go_upto_region 6 with fail;refine wp_region_detz (fun w'=>w'.cell? ⟨q,0,none⟩=some (pointer (some ⟨p,0,none⟩))∧w'.cell? ⟨q,1,none⟩=some (int i64 0)∧w'.cell? ⟨q,2,none⟩=some (int i64 sz)∧w'.cell? ⟨q,3,none⟩=some (int i64 o)∧w'.cell? ⟨q,4,none⟩=some (int i64 u)∧w'.cell? ⟨q,5,none⟩=some (int i64 cn)∧w'.cell? ⟨q,6,none⟩=some (int i64 nx)∧w'.cell? ⟨q,7,none⟩=some (int i64 sq)∧w'.cell? ⟨q,8,none⟩=some (slice AM ml cM)) [(0,false),(1,false),(2,false),(3,false),(4,false),(5,false),(6,false),(7,false),(8,false),(9,false),(10,false),(11,false),(12,false),(13,false),(14,false)] [] [15] (by kernel_rfl) (by kernel_rfl) (by (intro w' hb;exact HC.o _ _ _ (H3.o.drew.keep hb))) ?_;repeat (first|refine ch_plain (by rfl) _ (by rfl) (by intro w;go_simp;try with_reducible rfl) ?_|refine ch_val (by rfl) _ (by rfl) (by (intro w hSw;(try dsimp only at hSw);go_simp;try with_reducible rfl)) ?_|refine ch_skip (by rfl) (by rfl) ?_|fail);(try go_frame)
 refine ch_call (by rfl) (int i64 bn) (92) (#[.agg #[int i64 o,int i64 u,int i64 cn],int i64 sz,int i64 num]) (by rfl) (by intro w;go_simp;try with_reducible rfl) (by (rintro w1 S;exact BYT.o w1)) ?_
 (try go_frame)
 repeat (first|refine ch_plain (by rfl) _ (by rfl) (by intro w;go_simp;try with_reducible rfl) ?_|refine ch_val (by rfl) _ (by rfl) (by (intro w hSw;(try dsimp only at hSw);go_simp;try with_reducible rfl)) ?_|refine ch_skip (by rfl) (by rfl) ?_|fail);(try go_frame)
 refine ch_nil ?_;refine al_nil ?_;rintro w4 hz;have H4:=Zh (H3.o.drew.keep hz.below);clear hz H3;go_wp2;refine Zu ?_;have HX:=H4;clear HC;go_wp2;go_ret;exact ⟨rfl,SHUT.o _ _ _ HV.o HX.o |>.pull 1 _ rfl⟩
theorem ilay_spec (h:Hd) (R:List RO) (N num:Nat) (A:Option Addr) (c:Nat) (b:List Int) {m:Nat} (hs:St W I w (Zd p S::imgHP q p h::l)) (J:IJ S h R) (hk:Keeps S (m+16)) (hN:IsObjs h.l h.size N) (hnum:num<N) (hle:b.length<=ZI h.l h.size num) (hbv:Zw I (slice A b.length c) b) :
  Calls prog 32 #[pointer (some ⟨q,0,none⟩),int i64 num,slice A b.length c] w fun e w'=>∃ I',I.sub I'∧e=.returned (int i64 0)∧∃ S',St W I' w' (Zd p S'::imgHP q p h::l)∧IJ S' h (layR h R num b)∧Keeps S' m:=by
 have HM:=Zh (ZbK hs J.st.live.on);have OBJ:=Zh (fun (wx:World)=>objects_at h.l J.ok.shape h.size J.ok.size hN wx);have hke:num<=1048576:=by
  rcases hN.top with q|⟨y,hy,q⟩
  ·omega
  ·have:=Zfx J.ok.shape (x:=y) (by have:=J.ok.size;omega);unfold every at this;omega
 obtain ⟨bn,hbn⟩:∃ x,ZI h.l h.size num=x:=⟨_,rfl⟩;have BYT:=Zh (fun (wx:World)=>bytes_at h.l J.ok.shape h.size num J.ok.size hke hbn wx);rw [hbn] at hle;have hb64:bn<=64:=by rw [<-hbn];exact ZqK J.ok.shape ..
 have hHd:=J.hd.lay hN hnum (p:=b) (by rw [hbn];exact hle);have hkv:num<every:=by
  rcases hN.top with q|⟨y,hy,q⟩
  ·omega
  ·have:=Zfx J.ok.shape (x:=y) (by have:=J.ok.size;omega);omega
 have hone:=J.st.lay J.hd.mid hkv (p:=b) (by omega);obtain ⟨r,hr⟩:∃ x,Zlt S 0 num h.newest b=x:=⟨_,rfl⟩;have hkr:Keeps r.2 m:=by rw [<-hr];exact claySn_keeps hk
 rw [hr] at hone;have hone0:=hone.done;have LAYC:=Zh (fun (wx:World) (I':Hp) (l':List HP) (hst:St W I' wx (Zd p S::l')) (hb:Zw I' (slice A b.length c) b)=>clayn_spec 0 num h.newest _ b hst hk hb (by omega));rw [hr] at LAYC;have FIN:=Zh (And.intro (hHd.1.ij hone.st (J.recd.seen hone.recd)) hkr);have NEW:=Zh (fun (v:Value) (wx:World) (hs:SliceSrc wx 4 v h.marks.length (h.marks.flatMap Mk.vals))=>ZgS h J.img.ids v wx hs (ZQ J.ok.many (by decide)));obtain ⟨nw,hnw⟩:∃ x,h.newest=x:=⟨_,rfl⟩;rw [hnw] at NEW LAYC;obtain ⟨R2,hR2⟩:∃ x,layR h R num b=x:=⟨_,rfl⟩;rw [hR2] at FIN |-;obtain ⟨v,hv,hi⟩:=(hs.pull 1 _ rfl).img_open;obtain ⟨AM,cM,rfl,_⟩:=RowI.cap hv;have HI:=Zh hi;have HV:=Zh hv;have SHUT:=Zh (fun (I':Hp) (wx:World) (l':List HP) (hv:(mksIP (slice AM h.marks.length cM) h.marks).p I') (hst:St W I' wx (pt q (cells (ZdT p h (slice AM h.marks.length cM)) 119)::l'))=>hst.img_shut hv);have HC0:=Zh (fun (w':World) (I':Hp) (l1:List HP) (h1:St W I' w' (pt q (cells (ZdT p h (slice AM h.marks.length cM)) 119)::l1))=>Zz h1);obtain ⟨ml,hml⟩:∃ x,h.marks.length=x:=⟨_,rfl⟩;obtain ⟨F1,hF1⟩:∃ x,pt q (cells (ZdT p h (slice AM h.marks.length cM)) 119)=x:=⟨_,rfl⟩;rw [hF1] at HI HC0 SHUT;clear hs J hi hv hbn hb64 hHd hkv hone hr hkr hnw hR2 hk;obtain ⟨FI,hFI⟩:∃ x,imgHP q p h=x:=⟨_,rfl⟩;rw [hFI] at SHUT |-;simp only [Hd.cells] at NEW;obtain ⟨sz,⟨o,u,cn⟩,nx,sq,mks⟩:=h;have SRC:=Zh (fun (wx:World) (hst:St W I wx (F1::Zd p S::l))=>ZbW hst HV.o)
 have HC:=Zh (fun (w':World) (I':Hp) (l1:List HP) (h1:St W I' w' (F1::l1))=>show w'.cell? ⟨q,0,none⟩=some (pointer (some ⟨p,0,none⟩))∧w'.cell? ⟨q,1,none⟩=some (int i64 0)∧w'.cell? ⟨q,2,none⟩=some (int i64 sz)∧w'.cell? ⟨q,3,none⟩=some (int i64 o)∧w'.cell? ⟨q,4,none⟩=some (int i64 u)∧w'.cell? ⟨q,5,none⟩=some (int i64 cn)∧w'.cell? ⟨q,6,none⟩=some (int i64 nx)∧w'.cell? ⟨q,7,none⟩=some (int i64 sq)∧w'.cell? ⟨q,8,none⟩=some (slice AM ml cM) from by
  obtain ⟨c0,c1,c2,c3,c4,c5,c6,c7,c8,c9⟩:=HC0.o w' I' l1 h1;simp only at hml;rw [hml] at c8
  exact ⟨c0,c1,c2,c3,c4,c5,c6,c7,c8⟩)
 simp only [Ly.val] at *;have HML:=Zh hml;clear HC0 hF1 hFI hml hN;obtain ⟨bl,hbl⟩:∃ x,b.length=x:=⟨_,rfl⟩;have HBV:=Zh hbv;rw [hbl] at HBV hle LAYC |-;have d2:decide ((num:Int)<0)=false:=by rw [Zk];omega
 have d3:decide ((N:Int)<=(num:Int))=false:=by rw [Zk];omega
 have d4:decide ((bn:Int)<(bl:Int))=false:=by rw [Zk];omega
 have d4b:decide (bn<bl)=false:=ZbH (by omega);clear hbl hbv;go_enter func32,ntmps32;go_wp2_with fail;refine HM.o.mono ?_;rintro x w2 ⟨rfl,rfl⟩;go_upto_region 4 with fail;refine wp_region_detz (fun w'=>w'.cell? ⟨q,0,none⟩=some (pointer (some ⟨p,0,none⟩))∧w'.cell? ⟨q,1,none⟩=some (int i64 0)∧w'.cell? ⟨q,2,none⟩=some (int i64 sz)∧w'.cell? ⟨q,3,none⟩=some (int i64 o)∧w'.cell? ⟨q,4,none⟩=some (int i64 u)∧w'.cell? ⟨q,5,none⟩=some (int i64 cn)∧w'.cell? ⟨q,6,none⟩=some (int i64 nx)∧w'.cell? ⟨q,7,none⟩=some (int i64 sq)∧w'.cell? ⟨q,8,none⟩=some (slice AM ml cM)) [(0,false),(1,false),(2,false),(3,false),(4,false),(5,false),(6,false),(7,false),(8,false),(9,false),(10,false),(11,false),(12,false),(13,false),(14,false),(15,false),(16,false)] [] [17] (by kernel_rfl) (by kernel_rfl) (by (intro w' hb;exact HC.o _ _ _ (HI.o.drew.keep hb))) ?_;repeat (first|refine ch_plain (by rfl) _ (by rfl) (by intro w;go_simp;try with_reducible rfl) ?_|refine ch_val (by rfl) _ (by rfl) (by (intro w hSw;(try dsimp only at hSw);go_simp;try with_reducible rfl)) ?_|refine ch_skip (by rfl) (by rfl) ?_|fail);(try go_frame)
 refine ch_call (by rfl) (int i64 N) (89) (#[.agg #[int i64 o,int i64 u,int i64 cn],int i64 sz]) (by rfl) (by intro w;go_simp;try with_reducible rfl) (by (rintro w1 S;exact OBJ.o w1)) ?_
 (try go_frame)
 repeat (first|refine ch_plain (by rfl) _ (by rfl) (by intro w;go_simp;try with_reducible rfl) ?_|refine ch_val (by rfl) _ (by rfl) (by (intro w hSw;(try dsimp only at hSw);go_simp;try with_reducible rfl)) ?_|refine ch_skip (by rfl) (by rfl) ?_|fail);(try go_frame)
 refine ch_nil ?_;refine al_nil ?_;rintro w3 hz;have H3:=Zh (HI.o.drew.keep hz.below);clear hz HI;go_wp2;refine Zu ?_;go_upto_region 6 with fail;refine wp_region_detz (fun w'=>w'.cell? ⟨q,0,none⟩=some (pointer (some ⟨p,0,none⟩))∧w'.cell? ⟨q,1,none⟩=some (int i64 0)∧w'.cell? ⟨q,2,none⟩=some (int i64 sz)∧w'.cell? ⟨q,3,none⟩=some (int i64 o)∧w'.cell? ⟨q,4,none⟩=some (int i64 u)∧w'.cell? ⟨q,5,none⟩=some (int i64 cn)∧w'.cell? ⟨q,6,none⟩=some (int i64 nx)∧w'.cell? ⟨q,7,none⟩=some (int i64 sq)∧w'.cell? ⟨q,8,none⟩=some (slice AM ml cM)) [(0,false),(1,false),(2,false),(3,false),(4,false),(5,false),(6,false),(7,false),(8,false),(9,false),(10,false),(11,false),(12,false),(13,false),(14,false)] [] [15] (by kernel_rfl) (by kernel_rfl) (by (intro w' hb;exact HC.o _ _ _ (H3.o.drew.keep hb))) ?_;repeat (first|refine ch_plain (by rfl) _ (by rfl) (by intro w;go_simp;try with_reducible rfl) ?_|refine ch_val (by rfl) _ (by rfl) (by (intro w hSw;(try dsimp only at hSw);go_simp;try with_reducible rfl)) ?_|refine ch_skip (by rfl) (by rfl) ?_|fail);(try go_frame)
 refine ch_call (by rfl) (int i64 bn) (92) (#[.agg #[int i64 o,int i64 u,int i64 cn],int i64 sz,int i64 num]) (by rfl) (by intro w;go_simp;try with_reducible rfl) (by (rintro w1 S;exact BYT.o w1)) ?_
 (try go_frame)
 repeat (first|refine ch_plain (by rfl) _ (by rfl) (by intro w;go_simp;try with_reducible rfl) ?_|refine ch_val (by rfl) _ (by rfl) (by (intro w hSw;(try dsimp only at hSw);go_simp;try with_reducible rfl)) ?_|refine ch_skip (by rfl) (by rfl) ?_|fail);(try go_frame)
 refine ch_nil ?_;refine al_nil ?_;rintro w4 hz;have H4:=Zh (H3.o.drew.keep hz.below);clear hz H3;go_wp2;refine Zu ?_;go_upto_region 8 with fail;have Q5:=Zh (HC.o _ _ _ H4.o.drew);have hnw:=NEW.o _ _ (SRC.o _ H4.o.drew);rw [HML.o] at hnw;have HNW:=Zh hnw;clear hnw NEW SRC;refine ZcY (fun w'=>w'.cell? ⟨q,0,none⟩=some (pointer (some ⟨p,0,none⟩))∧w'.cell? ⟨q,1,none⟩=some (int i64 0)∧w'.cell? ⟨q,2,none⟩=some (int i64 sz)∧w'.cell? ⟨q,3,none⟩=some (int i64 o)∧w'.cell? ⟨q,4,none⟩=some (int i64 u)∧w'.cell? ⟨q,5,none⟩=some (int i64 cn)∧w'.cell? ⟨q,6,none⟩=some (int i64 nx)∧w'.cell? ⟨q,7,none⟩=some (int i64 sq)∧w'.cell? ⟨q,8,none⟩=some (slice AM ml cM)) [0,1,2,3,4,5,6,7,8,9,10,11,12,13,14,15,16,17] (Tp.pull [0,1,2,3,4,5,6,7,8,9,10,11,12,13,15] (Tp.one 14 (Tp.one 16 (Tp.one 17 Tp.leaf)))) [18] (by kernel_rfl) (by kernel_rfl) (by (exact Q5.o)) ?_;unfold wpTp
 (try simp only [pickL,Zg,Zi])
 repeat (first|refine Zs _ (Or.inl ⟨by rfl,by (intro w hSw;(try dsimp only at hSw);go_simp;try with_reducible rfl)⟩) ?_|refine Zs _ (Or.inr ⟨by rfl,rfl⟩) ?_|fail);(try go_frame)
 refine ZC ?_;unfold wpTp
 (try simp only [pickL,Zg,Zi])
 go_wp2_with fail;refine HNW.o.mono ?_;rintro x w5 ⟨rfl,hb5⟩;have h5:=H4.o.drew.keep hb5;have Q6:=Zh (HC.o _ _ _ h5);have LAYX:=Zh (LAYC.o _ _ _ (h5.pull 1 _ rfl) HBV.o);clear h5 hb5 HNW LAYC H4 Q5;go_wp2;refine Zt Q6.o ?_;unfold wpTp
 (try simp only [pickL,Zg,Zi])
 go_wp2_with fail;refine LAYX.o.mono ?_;rintro x w6 ⟨I6,hs6,rfl,h6⟩;rw [hone0];have h7:=h6.pull 1 _ rfl;simp only [Zx,Zy] at h7;have Q7:=Zh (HC.o _ _ _ h7);have H7:=Zh h7;have HS6:=Zh hs6;clear h6 h7 hs6 LAYX Q6;go_wp2;refine Zt Q7.o ?_;unfold wpTp
 (try simp only [pickL,Zg,Zi])
 go_wp2_with fail;refine (ZeQ q 0 (by decide) _).mono ?_;rintro x w8 ⟨rfl,rfl⟩;go_wp2;refine Zt Q7.o ?_;unfold wpTp
 (try simp only [pickL,Zg,Zi])
 go_wp2;refine Zu ?_;go_wp2;go_ret;exact ⟨I6,HS6.o,rfl,r.2,(SHUT.o _ _ _ ((mksIP _ _).mono HS6.o HV.o) H7.o).pull 1 _ rfl,FIN.o.1,FIN.o.2⟩
end
end Go.Proofs.YtcbdghojlbpomaaGreat
