import Derived.Test.YtpjchngjhijgmaaGreatJP37
set_option linter.all false
set_option maxRecDepth 4000
set_option maxHeartbeats 8000000
open Go.RowKit
open Go.IntKind (i64 u64)
open Go.Value (int pointer slice)
open Go.Obj (cells)
namespace Go.Proofs.YtpjchngjhijgmaaGreat
open Tryz
open HP (pt mapOf)
variable {W w w':World} {I:Hp} {l:List HP}
def Zcd (s:List Tag × Int) (x:Int):List Tag × Int :=
 if 20<=s.1.length then s
 else if x / 4 % 2=0 then (s.1,s.2+x % 4)
 else (s.1++[if x / 16 % 2=0 then ⟨nextId s.1 (1+x / 8 % 2),1+x / 8 % 2,0,s.2+x % 4⟩ else ⟨nextId s.1 (1+x / 8 % 2),0,3 - (1+x / 8 % 2),s.2+x % 4⟩],s.2+x % 4)
def grow (l:List Int):List Tag × Int:=l.foldl Zcd ([⟨1,1,0,0⟩],0)
theorem Zib {l:List Int} {k:Nat} {x:Int} (h:l[k]?=some x):grow (l.take (k+1))=Zcd (grow (l.take k)) x:=by
 rw [Zee h,grow,ZeZ];rfl
theorem ZnG {s:List Tag × Int} (h:20<=s.1.length) (x:Int):Zcd s x=s:=by rw [Zcd,Zb h]
theorem ZnH (l:List Int) (s:List Tag × Int) (h:20<=s.1.length):l.foldl Zcd s=s:=by
 induction l with
 | nil=>rfl
 | cons x l ih=>rw [Ze1,ZnG h,ih]
theorem ZrO {l:List Int} {k:Nat} (h:20<=(grow (l.take k)).1.length):grow l=grow (l.take k):=by
 conv=>lhs;rw [<-Zck k l]
 rw [grow,ZeZ];exact ZnH _ _ h
theorem ZlV:∀ (l:List Int) (s:List Tag × Int),Good s.1 s.2->s.1.length<=20->s.2+3*l.length<=1000000->Good (l.foldl Zcd s).1 (l.foldl Zcd s).2∧(l.foldl Zcd s).1.length<=20
 | [],s,h,hl,_=>⟨h,hl⟩
 | x::l,s,h,hl,hb=>by
  rw [Ze1];have hb':s.2+3*(l.length+1:Nat)<=1000000:=by simpa using hb
  refine ZlV l _ ?_ ?_ ?_;all_goals unfold Zcd;split
  ·exact h
  ·have h3:Good s.1 (s.2+x % 4):=h.later (by omega) (by omega);split
   ·exact h3
   ·by_cases h16:x / 16 % 2=0
    ·rw [Zb h16];exact h3.more (by omega) (.inr ⟨by omega,by omega,rfl⟩)
    ·rw [Za h16];exact h3.more (by omega) (.inl ⟨rfl,by omega,by omega⟩)
  ·exact hl
  ·split
   ·exact hl
   ·simp;omega
  ·omega
  ·split <;> (simp;omega)
theorem ZrP (l:List Int) (h:l.length<=60):Good (grow l).1 (grow l).2∧(grow l).1.length<=20:=ZlV l ([⟨1,1,0,0⟩],0) Good.start (by decide) (by show (0:Int)+_<=_;omega)
def IntsAt (w:World) (A:Option Addr) (n:Nat) (l:List Int):Prop :=
 l.length=n∧(0<n->∃ b off,A=some ⟨b,off,none⟩∧b<w.heap.size∧∀ i x,l[i]?=some x->w.cell? ⟨b,off+i,none⟩=some (int i64 x))
theorem IntsAt.at_ {w:World} {A:Option Addr} {n:Nat} {l:List Int} (h:IntsAt w A n l) {k:Nat} (hk:k<n) :
  ∃ b off x,A=some ⟨b,off,none⟩∧b<w.heap.size∧l[k]?=some x∧w.cell? ⟨b,off+k,none⟩=some (int i64 x):=by
 obtain ⟨b,off,e,hlt,hc⟩:=h.2 (by omega);have hl:k<l.length:=by have:=h.1;omega
 exact ⟨b,off,l[k],e,hlt,Zy hl,hc k _ (Zy hl)⟩
theorem ZsF (w:World) (t:Tag) {g:Nat} (hgz:g=w.heap.size):(w.alloc (cells #[int i64 t.id,int i64 t.own,int i64 t.heir,int i64 t.at_] 80)).ownsRow w.heap.size 80 4 (slice (some ⟨g,0,none⟩) 1 1) 1 (flat [t]):=by
 subst hgz;exact ⟨rfl,.inr ⟨w.heap.size,1,_,rfl,ZC _,Za3 w _,ZC _,by simp [maxLen],rfl,by simp [flat,Tag.vals]⟩⟩
theorem Zmu {w':World} {base e m:Nat} {v:Value} {ts:List Tag} (t:Tag) (hown:w'.ownsRow base e 4 v (m+1) (flat ts++t.vals)) :
  ∃ B d,v=slice B (m+1) d∧m+1<=d∧w'.ownsRow base e 4 (slice B (m+1) d) (m+1) (flat (ts++[t])):=by
 have hf:flat ts++t.vals=flat (ts++[t]):=by simp [flat]
 rw [hf] at hown;rcases hown.2 with ⟨_,h⟩|⟨g,cap,cur,hv,_,_,hc,_,_,_⟩
 ·omega
 ·subst hv;exact ⟨_,_,rfl,hc,hown⟩
set_option maxRecDepth 100000 in
theorem ZsG (A:Option Addr) (n c:Nat) (l:List Int) (w:World) (hl:IntsAt w A n l) (hn:n<=60) :
  Calls prog 50 #[slice A n c] w fun e w'=>∃ B m d,e=.returned (.tuple #[slice B m d,int i64 (grow l).2])∧w'.ownsRow w.heap.size 80 4 (slice B m d) m (flat (grow l).1)∧m=(grow l).1.length∧m<=20∧m<=d∧Below w.heap.size w w'∧0<=(grow l).2∧(grow l).2<=180:=by
 obtain ⟨i0,hi0,hz0,hz1,hz2⟩:=info_parts Zie;go_enter func50,ntmps50;go_wp2
 go_loopw [4,5,6] (fun v4 v5 v6 wr=>∃ (k:Nat) (B:Option Addr) (m d:Nat) (at_:Int) (ts:List Tag),k<=n∧v6=int i64 k∧v4=slice B m d∧v5=int i64 at_∧(ts,at_)=grow (l.take k) ∧
   wr.ownsRow w.heap.size 80 4 (slice B m d) m (flat ts)∧1<=m∧m<=20∧m<=d∧0<=at_∧at_<=3*k∧Below w.heap.size w wr) (fun _ _ v6 _=>n - (intOf v6).toNat)
 case atStart=>exact ⟨0,_,1,1,0,[⟨1,1,0,0⟩],ZL _,rfl,rfl,rfl,rfl,ZsF w ⟨1,1,0,0⟩ rfl,by omega,by omega,by omega,by omega,by omega,(ZI _ _).alloc (ZC _) _⟩
 case round =>
  obtain ⟨k,B,m,d,at_,ts,hk,rfl,rfl,rfl,hg,hown,hm1,hm,hmd,ha0,ha1,hb⟩:=hrel;have HG:=Zh hg;have HO:=Zh hown;have hbz:=hb.size;clear hg hown;by_cases hlt:k<n
  ·by_cases h20:m<20
   ·obtain ⟨b,off,x,rfl,hB,hx,c0⟩:=hl.at_ hlt;have c0':=(hb.cell (p:=⟨b,off+k,none⟩) hB).trans c0;have HX:=Zh hx;have hBr:b<wr.heap.size:=by omega
    have e3:=ZlX x;have e4:=ZrS x;have e16:=Zqr x;have e1:=Zic (x / 8);have b3:0<=x % 4:=by omega
    have b3':x % 4<=3:=by omega
    have b1:0<=x / 8 % 2:=by omega
    have b1':x / 8 % 2<=1:=by omega
    clear hx c0;by_cases h4:x / 4 % 2=0
    ·have t4:(x / 4 % 2*4==0)=true:=by rw [h4];rfl
     have HZ4:=Zh h4;clear h4;have HS:Hid (Zcd (ts,at_) x=(ts,at_+x % 4)):=by
      have hts:ts.length=m:=(TagsAt.of_own HO.o).1;rw [Zcd,Za (by show ¬ 20<=ts.length;omega),Zb HZ4.o];exact rfl
     go_wp2;go_roundw;case rel=>exact ⟨k+1,_,m,d,at_+x % 4,ts,by omega,by go_num,rfl,rfl,by rw [Zib HX.o,<-HG.o,HS.o],HO.o,hm1,hm,hmd,by omega,by omega,hb⟩
     case measure=>simp [intOf]<;>omega
    ·have t4:(x / 4 % 2*4==0)=false:=by rw [Zes];omega
     have HZ4:=Zh h4;clear h4;by_cases h16:x / 16 % 2=0
     ·have t16:(x / 16 % 2*16 != 0)=false:=by rw [h16];rfl
      have HS:Hid (Zcd (ts,at_) x=(ts++[⟨nextId ts (1+x / 8 % 2),1+x / 8 % 2,0,at_+x % 4⟩],at_+x % 4)):=by
       have hts:ts.length=m:=(TagsAt.of_own HO.o).1;rw [Zcd,Za (by show ¬ 20<=ts.length;omega),Za HZ4.o,Zb h16];exact rfl
      clear h16;go_wp2_with fail;refine (Zit B m d ts (1+x / 8 % 2) _ (TagsAt.of_own HO.o) (by omega)).mono ?_;rintro e w' ⟨rfl,rfl⟩;obtain ⟨id,hid⟩:∃ id,nextId ts (1+x / 8 % 2)=id:=⟨_,rfl⟩;rw [hid] at HS |-;clear hid
      go_wp2_with (at_builtin
                   refine ZeA _ rfl (.tmp 58) (.tmp 60) 65 rfl w.heap.size 80 i0 _ 4 32 underlying65 hi0 hz0 hz1 hz2 rfl (by omega) (slice B m d) m (flat ts) rfl ((HO.o.alloc _).alloc _) (some ⟨wr.heap.size+1,0,none⟩) 1 1 [int i64 id,int i64 (1+x / 8 % 2),int i64 0,int i64 (at_+x % 4)] rfl ⟨rfl,fun _=>⟨_,rfl,World.news_of_block (ZjG (by simp) _)⟩,?one⟩ (fun h=>by cases h) (by simp only [maxLen];omega) (by omega) (by simp;omega) ?_;rotate_left
                   intro v1 w1 hown1 hg1 hat1)
      ·go_roundw;case rel =>
        obtain ⟨B1,d1,hv1,hd1,ho1⟩:=Zmu ⟨id,1+x / 8 % 2,0,at_+x % 4⟩ hown1;refine ⟨k+1,B1,m+1,d1,at_+x % 4,ts++[⟨id,1+x / 8 % 2,0,at_+x % 4⟩],by omega,by go_num,hv1,rfl,by rw [Zib HX.o,<-HG.o,HS.o],ho1,by omega,by omega,hd1,by omega,by omega,?_⟩;refine Below.grown ((hb.alloc hbz _).alloc (by simp;omega) _) hg1 (by simp;omega) (fun q hq=>?_);have:=HO.o.lt _ hq;omega
       case measure=>simp [intOf]<;>omega
      ·intro u hu;simp only [Z4,Zbv,Zbi] at hu;rcases hu with rfl|rfl|rfl|rfl <;> rfl
     ·have t16:(x / 16 % 2*16 != 0)=true:=by rw [bne_iff_ne];omega
      have HS:Hid (Zcd (ts,at_) x=(ts++[⟨nextId ts (1+x / 8 % 2),0,3 - (1+x / 8 % 2),at_+x % 4⟩],at_+x % 4)):=by
       have hts:ts.length=m:=(TagsAt.of_own HO.o).1;rw [Zcd,Za (by show ¬ 20<=ts.length;omega),Za HZ4.o,Za h16];exact rfl
      clear h16;go_wp2_with fail;refine (Zit B m d ts (1+x / 8 % 2) _ (TagsAt.of_own HO.o) (by omega)).mono ?_;rintro e w' ⟨rfl,rfl⟩;obtain ⟨id,hid⟩:∃ id,nextId ts (1+x / 8 % 2)=id:=⟨_,rfl⟩;rw [hid] at HS |-;clear hid
      go_wp2_with (at_builtin
                   refine ZeA _ rfl (.tmp 58) (.tmp 60) 65 rfl w.heap.size 80 i0 _ 4 32 underlying65 hi0 hz0 hz1 hz2 rfl (by omega) (slice B m d) m (flat ts) rfl ((HO.o.alloc _).alloc _) (some ⟨wr.heap.size+1,0,none⟩) 1 1 [int i64 id,int i64 0,int i64 (3 - (1+x / 8 % 2)),int i64 (at_+x % 4)] rfl ⟨rfl,fun _=>⟨_,rfl,World.news_of_block (ZjG (by simp) _)⟩,?two⟩ (fun h=>by cases h) (by simp only [maxLen];omega) (by omega) (by simp;omega) ?_;rotate_left
                   intro v1 w1 hown1 hg1 hat1)
      ·go_roundw;case rel =>
        obtain ⟨B1,d1,hv1,hd1,ho1⟩:=Zmu ⟨id,0,3 - (1+x / 8 % 2),at_+x % 4⟩ hown1;refine ⟨k+1,B1,m+1,d1,at_+x % 4,ts++[⟨id,0,3 - (1+x / 8 % 2),at_+x % 4⟩],by omega,by go_num,hv1,rfl,by rw [Zib HX.o,<-HG.o,HS.o],ho1,by omega,by omega,hd1,by omega,by omega,?_⟩;refine Below.grown ((hb.alloc hbz _).alloc (by simp;omega) _) hg1 (by simp;omega) (fun q hq=>?_);have:=HO.o.lt _ hq;omega
       case measure=>simp [intOf]<;>omega
      ·intro u hu;simp only [Z4,Zbv,Zbi] at hu;rcases hu with rfl|rfl|rfl|rfl <;> rfl
   ·have HF:Hid (grow l=(ts,at_)):=by
     have hts:ts.length=m:=(TagsAt.of_own HO.o).1;exact (ZrO (l:=l) (k:=k) (by rw [<-HG.o];show 20<=ts.length;omega)).trans HG.o.symm
    go_wp2;go_ret2;exact ⟨B,m,d,by rw [HF.o];rfl,by rw [HF.o];exact HO.o,by rw [HF.o];exact (TagsAt.of_own HO.o).1.symm,hm,hmd,hb,by rw [HF.o];exact ha0,by rw [HF.o];show at_<=180;omega⟩
  ·have HF:Hid (grow l=(ts,at_)):=by
    have h:=HG.o;rw [Zba (by have:=hl.1;omega)] at h;exact h.symm
   go_wp2;go_ret2;exact ⟨B,m,d,by rw [HF.o];rfl,by rw [HF.o];exact HO.o,by rw [HF.o];exact (TagsAt.of_own HO.o).1.symm,hm,hmd,hb,by rw [HF.o];exact ha0,by rw [HF.o];show at_<=180;omega⟩
section
theorem Zo8 (A:Option Addr) (c:Nat) (xs:List Int) (h:St W I w l) (hI:IntsI I (slice A xs.length c) xs) (hn:xs.length<=60) :
  Calls prog 50 #[slice A xs.length c] w fun e w'=>∃ I' B d,I.sub I'∧e=.returned (.tuple #[slice B (grow xs).1.length d,int i64 (grow xs).2])∧RowI I' 4 (slice B (grow xs).1.length d) (grow xs).1.length (flat (grow xs).1)∧St W I' w' l:=by
 have hat:IntsAt w A xs.length xs:=by
  refine ⟨rfl,fun h0=>?_⟩;obtain ⟨b,off,e,_⟩:=hI.cells (i:=0) (Zy h0);refine ⟨b,off,e,?_,fun i x hx=>?_⟩
  ·obtain ⟨b2,off2,e2,hc2⟩:=hI.cells (i:=0) (Zy h0);rw [e] at e2;cases e2;exact ZfF _ _ (hc2 (Hp.sub.refl _) h)
  ·obtain ⟨b2,off2,e2,hc2⟩:=hI.cells hx;rw [e] at e2;cases e2;exact hc2 (Hp.sub.refl _) h
 refine (ZsG A xs.length c xs w hat hn).mono ?_;rintro e w' ⟨B,m,d,rfl,ho,rfl,_,_,hb,_⟩;obtain ⟨I',s1,hr,h2⟩:=(h.row_fresh hb ho).freeze_row;exact ⟨I',B,d,s1,rfl,hr,h2⟩
end
def fillP (c:Rg):Fl->Int->List Int->Fl
 | f,_,[]=>f
 | f,s,n::ns=>fillP c (rput c f s n).1 (s+1) ns
section
theorem IntsI.cell {A:Option Addr} {k:Nat} {ns:List Int} {i:Nat} {n:Int} (h:IntsI I (slice A ns.length k) ns) (hst:St W I w l) (hi:ns[i]?=some n):∃ b off,A=some ⟨b,off,none⟩∧w.cell? ⟨b,off+i,none⟩=some (int i64 n):=by
 have hf:∀ l:List Int,l.flatMap (fun x=>[intV x])=l.map intV:=fun l=>by
  induction l with
  | nil=>rfl
  | cons a l ih=>simp [ih]
 obtain ⟨b,off,e1,hcc⟩:=ZbL (mk:=fun x:Int=>[intV x]) (k:=1) (i:=i) (l:=ns) (by rw [hf];exact h) (Hp.sub.refl _) hst (fun _=>rfl) hi;simp only [Zz] at e1;have y0:=hcc 0 (by omega);simp only [Zg,Zcj,ZaP] at y0;exact ⟨b,off,e1.1,y0⟩
end
theorem ZrQ {c:Rg} {at':Int} {ts:List Tag} (hg:goodM c at' ts=true):SimJ (Zby (Zbs c at' ts)) (Zdi c at' ts):=by
 have h:=ZrF hg;exact ⟨h.c,rfl,rfl,h.en,h.safe,h.chain,h.cls,h.l⟩
section
theorem journalPlays_walk (a b c at':Int) (v4:Value) (xs:List Int) (v5:Value) (ls:List A16) (W:World) (h4:IntsI W.hp v4 xs) (h5:RowI W.hp 7 v5 ls.length (ls.flatMap A16.vals)) (hok:∀ a ∈ ls,a.ok W.hp) (hl:ls.length<=maxLen) :
  Calls prog 10 #[int i64 a,int i64 b,int i64 c,int i64 at',v4,v5] W fun e w'=>e=.returned (.bool true)∧Below W.heap.size W w':=by
 have HFS:=Zh (Zqg v5 ls 80 W h5 hok hl);obtain ⟨A4,c4,rfl,hx4,hn4,hm4,_⟩:=id h4;obtain ⟨A5,c5,rfl,_⟩:=id h5;obtain ⟨fw,hfw⟩:=Zn (few16 ls 80);rw [<-hfw] at HFS;have HFW:=Zh hfw;have HOK:=Zh hok;have H4:=Zh h4;have H5:=Zh h5;unfold maxLen at hl hm4;have hxl:xs.length<=9223372036854775807:=by omega
 clear hok hfw h4 h5 hx4 hm4 hn4;go_enter func10,ntmps10;go_wp2_with fail;refine HFS.o.mono ?_;rintro e w1 ⟨rfl,rfl⟩;dsimp only;clear HFS;cases fw with
 | false =>
  go_wp2_with fail;refine (Zhb _).mono ?_;rintro e w9 ⟨rfl,hb9⟩;dsimp only;have HB9:=Zh hb9;clear hb9;go_wp2;go_ret;exact ⟨rfl,HB9.o⟩
 | true =>
 obtain ⟨nx,hnx⟩:=Zn xs.length;have HNX:=Zh hnx;rw [<-hnx] at hxl;simp only [<-hnx];clear hnx;by_cases h30:30<nx
 ·have d30:decide (30<(nx:Int))=true:=Zt (by omega);go_wp2_with fail;refine (Zhb _).mono ?_;rintro e w9 ⟨rfl,hb9⟩;dsimp only;have HB9:=Zh hb9;clear hb9;go_wp2;go_ret;exact ⟨rfl,HB9.o⟩
 have d30:decide (30<(nx:Int))=false:=Zq (by omega);have hfew:ls.length<=80∧∀ a ∈ ls,a.few=true:=by
  have h:=HFW.o.symm;unfold few16 at h;simp only [ZR,Zk,ZbG] at h;exact ⟨by omega,h.1⟩
 obtain ⟨hl80,hfew⟩:=hfew;have HFEW:=Zh hfew;have HGR:=Zh (Zo8 A4 c4 xs (St.init W) H4.o (by have:=HNX.o;omega));obtain ⟨hgood,hgl⟩:=ZrP xs (by have:=HNX.o;omega);rw [<-HNX.o] at HGR;obtain ⟨⟨ts,k0⟩,hts⟩:∃ x,x=grow xs:=⟨_,rfl⟩;rw [<-hts] at HGR hgood hgl;simp only at HGR hgood hgl;have hk0:=hgood.at0;have hk1:=hgood.at1;obtain ⟨nt,hnt⟩:=Zn ts.length;have HNT:=Zh hnt;rw [<-hnt] at HGR;obtain ⟨z,hz⟩:∃ z,at' % 65536=z:=⟨_,rfl⟩;have ha:bits .and i64 at' 65535=z:=(Zjr at').trans hz;have hzb:0<=z∧z<65536:=by omega
 obtain ⟨k,hk⟩:=Zn (k0+z);have wk:IntKind.i64.wrap (k0+z)=k:=by rw [Zx];omega
 obtain ⟨C,hC⟩:=Zn (ringK a b c);have HRK:=Zh (fun w'=>Zrt a b c w');rw [<-hC] at HRK;have hg:goodM C k ts=true:=by
  have hr:=hgood.right (by omega);have hw:=(ZlP (e:=k) hr).2 (by have:=hgood.last;omega);unfold goodM;rw [show C.okB=true by rw [hC];exact ZsA a b c,hr];simp only [ZR,Zk];exact ⟨⟨⟨⟨trivial,by omega⟩,by omega⟩,trivial⟩,hw⟩
 have HG:=Zh hg;have htl:nt<=20:=by omega
 clear hfew hgood hgl hts hnt hz hk hC hg;go_wp2_with fail;refine HGR.o.mono ?_;rintro e w2 ⟨I2,B,d,s2,rfl,hr2,h2⟩;dsimp only;have HR2:=Zh hr2;have H2:=Zh h2;have HS2:=Zh s2;clear HGR hr2 h2 s2;go_wp2_with fail;refine (HRK.o _).mono ?_;rintro e w3 ⟨rfl,hb3⟩;dsimp only;have hop:=Zj8 C k (slice B nt d) ts (H2.o.keep hb3) (by rw [<-HNT.o];exact HR2.o) (by have:=HNT.o;omega) HG.o;unfold Rg.val at hop |-;have HOP:=Zh hop;clear hb3 hop H2;go_wp2_with fail;refine HOP.o.mono ?_;rintro e w4 ⟨I4,p,q,S,s4,rfl,h4,hj,ha4,hks⟩;dsimp only;have H4':=Zh h4;have HS4:=Zh (HS2.o.trans s4);have HR4:=Zh (HR2.o.mono s4)
 have hpj:PJ S (Zby (Zbs C k ts)) (Zdi C k ts) 0:=⟨hj,ha4,hks.fewer (by omega),ZrQ HG.o,by
  show (ZQ ts _).length<=_;have:=(Zdr (l:=ts) (fun t:Tag=>decide (t.at_<=endJ (Zbs C k ts)))).length_le;have:=HNT.o;unfold ZQ
  omega,ZC _,Zdc _,⟨Zdc _,Zdc _⟩⟩
 have HPJ:=Zh hpj;clear h4 hj ha4 hks s4 HOP hpj HR2;have HRK2:=Zh (HRK.o w4);unfold Rg.val at HRK2;go_wp2_with fail;refine HRK2.o.mono ?_;rintro e w5 ⟨rfl,hb5⟩;dsimp only;have hmk:=Zqb C k B d ts (H4'.o.keep hb5) (by rw [<-HNT.o];exact HR4.o) (by have:=HNT.o;omega);rw [<-HNT.o] at hmk;unfold Rg.val at hmk;have HMK:=Zh hmk;clear hb5 hmk H4' HRK2 HRK;go_wp2_with fail;refine HMK.o.mono ?_;rintro e w6 (⟨hno,_⟩|⟨_,I6,q2,s6,rfl,h6⟩)
 ·rw [HG.o] at hno;cases hno
 dsimp only;have h7:=(h6.pull 2 _ rfl).pull 2 _ rfl;have hpj:=HPJ.o;have HSM:=Zh (Zkc h7 hpj.ok (hpj.sim.same hpj.ok) (by have:=hpj.len;omega) (by have:=hpj.tags;omega) (by have:=ZiB hpj.ok;omega));have HS6:=Zh (HS4.o.trans s6);clear h6 h7 s6 HMK hpj;go_wp2_with fail;refine HSM.o.mono ?_;rintro e w7 ⟨I7,s7,rfl,h7⟩;dsimp only;have H7:=Zh h7;have HS7:=Zh (HS6.o.trans s7);clear h7 s7 HSM;go_wp2;go_loopw [16,18] (fun a16 a18 wr=>∃ (i q:Nat) (S:Str) (J:Jn) (R:RJ) (I1:Hp),a18=int i64 i∧a16=pointer (some ⟨q,0,none⟩)∧i<=ls.length∧W.hp.sub I1∧PJ S J R i∧St W I1 wr [Zj p S,jnHP q p J,rjHP q2 R]) (fun _ a18 _=>ls.length - (intOf a18).toNat);case atStart=>exact ⟨0,q,S,_,_,I7,rfl,rfl,ZL _,HS7.o,HPJ.o,H7.o⟩
 case round =>
  obtain ⟨i,q,S,J,R,I1,rfl,rfl,hi,hs,hpj,hst⟩:=hrel;clear HPJ H7 HS7;by_cases hlt:i<ls.length
  ·have d0:decide ((i:Int)<(ls.length:Int))=true:=by rw [Zk];omega
   obtain ⟨a,ha⟩:∃ a,ls[i]?=some a:=⟨_,Zy hlt⟩;have ham:=ZaG ha;have hoka:=A16.ok_mono (HOK.o a ham) hs;have hf:=HFEW.o a ham;have hin:(i:Int)<(ls.length:Int):=by omega
   obtain ⟨⟨⟨X,Y⟩,R2⟩,hX⟩:∃ x,x=ZU R a:=⟨_,rfl⟩
   have HCC:=Zh (show ∀ (I':Hp) (w':World) (L:List HP),W.hp.sub I'->St W I' w' L->∃ b off,A5=some ⟨b,off,none⟩∧∀ j,j<7->w'.cell? ⟨b,off+i*7+j,none⟩=a.vals[j]? from fun I' w' L hs' h'=>by
    obtain ⟨b,off,e1,hc⟩:=ZbL (i:=i) H5.o hs' h' (fun _=>rfl) ha;simp only [Zz,Zap] at e1
    exact ⟨b,off,e1,hc⟩)
   have hou:=ZrJ a hst hpj (by omega) hoka hf;have hrb:=hpj.rb (by omega);rw [<-hX] at hou
   have HTH:=Zh (show ∀ (I':Hp) (w':World) (L:List HP),I1.sub I'->St W I' w' (rjHP q2 R::L)->Calls prog 52 #[pointer (some ⟨q2,0,none⟩),a.val] w' fun e w''=>∃ I'',I'.sub I''∧e=.returned (.tuple #[int i64 X,int i64 Y])∧St W I'' w'' (rjHP q2 R2::L) from fun I' w' L s' h'=>by
    have:=Zo7 a h' hrb (A16.ok_mono hoka s') hf;rw [<-hX] at this
    exact this)
   obtain ⟨b,off,rfl,hc⟩:=HCC.o _ _ _ hs hst;obtain ⟨Ad,cd,e1,_⟩:=id hoka.1;obtain ⟨At,ct,e2,_⟩:=id hoka.2.1;obtain ⟨An,cn,e3,_⟩:=id hoka.2.2.1;obtain ⟨what,n,m,off',d',dv,ts',tv,ns,nv⟩:=a;simp only at e1 e2 e3;subst e1 e2 e3
   have HC:=Zh (show ∀ (I':Hp) (w':World) (L:List HP),W.hp.sub I'->St W I' w' L->w'.cell? ⟨b,off+i*7,none⟩=some (int i64 what)∧w'.cell? ⟨b,off+i*7+1,none⟩=some (int i64 n)∧w'.cell? ⟨b,off+i*7+2,none⟩=some (int i64 m)∧w'.cell? ⟨b,off+i*7+3,none⟩=some (.bool off')∧w'.cell? ⟨b,off+i*7+4,none⟩=some (slice Ad d'.length cd)∧w'.cell? ⟨b,off+i*7+5,none⟩=some (slice At ts'.length ct)∧w'.cell? ⟨b,off+i*7+6,none⟩=some (slice An ns.length cn) from fun I' w' L hs' h'=>by
    obtain ⟨b',o',e',hc'⟩:=HCC.o I' w' L hs' h';cases e'
    exact ⟨hc' 0 (by omega),hc' 1 (by omega),hc' 2 (by omega),hc' 3 (by omega),hc' 4 (by omega),hc' 5 (by omega),hc' 6 (by omega)⟩)
   have HOU:=Zh hou;have HS:=Zh hs;obtain ⟨y0,y1,y2,y3,y4,y5,y6⟩:=HC.o _ _ _ hs hst;clear hst hX hou hrb hoka hf ham ha hc HCC hs;simp only [A16.val] at HOU HTH;go_wp2_with fail;refine HOU.o.mono ?_;rintro e w8 ⟨q8,I8,S8,J8,s8,rfl,h8,hp8⟩;dsimp only;obtain ⟨y0,y1,y2,y3,y4,y5,y6⟩:=HC.o _ _ _ (HS.o.trans s8) h8;have HT8:=Zh (HTH.o _ _ _ s8 (h8.pull 2 _ rfl));have HS8:=Zh (HS.o.trans s8);have HP8:=Zh hp8;clear h8 s8 hp8 HOU HTH HC HS;go_wp2_with fail;refine HT8.o.mono ?_;rintro e w9 ⟨I9,s9,rfl,h9⟩;dsimp only;have h9:=(h9.pull 2 _ rfl).pull 2 _ rfl;have hp8:=HP8.o;have HSM:=Zh (Zkc h9 hp8.ok (hp8.sim.same hp8.ok) (by have:=hp8.len;omega) (by have:=hp8.tags;omega) (by have:=ZiB hp8.ok;omega));have HS9:=Zh (HS8.o.trans s9);clear h9 s9 hp8 HT8 y0 y1 y2 y3 y4 y5 y6;go_wp2_with fail;refine HSM.o.mono ?_;rintro e w10 ⟨I10,s10,rfl,h10⟩;dsimp only;have H10:=Zh h10;have HS10:=Zh (HS9.o.trans s10);clear h10 s10 HSM;go_wp2;go_roundw;case rel=>exact ⟨i+1,q8,S8,J8,R2,I10,by go_num,rfl,by omega,HS10.o,HP8.o,H10.o⟩
   case measure=>simp [intOf]<;>omega
  ·obtain rfl:i=ls.length:=by omega
   have d0:decide (((ls.length:Nat):Int)<(ls.length:Int))=false:=by rw [ZT];omega
   have HB:=Zh hst.below;clear hst hpj;go_wp2_with fail;refine (Zhb _).mono ?_;rintro e w9 ⟨rfl,hb9⟩;dsimp only;have HB9:=Zh (HB.o.trans (hb9.mono HB.o.size));clear hb9 HB;go_wp2;go_ret;exact ⟨rfl,HB9.o⟩
end
open Go.ChangeShapes Go.WideShapes Go.ChangeAt Go.Deep Go.Joins
set_option maxRecDepth 100000
section
variable {H : Type} {enc : TypeId × Value -> H} {P : Program} {base : Nat} {spare : Nat -> Bool} {held : Bool}
theorem ZmQ {α:Type} (mk:α->List Value) (ok:α->Prop) {k:Nat} (hmk:∀ a,(mk a).length=k) (h0:0<k) {t e:TypeId} (ht:P.underlying t=some (.slice e)) (hk:P.cellsOf e=k)
  (hel:∀ fuel cs x,cs.length=k->DataW.trod enc P w base spare held fuel e cs=some x->∃ a,cs=mk a∧ok a) [Nonempty α]
  {v:Value} {d:DataW H} {p:List MemPlace} (h:DataW.Trod enc P w base spare held t v d p) (hs:∃ A n c,v=slice A n c) :
  ∃ l:List α,RowI w.hp k v l.length (l.flatMap mk)∧(∀ a ∈ l,ok a)∧l.length<=maxLen:=by
 obtain ⟨A,n,c,rfl,hnc,hcm,hA,hcells⟩:=Zl7 ht hk h0 h hs;rcases ZbF n with rfl|hn
 ·exact ⟨[],⟨A,c,rfl,by simp,by simp,hcm,fun e=>(hA e).2,fun h=>absurd h (by simp)⟩,fun a ha=>by (cases ha),by simp⟩
 ·obtain ⟨b,off,rfl,hb,hc⟩:=hcells hn;have key:∀ i,∃ a,i<n->ok a∧∀ j,j<k->w.cell? ⟨b,off+(i*k+j),none⟩=(mk a)[j]?:=fun i=>by
   by_cases hin:i<n
   ·obtain ⟨cs,fuel,x,h1,h2,h3⟩:=hc i hin;obtain ⟨a,rfl,ha⟩:=hel fuel cs x h2 h1;exact ⟨a,fun _=>⟨ha,h3⟩⟩
   ·exact ⟨Classical.choice inferInstance,fun h=>absurd h hin⟩
  obtain ⟨f,key⟩:∃ f:Nat->α,∀ i,i<n->ok (f i)∧∀ j,j<k->w.cell? ⟨b,off+(i*k+j),none⟩=(mk (f i))[j]?:=⟨fun i=>Classical.choose (key i),fun i=>Classical.choose_spec (key i)⟩;have hfirst:∃ u,w.cell? ⟨b,off+(0*k+0),none⟩=some u:=by
   rw [(key 0 hn).2 0 h0];exact ⟨_,Zy (by rw [hmk];exact h0)⟩
  obtain ⟨u,hu⟩:=hfirst;obtain ⟨cs,t',f',hblk,_⟩:=Zks hu;refine ⟨(List.range n).map f,⟨_,c,by simp,by rw [ZeK hmk],by simpa using hnc,hcm,(fun e=>by cases e),fun _=>⟨b,off,cs,t',f',rfl,hblk,fun q x hq=>?_⟩⟩,fun a ha=>?_,by simp;omega⟩
  ·have hql:q<((List.range n).map f).length*k:=by
    rw [<-ZeK hmk];exact (ZH.1 hq).1
   simp only [Za7,List.length_range] at hql;have hqd:q=q / k*k+q % k:=by rw [ZfK];exact (Nat.div_add_mod q k).symm
   have hi:q / k<n:=Nat.div_lt_of_lt_mul (by rw [ZfK];exact hql);have hj:q % k<k:=Nat.mod_lt _ h0;have hai:((List.range n).map f)[q / k]?=some (f (q / k)):=by simp [hi]
   have h4:=Zde hmk _ (q / k) (q % k) _ hai hj;rw [<-hqd,hq] at h4;have h5:=(key (q / k) hi).2 (q % k) hj;rw [<-h4,<-hqd] at h5;unfold World.cell? at h5;simpa [hblk] using h5
  ·obtain ⟨i,hi,rfl⟩:=Zam.1 ha;exact (key i (ZdG.1 hi)).1
end
section
variable {H : Type} {enc : TypeId × Value -> H} {P : Program} {base : Nat} {spare : Nat -> Bool} {held : Bool}
theorem ZsH {t:TypeId} {fs:Array Field} {fuel:Nat} {cs:List Value} {x:DataW H × List MemPlace} (ht:P.underlying t=some (.struct fs)) (h:DataW.trod enc P w base spare held fuel t cs=some x)
  (j:Nat) (f:Field) (hj:fs[j]?=some f):∃ n y,DataW.trod enc P w base spare held n f.type ((cs.drop f.offset).take (P.cellsOf f.type))=some y:=by
 obtain ⟨ys,n,hn,hy,hlen,hyl,hf⟩:=DataW.trod_struct ht h;have hjl:j<ys.length:=by rw [hyl];exact (Za9.1 hj).1
 exact ⟨n,ys[j],by rw [hf j f hj,Zy hjl]⟩
end
section
variable {H : Type} {enc : TypeId × Value -> H} {P : Program} {base : Nat} {spare : Nat -> Bool} {held : Bool}
theorem Zfi {t:TypeId} {fs:Array Field} {fuel:Nat} {cs:List Value} {x:DataW H × List MemPlace} (ht:P.underlying t=some (.struct fs)) (h:DataW.trod enc P w base spare held fuel t cs=some x)
  (j:Nat) (f:Field) (hj:fs[j]?=some f) (h1:P.cellsOf f.type=1) {c:Value} (hc:cs[f.offset]?=some c):∃ n y,DataW.trod enc P w base spare held n f.type [c]=some y:=by
 obtain ⟨n,y,hy⟩:=ZsH ht h j f hj;have hd:(cs.drop f.offset).take 1=[c]:=by
  obtain ⟨hlt,he⟩:=ZH.1 hc;rw [ZaS hlt,he];rfl
 rw [h1,hd] at hy;exact ⟨n,y,hy⟩
theorem Zej {t k:TypeId} {kd:IntKind} {fs:Array Field} {fuel:Nat} {cs:List Value} {x:DataW H × List MemPlace} (ht:P.underlying t=some (.struct fs)) (h:DataW.trod enc P w base spare held fuel t cs=some x)
  (j:Nat) (f:Field) (hj:fs[j]?=some f) (hk:f.type=k) (hu:P.underlying k=some (.int kd)) (h1:P.cellsOf k=1) {c:Value} (hc:cs[f.offset]?=some c):∃ m:Int,c=int kd m∧(Lit.int kd m).wf=true:=by
 subst hk;obtain ⟨n,y,hy⟩:=Zfi ht h j f hj h1 hc;obtain ⟨m,hm,_,hw⟩:=DataW.trod_int hu hy;exact ⟨m,by simpa using hm,hw⟩
theorem Zqp {t k:TypeId} {fs:Array Field} {fuel:Nat} {cs:List Value} {x:DataW H × List MemPlace} (ht:P.underlying t=some (.struct fs)) (h:DataW.trod enc P w base spare held fuel t cs=some x)
  (j:Nat) (f:Field) (hj:fs[j]?=some f) (hk:f.type=k) (hu:P.underlying k=some .bool) (h1:P.cellsOf k=1) {c:Value} (hc:cs[f.offset]?=some c):∃ m:Bool,c=.bool m:=by
 subst hk;obtain ⟨n,y,hy⟩:=Zfi ht h j f hj h1 hc;obtain ⟨m,hm,_⟩:=DataW.trod_bool hu hy;exact ⟨m,by simpa using hm⟩
end
section
variable {H : Type} {enc : TypeId × Value -> H} {P : Program} {base : Nat} {spare : Nat -> Bool} {held : Bool}
end
set_option maxRecDepth 100000
section
variable {H : Type} {enc : TypeId × Value -> H} {base : Nat} {spare : Nat -> Bool} {held : Bool}
theorem Zqq:prog.cellsOf 80=4:=by kernel_rfl
theorem Ztk (fuel:Nat) (cs:List Value) (x:DataW H × List MemPlace) (hl:cs.length=4) (h:DataW.trod enc prog w base spare held fuel 80 cs=some x):∃ a:Tag,cs=a.vals∧True:=by
 match cs,hl with
 | [c0,c1,c2,c3],_ =>
  obtain ⟨m0,rfl,_⟩:=Zej underlying80 h 0 _ rfl rfl underlying3 Zdz (c:=c0) rfl;obtain ⟨m1,rfl,_⟩:=Zej underlying80 h 1 _ rfl rfl underlying3 Zdz (c:=c1) rfl;obtain ⟨m2,rfl,_⟩:=Zej underlying80 h 2 _ rfl rfl underlying3 Zdz (c:=c2) rfl;obtain ⟨m3,rfl,_⟩:=Zej underlying80 h 3 _ rfl rfl underlying3 Zdz (c:=c3) rfl;exact ⟨⟨m0,m1,m2,m3⟩,rfl,trivial⟩
end
set_option maxRecDepth 100000
section
variable {H : Type} {enc : TypeId × Value -> H} {base : Nat} {spare : Nat -> Bool} {held : Bool}
theorem ZrR:prog.cellsOf 96=7:=by kernel_rfl
theorem Zn9:prog.cellsOf 28=1:=by kernel_rfl
theorem Zoa:prog.cellsOf 65=1:=by kernel_rfl
instance:Nonempty A16:=⟨⟨0,0,0,false,[],slice none 0 0,[],slice none 0 0,[],slice none 0 0⟩⟩
theorem Ziu {m:Int} (h:(Lit.int i64 m).wf=true):isI16 m:=by
 simp [Lit.wf,IntKind.min,IntKind.max,IntKind.signed,IntKind.bits] at h;unfold isI16;omega
theorem ZlW {t e:TypeId} (ht:prog.underlying t=some (.slice e)) {fuel:Nat} {c:Value} {x:DataW H × List MemPlace} (h:DataW.trod enc prog w base spare held fuel t [c]=some x):(∃ A n c',c=slice A n c')∧DataW.Trod enc prog w base spare held t c x.1 x.2:=by
 have hs:∃ A n c',c=slice A n c':=by
  rcases open_slice ht h with ⟨hcs,_⟩|⟨a,len,cap,m,n',D,Pl,hcs,_⟩
  ·exact ⟨none,0,0,by simpa using hcs⟩
  ·exact ⟨some a,len,cap,by simpa using hcs⟩
 refine ⟨hs,?_⟩;obtain ⟨A,n,c',rfl⟩:=hs;exact ⟨fuel,by simpa [Value.cells] using h⟩
theorem ZtB (fuel:Nat) (cs:List Value) (x:DataW H × List MemPlace) (hl:cs.length=7) (h:DataW.trod enc prog w base spare held fuel 96 cs=some x):∃ a:A16,cs=a.vals∧a.ok w.hp:=by
 match cs,hl with
 | [c0,c1,c2,c3,c4,c5,c6],_ =>
  obtain ⟨m0,rfl,i0⟩:=Zej underlying96 h 0 _ rfl rfl underlying3 Zdz (c:=c0) rfl;obtain ⟨m1,rfl,i1⟩:=Zej underlying96 h 1 _ rfl rfl underlying3 Zdz (c:=c1) rfl;obtain ⟨m2,rfl,i2⟩:=Zej underlying96 h 2 _ rfl rfl underlying3 Zdz (c:=c2) rfl;obtain ⟨b3,rfl⟩:=Zqp underlying96 h 3 _ rfl rfl underlying4 Zpv (c:=c3) rfl;obtain ⟨n4,y4,hy4⟩:=Zfi underlying96 h 4 _ rfl Zow (c:=c4) rfl;obtain ⟨⟨v,q⟩,hv,h4,hb⟩:=Zse n4 c4 y4 hy4;simp only at hv;subst hv;obtain ⟨n5,y5,hy5⟩:=Zfi underlying96 h 5 _ rfl Zoa (c:=c5) rfl;obtain ⟨hs5,hT5⟩:=ZlW underlying65 hy5
  haveI:Nonempty Tag:=⟨⟨0,0,0,0⟩⟩
  obtain ⟨ts,h5,_,_⟩:=ZmQ (P:=prog) Tag.vals (fun _=>True) (fun _=>rfl) (by decide) underlying65 Zqq Ztk hT5 hs5;obtain ⟨n6,y6,hy6⟩:=Zfi underlying96 h 6 _ rfl Zn9 (c:=c6) rfl;obtain ⟨hs6,hT6⟩:=ZlW underlying28 hy6;obtain ⟨ns,h6,_,_⟩:=ZiE intV isInt underlying28 Zdz ZmS hT6 hs6;exact ⟨⟨m0,m1,m2,b3,q,c4,ts,c5,ns,c6⟩,rfl,h4,h5,h6,Ziu i0,Ziu i1,Ziu i2,hb.1⟩
theorem open_a16 {r:Reach} {b0:Nat} {v:Value} {d:DataW H} {p:List MemPlace} (hv:Value.okWide prog w r b0 89 v) (h:DataW.Trod enc prog w base spare held 89 v d p) :
  ∃ l:List A16,RowI w.hp 7 v l.length (l.flatMap A16.vals)∧(∀ a ∈ l,a.ok w.hp)∧l.length<=maxLen:=by
 obtain ⟨A,n,c,e⟩:=okWide_slice underlying89 hv;obtain ⟨l,h1,h2,h3⟩:=ZmQ (P:=prog) A16.vals (A16.ok w.hp) (fun _=>rfl) (by decide) underlying89 ZrR ZtB h ⟨A,n,c,e⟩;exact ⟨l,h1,h2,h3⟩
end
end Go.Proofs.YtpjchngjhijgmaaGreat
