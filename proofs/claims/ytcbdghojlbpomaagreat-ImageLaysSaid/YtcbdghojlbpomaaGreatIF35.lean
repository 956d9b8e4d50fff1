import Derived.Test.YtcbdghojlbpomaaGreatIF34
set_option linter.all false
set_option maxRecDepth 4000
set_option maxHeartbeats 8000000
open Go.RowKit
open Go.IntKind (i64 u64)
open Go.Value (int pointer slice)
open Go.Obj (cells)
namespace Go.Proofs.YtcbdghojlbpomaaGreat
open Tryz
open HP (pt mapOf)
variable {W w w':World} {I:Hp} {l:List HP}
def DoR (h:Hd) (R:List RO) (e:Ev) (seq:Int) (ans:Int) (h':Hd) (R':List RO):Prop :=
 if ZU e=false∨seq<0∨1099511627776<seq then ans=1∧h'=h∧R'=R
 else if e.kind=8 then ans=0∧h'=h∧R'=R
 else if e.kind=1∨e.kind=2∨e.kind=3 then
  (if ZJ (viewI h R) e=0 then ans=0∧h'=h∧∃ (off n:Nat) (es:List Ext),(spanE e).1=off∧(spanE e).2=n∧off+n<=h.size∧Cover h.l off n es∧R'=es.foldl (Zbt h.l h.size h.newest e es) R
   else ans=ZJ (viewI h R) e∧h'=h∧R'=R)
 else if 0<seq∧seq<h.seq then ans=0∧h'=h∧R'=R
 else if ZJ (viewI h R) e=0 then ans=0∧h'=ZaG h e seq∧R'=ZbE h e R
 else if 0<seq∧seq=h.seq then ans=0∧h'=h∧R'=Za1 h.ids R
 else ans=ZJ (viewI h R) e∧h'=h∧R'=R
theorem ZeT {e:Ev} (hr:ZU e=true) (h8:e.kind≠8) (h3:¬ (e.kind=1∨e.kind=2∨e.kind=3)):e.kind=4∨e.kind=5∨e.kind=6∨e.kind=7:=by
 have:=ZfN hr;omega
theorem Zfz {V:Vw} {e:Ev} (h:ZU e=false):ZJ V e=1:=by unfold ZJ;rw [Zb h]
theorem ZmS {V:Vw} {e:Ev} (hr:ZU e=true) (h:e.kind=8):ZJ V e=0∧Zaj V e=V:=by
 unfold ZJ Zaj;rw [Za (by rw [hr];simp),Za (by omega),Za (by omega),Za (by omega),Za (by omega),Za (by omega),Za (by omega),Za (by omega),Za (by omega),Za (by omega)];exact ⟨rfl,rfl⟩
theorem ZnV (h:Hd) (e:Ev) (seq:Int):(ZaG h e seq).next<=h.next+1∧(ZaG h e seq).seq=max h.seq seq∧(ZaG h e seq).l=h.l:=by
 unfold ZaG;split
 ·exact ⟨by show h.next<=h.next+1;omega,rfl,rfl⟩
 ·split
  ·exact ⟨Zck _,rfl,rfl⟩
  ·split
   ·exact ⟨by show h.next<=h.next+1;omega,rfl,rfl⟩
   ·exact ⟨by show h.next<=h.next+1;omega,rfl,rfl⟩
theorem ZnW {h:Hd} {R:List RO} {e:Ev} (hr:ZU e=true) (h3:e.kind=1∨e.kind=2∨e.kind=3):ZJ (viewI h R) e=(if (h.size:Int)<(spanE e).1+(spanE e).2 then 3 else 0):=by
 unfold ZJ;rw [Za (by rw [hr];simp),Zb h3];have:(viewI h R).data.length=h.size:=ZaO ..;rw [this]
theorem DoR.hd {h h':Hd} {R R':List RO} {e:Ev} {seq ans:Int} (D:DoR h R e seq ans h' R') (H:HdI h R) (hx:h.next<1073741824):HdI h' R':=by
 unfold DoR at D;split at D
 ·obtain ⟨_,rfl,rfl⟩:=D;exact H
 ·rename_i c0;have hr:ZU e=true:=by
   cases q:ZU e with
   | true=>rfl
   | false=>exact absurd (.inl q) c0
  split at D
  ·obtain ⟨_,rfl,rfl⟩:=D;exact H
  ·rename_i c8;split at D
   ·rename_i c3;split at D
    ·obtain ⟨_,rfl,off,n,es,ho,hn,hin,hc,rfl⟩:=D;exact (H.plain hr c3 ho hn hin hc).1
    ·obtain ⟨_,rfl,rfl⟩:=D;exact H
   ·rename_i c3;split at D
    ·obtain ⟨_,rfl,rfl⟩:=D;exact H
    ·split at D
     ·rename_i hc;obtain ⟨_,rfl,rfl⟩:=D;exact (H.great (ZeT hr c8 c3) hc (seq:=seq) (by omega) (by omega) hx).1
     ·split at D
      ·obtain ⟨_,rfl,rfl⟩:=D;exact H.tidied
      ·obtain ⟨_,rfl,rfl⟩:=D;exact H
theorem DoR.next {h h':Hd} {R R':List RO} {e:Ev} {seq ans:Int} (D:DoR h R e seq ans h' R'):h'.next<=h.next+1∧h'.seq<=max h.seq seq∧h'.l=h.l:=by
 have hg:=ZnV h e seq;unfold DoR at D;have key:h'=h->h'.next<=h.next+1∧h'.seq<=max h.seq seq∧h'.l=h.l:=fun q=>by
  subst q;exact ⟨by omega,by omega,rfl⟩
 split at D
 ·exact key D.2.1
 ·split at D
  ·exact key D.2.1
  ·split at D
   ·split at D
    ·exact key D.2.1
    ·exact key D.2.1
   ·split at D
    ·exact key D.2.1
    ·split at D
     ·rw [D.2.1];exact ⟨hg.1,by omega,hg.2.2⟩
     ·split at D
      ·exact key D.2.1
      ·exact key D.2.1
theorem DoR.model {h h':Hd} {R R':List RO} {e:Ev} {seq ans:Int} (D:DoR h R e seq ans h' R') (H:HdI h R) (hx:h.next<1073741824) (hs:0<=seq∧seq<=1099511627776) (hq:seq=0∨h.seq<seq) :
  ans=ZJ (viewI h R) e∧viewI h' R'=foldV (viewI h R) [e]:=by
 have hf:foldV (viewI h R) [e]=if ZJ (viewI h R) e=0 then Zaj (viewI h R) e else viewI h R:=rfl;rw [hf];unfold DoR at D;split at D
 ·rename_i c0;obtain ⟨rfl,rfl,rfl⟩:=D;have hr:ZU e=false:=by rcases c0 with q|q;exact q;omega
  rw [Zfz hr];exact ⟨rfl,rfl⟩
 ·rename_i c0;have hr:ZU e=true:=by
   cases q:ZU e with
   | true=>rfl
   | false=>exact absurd (.inl q) c0
  split at D
  ·rename_i c8;obtain ⟨rfl,rfl,rfl⟩:=D;have:=ZmS (V:=viewI h' R') hr c8;rw [this.1,this.2];exact ⟨rfl,rfl⟩
  ·rename_i c8;split at D
   ·rename_i c3;split at D
    ·rename_i hc;obtain ⟨rfl,rfl,off,n,es,ho,hn,hin,hcv,rfl⟩:=D;rw [Zb hc,hc];exact ⟨rfl,(H.plain hr c3 ho hn hin hcv).2⟩
    ·rename_i hc;obtain ⟨rfl,rfl,rfl⟩:=D;rw [Za hc];exact ⟨rfl,rfl⟩
   ·rename_i c3;split at D
    ·omega
    ·split at D
     ·rename_i hc;obtain ⟨rfl,rfl,rfl⟩:=D;rw [Zb hc,hc];exact ⟨rfl,(H.great (ZeT hr c8 c3) hc (seq:=seq) (by omega) (by omega) hx).2⟩
     ·rename_i hc;split at D
      ·omega
      ·obtain ⟨rfl,rfl,rfl⟩:=D;rw [Za hc];exact ⟨rfl,rfl⟩
section
variable {p q : Nat} {S : Str}
set_option maxRecDepth 8000
theorem ZmT {Q:Exit->Act->World->Prop} {K:Act->World->Prop} {x0 x1 x3 x4 x5 x6 x7 x8 x9 x10 x11 x12 x13 x14 x15 x16 x17 x18 x19 x20 x21 x22 x23 x24 x25 x26 x27 x28 x29 x30 x31 x32 x33 x34 x35 x36 x37 x38 x39 x40 x41 x42 x43 x44 x45 x46 x47 x48 x49 x50 x51 x52 x53 x54 x55 x56 x57 x58 x59 x60 x61 x62 x63 x64 x65 x66 x67 x68 x69 x70 x71 x72 x73 x74 x75 x76 x77 x78 x79 x80 x81 x82 x83 x84 x85 x86 x87 x88 x89 x90 x91 x92 x93 x94 x95 x96 x97 x98 x99 x100 x101 x102 x103 x104 x105 x106 x107 x108 x109:Value} {g2 n m c0 d0:Nat} {A0 B0:Option Addr} {D:List Int} {F:List Value} {C C2:Code} (hK:∀ x y,C2.wp prog Q x y->K x y) (hC:(f76).body.bind (fromR 4)=some (.seq C C2))
  (h:St W I w (pt g2 (cells #[slice A0 n c0,slice B0 m d0] 35)::l)) (hd:RowI I 1 (slice A0 n c0) n (D.map byteV)) (hr:RowI I 2 (slice B0 m d0) m F) (hF:∀ u ∈ F,u.oneCell'=true) (hn:n<=1000) (hm:m<=1000)
  (hQ:∀ (y0 y1 y5 y6 y8 y9 y10 y11 y12 y13 y14 y15 y16 y17 y18 y19 y20 y21 y22 y23 y24 y25 y26 y27 y28 y29 y30 y31 y32 y33 y34 y35 y36 y37 y38 y39 y40 y41 y42 y43 y44 y45 y46 y47 y48 y49 y50 y51 y52 y53 y54 y55 y56 y57 y58 y59 y60 y61 y62 y63 y64 y65 y66 y67 y68 y69 y70 y71 y72 y73 y74 y75 y76 y77 y78 y79 y80 y81 y82 y83 y84 y85 y86 y87 y88 y89 y90 y91 y92 y93 y94 y95 y96 y97 y98 y99 y100 y101 y102 y103 y104 y105 y106 y107 y108 y109:Value) (w':World) (g7 c d:Nat) (A B:Option Addr),St W I w' (pt g7 (cells #[slice A n c,slice B m d] 35)::HP.row 5 1 (slice A n c) n (D.map byteV)::HP.row 58 2 (slice B m d) m F::pt g2 (cells #[slice A0 n c0,slice B0 m d0] 35)::l)->C2.wp prog Q ⟨#[y0,y1,pointer (some ⟨g2,0,none⟩),x3,x4,y5,y6,pointer (some ⟨g7,0,none⟩),y8,y9,y10,y11,y12,y13,y14,y15,y16,y17,y18,y19,y20,y21,y22,y23,y24,y25,y26,y27,y28,y29,y30,y31,y32,y33,y34,y35,y36,y37,y38,y39,y40,y41,y42,y43,y44,y45,y46,y47,y48,y49,y50,y51,y52,y53,y54,y55,y56,y57,y58,y59,y60,y61,y62,y63,y64,y65,y66,y67,y68,y69,y70,y71,y72,y73,y74,y75,y76,y77,y78,y79,y80,y81,y82,y83,y84,y85,y86,y87,y88,y89,y90,y91,y92,y93,y94,y95,y96,y97,y98,y99,y100,y101,y102,y103,y104,y105,y106,y107,y108,y109],[]⟩ w') :
  C.wp prog (Exit.then K Q) ⟨#[x0,x1,pointer (some ⟨g2,0,none⟩),x3,x4,x5,x6,x7,x8,x9,x10,x11,x12,x13,x14,x15,x16,x17,x18,x19,x20,x21,x22,x23,x24,x25,x26,x27,x28,x29,x30,x31,x32,x33,x34,x35,x36,x37,x38,x39,x40,x41,x42,x43,x44,x45,x46,x47,x48,x49,x50,x51,x52,x53,x54,x55,x56,x57,x58,x59,x60,x61,x62,x63,x64,x65,x66,x67,x68,x69,x70,x71,x72,x73,x74,x75,x76,x77,x78,x79,x80,x81,x82,x83,x84,x85,x86,x87,x88,x89,x90,x91,x92,x93,x94,x95,x96,x97,x98,x99,x100,x101,x102,x103,x104,x105,x106,x107,x108,x109],[]⟩ w :=
 ZnU hC h hd hr hF hn hm fun _ _ _ _ _ _ _ _ _ _ _ _ _ _ _ _ _ _ _ _ _ _ _ _ _ _ _ _ _ _ _ _ _ _ _ _ _ _ _ _ _ _ _ _ _ _ _ _ _ _ _ _ _ _ _ _ _ _ _ _ _ _ _ _ _ _ _ _ _ _ _ _ _ _ _ _ _ _ _ _ _ _ _ _ _ _ _ _ _ _ _ _ _ _ _ _ _ _ _ _ _ _ _ _ _ _ w' g7 c d A B h'=>hK _ _ (hQ _ _ _ _ _ _ _ _ _ _ _ _ _ _ _ _ _ _ _ _ _ _ _ _ _ _ _ _ _ _ _ _ _ _ _ _ _ _ _ _ _ _ _ _ _ _ _ _ _ _ _ _ _ _ _ _ _ _ _ _ _ _ _ _ _ _ _ _ _ _ _ _ _ _ _ _ _ _ _ _ _ _ _ _ _ _ _ _ _ _ _ _ _ _ _ _ _ _ _ _ _ _ _ _ _ _ w' g7 c d A B h')
theorem ZlY {Q:Exit->Act->World->Prop} {x0 x1 x5 x6 x8 x9 x10 x11 x12 x13 x14 x15 x16 x17 x18 x19 x20 x21 x22 x23 x24 x25 x26 x27 x28 x29 x30 x31 x32 x33 x34 x35 x36 x37 x38 x39 x40 x41 x42 x43 x44 x45 x46 x47 x48 x49 x50 x51 x52 x53 x54 x55 x56 x57 x58 x59 x60 x61 x62 x63 x64 x65 x66 x67 x68 x69 x70 x71 x72 x73 x74 x75 x76 x77 x78 x79 x80 x81 x82 x83 x84 x85 x86 x87 x88 x89 x90 x91 x92 x93 x94 x95 x96 x97 x98 x99 x100 x101 x102 x103 x104 x105 x106 x107 x108 x109:Value} {g2 g3 g4 g7 c0 d0 c d ce:Nat} {A0 B0 A B Ae:Option Addr} {V:Vw} {M:List (ByteArray × Value)} {ca cb:Code} {K:Act->World->Prop} (hK:∀ x y,cb.wp prog Q x y->K x y) (hC:(f76).body.bind (fromR 5)=some (.seq ca cb)) (e:Ev)
  (h:St W I w (pt g7 (cells #[slice A V.data.length c,slice B M.length d] 35)::HP.row 5 1 (slice A V.data.length c) V.data.length (V.data.map byteV)::HP.row 58 2 (slice B M.length d) M.length (M.flatMap ocell)::pt g2 (cells #[slice A0 V.data.length c0,slice B0 M.length d0] 35)::pt g3 (cells #[int i64 e.kind,int i64 e.off,int i64 e.len,slice Ae e.data.length ce,.string e.name] 40)::pt g4 (cells #[slice none 0 0,slice none 0 0] 35)::l))
  (hd:Zw I (slice A0 V.data.length c0) V.data) (hr:RowI I 2 (slice B0 M.length d0) M.length (M.flatMap ocell)) (ho:OldsI I M V.snaps) (hp:Zw I (slice Ae e.data.length ce) e.data) (hn:V.data.length<=512) (hm:M.length<=1000) (hc:ZJ V e=0) (hdl:∀ x ∈ V.snaps,x.2.length<=512)
  (hQ:∀ (y0 y1 y2 y3 y5 y6 y8 y9 y10 y11 y12 y13 y14 y15 y16 y17 y18 y19 y20 y21 y22 y23 y24 y25 y26 y27 y28 y29 y30 y31 y32 y33 y34 y35 y36 y37 y38 y39 y40 y41 y42 y43 y44 y45 y46 y47 y48 y49 y50 y51 y52 y53 y54 y55 y56 y57 y58 y59 y60 y61 y62 y63 y64 y65 y66 y67 y68 y69 y70 y71 y72 y73 y74 y75 y76 y77 y78 y79 y80 y81 y82 y83 y84 y85 y86 y87 y88 y89 y90 y91 y92 y93 y94 y95 y96 y97 y98 y99 y100 y101 y102 y103 y104 y105 y106 y107 y108 y109:Value) (I':Hp) (w':World) (vd vs:Value),I.sub I'->VwI I' (.agg #[vd,vs]) (Zaj V e)->St W I' w' (pt g7 (cells #[vd,vs] 35)::pt g4 (cells #[slice none 0 0,slice none 0 0] 35)::l)->Q .normal ⟨#[y0,y1,y2,y3,pointer (some ⟨g4,0,none⟩),y5,y6,pointer (some ⟨g7,0,none⟩),y8,y9,y10,y11,y12,y13,y14,y15,y16,y17,y18,y19,y20,y21,y22,y23,y24,y25,y26,y27,y28,y29,y30,y31,y32,y33,y34,y35,y36,y37,y38,y39,y40,y41,y42,y43,y44,y45,y46,y47,y48,y49,y50,y51,y52,y53,y54,y55,y56,y57,y58,y59,y60,y61,y62,y63,y64,y65,y66,y67,y68,y69,y70,y71,y72,y73,y74,y75,y76,y77,y78,y79,y80,y81,y82,y83,y84,y85,y86,y87,y88,y89,y90,y91,y92,y93,y94,y95,y96,y97,y98,y99,y100,y101,y102,y103,y104,y105,y106,y107,y108,y109],[]⟩ w') :
  ca.wp prog (Exit.then K Q) ⟨#[x0,x1,pointer (some ⟨g2,0,none⟩),pointer (some ⟨g3,0,none⟩),pointer (some ⟨g4,0,none⟩),x5,x6,pointer (some ⟨g7,0,none⟩),x8,x9,x10,x11,x12,x13,x14,x15,x16,x17,x18,x19,x20,x21,x22,x23,x24,x25,x26,x27,x28,x29,x30,x31,x32,x33,x34,x35,x36,x37,x38,x39,x40,x41,x42,x43,x44,x45,x46,x47,x48,x49,x50,x51,x52,x53,x54,x55,x56,x57,x58,x59,x60,x61,x62,x63,x64,x65,x66,x67,x68,x69,x70,x71,x72,x73,x74,x75,x76,x77,x78,x79,x80,x81,x82,x83,x84,x85,x86,x87,x88,x89,x90,x91,x92,x93,x94,x95,x96,x97,x98,x99,x100,x101,x102,x103,x104,x105,x106,x107,x108,x109],[]⟩ w:=by
 obtain ⟨k,off,len,p,nm⟩:=e;have hr2:ZU ⟨k,off,len,p,nm⟩=true:=by
  cases q:ZU ⟨k,off,len,p,nm⟩ with
  | true=>rfl
  | false=>rw [Zfz q] at hc;cases hc
 have hi:=(Zbl ⟨k,off,len,p,nm⟩).1 hr2;have hk:=ZfN hr2;simp only at hi hk h hp hQ;unfold ZJ at hc;rw [Za (by rw [hr2];simp)] at hc;simp only at hc;rcases hk with rfl|rfl|rfl|rfl|rfl|rfl|rfl|rfl
 ·have hsp:=Zdl hr2 (.inl rfl);unfold spanE at hc hsp;simp only [Zaw,true_or,or_true,Zb] at hc hsp;refine Zpm hK hC off len p nm h hd hr ho hp hn hm ?_ hQ;by_cases q:(V.data.length:Int)<off+p.length
  ·rw [Zb q] at hc;cases hc
  ·omega
 ·have hsp:=Zdl hr2 (.inr (.inl rfl));unfold spanE at hc hsp;simp at hc hsp;refine Zpk hK hC off len p nm h hd hr ho hp hn hm ?_ hQ;omega
 ·have hsp:=Zdl hr2 (.inr (.inr rfl));unfold spanE at hc hsp;simp at hc hsp;refine Zpl hK hC off len p nm h hd hr ho hp hn hm ?_ hQ;omega
 ·exact Zpj hK hC off len p nm h hd hr ho hp hn hm (by grind) hQ
 ·exact Zpn hK hC off len p nm h hd hr ho hp hn hm hQ
 ·obtain ⟨i,hf⟩:∃ i,findV V nm=some i:=by
   rw [<-ZdK];cases q:(findV V nm).isSome with
   | true=>rfl
   | false=>simp [q] at hc
  exact Zpo hK hC off len p nm h hd hr ho hp hn hm i hf hQ
 ·obtain ⟨i,hf⟩:∃ i,findV V nm=some i:=by
   rw [<-ZdK];cases q:(findV V nm).isSome with
   | true=>rfl
   | false=>simp [q] at hc
  exact Zpp hK hC off len p nm h hd hr ho hp hn hm i hf hdl hQ
 ·exact Zpi hK hC off len p nm h hd hr ho hp hn hm hQ
def TwoSl (v:Value):Prop:=∃ A n c B m d,v=.agg #[slice A n c,slice B m d]
theorem ZmU (V:Vw) (v:Value) (e:Ev) (ev:Value) (hs:St W I w l) (hv:VwI I v V) (hev:Zw I ev e.data) (hsz:V.data.length<=512) (hsl:V.snaps.length<=1000) (hdl:∀ x ∈ V.snaps,x.2.length<=512) (hnm:e.name.size<=1000) :
  Calls prog 76 #[v,e.val ev] w fun x w'=>∃ I',I.sub I'∧∃ v',x=.returned (.tuple #[v',int i64 (ZJ V e)])∧TwoSl v'∧(ZJ V e=0->VwI I' v' (Zaj V e))∧St W I' w' l:=by
 obtain ⟨vd,vs,M,rfl,hd,hr,ho⟩:=hv;obtain ⟨A0,c0,rfl,_⟩:=hd.cap;obtain ⟨B0,d0,rfl,_⟩:=hr.cap;obtain ⟨Ae,ce,rfl,_⟩:=hev.cap;have hml:=ho.len
 have CHK:=Zh (fun (wx:World) (l':List HP) (hst:St W I wx l')=>by
  have:=Ziu M (slice A0 V.data.length c0) (slice B0 M.length d0) V.data.length ⟨_,_,rfl⟩ e wx (hr.src hst.imm (ZbA ho.sl) (by decide)) ho.sl (by omega) (by omega) Ae ce hnm;rw [ho.1,<-Zcf] at this
  exact this)
 have h1:=((hs.alloc (cells #[slice A0 V.data.length c0,slice B0 M.length d0] 35)).alloc (cells #[int i64 e.kind,int i64 e.off,int i64 e.len,slice Ae e.data.length ce,.string e.name] 40)).alloc (cells #[slice none 0 0,slice none 0 0] 35);simp only [Zb2] at h1;obtain ⟨g2,hg2⟩:∃ g,w.heap.size=g:=⟨_,rfl⟩;obtain ⟨g3,hg3⟩:∃ g,g2+1=g:=⟨_,rfl⟩;obtain ⟨g4,hg4⟩:∃ g,g2+1+1=g:=⟨_,rfl⟩;rw [hg2,hg4,hg3] at h1;have HG2:=Zh hg2;have HG3:=Zh hg3;have HG4:=Zh hg4;have H1:=Zh h1;clear h1 hs hg2 hg3 hg4;by_cases hc:ZJ V e=0
 ·rw [hc] at CHK |-;have HDR:=Zh (show RowI I 1 (slice A0 V.data.length c0) V.data.length (V.data.map byteV) from hd);have HRR:=Zh hr;have HD:=Zh hd;have HO:=Zh ho;have HEV:=Zh hev;have HC:=Zh hc;have HDL:=Zh hdl;have HMM:=Zh (show M.length<=1000 by omega);have HSZ:=Zh hsz;clear hc hd hr ho hev hsz hsl hdl hnm hml;obtain ⟨k,eo,el,d,nm⟩:=e;simp only [Ev.val] at *;go_enter func76,ntmps76;go_upto_region 1 with fail;rw [HG2.o,HG4.o,HG3.o];have h1:=H1.o;generalize (World.alloc _ _:World)=w1 at h1 |-;clear H1 HG2 HG3 HG4;obtain ⟨y0,y1⟩:=Zq h1;obtain ⟨e0,e1,e2,e3,e4⟩:=Zf (h1.pull 1 _ rfl);obtain ⟨z0,z1⟩:=Zq (h1.pull 2 _ rfl);have HX:=Zh (CHK.o _ _ h1);have HA:=Zh h1;clear h1 CHK;go_wp2_with fail;refine HX.o.mono ?_;rintro x w2 ⟨rfl,hb2⟩;have H2:=Zh ((HA.o.keep hb2).pull 1 _ rfl |>.pull 2 _ rfl);clear y0 y1 e0 e1 e2 e3 e4 z0 z1 HX HA hb2;go_upto_region 4 with fail;refine ZmT (by assumption) (by kernel_rfl) H2.o HDR.o HRR.o (ZbA HO.o.sl) (by have:=HSZ.o;omega) HMM.o ?_;intro y0 y1 y5 y6 y8 y9 y10 y11 y12 y13 y14 y15 y16 y17 y18 y19 y20 y21 y22 y23 y24 y25 y26 y27 y28 y29 y30 y31 y32 y33 y34 y35 y36 y37 y38 y39 y40 y41 y42 y43 y44 y45 y46 y47 y48 y49 y50 y51 y52 y53 y54 y55 y56 y57 y58 y59 y60 y61 y62 y63 y64 y65 y66 y67 y68 y69 y70 y71 y72 y73 y74 y75 y76 y77 y78 y79 y80 y81 y82 y83 y84 y85 y86 y87 y88 y89 y90 y91 y92 y93 y94 y95 y96 y97 y98 y99 y100 y101 y102 y103 y104 y105 y106 y107 y108 y109 w5 g7 c7 d7 A7 B7 h5;have H5:=Zh h5;clear h5 H2;go_upto_region 5 with fail;refine ZlY (by assumption) (by kernel_rfl) ⟨k,eo,el,d,nm⟩ H5.o HD.o HRR.o HO.o HEV.o HSZ.o HMM.o HC.o HDL.o ?_;intro z0 z1 z2 z3 z5 z6 z8 z9 z10 z11 z12 z13 z14 z15 z16 z17 z18 z19 z20 z21 z22 z23 z24 z25 z26 z27 z28 z29 z30 z31 z32 z33 z34 z35 z36 z37 z38 z39 z40 z41 z42 z43 z44 z45 z46 z47 z48 z49 z50 z51 z52 z53 z54 z55 z56 z57 z58 z59 z60 z61 z62 z63 z64 z65 z66 z67 z68 z69 z70 z71 z72 z73 z74 z75 z76 z77 z78 z79 z80 z81 z82 z83 z84 z85 z86 z87 z88 z89 z90 z91 z92 z93 z94 z95 z96 z97 z98 z99 z100 z101 z102 z103 z104 z105 z106 z107 z108 z109 I6 w6 vd vs hs6 hv6 h6;obtain ⟨vd',vs',M',e9,hb9,hr9,ho9⟩:=id hv6;simp only [Value.agg.injEq,Array.mk.injEq,Zd0,Zae] at e9;obtain ⟨rfl,rfl⟩:=e9;obtain ⟨A8,c8,rfl,_⟩:=hb9.cap;obtain ⟨B8,d8,rfl,_⟩:=hr9.cap;obtain ⟨n8,hn8⟩:∃ x,(Zaj V ⟨k,eo,el,d,nm⟩).data.length=x:=⟨_,rfl⟩;rw [hn8] at h6 hv6;obtain ⟨q0,q1⟩:=Zq h6;have h7:=h6.pull 1 _ rfl;obtain ⟨r0,r1⟩:=Zq h7;have fz:=frozen_of_row h7.heap;have H8:=Zh (h7.set2 (slice A8 n8 c8) (slice B8 M'.length d8));have HV6:=Zh hv6;have HS6:=Zh hs6;clear h6 h7 hb9 hr9 ho9 hv6 hs6 hn8 H5;go_wp2_with fail;have h8:=H8.o;generalize (World.setCell _ _ _:World)=w8 at h8 |-;clear q0 q1 r0 r1 fz H8;obtain ⟨q0,q1⟩:=Zq h8;refine ZaK (v:=.tuple #[.agg #[slice A8 n8 c8,slice B8 M'.length d8],int i64 0]) (by simp [results,results76,go_sem,q0,q1]) rfl ?_;exact ⟨I6,HS6.o,_,rfl,⟨_,_,_,_,_,_,rfl⟩,by first|exact HV6.o|exact fun _=>HV6.o,h8.drop.drop⟩
 ·obtain ⟨c,hcc⟩:∃ x,ZJ V e=x:=⟨_,rfl⟩;rw [hcc] at CHK hc |-;have dc1:(c==0)=false:=by simpa using hc
  have dc2:(c != 0)=true:=by simpa using hc
  have HC:=Zh hc;clear hc hcc hd hr ho hev hsz hsl hdl hnm hml;obtain ⟨k,eo,el,d,nm⟩:=e;simp only [Ev.val] at *;go_enter func76,ntmps76;go_upto_region 1 with fail;rw [HG2.o,HG4.o,HG3.o];have h1:=H1.o;generalize (World.alloc _ _:World)=w1 at h1 |-;clear H1 HG2 HG3 HG4;obtain ⟨y0,y1⟩:=Zq h1;obtain ⟨e0,e1,e2,e3,e4⟩:=Zf (h1.pull 1 _ rfl);obtain ⟨z0,z1⟩:=Zq (h1.pull 2 _ rfl);have HX:=Zh (CHK.o _ _ h1);have HA:=Zh h1;clear h1 CHK;go_wp2_with fail;refine HX.o.mono ?_;rintro x w2 ⟨rfl,hb2⟩;have h2:=HA.o.keep hb2;clear y0 y1 e0 e1 e2 e3 e4 z0 z1 HX HA;obtain ⟨y0,y1⟩:=Zq h2;have fz:=frozen_of_row h2.heap;have H3:=Zh (h2.set2 (slice none 0 0) (slice none 0 0));clear h2 hb2;go_wp2_with fail;have h3:=H3.o;generalize (World.setCell _ _ _:World)=w3 at h3 |-;clear y0 y1 fz H3;obtain ⟨y0,y1⟩:=Zq h3;refine ZaK (v:=.tuple #[.agg #[slice none 0 0,slice none 0 0],int i64 c]) (by simp [results,results76,go_sem,y0,y1]) rfl ?_;exact ⟨I,Hp.sub.refl _,_,rfl,⟨_,_,_,_,_,_,rfl⟩,fun h0=>absurd h0 HC.o,h3.drop.drop.drop⟩
end
structure VwB (V:Vw):Prop where
 data:V.data.length<=512
 few:V.snaps.length<=8
 each:∀ x ∈ V.snaps,x.2.length<=512
theorem VwB.apply {V:Vw} {e:Ev} (h:VwB V) (hc:ZJ V e=0):VwB (Zaj V e):=by
 have hr:ZU e=true:=by
  cases q:ZU e with
  | true=>rfl
  | false=>rw [Zfz q] at hc;cases hc
 have hi:=(Zbl e).1 hr;have h1:=h.data;have h2:=h.few;unfold ZJ at hc;rw [Za (by rw [hr];simp)] at hc;unfold Zaj;by_cases k1:e.kind=1
 ·rw [Zb k1];have hs:=Zdl hr (.inl k1);rw [Zb (.inl k1)] at hc;unfold spanE at hc hs;rw [Zb k1] at hc hs;simp only at hc hs;refine ⟨?_,h.few,h.each⟩;show (layB V.data e.off.toNat e.data).length<=512;by_cases q:(V.data.length:Int)<e.off+e.data.length
  ·rw [Zb q] at hc;cases hc
  ·rw [Zdr (by omega)];exact h.data
 rw [Za k1];by_cases k2:e.kind=2∨e.kind=3
 ·rw [Zb k2];have hs:=Zdl hr (by omega);rw [Zb (by omega)] at hc;unfold spanE at hc hs;rw [Za k1] at hc hs;simp only at hc hs;refine ⟨?_,h.few,h.each⟩;show (layB V.data e.off.toNat (List.replicate e.len.toNat 0)).length<=512;by_cases q:(V.data.length:Int)<e.off+e.len
  ·rw [Zb q] at hc;cases hc
  ·rw [Zdr (by rw [Za7];omega)];exact h.data
 rw [Za k2];rw [Za (by omega)] at hc;by_cases k4:e.kind=4
 ·rw [Zb k4];refine ⟨?_,h.few,h.each⟩;have:0<=e.len∧e.len<=512:=by grind
  show (V.data.take e.len.toNat++List.replicate (e.len.toNat - V.data.length) 0).length<=512;rw [ZA,ZN,Za7];omega
 rw [Za k4];by_cases k5:e.kind=5
 ·rw [Zb k5] at hc |-;refine ⟨h.data,?_,fun x hx=>?_⟩
  ·show (V.snaps++[(e.name,V.data)]).length<=8;rw [ZA,Zie];by_cases q:(findV V e.name).isSome=true
   ·rw [Zb q] at hc;cases hc
   ·rw [Za q] at hc;by_cases r:8<=V.snaps.length
    ·rw [Zb r] at hc;cases hc
    ·omega
  ·rcases ZY.1 hx with q|q
   ·exact h.each x q
   ·rw [Zaz.1 q];exact h.data
 rw [Za k5];by_cases k6:e.kind=6
 ·rw [Zb k6];refine ⟨h.data,?_,fun x hx=>h.each x (List.mem_of_mem_eraseIdx hx)⟩;show (V.snaps.eraseIdx _).length<=8;exact ZQ (List.length_eraseIdx_le ..) h.few
 rw [Za k6];by_cases k7:e.kind=7
 ·rw [Zb k7];refine ⟨?_,h.few,h.each⟩;show (((V.snaps[(findV V e.name).getD 0]?).map (·.2)).getD []).length<=512;cases q:V.snaps[(findV V e.name).getD 0]? with
  | none=>simp
  | some x=>exact h.each x (Zay q)
 ·rw [Za k7];exact h
def stepV (V:Vw) (e:Ev):Vw:=if ZJ V e=0 then Zaj V e else V
theorem VwB.step {V:Vw} (h:VwB V) (e:Ev):VwB (stepV V e):=by
 unfold stepV;split
 ·exact h.apply (by assumption)
 ·exact h
theorem Zkq:∀ (l:List Ev) (V:Vw) (e:Ev),foldV V (l++[e])=stepV (foldV V l) e
 | [],V,e=>rfl
 | a::l,V,e=>by
  show foldV _ (l++[e])=stepV (foldV _ l) e;exact Zkq l _ e
theorem VwB.fold:∀ {l:List Ev} {V:Vw},VwB V->VwB (foldV V l)
 | [],_,h=>h
 | e::l,V,h=>VwB.fold (l:=l) (h.step e)
section
variable {p q : Nat} {S : Str}
set_option maxRecDepth 8000
theorem ZnX (es:List (Ev × Value)) (V:Vw) (v vl:Value) (hs:St W I w l) (hv:VwI I v V) (hb:VwB V) (he:EvsI I vl es) (hnm:∀ x ∈ es,x.1.name.size<=1000) :
  Calls prog 18 #[v,vl] w fun x w'=>∃ I',I.sub I'∧∃ v',x=.returned v'∧VwI I' v' (foldV V (es.map (·.1)))∧St W I' w' l:=by
 obtain ⟨vd,vs,M,rfl,hd,hr,ho⟩:=id hv;obtain ⟨A0,c0,rfl,_⟩:=hd.cap;obtain ⟨B0,d0,rfl,_⟩:=hr.cap;obtain ⟨n0,hn0⟩:∃ n,V.data.length=n:=⟨_,rfl⟩;obtain ⟨m0,hm0⟩:∃ n,M.length=n:=⟨_,rfl⟩;rw [hn0,hm0] at hv |-;obtain ⟨AE,cE,rfl,_⟩:=RowI.cap he.1;have h1:=(hs.alloc (cells #[slice A0 n0 c0,slice B0 m0 d0] 35)).alloc (cells #[slice none 0 0,slice none 0 0] 35);simp only [Zb2] at h1;obtain ⟨g2,hg2⟩:∃ g,w.heap.size=g:=⟨_,rfl⟩;obtain ⟨g4,hg4⟩:∃ g,g2+1=g:=⟨_,rfl⟩;rw [hg2,hg4] at h1;have HG2:=Zh hg2;have HG4:=Zh hg4;have H1:=Zh (h1.pull 1 _ rfl);have HV:=Zh hv;have HE:=Zh he;have HNM:=Zh hnm;have HB:=Zh hb;have hel:es.length<=maxLen:=by
  obtain ⟨_,_,e1,_,_,h4,_⟩:=he.1;simp only [ZF] at e1;omega
 have HEL:=Zh hel;clear hs hv hb he hnm hd hr ho h1 hg2 hg4 hn0 hm0 hel;go_enter func18,ntmps18;go_wp2_with fail;rw [HG2.o,HG4.o];have h1:=H1.o;generalize (World.alloc _ _:World)=w1 at h1 |-;have H2:=Zh h1;clear H1 HG2 HG4 h1;go_loopw [5] (fun a5 wr=>∃ (i:Nat) (I':Hp) (A:Option Addr) (n c:Nat) (B:Option Addr) (m d:Nat),a5=int i64 i∧i<=es.length∧I.sub I'∧VwI I' (.agg #[slice A n c,slice B m d]) (foldV V ((es.take i).map (·.1)))∧St W I' wr (pt g2 (cells #[slice A n c,slice B m d] 35)::pt g4 (cells #[slice none 0 0,slice none 0 0] 35)::l)) (fun a5 _=>es.length - (intOf a5).toNat);case atStart=>exact ⟨0,I,A0,n0,c0,B0,m0,d0,rfl,by omega,Hp.sub.refl _,HV.o,H2.o⟩
 case round =>
  obtain ⟨i,I',A,n,c,B,m,d,rfl,hi,hsub,hvi,hst⟩:=hrel;clear H2;by_cases hlt:i<es.length
  ·have hmx:=HEL.o;unfold maxLen at hmx;have d0':decide ((i:Int)<(es.length:Int))=true:=by rw [Ze];omega
   obtain ⟨⟨e,ev⟩,hee⟩:∃ y,es[i]?=some y:=⟨_,ZL hlt⟩;have hev:=(HE.o.2 _ (Zay hee));have hen:=HNM.o _ (Zay hee);simp only [evOk] at hev hen;obtain ⟨b,bo,e1,hc⟩:=ZbJ (i:=i) (mk:=ecell) (k:=5) (RowI.mono hsub HE.o.1) (Hp.sub.refl _) hst.drew (fun _=>rfl) hee;simp only [ZF,Zae,ZK] at e1;subst e1;have hrow:=RowI.mono hsub HE.o.1;have hft:foldV V ((es.take (i+1)).map (·.1))=stepV (foldV V ((es.take i).map (·.1))) e:=by
    obtain ⟨hil,hq⟩:=ZS.1 hee;rw [ZbG hil,hq,Z4,List.map_singleton,Zkq]
   have hvb:=HB.o.fold (l:=(es.take i).map (·.1));obtain ⟨Vi,hVi⟩:∃ x,foldV V ((es.take i).map (·.1))=x:=⟨_,rfl⟩;rw [hVi] at hvi hft hvb;obtain ⟨cc,hcc⟩:∃ x,ZJ Vi e=x:=⟨_,rfl⟩;have APP:=Zh (fun (wx:World) (l':List HP) (hst:St W I' wx l')=>ZmU Vi _ e ev hst hvi (RowI.mono hsub hev.1) hvb.data (by have:=hvb.few;omega) hvb.each hen);rw [hcc] at APP;have HFT:=Zh hft;have HCC:=Zh hcc;have HVI:=Zh hvi;have HSUB:=Zh hsub;obtain ⟨Ae,ce,rfl,_⟩:=hev.1.cap;obtain ⟨k,eo,el,dt,nm⟩:=e;have hcell:∀ (w':World) (I2:Hp) (l1:List HP),I'.sub I2->St W I2 w' (pt g2 (cells #[slice A n c,slice B m d] 35)::l1)->(w'.cell? ⟨g2,0,none⟩=some (slice A n c)∧w'.cell? ⟨g2,1,none⟩=some (slice B m d)∧w'.cell? ⟨b,bo+i*5,none⟩=some (int i64 k)∧w'.cell? ⟨b,bo+i*5+1,none⟩=some (int i64 eo)∧w'.cell? ⟨b,bo+i*5+2,none⟩=some (int i64 el)∧w'.cell? ⟨b,bo+i*5+3,none⟩=some (slice Ae dt.length ce)∧w'.cell? ⟨b,bo+i*5+4,none⟩=some (.string nm)):=fun w' I2 l1 hsb h1=>by
    obtain ⟨b',bo',e1,hc'⟩:=ZbJ (i:=i) (mk:=ecell) (k:=5) (RowI.mono hsb hrow) (Hp.sub.refl _) h1 (fun _=>rfl) hee;simp only [ZF,Zah,Addr.mk.injEq,Zae,ZK] at e1;obtain ⟨rfl,rfl⟩:=e1;exact ⟨(Zq h1).1,(Zq h1).2,hc' 0 (by decide),hc' 1 (by decide),hc' 2 (by decide),hc' 3 (by decide),hc' 4 (by decide)⟩
   have h0:=hst.drew;obtain ⟨w0,hw0⟩:=Zn wr.drew;rw [<-hw0] at h0;have Q0:=Zh (hcell _ _ _ (Hp.sub.refl _) h0);have HCELL:=Zh hcell;have H0:=Zh h0;have HW:=Zh hw0;simp only [Ev.val] at APP;clear hc hee hev hen hst h0 hw0 hcell hrow hft hvb hVi hcc hvi hsub;go_upto_region 4 with fail;refine ZcY (fun w'=>w'.cell? ⟨g2,0,none⟩=some (slice A n c)∧w'.cell? ⟨g2,1,none⟩=some (slice B m d)∧w'.cell? ⟨b,bo+i*5,none⟩=some (int i64 k)∧w'.cell? ⟨b,bo+i*5+1,none⟩=some (int i64 eo)∧w'.cell? ⟨b,bo+i*5+2,none⟩=some (int i64 el)∧w'.cell? ⟨b,bo+i*5+3,none⟩=some (slice Ae dt.length ce)∧w'.cell? ⟨b,bo+i*5+4,none⟩=some (.string nm)) [0,1,2,3,4,5,6,7,8,9,10] (Tp.pull [0,1,2,3,4] (Tp.two 5 (Tp.pull [6,7,8] (Tp.one 9 (Tp.one 10 Tp.leaf))) 9 (Tp.one 5 (Tp.pull [6,7,8] (Tp.one 10 Tp.leaf))))) [11] (by kernel_rfl) (by kernel_rfl) (by (rw [<-HW.o];exact Q0.o)) ?_;rw [<-HW.o];unfold wpTp
   (try simp only [pickL,Zg,Zi])
   repeat (first|refine Zs _ (Or.inl ⟨by rfl,by (intro w hSw;(try dsimp only at hSw);go_simp;try with_reducible rfl)⟩) ?_|refine Zs _ (Or.inr ⟨by rfl,rfl⟩) ?_|fail);(try go_frame)
   refine ZC ?_;unfold wpTp
   (try simp only [pickL,Zg,Zi])
   refine ⟨?_,?_⟩
   ·have HAP:=Zh (APP.o _ _ H0.o);go_wp2_with fail;refine HAP.o.mono ?_;rintro x w3 ⟨I3,hs3,v3,rfl,⟨A3,n3,c3,B3,m3,d3,rfl⟩,hv3,h3⟩;have Q3:=Zh (HCELL.o _ _ _ hs3 h3);go_wp2;refine Zt Q3.o ?_;unfold wpTp
    (try simp only [pickL,Zg,Zi])
    repeat (first|refine Zs _ (Or.inl ⟨by rfl,by (intro w hSw;(try dsimp only at hSw);go_simp;try with_reducible rfl)⟩) ?_|refine Zs _ (Or.inr ⟨by rfl,rfl⟩) ?_|fail);(try go_frame)
    refine ZC ?_;unfold wpTp
    (try simp only [pickL,Zg,Zi])
    have h4:=h3.alloc (cells #[slice none 0 0,slice none 0 0] 35);have hq4:=HCELL.o _ _ _ hs3 (h4.pull 1 _ rfl);obtain ⟨w4,hw4⟩:=Zn (w3.alloc (cells #[slice none 0 0,slice none 0 0] 35));obtain ⟨g6,hg6⟩:=Zn w3.heap.size;rw [<-hw4,<-hg6] at h4;rw [<-hw4] at hq4;have Q4:=Zh hq4;have H4:=Zh h4;clear h3 h4 hq4;go_wp2_with fail;rw [<-hg6,<-hw4];clear hg6 hw4;refine Zt Q4.o ?_;unfold wpTp
    (try simp only [pickL,Zg,Zi])
    have h4:=H4.o;obtain ⟨q0,q1⟩:=Zq h4;have fz:=frozen_of_row h4.heap;have h5:=h4.set2 (slice A3 n3 c3) (slice B3 m3 d3);have Q5:=Zh (HCELL.o _ _ _ hs3 (h5.pull 1 _ rfl));have H5:=Zh h5;clear h4 h5 H4;go_wp2;refine Zt Q5.o ?_;unfold wpTp
    (try simp only [pickL,Zg,Zi])
    clear q0 q1 fz;have h5:=H5.o;generalize (World.setCell _ _ _:World)=w5 at h5 |-;clear H5 Q5;by_cases hz:cc=0
    ·subst hz;obtain ⟨q0,q1⟩:=Zq h5;have h6:=h5.pull 1 _ rfl;obtain ⟨r0,r1⟩:=Zq h6;have fz:=frozen_of_row h6.heap;have hv9:=hv3 rfl
     have HV9:=Zh (show VwI I3 (.agg #[slice A3 n3 c3,slice B3 m3 d3]) (foldV V ((es.take (i+1)).map (·.1))) by
      rw [HFT.o];unfold stepV;rw [Zb HCC.o]
      exact hv9)
     have H9:=Zh (((h6.set2 (slice A3 n3 c3) (slice B3 m3 d3)).pull 1 _ rfl).drop);have HS9:=Zh (HSUB.o.trans hs3);clear hv3 hv9 h5 h6 hs3;go_wp2;refine Zu ?_;go_wp2;go_roundw;case rel=>exact ⟨i+1,I3,A3,n3,c3,B3,m3,d3,by go_num,by omega,HS9.o,HV9.o,H9.o⟩
     case measure=>simp [intOf]<;>omega
    ·have dc:(cc==0)=false:=by simpa using hz
     have HV9:=Zh (show VwI I3 (.agg #[slice A n c,slice B m d]) (foldV V ((es.take (i+1)).map (·.1))) by
      rw [HFT.o];unfold stepV;rw [Za (by rw [HCC.o];exact hz)]
      exact HVI.o.mono hs3)
     have H9:=Zh h5.drop;have HS9:=Zh (HSUB.o.trans hs3);clear hv3 h5 hs3 hz;go_wp2;refine Zu ?_;go_wp2;go_roundw;case rel=>exact ⟨i+1,I3,A,n,c,B,m,d,by go_num,by omega,HS9.o,HV9.o,H9.o⟩
     case measure=>simp [intOf]<;>omega
   ·have h4:=H0.o.alloc (cells #[slice none 0 0,slice none 0 0] 35);have hq4:=HCELL.o _ _ _ (Hp.sub.refl _) (h4.pull 1 _ rfl);obtain ⟨w4,hw4⟩:=Zn (w0.alloc (cells #[slice none 0 0,slice none 0 0] 35));obtain ⟨g6,hg6⟩:=Zn w0.heap.size;rw [<-hw4,<-hg6] at h4;rw [<-hw4] at hq4;have Q4:=Zh hq4;have HAP:=Zh (APP.o _ _ h4);clear h4 hq4;go_wp2_with fail;rw [<-hg6,<-hw4];clear hg6 hw4;refine Zt Q4.o ?_;unfold wpTp
    (try simp only [pickL,Zg,Zi])
    go_wp2_with fail;refine HAP.o.mono ?_;rintro x w3 ⟨I3,hs3,v3,rfl,⟨A3,n3,c3,B3,m3,d3,rfl⟩,hv3,h3⟩;have Q3:=Zh (HCELL.o _ _ _ hs3 (h3.pull 1 _ rfl));go_wp2;refine Zt Q3.o ?_;unfold wpTp
    (try simp only [pickL,Zg,Zi])
    repeat (first|refine Zs _ (Or.inl ⟨by rfl,by (intro w hSw;(try dsimp only at hSw);go_simp;try with_reducible rfl)⟩) ?_|refine Zs _ (Or.inr ⟨by rfl,rfl⟩) ?_|fail);(try go_frame)
    refine ZC ?_;unfold wpTp
    (try simp only [pickL,Zg,Zi])
    obtain ⟨q0,q1⟩:=Zq h3;have fz:=frozen_of_row h3.heap;have h5:=h3.set2 (slice A3 n3 c3) (slice B3 m3 d3);have Q5:=Zh (HCELL.o _ _ _ hs3 (h5.pull 1 _ rfl));have H5:=Zh h5;clear h3 h5;go_wp2;refine Zt Q5.o ?_;unfold wpTp
    (try simp only [pickL,Zg,Zi])
    clear q0 q1 fz;have h5:=H5.o;generalize (World.setCell _ _ _:World)=w5 at h5 |-;clear H5 Q5;by_cases hz:cc=0
    ·subst hz;obtain ⟨q0,q1⟩:=Zq h5;have h6:=h5.pull 1 _ rfl;obtain ⟨r0,r1⟩:=Zq h6;have fz:=frozen_of_row h6.heap;have hv9:=hv3 rfl
     have HV9:=Zh (show VwI I3 (.agg #[slice A3 n3 c3,slice B3 m3 d3]) (foldV V ((es.take (i+1)).map (·.1))) by
      rw [HFT.o];unfold stepV;rw [Zb HCC.o]
      exact hv9)
     have H9:=Zh (((h6.set2 (slice A3 n3 c3) (slice B3 m3 d3)).pull 1 _ rfl).drop);have HS9:=Zh (HSUB.o.trans hs3);clear hv3 hv9 h5 h6 hs3;go_wp2;refine Zu ?_;go_wp2;go_roundw;case rel=>exact ⟨i+1,I3,A3,n3,c3,B3,m3,d3,by go_num,by omega,HS9.o,HV9.o,H9.o⟩
     case measure=>simp [intOf]<;>omega
    ·have dc:(cc==0)=false:=by simpa using hz
     have HV9:=Zh (show VwI I3 (.agg #[slice A n c,slice B m d]) (foldV V ((es.take (i+1)).map (·.1))) by
      rw [HFT.o];unfold stepV;rw [Za (by rw [HCC.o];exact hz)]
      exact HVI.o.mono hs3)
     have H9:=Zh h5.drop;have HS9:=Zh (HSUB.o.trans hs3);clear hv3 h5 hs3 hz;go_wp2;refine Zu ?_;go_wp2;go_roundw;case rel=>exact ⟨i+1,I3,A,n,c,B,m,d,by go_num,by omega,HS9.o,HV9.o,H9.o⟩
     case measure=>simp [intOf]<;>omega
  ·obtain rfl:i=es.length:=by omega
   have d0':decide (((es.length:Nat):Int)<(es.length:Int))=false:=by rw [Zk];omega
   rw [Zbk] at hvi;obtain ⟨x0,x1⟩:=Zq hst;have h2:=hst.pull 1 _ rfl;obtain ⟨y0,y1⟩:=Zq h2;have fz:=frozen_of_row h2.heap;have H3:=Zh (h2.set2 (slice A n c) (slice B m d));have HVI:=Zh hvi;have HSUB:=Zh hsub;clear hst h2 hvi hsub;go_wp2_with fail;have h3:=H3.o;generalize (World.setCell _ _ _:World)=w3 at h3 |-;clear x0 x1 y0 y1 fz H3;obtain ⟨y0,y1⟩:=Zq h3;refine ZaK (v:=.agg #[slice A n c,slice B m d]) (by simp [results,results18,go_sem,y0,y1]) rfl ?_;exact ⟨I',HSUB.o,_,rfl,HVI.o,h3.drop.drop⟩
end
end Go.Proofs.YtcbdghojlbpomaaGreat
