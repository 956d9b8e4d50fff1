import Derived.Test.YtcbdghojlbpomaaGreatIF38
set_option linter.all false
set_option maxRecDepth 4000
set_option maxHeartbeats 8000000
open Go.RowKit
open Go.IntKind (i64 u64)
open Go.Value (int pointer slice)
open Go.Obj (cells)
namespace Go.Proofs.YtcbdghojlbpomaaGreat
open Tryz
open HP (pt mapOf)
variable {W w w':World} {I:Hp} {l:List HP}
section
variable {p q : Nat} {S : Str}
theorem Zqf (h:Hd) (R:List RO) (e:Ev) (ev:Value) (seq:Int) {m:Nat} (hs:St W I w (Zd p S::imgHP q p h::l)) (J:IJ S h R) (hk:Keeps S (m+2080)) (hm:m<=90000) (hev:Zw I ev e.data) (hby:∀ x ∈ e.data,isByte x) (hkt:Keeps S 3000) (hx:h.next<1073741824) :
  Calls prog 17 #[pointer (some ⟨q,0,none⟩),e.val ev,int i64 seq] w fun x w'=>∃ ans h' R',DoR h R e seq ans h' R'∧DoneW W w' I p q l m x ans h' R':=by
 by_cases hw:ZU e=false∨seq<0∨1099511627776<seq
 ·have D:DoR h R e seq 1 h R:=by unfold DoR;rw [Zb hw];exact ⟨rfl,rfl,rfl⟩
  cases hr:ZU e with
  | false=>exact (ZnZ h R e ev seq hs J hk hm hev hby hr).mono fun x w' q=>⟨1,h,R,D,q⟩
  | true =>
   by_cases h1:seq<0
   ·exact (Zn0 h R e ev seq hs J hk hm hev hby hr h1).mono fun x w' q=>⟨1,h,R,D,q⟩
   ·have h2:1099511627776<seq:=by
     rcases hw with q|q|q
     ·rw [hr] at q;cases q
     ·exact absurd q h1
     ·exact q
    exact (Zn1 h R e ev seq hs J hk hm hev hby hr h2).mono fun x w' q=>⟨1,h,R,D,q⟩
 have hr:ZU e=true:=by
  cases q:ZU e with
  | true=>rfl
  | false=>exact absurd (.inl q) hw
 have hq:0<=seq∧seq<=1099511627776:=by omega
 by_cases k8:e.kind=8
 ·have D:DoR h R e seq 0 h R:=by unfold DoR;rw [Za hw,Zb k8];exact ⟨rfl,rfl,rfl⟩
  exact (Zpr h R e ev seq hs J hk hm hev hby hr hq k8).mono fun x w' q=>⟨0,h,R,D,q⟩
 by_cases k3:e.kind=1∨e.kind=2∨e.kind=3
 ·by_cases hc:ZJ (viewI h R) e=0
  ·refine (Zps h R e ev seq hs J hk hm hev hby hr hq k8 k3 hc).mono ?_;rintro x w' ⟨R',P,q⟩;refine ⟨0,h,R',?_,q⟩;unfold DoR;rw [Za hw,Za k8,Zb k3,Zb hc];exact ⟨rfl,rfl,P⟩
  ·have D:DoR h R e seq (ZJ (viewI h R) e) h R:=by unfold DoR;rw [Za hw,Za k8,Zb k3,Za hc];exact ⟨rfl,rfl,rfl⟩
   exact (ZmY h R e ev seq hs J hk hm hev hby hr hq k8 k3 hc).mono fun x w' q=>⟨_,h,R,D,q⟩
 by_cases hsk:0<seq∧seq<h.seq
 ·have D:DoR h R e seq 0 h R:=by unfold DoR;rw [Za hw,Za k8,Za k3,Zb hsk];exact ⟨rfl,rfl,rfl⟩
  exact (Zqe h R e ev seq hs J hk hm hev hby hr hq k8 k3 hsk.1 hsk.2).mono fun x w' q=>⟨0,h,R,D,q⟩
 have three:seq=0∨(0<seq∧h.seq<seq)∨(0<seq∧seq=h.seq):=by omega
 by_cases hc:ZJ (viewI h R) e=0
 ·have D:DoR h R e seq 0 (ZaG h e seq) (ZbE h e R):=by unfold DoR;rw [Za hw,Za k8,Za k3,Za hsk,Zb hc];exact ⟨rfl,rfl,rfl⟩
  rcases three with h0|⟨h0,h1⟩|⟨h0,h1⟩
  ·exact (Zn2 h R e ev seq hs J hk hm hev hby hr hq k8 k3 h0 hc hx).mono fun x w' q=>⟨0,_,_,D,q⟩
  ·exact (Zn3 h R e ev seq hs J hk hm hev hby hr hq k8 k3 h0 h1 hc hx).mono fun x w' q=>⟨0,_,_,D,q⟩
  ·exact (ZmZ h R e ev seq hs J hk hm hev hby hr hq k8 k3 h0 h1 hc hx).mono fun x w' q=>⟨0,_,_,D,q⟩
 ·by_cases ha:0<seq∧seq=h.seq
  ·have D:DoR h R e seq 0 h (Za1 h.ids R):=by unfold DoR;rw [Za hw,Za k8,Za k3,Za hsk,Za hc,Zb ha];exact ⟨rfl,rfl,rfl⟩
   exact (Zl1 h R e ev seq hs J hk hm hev hby hr hq k8 k3 ha.1 ha.2 hc hkt).mono fun x w' q=>⟨0,_,_,D,q⟩
  ·have D:DoR h R e seq (ZJ (viewI h R) e) h R:=by unfold DoR;rw [Za hw,Za k8,Za k3,Za hsk,Za hc,Za ha];exact ⟨rfl,rfl,rfl⟩
   rcases three with h0|⟨h0,h1⟩|h0
   ·exact (Zmc h R e ev seq hs J hk hm hev hby hr hq k8 k3 h0 hc).mono fun x w' q=>⟨_,_,_,D,q⟩
   ·exact (Zmd h R e ev seq hs J hk hm hev hby hr hq k8 k3 h0 h1 hc).mono fun x w' q=>⟨_,_,_,D,q⟩
   ·exact absurd h0 ha
theorem Zn4 (h:Hd) (R:List RO) (e:Ev) (ev:Value) (seq:Int) {m:Nat} (hs:St W I w (Zd p S::imgHP q p h::l)) (J:IJ S h R) (hk:Keeps S (m+2080)) (hm:m<=90000) (hev:Zw I ev e.data) (hby:∀ x ∈ e.data,isByte x) (hkt:Keeps S 3000) (hx:h.next<1073741824) :
  Calls prog 17 #[pointer (some ⟨q,0,none⟩),e.val ev,int i64 seq] w fun x w'=>∃ I',I.sub I'∧∃ ans,x=.returned (int i64 ans)∧∃ S' h' R',St W I' w' (Zd p S'::imgHP q p h'::l)∧DoR h R e seq ans h' R'∧IJ S' h' R'∧Keeps S' m:=by
 refine (Zqf h R e ev seq hs J hk hm hev hby hkt hx).mono ?_;rintro x w' ⟨ans,h',R',D,I',q1,q2,S',q3,q4,q5,q6⟩;exact ⟨I',q1,ans,q2,S',h',R',q3,D,(D.hd J.hd hx).ij q4 q5,q6⟩
end
theorem VwB.view {h:Hd} {R:List RO} (H:HdI h R):VwB (viewI h R):=by
 refine ⟨?_,?_,fun x hx=>?_⟩
 ·show (Zag h.l R 0 h.size).length<=512;rw [ZaO];exact H.ok.size
 ·show (h.seen.map _).length<=8;rw [ZE];exact H.ok.few
 ·obtain ⟨m,hm,rfl⟩:=ZH.1 hx;show (Zag h.l R m.id m.size).length<=512;rw [ZaO];exact H.ok.sizes m (ZcH hm)
theorem IJ.fits {S:Str} {h:Hd} {R:List RO} (J:IJ S h R):∀ k:Nat,k<every->∃ n:Nat,ZbP S 0 k 0=((n:Int),0)∧n<=ZI h.l h.size k:=fun k hk =>
 ⟨_,(J.st.tell J.hd.mid hk (snap:=0) (by decide) (by decide)).2.1,J.img.fit k⟩
theorem Zlm {x:Ev × Value}:∀ (l:List (Ev × Value)) (k:Nat),l[k]?=some x->((l.flatMap ecell).drop (k*5)).take 5=ecell x
 | [],k,h=>by simp at h
 | a::l,0,h=>by
  have:a=x:=by simpa using h
  subst this;rw [ZaJ,Zb0,List.drop_zero];exact Zez rfl
 | a::l,k+1,h=>by
  have ih:=Zlm l k (by simpa using h);rw [ZaJ,show (k+1)*5=(ecell a).length+k*5 by show (k+1)*5=5+k*5;omega,List.drop_length_add_append];exact ih
theorem ZqP {I:Hp} {b bo c n k:Nat} {es:List (Ev × Value)} {x:Ev × Value} (h:EvsI I (slice (some ⟨b,bo,none⟩) n c) es) (hn:n=es.length) (hx:es[k]?=some x) (hk:k<n):EvsI I (slice (some ⟨b,bo+k*5,none⟩) 1 (c - k)) [x]:=by
 subst hn;refine ⟨?_,fun y hy=>by rw [Zaz.1 hy];exact h.2 _ (Zay hx)⟩;have h1:=RowI.suf h.1 (k:=k) (by omega);have h2:=RowI.pre h1 (k:=1) (by omega);have e:((es.flatMap ecell).drop (k*5)).take (1*5)=[x].flatMap ecell:=by
  obtain ⟨hk',e0⟩:=ZS.1 hx;rw [Zd8,Zlm es k hx];simp
 rw [e] at h2;exact h2
theorem ZjD (a b c d e f:Int) (A:Option Addr) (n m:Nat) (w:World):(Instr.field 51 (.agg #[int i64 a,int i64 b,int i64 c,int i64 d,int i64 e,int i64 f,slice A n m]) 0).run prog w=.ok (int i64 a) w:=by kernel_rfl
section
variable {p q : Nat} {S : Str}
set_option maxRecDepth 8000
set_option maxHeartbeats 16000000
theorem Zn5 (V:Vw) (v:Value) (e:Ev) (Ae:Option Addr) (ce:Nat) (hs:St W I w l) (hv:VwI I v V) (hb:VwB V) (hnm:e.name.size<=1000) :
  Calls prog 16 #[v,e.val (slice Ae e.data.length ce)] w fun r w'=>r=.returned (int i64 (ZJ V e))∧Below w.heap.size w w':=by
 obtain ⟨vd,vs,M,rfl,hd,hr,ho⟩:=hv;obtain ⟨A0,c0,rfl,_⟩:=hd.cap;obtain ⟨B0,d0,rfl,_⟩:=hr.cap;have hml:=ho.len;have h1:=hb.data;have h2:=hb.few;have:=Ziu M (slice A0 V.data.length c0) (slice B0 M.length d0) V.data.length ⟨_,_,rfl⟩ e w (hr.src hs.imm (ZbA ho.sl) (by decide)) ho.sl (by omega) (by omega) Ae ce hnm;rw [ho.1,<-Zcf] at this;exact this
theorem ZhL {v:Value} {V:Vw} (hv:VwI I v V):∃ A n c B m d,v=.agg #[slice A n c,slice B m d]∧n=V.data.length:=by
 obtain ⟨vd,vs,M,rfl,hd,hr,ho⟩:=hv;obtain ⟨A0,c0,rfl,_⟩:=hd.cap;obtain ⟨B0,d0,rfl,_⟩:=hr.cap;exact ⟨_,_,_,_,_,_,rfl,rfl⟩
theorem imageFolds_walk (a0 a1 a2 a3 a5:Int) (v4:Value) (es:List (Ev × Value)) (W:World) (h4:EvsI W.hp v4 es) :
  Calls prog 3 #[int i64 a0,int i64 a1,int i64 a2,int i64 a3,v4,int i64 a5] W fun e w'=>e=.returned (.bool true)∧Below W.heap.size W w':=by
 have SML:=Zh (ZmQ es v4 40 (by decide) (St.init W) h4);have H4:=Zh h4;obtain ⟨AE,cE,rfl,hcE⟩:=RowI.cap h4.1;obtain ⟨sm,hsm⟩:∃ x,ZdB es 40=x:=⟨_,rfl⟩;rw [hsm] at SML;clear h4;cases sm with
 | false =>
  clear hsm;go_enter func3,ntmps3;go_wp2_with fail;refine SML.o.mono ?_;rintro e w2 ⟨rfl,hb2⟩;have HK:=Zh (ZjB ((St.init W).keep hb2));clear hb2;go_wp2_with fail;refine HK.o.mono ?_;rintro e w3 ⟨I3,hs3,rfl,h3⟩;have H3:=Zh h3.below;clear h3;go_wp2;go_ret;exact ⟨rfl,H3.o⟩
 | true =>
  have hel:es.length<=40:=by
   unfold ZdB at hsm;rw [Zak,Ze] at hsm;exact hsm.2
  have hnm:∀ x ∈ es,x.1.name.size<=1000:=fun x hx=>by
   unfold ZdB at hsm;rw [Zak] at hsm;have:=Zcw.1 hsm.1 x hx;unfold fewB at this;rw [Zak,Ze,Ze] at this;omega
  have HNM:=Zh hnm;clear hsm hnm;obtain ⟨s1,hs1⟩:∃ x:Nat,a0 % 1024=x:=⟨(a0 % 1024).toNat,by omega⟩;have k1:bits .and i64 a0 1023=(s1:Int):=(ZmP a0).trans hs1;obtain ⟨n,hn⟩:∃ x,s1 % 513=x:=⟨_,rfl⟩;have k2:(s1:Int).tmod 513=(n:Int):=by
   rw [Int.tmod_eq_emod_of_nonneg (by omega),<-hn,Zii];rfl
  have hn5:n<=512:=by
   have:=ZaU s1 (show 0<513 by decide);omega
  have hs1b:s1<1024:=by omega
  clear hs1 hn;have KN:=Zh (fun (wx:World) (I':Hp) (l':List HP) (hst:St W I' wx l')=>ZjB hst);go_enter func3,ntmps3;go_wp2_with fail;refine SML.o.mono ?_;rintro e w2 ⟨rfl,hb2⟩;have H2:=Zh ((St.init W).keep hb2);clear hb2 SML;go_wp2_with fail;refine (Zmb a1 a2 a3 _).mono ?_;rintro e w3 ⟨L,rfl,hL,hb3⟩;have h3:=H2.o.keep hb3;obtain ⟨S,F,_,_⟩:=Zkm 1048576 (by decide) (by decide) (size:=n) hL hn5;have J:IJ S (newH n L) newR:=by
   rw [<-F.eq];exact (ZnP hL hn5).2.2.2.1
  have HF:=Zh (Zjz 1048576 n L hL hn5 h3 F);have HJ:=Zh J;clear h3 hb3 F J hL H2;go_wp2_with fail;refine HF.o.mono ?_;rintro e w4 ⟨I4,hs4,p,q,rfl,h4,hk4⟩;have HR:=Zh (ZmX n hn5 h4);have HK4:=Zh hk4;have HS4:=Zh hs4;clear h4 hk4 hs4 HF;go_wp2_with fail;refine HR.o.mono ?_;rintro e w5 ⟨I5,A5,c5,hs5,rfl,hb5,h5⟩;have h6:=h5.alloc (cells #[slice A5 n c5,slice none 0 0] 35);obtain ⟨g15,hg15⟩:∃ g,w5.heap.size=g:=⟨_,rfl⟩;rw [hg15] at h6;have HG:=Zh hg15;have H6:=Zh h6
  have HV6:=Zh (show VwI I5 (.agg #[slice A5 n c5,slice none 0 0]) (viewI (newH n L) newR) by
   rw [ZkL]
   exact ⟨_,_,[],rfl,hb5,Zkl _ _,OldsI.nil _⟩)
  have HS5:=Zh (HS4.o.trans hs5);clear h5 h6 hg15 hb5 hs5 HR;go_upto_region 8 with fail;rw [HG.o];have h6:=H6.o;generalize (World.alloc _ _:World)=w6 at h6 |-;have H7:=Zh h6;clear H6 HG h6;go_wp2_with fail
  go_loopw [14,16] (fun a14 a16 wr=>∃ (k:Nat) (I':Hp) (S:Str) (h:Hd) (R:List RO) (q:Nat) (A:Option Addr) (n c:Nat) (B:Option Addr) (m d:Nat),a14=pointer (some ⟨q,0,none⟩)∧a16=int i64 k∧k<=es.length∧W.hp.sub I'∧IJ S h R∧Keeps S ((40 - k)*2080+4000)∧h.next<=1+k∧VwI I' (.agg #[slice A n c,slice B m d]) (viewI h R) ∧
   St W I' wr (pt g15 (cells #[slice A n c,slice B m d] 35)::Zd p S::imgHP q p h::[])) (fun _ a16 _=>es.length - (intOf a16).toNat)
  case atStart=>exact ⟨0,I5,S,newH n L,newR,q,A5,n,c5,none,0,0,rfl,rfl,by omega,HS5.o,HJ.o,HK4.o.fewer (by omega),by show (1:Int)<=1+((0:Nat):Int);omega,HV6.o,H7.o⟩
  case round =>
   obtain ⟨k,I',S,h,R,q,A,n,c,B,m,d,rfl,rfl,hk,hsub,J,hkp,hnx,hv,hst⟩:=hrel;clear H7 HV6 HK4 HJ HS4 HS5 k1 k2 hn5 hs1b;by_cases hlt:k<es.length
   ·have d0:decide ((k:Int)<(es.length:Int))=true:=by rw [Ze];omega
    obtain ⟨⟨e,ev⟩,hee⟩:∃ y,es[k]?=some y:=⟨_,ZL hlt⟩;have hE:=EvsI.mono hsub H4.o;have hev:=(hE.2 _ (Zay hee));have hen:=HNM.o _ (Zay hee);simp only [evOk] at hev hen;obtain ⟨b,bo,e1,hc⟩:=ZbJ (i:=k) (mk:=ecell) (k:=5) hE.1 (Hp.sub.refl _) hst.drew (fun _=>rfl) hee;simp only [ZF,Zae,ZK] at e1;subst e1;have hone:=ZqP hE rfl hee hlt;have hrow:=hE.1;obtain ⟨Ae,ce,rfl,_⟩:=hev.1.cap;have hx:h.next<1073741824:=by omega
    have hvb:=VwB.view J.hd;have CHK:=Zh (fun (wx:World) (l':List HP) (hst:St W I' wx l')=>Zn5 (viewI h R) _ e Ae ce hst hv hvb hen);have DO:=Zh (fun (wx:World) (l':List HP) (hst:St W I' wx (Zd p S::imgHP q p h::l'))=>Zn4 h R e (slice Ae e.data.length ce) 0 (m:=(40 - (k+1))*2080+4000) hst J (hkp.fewer (by omega)) (by omega) hev.1 hev.2.1 (hkp.fewer (by omega)) hx);have FOLD:=Zh (fun (wx:World) (I2:Hp) (l':List HP) (hsb:I'.sub I2) (hst:St W I2 wx l')=>ZnX [(e,slice Ae e.data.length ce)] (viewI h R) _ _ hst (hv.mono hsb) hvb (hone.mono hsb) (fun x hx=>by rw [Zaz.1 hx];exact hen));have MODEL:=Zh (fun (ans:Int) (h':Hd) (R':List RO) (D:DoR h R e 0 ans h' R')=>And.intro (D.model J.hd hx ⟨by decide,by decide⟩ (.inl rfl)) D.next);obtain ⟨cc,hcc⟩:∃ x,ZJ (viewI h R) e=x:=⟨_,rfl⟩;rw [hcc] at CHK MODEL;have HNX:=Zh hnx;have HSUB:=Zh hsub;have HFE:=Zh (show foldV (viewI h R) ([(e,slice Ae e.data.length ce)].map (·.1))=foldV (viewI h R) [e] from rfl);obtain ⟨V0,hV0⟩:∃ x,foldV (viewI h R) [e]=x:=⟨_,rfl⟩;rw [HFE.o,hV0] at FOLD;rw [hV0] at MODEL;clear HFE;obtain ⟨ek,eo,el,dt,nm⟩:=e;have hcell:∀ (w':World) (I2:Hp) (l1:List HP) (A':Option Addr) (n' c':Nat) (B':Option Addr) (m' d':Nat),I'.sub I2->St W I2 w' (pt g15 (cells #[slice A' n' c',slice B' m' d'] 35)::l1)->(w'.cell? ⟨g15,0,none⟩=some (slice A' n' c')∧w'.cell? ⟨g15,1,none⟩=some (slice B' m' d')∧w'.cell? ⟨b,bo+k*5,none⟩=some (int i64 ek)∧w'.cell? ⟨b,bo+k*5+1,none⟩=some (int i64 eo)∧w'.cell? ⟨b,bo+k*5+2,none⟩=some (int i64 el)∧w'.cell? ⟨b,bo+k*5+3,none⟩=some (slice Ae dt.length ce)∧w'.cell? ⟨b,bo+k*5+4,none⟩=some (.string nm)):=fun w' I2 l1 A' n' c' B' m' d' hsb h1=>by
     obtain ⟨b',bo',e1,hc'⟩:=ZbJ (i:=k) (mk:=ecell) (k:=5) (RowI.mono hsb hrow) (Hp.sub.refl _) h1 (fun _=>rfl) hee;simp only [ZF,Zah,Addr.mk.injEq,Zae,ZK] at e1;obtain ⟨rfl,rfl⟩:=e1;exact ⟨(Zq h1).1,(Zq h1).2,hc' 0 (by decide),hc' 1 (by decide),hc' 2 (by decide),hc' 3 (by decide),hc' 4 (by decide)⟩
    have HCELL:=Zh hcell;have Q0:=Zh (hcell _ _ _ _ _ _ _ _ _ (Hp.sub.refl _) hst.drew);have HST:=Zh hst;have hce2:¬ cE=k:=by omega
    have hce3:es.length<=cE:=hcE;simp only [Ev.val] at CHK DO;clear hee hE hev hen hc hone hrow hx hvb hv J hkp hnx hcell hcc hV0 hst hsub hcE;go_upto_region 11 with fail;refine Z3 (fun w'=>w'.cell? ⟨g15,0,none⟩=some (slice A n c)∧w'.cell? ⟨g15,1,none⟩=some (slice B m d)∧w'.cell? ⟨b,bo+k*5,none⟩=some (int i64 ek)∧w'.cell? ⟨b,bo+k*5+1,none⟩=some (int i64 eo)∧w'.cell? ⟨b,bo+k*5+2,none⟩=some (int i64 el)∧w'.cell? ⟨b,bo+k*5+3,none⟩=some (slice Ae dt.length ce)∧w'.cell? ⟨b,bo+k*5+4,none⟩=some (.string nm)) [0,1,2,3,4] [] [5,6] (by kernel_rfl) (by kernel_rfl) (by (exact Q0.o)) ?_;simp only [pickL,Zg,Zi];repeat (refine Zs _ (Or.inl ⟨by rfl,by (intro w hSw;(try dsimp only at hSw);go_simp;try with_reducible rfl)⟩) ?_;(try go_frame))
    refine ZC ?_;unfold Zp;have HCK:=Zh (CHK.o _ _ HST.o.drew);clear CHK;go_wp2_with fail;refine HCK.o.mono ?_;rintro x w2 ⟨rfl,hb2⟩;have h2:=HST.o.drew.keep hb2;obtain ⟨y0,y1,y2,y3,y4,y5,y6⟩:=HCELL.o _ _ _ _ _ _ _ _ _ (Hp.sub.refl _) h2;have HDO:=Zh (DO.o _ _ ((h2.pull 2 _ rfl).pull 2 _ rfl));clear h2 hb2 HCK DO HST Q0;go_wp2;refine Zu ?_;go_wp2_with fail;refine HDO.o.mono ?_;rintro x w3 ⟨I3,hs3,ans,rfl,S3,h3,R3,hst3,D3,J3,hk3⟩;obtain ⟨⟨hans,hvw⟩,hnx3⟩:=MODEL.o ans h3 R3 D3;subst hans;have HVW:=Zh hvw;have HNX3:=Zh hnx3;have HJ3:=Zh J3;have HK3:=Zh hk3;have hst4:=hst3.pull 2 _ rfl;simp only [Zx,Zy] at hst4;clear y0 y1 y2 y3 y4 y5 y6;have Q3:=Zh (HCELL.o _ _ _ _ _ _ _ _ _ hs3 hst4.drew);have HFO:=Zh (FOLD.o _ _ _ hs3 hst4.drew);have HS3:=Zh (HSUB.o.trans hs3);have HST3:=Zh hst4;clear hvw hnx3 J3 hk3 D3 hst3 hst4 hs3 HDO MODEL FOLD;go_upto_region 14 with fail;obtain ⟨j1,hj1⟩:∃ j,k+1=j:=⟨_,rfl⟩;have hsum:(k:Int)+1=(j1:Int):=by omega
    have i1:(k:Int)<=(j1:Int):=by omega
    have i2:(j1:Int)<=(cE:Int):=by omega
    have i3:(0:Int)<=(k:Int):=by omega
    have i4:(j1:Int)<=(es.length:Int):=by omega
    have hjk:j1 - k=1:=by omega
    have hwr:IntKind.i64.wrap (j1:Int)=(j1:Int):=by rw [Z2];omega
    have hwk:IntKind.i64.wrap (k:Int)=(k:Int):=by rw [Z2];omega
    have HJ1:=Zh hj1;clear hj1;refine Z3 (fun w'=>w'.cell? ⟨g15,0,none⟩=some (slice A n c)∧w'.cell? ⟨g15,1,none⟩=some (slice B m d)) [0,1,2,3,4,5] [] [6,7] (by kernel_rfl) (by kernel_rfl) (by (exact ⟨Q3.o.1,Q3.o.2.1⟩)) ?_;simp only [pickL,Zg,Zi];repeat (refine Zs _ (Or.inl ⟨by rfl,by (intro w hSw;(try dsimp only at hSw);go_simp;try with_reducible rfl)⟩) ?_;(try go_frame))
    refine ZC ?_;unfold Zp;go_wp2_with fail;refine HFO.o.mono ?_;rintro x w4 ⟨I4,hs4,v4,rfl,hv4,h4⟩;obtain ⟨A4,n4,c4,B4,m4,d4,rfl,hn4⟩:=ZhL hv4;obtain ⟨y0,y1⟩:=Zq h4;have fz:=frozen_of_row h4.heap;have H5:=Zh (h4.set2 (slice A4 n4 c4) (slice B4 m4 d4));have HV4:=Zh hv4;have HN4:=Zh hn4;have HS4:=Zh (HS3.o.trans hs4);have HS4':=Zh hs4;clear h4 hv4 hn4 hs4 HFO Q3 HST3 i1 i2 i3 i4 hjk hwr hsum;go_wp2;refine Zu ?_;go_upto_region 15 with fail;have h5:=H5.o;generalize (World.setCell _ _ _:World)=w5 at h5 |-;clear H5 y0 y1 fz;have H5:=Zh h5;clear h5;go_wp2_with fail
    ·have HOP:=Zh (Zjy h3 HJ3.o.ok (H5.o.pull 1 _ rfl) HK3.o.inv HJ3.o.st.live.on (Zlq HJ3.o.st.live HJ3.o.recd) HJ3.o.fits);refine HOP.o.mono ?_;rintro x w6 ⟨I6,hs6,q6,rfl,h6⟩;have HV:=Zh h6;have HSB:=Zh (HS4.o.trans hs6);have HV4b:=Zh (HV4.o.mono hs6);clear hs6 h6 HOP H5;go_upto_region 20 with fail;have HVI:=Zh (Zhd h3 R3 HV.o HK3.o.inv HJ3.o.ok HJ3.o.st.live.on (fun snap s0 s1=>HJ3.o.st.reads HJ3.o.hd.mid s0 s1));go_wp2_with fail;refine HVI.o.mono ?_;rintro x w7 ⟨I7,v7,hs7,rfl,hv7,h7⟩;obtain ⟨A7,n7,c7,B7,m7,d7,rfl,hn7⟩:=ZhL hv7;have h8:=h7.alloc (cells #[slice A7 n7 c7,slice B7 m7 d7] 35);obtain ⟨g20,hg20⟩:∃ g,w7.heap.size=g:=⟨_,rfl⟩;rw [hg20] at h8;have HG20:=Zh hg20;have H8:=Zh h8;have HSM:=Zh (fun (wx:World) (l':List HP) (hst:St W I7 wx l')=>Zkn (viewI h3 R3) _ _ hst hv7 (by rw [HVW.o];exact HV4b.o.mono hs7) (by have:=(VwB.view HJ3.o.hd).few;omega));have hz3:h3.size=n4:=by
      rw [HN4.o,<-HVW.o];exact (ZaO ..).symm
     have HHD:Hid (∀ (wx:World) (l':List HP),St W I7 wx (imgHP q6 p h3::l')->Calls prog 22 #[pointer (some ⟨q6,0,none⟩)] wx fun e w'=>∃ (v1 v2 v3 v4 v5:Int) (v6:Option Addr) (v7 v8:Nat),e=.returned (.agg #[int i64 n4,int i64 v1,int i64 v2,int i64 v3,int i64 v4,int i64 v5,slice v6 v7 v8])∧Below wx.heap.size wx w'):=Zh (fun wx l' hst=>by
      refine (ZjA h3 (ZQ HJ3.o.ok.many (by decide)) hst).mono ?_;rintro x w' ⟨A,rfl,hb⟩
      exact ⟨_,_,_,_,_,_,_,_,by rw [<-hz3];rfl,hb⟩)
     have HS7:=Zh (HSB.o.trans hs7);have HV7:=Zh (show VwI I7 (.agg #[slice A4 n4 c4,slice B4 m4 d4]) (viewI h3 R3) by rw [HVW.o];exact HV4b.o.mono hs7);clear h7 h8 hg20 hv7 hs7 hn7 hz3 HVI HV HV4b;go_upto_region 21 with fail;rw [HG20.o];have h8:=H8.o;generalize (World.alloc _ _:World)=w8 at h8 |-;clear H8 HG20;have h9:=h8.drew;obtain ⟨w9,hw9⟩:=Zn w8.drew;rw [<-hw9] at h9;have hcq:∀ (w':World) (l1 l2:List HP),St W I7 w' (pt g20 (cells #[slice A7 n7 c7,slice B7 m7 d7] 35)::l1)->St W I7 w' (pt g15 (cells #[slice A4 n4 c4,slice B4 m4 d4] 35)::l2)->(w'.cell? ⟨g20,0,none⟩=some (slice A7 n7 c7)∧w'.cell? ⟨g20,1,none⟩=some (slice B7 m7 d7)∧w'.cell? ⟨g15,0,none⟩=some (slice A4 n4 c4)∧w'.cell? ⟨g15,1,none⟩=some (slice B4 m4 d4)):=fun w' l1 l2 q1 q2=>⟨(Zq q1).1,(Zq q1).2,(Zq q2).1,(Zq q2).2⟩;have HCQ:=Zh hcq;have Q9:=Zh (hcq _ _ _ h9 (h9.pull 3 _ rfl));have HW9:=Zh hw9;have H9:=Zh h9;have HSX:=Zh (HSM.o _ _ h9);clear h8 h9 hw9 hcq HSM;refine ZcY (fun w'=>w'.cell? ⟨g20,0,none⟩=some (slice A7 n7 c7)∧w'.cell? ⟨g20,1,none⟩=some (slice B7 m7 d7)∧w'.cell? ⟨g15,0,none⟩=some (slice A4 n4 c4)∧w'.cell? ⟨g15,1,none⟩=some (slice B4 m4 d4)) [0,1,2,3,4,5,6,7,8,9,10,11,12,13,14,15] (Tp.pull [0,1,2,3,4] (Tp.one 5 (Tp.pull [6,7,8,9,12,13,14] (Tp.one 10 (Tp.pull [11,15] Tp.leaf))))) [16] (by kernel_rfl) (by kernel_rfl) (by (rw [<-HW9.o];exact Q9.o)) ?_;rw [<-HW9.o];unfold wpTp
     (try simp only [pickL,Zg,Zi])
     repeat (first|refine Zs _ (Or.inl ⟨by rfl,by (intro w hSw;(try dsimp only at hSw);go_simp;try with_reducible rfl)⟩) ?_|refine Zs _ (Or.inr ⟨by rfl,rfl⟩) ?_|fail);(try go_frame)
     refine ZC ?_;unfold wpTp
     (try simp only [pickL,Zg,Zi])
     go_wp2_with fail;refine HSX.o.mono ?_;rintro x w10 ⟨rfl,hb10⟩;have h10:=H9.o.keep hb10;have Q10:=Zh (HCQ.o _ _ _ h10 (h10.pull 3 _ rfl));have HHX:=Zh (HHD.o _ _ (h10.pull 2 _ rfl));have H10:=Zh h10;clear h10 hb10 HSX H9 Q9;go_wp2;refine Zt Q10.o ?_;unfold wpTp
     (try simp only [pickL,Zg,Zi])
     repeat (first|refine Zs _ (Or.inl ⟨by rfl,by (intro w hSw;(try dsimp only at hSw);go_simp;try with_reducible rfl)⟩) ?_|refine Zs _ (Or.inr ⟨by rfl,rfl⟩) ?_|fail);(try go_frame)
     refine ZC ?_;unfold wpTp
     (try simp only [pickL,Zg,Zi])
     go_wp2_with fail;refine HHX.o.mono ?_;rintro x w11 ⟨v1,v2,v3,v4',v5,v6,v7',v8,rfl,hb11⟩;have h11:=H10.o.keep hb11;have Q11:=Zh (HCQ.o _ _ _ h11 (h11.pull 3 _ rfl));have H11:=Zh h11;clear h11 hb11 HHX H10 Q10;go_wp2;refine Zt Q11.o ?_;have hfl:=ZjD;unfold wpTp
     (try simp only [pickL,Zg,Zi])
     repeat (first|refine Zs _ (Or.inl ⟨by rfl,by (intro w hSw;(try dsimp only at hSw);go_simp;try with_reducible rfl)⟩) ?_|refine Zs _ (Or.inr ⟨by rfl,rfl⟩) ?_|fail);(try go_frame)
     refine ZC ?_;unfold wpTp
     (try simp only [pickL,Zg,Zi])
     go_wp2;refine Zu ?_;go_wp2;go_roundw;case rel=>exact ⟨k+1,I7,S3,h3,R3,q6,A4,n4,c4,B4,m4,d4,rfl,by go_num,by omega,HS7.o,HJ3.o,HK3.o,by have h1:=HNX.o;have h2:=HNX3.o.1;omega,HV7.o,(((((H11.o.pull 3 _ rfl).pull 1 _ rfl).drop).pull 3 _ rfl).drop)⟩
     case measure=>simp [intOf]<;>omega
    ·have HV:=Zh ((H5.o.pull 2 _ rfl).pull 2 _ rfl);have HSB:=Zh HS4.o;have HV4b:=Zh HV4.o;clear H5;have HVI:=Zh (Zhd h3 R3 HV.o HK3.o.inv HJ3.o.ok HJ3.o.st.live.on (fun snap s0 s1=>HJ3.o.st.reads HJ3.o.hd.mid s0 s1));refine HVI.o.mono ?_;rintro x w7 ⟨I7,v7,hs7,rfl,hv7,h7⟩;obtain ⟨A7,n7,c7,B7,m7,d7,rfl,hn7⟩:=ZhL hv7;have h8:=h7.alloc (cells #[slice A7 n7 c7,slice B7 m7 d7] 35);obtain ⟨g20,hg20⟩:∃ g,w7.heap.size=g:=⟨_,rfl⟩;rw [hg20] at h8;have HG20:=Zh hg20;have H8:=Zh h8;have HSM:=Zh (fun (wx:World) (l':List HP) (hst:St W I7 wx l')=>Zkn (viewI h3 R3) _ _ hst hv7 (by rw [HVW.o];exact HV4b.o.mono hs7) (by have:=(VwB.view HJ3.o.hd).few;omega));have hz3:h3.size=n4:=by
      rw [HN4.o,<-HVW.o];exact (ZaO ..).symm
     have HHD:Hid (∀ (wx:World) (l':List HP),St W I7 wx (imgHP q p h3::l')->Calls prog 22 #[pointer (some ⟨q,0,none⟩)] wx fun e w'=>∃ (v1 v2 v3 v4 v5:Int) (v6:Option Addr) (v7 v8:Nat),e=.returned (.agg #[int i64 n4,int i64 v1,int i64 v2,int i64 v3,int i64 v4,int i64 v5,slice v6 v7 v8])∧Below wx.heap.size wx w'):=Zh (fun wx l' hst=>by
      refine (ZjA h3 (ZQ HJ3.o.ok.many (by decide)) hst).mono ?_;rintro x w' ⟨A,rfl,hb⟩
      exact ⟨_,_,_,_,_,_,_,_,by rw [<-hz3];rfl,hb⟩)
     have HS7:=Zh (HSB.o.trans hs7);have HV7:=Zh (show VwI I7 (.agg #[slice A4 n4 c4,slice B4 m4 d4]) (viewI h3 R3) by rw [HVW.o];exact HV4b.o.mono hs7);clear h7 h8 hg20 hv7 hs7 hn7 hz3 HVI HV HV4b;go_upto_region 21 with fail;rw [HG20.o];have h8:=H8.o;generalize (World.alloc _ _:World)=w8 at h8 |-;clear H8 HG20;have h9:=h8.drew;obtain ⟨w9,hw9⟩:=Zn w8.drew;rw [<-hw9] at h9;have hcq:∀ (w':World) (l1 l2:List HP),St W I7 w' (pt g20 (cells #[slice A7 n7 c7,slice B7 m7 d7] 35)::l1)->St W I7 w' (pt g15 (cells #[slice A4 n4 c4,slice B4 m4 d4] 35)::l2)->(w'.cell? ⟨g20,0,none⟩=some (slice A7 n7 c7)∧w'.cell? ⟨g20,1,none⟩=some (slice B7 m7 d7)∧w'.cell? ⟨g15,0,none⟩=some (slice A4 n4 c4)∧w'.cell? ⟨g15,1,none⟩=some (slice B4 m4 d4)):=fun w' l1 l2 q1 q2=>⟨(Zq q1).1,(Zq q1).2,(Zq q2).1,(Zq q2).2⟩;have HCQ:=Zh hcq;have Q9:=Zh (hcq _ _ _ h9 (h9.pull 3 _ rfl));have HW9:=Zh hw9;have H9:=Zh h9;have HSX:=Zh (HSM.o _ _ h9);clear h8 h9 hw9 hcq HSM;refine ZcY (fun w'=>w'.cell? ⟨g20,0,none⟩=some (slice A7 n7 c7)∧w'.cell? ⟨g20,1,none⟩=some (slice B7 m7 d7)∧w'.cell? ⟨g15,0,none⟩=some (slice A4 n4 c4)∧w'.cell? ⟨g15,1,none⟩=some (slice B4 m4 d4)) [0,1,2,3,4,5,6,7,8,9,10,11,12,13,14,15] (Tp.pull [0,1,2,3,4] (Tp.one 5 (Tp.pull [6,7,8,9,12,13,14] (Tp.one 10 (Tp.pull [11,15] Tp.leaf))))) [16] (by kernel_rfl) (by kernel_rfl) (by (rw [<-HW9.o];exact Q9.o)) ?_;rw [<-HW9.o];unfold wpTp
     (try simp only [pickL,Zg,Zi])
     repeat (first|refine Zs _ (Or.inl ⟨by rfl,by (intro w hSw;(try dsimp only at hSw);go_simp;try with_reducible rfl)⟩) ?_|refine Zs _ (Or.inr ⟨by rfl,rfl⟩) ?_|fail);(try go_frame)
     refine ZC ?_;unfold wpTp
     (try simp only [pickL,Zg,Zi])
     go_wp2_with fail;refine HSX.o.mono ?_;rintro x w10 ⟨rfl,hb10⟩;have h10:=H9.o.keep hb10;have Q10:=Zh (HCQ.o _ _ _ h10 (h10.pull 3 _ rfl));have HHX:=Zh (HHD.o _ _ (h10.pull 2 _ rfl));have H10:=Zh h10;clear h10 hb10 HSX H9 Q9;go_wp2;refine Zt Q10.o ?_;unfold wpTp
     (try simp only [pickL,Zg,Zi])
     repeat (first|refine Zs _ (Or.inl ⟨by rfl,by (intro w hSw;(try dsimp only at hSw);go_simp;try with_reducible rfl)⟩) ?_|refine Zs _ (Or.inr ⟨by rfl,rfl⟩) ?_|fail);(try go_frame)
     refine ZC ?_;unfold wpTp
     (try simp only [pickL,Zg,Zi])
     go_wp2_with fail;refine HHX.o.mono ?_;rintro x w11 ⟨v1,v2,v3,v4',v5,v6,v7',v8,rfl,hb11⟩;have h11:=H10.o.keep hb11;have Q11:=Zh (HCQ.o _ _ _ h11 (h11.pull 3 _ rfl));have H11:=Zh h11;clear h11 hb11 HHX H10 Q10;go_wp2;refine Zt Q11.o ?_;have hfl:=ZjD;unfold wpTp
     (try simp only [pickL,Zg,Zi])
     repeat (first|refine Zs _ (Or.inl ⟨by rfl,by (intro w hSw;(try dsimp only at hSw);go_simp;try with_reducible rfl)⟩) ?_|refine Zs _ (Or.inr ⟨by rfl,rfl⟩) ?_|fail);(try go_frame)
     refine ZC ?_;unfold wpTp
     (try simp only [pickL,Zg,Zi])
     go_wp2;refine Zu ?_;go_wp2;go_roundw;case rel=>exact ⟨k+1,I7,S3,h3,R3,q,A4,n4,c4,B4,m4,d4,rfl,by go_num,by omega,HS7.o,HJ3.o,HK3.o,by have h1:=HNX.o;have h2:=HNX3.o.1;omega,HV7.o,(((H11.o.pull 3 _ rfl).pull 1 _ rfl).drop)⟩
     case measure=>simp [intOf]<;>omega
   ·obtain rfl:k=es.length:=by omega
    have d0:decide (((es.length:Nat):Int)<(es.length:Int))=false:=by rw [Zk];omega
    have HK:=Zh (KN.o _ _ _ hst);clear hst hv J hkp hnx hsub;go_wp2_with fail;refine HK.o.mono ?_;rintro e w9 ⟨I9,hs9,rfl,h9⟩;have H9:=Zh h9.below;clear h9 hs9;go_wp2;go_ret;exact ⟨rfl,H9.o⟩
end
end Go.Proofs.YtcbdghojlbpomaaGreat
