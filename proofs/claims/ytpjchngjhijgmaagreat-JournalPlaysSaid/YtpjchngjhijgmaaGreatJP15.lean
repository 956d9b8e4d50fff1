import Derived.Test.YtpjchngjhijgmaaGreatJP14
import Derived.ChangeKeysEq
set_option linter.all false
set_option maxRecDepth 4000
set_option maxHeartbeats 8000000
open Go.RowKit
open Go.IntKind (i64 u64)
open Go.Value (int pointer slice)
open Go.Obj (cells)
namespace Go.Proofs.YtpjchngjhijgmaaGreat
open Tryz
open HP (pt mapOf)
variable {W w w':World} {I:Hp} {l:List HP}
def mcell (x:En × Value):List Value:=[int i64 x.1.tag,int i64 x.1.seq,x.2]
theorem Zeg (x:En × Value):(mcell x).length=3:=rfl
def IsSl (v:Value):Prop:=∃ A n c,v=slice A n c
def datIP (M:List (En × Value)):IP:=⟨fun I=>∀ x ∈ M,BytesI I x.2 x.1.data∧∀ y ∈ x.1.data,isByte y,fun s h x hx=>⟨(ZbX x.2 x.1.data).mono s (h x hx).1,(h x hx).2⟩⟩
def Zo (v:Value) (es:List En):HP :=
 HP.ex fun M:List (En × Value)=>HP.all [HP.pure (M.map (·.1)=es),HP.win 50 3 v es.length (M.flatMap mcell),HP.imm (datIP M)]
section
theorem BytesI.isSl {v:Value} {p:List Int} (h:BytesI I v p):∃ A c,v=slice A p.length c:=by
 obtain ⟨A,c,e,_⟩:=h;exact ⟨A,c,e⟩
theorem St.ents_open {v:Value} {es:List En} (h:St W I w (Zo v es::l)):∃ M:List (En × Value),M.map (·.1)=es∧(datIP M).p I∧St W I w (HP.win 50 3 v es.length (M.flatMap mcell)::l):=by
 obtain ⟨M,h1⟩:=h.ex_open;obtain ⟨e,h2⟩:=(h1.all_open).pure_open;obtain ⟨d,h3⟩:=(h2.pull 1 _ rfl).imm_open;exact ⟨M,e,d,h3⟩
theorem St.ents_shut {v:Value} {M:List (En × Value)} (hd:(datIP M).p I) (h:St W I w (HP.win 50 3 v M.length (M.flatMap mcell)::l)):St W I w (Zo v (M.map (·.1))::l):=by
 refine St.ex_shut M ?_;refine St.all_shut ?_;refine St.pure_shut rfl ?_;rw [Za7];exact ((St.imm_shut hd h).pull 1 _ rfl)
theorem Zmd {M:List (En × Value)} (hd:(datIP M).p I):∀ u ∈ M.flatMap mcell,u.oneCell'=true:=by
 intro u hu;obtain ⟨x,hx,hu⟩:=Zcs.1 hu;obtain ⟨A,c,e⟩:=((hd x hx).1).isSl;simp only [mcell,Z4,Zbv,Zbi] at hu;rcases hu with rfl|rfl|rfl
 ·rfl
 ·rfl
 ·rw [e];rfl
theorem St.ents_nil (h:St W I w l):St W I w (Zo (slice none 0 0) []::l) :=
 St.ents_shut (M:=[]) (by intro x hx;cases hx) (h.win_nil _ _)
theorem St.ents_slice {v:Value} {es:List En} (h:St W I w (Zo v es::l)):∃ A c,v=slice A es.length c∧es.length<=c∧c<=maxLen∧(A=none->c=0):=by
 obtain ⟨M,rfl,hd,h1⟩:=h.ents_open;exact h1.win_slice
theorem Zkx:(prog.info? 50).map (fun i=>(i.zero,i.size,i.bytes))=some (some (.agg #[int i64 0,int i64 0,slice none 0 0]),3,40):=by kernel_rfl
theorem Zq5 (w:World) (t s:Int) (v:Value) (hv:v.oneCell'=true):SliceSrc (w.alloc (cells #[int i64 t,int i64 s,v] 50)) 3 (slice (some ⟨w.heap.size,0,none⟩) 1 1) 1 [int i64 t,int i64 s,v]:=by
 refine ⟨_,_,rfl,⟨rfl,fun _=>⟨_,rfl,fun j u hu=>?_⟩,fun u hu=>?_⟩,fun e=>by cases e⟩
 ·rw [add_plain,ZX,Zc (Za3 _ _) j,<-hu];simp
 ·simp only [Z4,Zbv,Zbi] at hu;rcases hu with rfl|rfl|rfl
  ·rfl
  ·rfl
  ·exact hv
theorem St.ents_append {v vd:Value} {es:List En} {e:En} {g:Nat} (hg:g=w.heap.size) (h:St W I w (Zo v es::l)) (hd:BytesI I vd e.data) (hb:∀ y ∈ e.data,isByte y) (hn:es.length+1<=1000000000) :
  ∃ A' c' w',(Builtin.append_ #[58,58] 58 #[v,slice (some ⟨g,0,none⟩) 1 1]).run prog (w.alloc (cells #[int i64 e.tag,int i64 e.seq,vd] 50))=.ok (slice A' (es.length+1) c') w'∧St W I w' (Zo (slice A' (es.length+1) c') (es++[e])::l):=by
 subst hg;obtain ⟨M,rfl,hM,h1⟩:=h.ents_open;obtain ⟨i0,hi0,hz0,hz1,hz2⟩:=info_parts Zkx;obtain ⟨A0,c0,e0⟩:=hd.isSl;have h2:=h1.keep (ZS w (cells #[int i64 e.tag,int i64 e.seq,vd] 50));obtain ⟨v',w',hr,h3⟩:=h2.win_append (ty:=58) underlying58 hi0 hz0 hz1 hz2 rfl (by decide) (by decide) (Zmd hM) (Zq5 w e.tag e.seq vd (by rw [e0];rfl)) hn;obtain ⟨A',c',e3,_⟩:=h3.win_slice;subst e3;refine ⟨A',c',w',hr,?_⟩;have h4:St W I w' (HP.win 50 3 (slice A' ((M.map (·.1)).length+1) c') (M++[(e,vd)]).length ((M++[(e,vd)]).flatMap mcell)::l):=by
  rw [Zcu,Zs,ZcT];rw [Za7] at h3 |-;exact h3
 have h5:=h4.ents_shut (by
  intro x hx;rcases Za6.1 hx with hx|hx
  ·exact hM x hx
  ·rw [Zbj.1 hx]
   exact ⟨hd,hb⟩)
 rw [Zbo] at h5;exact h5
theorem St.ents_cell {v:Value} {es:List En} {i:Nat} {e:En} (h:St W I w (Zo v es::l)) (hi:es[i]?=some e):∃ g q c vd,v=slice (some ⟨g,q,none⟩) es.length c∧g<w.heap.size∧BytesI I vd e.data∧(∀ y ∈ e.data,isByte y) ∧
  w.cell? ⟨g,q+i*3,none⟩=some (int i64 e.tag)∧w.cell? ⟨g,q+i*3+1,none⟩=some (int i64 e.seq)∧w.cell? ⟨g,q+i*3+2,none⟩=some vd:=by
 obtain ⟨M,rfl,hM,h1⟩:=h.ents_open;obtain ⟨x,hx,rfl⟩:∃ x,M[i]?=some x∧x.1=e:=by
  rw [ZcH] at hi;cases hq:M[i]? with
  | none=>rw [hq] at hi;cases hi
  | some x=>rw [hq] at hi;exact ⟨x,rfl,by simpa using hi⟩
 have hil:=(ZH.1 hx).1;have hl:=h1.win_len;obtain ⟨g,q,c,e1,hg,hnc,hc⟩:=h1.win_cell (by rw [hl,Za7];omega);have hx2:=hM x (ZaG hx);refine ⟨g,q,c,x.2,e1,hg,hx2.1,hx2.2,?_,?_,?_⟩
 ·exact hc (i*3) _ ((Zde Zeg M i 0 x hx (by decide)).trans rfl)
 ·rw [Zbb];exact hc (i*3+1) _ ((Zde Zeg M i 1 x hx (by decide)).trans rfl)
 ·rw [Zbb];exact hc (i*3+2) _ ((Zde Zeg M i 2 x hx (by decide)).trans rfl)
end
def allGo:Nat->List Int->List En × Nat
 | 0,_=>([],0)
 | f+1,r=>if (takeR r).2.2≠0 then ([],0) else ((takeR r).1::(allGo f (r.drop (takeR r).2.1)).1,(takeR r).2.1+(allGo f (r.drop (takeR r).2.1)).2)
def allB (b:List Int):List En × Nat:=allGo b.length b
theorem Zgr {r:List Int} (h:(takeR r).2.2=0):23<=(takeR r).2.1∧(takeR r).2.1<=r.length∧(takeR r).1.okB=true∧∀ x ∈ (takeR r).1.data,x ∈ r:=by
 unfold takeR at h |-;split at h
 ·cases h
 split at h
 ·cases h
 split at h
 ·cases h
 split at h
 ·cases h
 rename_i h1 h2 h3 h4;rw [Za h1,Za h2,Za h3,Za h4];rw [not_or] at h3;have hm:mayF (tagR r) (seqR r) (lenR r)=true:=by simpa using h3.1
 unfold mayF at hm;rw [Zk] at hm;have h5:=h3.2;refine ⟨by show 23<=22+_;omega,by show 22+_<=_;omega,?_,fun x hx=>Zda (ZbI hx)⟩;unfold En.okB;rw [Zk];simp only [ZJ,ZW];omega
section
theorem Zq6 (v:Value) (b:List Int) (h:St W I w l) (hv:BytesI I v b) (hb:∀ x ∈ b,isByte x) (hbl:b.length<=1000000) :
  Calls prog 146 #[v] w fun e w'=>∃ I' v',I.sub I'∧e=.returned (.tuple #[v',int i64 (allB b).2])∧St W I' w' (Zo v' (allB b).1::l):=by
 have HV:=Zh hv;have HB:=Zh hb;have hcap:∃ A c,v=slice A b.length c∧b.length<=c:=by
  obtain ⟨A,c,e,_,h3,_⟩:=hv;exact ⟨A,c,e,h3⟩
 obtain ⟨A,c,rfl,hbc⟩:=hcap;have H:=Zh h;clear h hv hb;obtain ⟨n,hn⟩:∃ n,b.length=n:=⟨_,rfl⟩;rw [hn] at hbl hbc HV |-;have HN:=Zh hn;clear hn;go_enter func146,ntmps146;go_wp2;go_loopw [4,5] (fun a4 a5 wr=>∃ (I1:Hp) (es:List En) (f at':Nat),a5=int i64 at'∧at'<=n∧n - at'<=f∧es.length<=at'∧allB b=(es++(allGo f (b.drop at')).1,at'+(allGo f (b.drop at')).2)∧I.sub I1∧St W I1 wr (Zo a4 es::l)) (fun _ a5 _=>n+1 - (intOf a5).toNat);case atStart=>exact ⟨I,[],b.length,0,rfl,ZL _,by rw [HN.o];omega,by simp,by simp [allB],Hp.sub.refl _,H.o.ents_nil⟩
 case round =>
  obtain ⟨I1,es,f,at',rfl,hat,hf,hes,hall,hsub,hst⟩:=hrel;obtain ⟨Ae,ce,rfl,hec,_⟩:=hst.ents_slice;have hVn:BytesI I1 (slice A b.length c) b:=by
   rw [HN.o];exact (ZbX _ _).mono hsub HV.o
  have htk:=Zpz A c b at' wr (ZaW hst hVn) (by rw [HN.o];exact hbc) HB.o (by rw [HN.o];exact hat) (by rw [HN.o];exact hbl);rw [HN.o] at htk;obtain ⟨t,ht⟩:∃ t,takeR (b.drop at')=t:=⟨_,rfl⟩;rw [ht] at htk;obtain ⟨⟨tg,sq,d⟩,k,er⟩:=t;have hin:(at':Int)<=1000000:=by omega
  by_cases her:er=0
  ·subst her;have hok:=Zgr (r:=b.drop at') (by rw [ht]);rw [ht] at hok;simp only at hok;rw [ZW,HN.o] at hok;have htt:ZiH at' (⟨tg,sq,d⟩,k,0)=((at'+k:Nat):Int):=rfl;rw [htt] at htk;obtain ⟨f',rfl⟩:∃ f',f=f'+1:=⟨f - 1,by omega⟩
   have HA:=Zh (show allB b=(es++[⟨tg,sq,d⟩]++(allGo f' (b.drop (at'+k))).1,(at'+k)+(allGo f' (b.drop (at'+k))).2) by
    rw [hall];simp only [allGo,ht];rw [Za (by simp),List.drop_drop]
    simp [Zbb])
   have hdb:∀ x ∈ d,isByte x:=fun x hx=>HB.o x (Zda (hok.2.2.2 x hx));have HDB:=Zh hdb;have HOK:=Zh (show 23<=k∧k<=n - at' from ⟨hok.1,hok.2.1⟩);obtain ⟨dl,hdl⟩:∃ dl,d.length=dl:=⟨_,rfl⟩;simp only at htk;have HTK:=Zh htk;have HST:=Zh hst;have HSUB:=Zh hsub;clear htk hst hsub hall ht htt hok hdb hVn hdl dl;go_wp2_with fail;refine HTK.o.mono ?_;rintro e w2 ⟨A2,c2,rfl,h2⟩;obtain ⟨I2,hs2,hB2,h3⟩:=ZbU HST.o h2.below h2.row_new;have h4:=h3.keep (ZS w2 (cells #[int i64 tg,int i64 sq,slice A2 d.length c2] 50));obtain ⟨A5,c5,w5,hr,h5⟩:=h4.ents_append (e:=⟨tg,sq,d⟩) (g:=w2.heap.size+1) (by simp) hB2 HDB.o (by omega);have HR:=Zh hr;have H5:=Zh h5;have HS2:=Zh (HSUB.o.trans hs2);clear h2 hB2 h3 h4 hr h5 hs2 HTK HST;go_wp2_with (at_builtin;refine ZZ _ rfl (.tmp 20) (.tmp 22) 58 58 rfl _ _ rfl rfl _ _ HR.o ?_);go_roundw;case rel=>exact ⟨I2,es++[⟨tg,sq,d⟩],f',at'+k,by go_num,by have:=HOK.o;omega,by have:=HOK.o;omega,by have:=HOK.o;rw [Zs,ZcT];omega,HA.o,HS2.o,H5.o⟩
   case measure=>have:=HOK.o;first|(simp [intOf];done)|(simp [intOf];omega)|fail
  ·have HA:=Zh (show allB b=(es,at') by
    rw [hall];cases f with
    | zero=>simp [allGo]
    | succ f=>simp only [allGo,ht];rw [Zb (by simpa using her)];simp)
   have hz:ZiH at' (⟨tg,sq,d⟩,k,er)=0:=Za her;rw [hz] at htk;have hne:(er != 0)=true:=by simpa using her
   simp only at htk;have HTK:=Zh htk;have HST:=Zh hst;have HSUB:=Zh hsub;clear htk hst hsub hall ht hz hVn;go_wp2_with fail;refine HTK.o.mono ?_;rintro e w2 ⟨A2,c2,rfl,h2⟩;have h3:=HST.o.keep h2.below;have h4:=h3.keep (ZS w2 (cells #[int i64 tg,int i64 sq,slice A2 d.length c2] 50));have H4:=Zh h4;clear h2 h3 h4;go_wp2;go_ret2;rw [HA.o];exact ⟨I1,_,HSUB.o,rfl,H4.o⟩
end
def kJ:K4:=⟨1,0,0,0⟩
def nmJ:ByteArray:=⟨#[106]⟩
def JRec (S:Str):Option Rc->Prop
 | none=>(attrS S kJ nmJ).2≠0
 | some r=>r.Ok∧attrS S kJ nmJ=(recB r,0)
def saveJ (S:Str) (r:Rc):Int × Str :=
 if attrS S kJ nmJ=(recB r,0) then ZB S
 else if (setS S kJ nmJ (recB r)).1≠0 then setS S kJ nmJ (recB r) else ZB (setS S kJ nmJ (recB r)).2
def ZcQ:List K4->Str->Int × Str
 | [],S=>ZB S
 | k::ks,S=>if (dropS S k).1≠0 then dropS S k else ZcQ ks (dropS S k).2
def ZaL (S:Str):Int × Str:=ZcQ (Zau S ⟨2,0⟩) S
theorem ZjP (k:K4) (ks:List K4) (S:Str):ZcQ (k::ks) S=if (dropS S k).1≠0 then dropS S k else ZcQ ks (dropS S k).2:=rfl
theorem Zg3:∀ {ks:List K4} {S:Str} {m:Nat},Keeps S (m+2*ks.length)->Keeps (ZcQ ks S).2 m
 | [],S,m,h=>ZeC (by simpa using h)
 | k::ks,S,m,h=>by
  have h1:Keeps (dropS S k).2 (m+2*ks.length):=Zhh (by simpa [Nat.mul_add,Zbb] using h);unfold ZcQ;split
  ·exact h1.fewer (by omega)
  ·exact Zg3 h1
theorem ZeF {S:Str} {r:Rc} {m:Nat} (h:Keeps S (m+2)):Keeps (saveJ S r).2 m:=by
 have h1:Keeps (setS S kJ nmJ (recB r)).2 m:=Zkr h;unfold saveJ;split
 ·exact ZeC (h.fewer (by omega))
 ·split
  ·exact h1
  ·exact ZeC h1
section
variable {p : Nat} {S : Str}
theorem Zeh (w:World):Calls prog 92 #[] w fun e w'=>e=.returned (.agg #[int i64 1,int i64 0,int i64 0,int i64 0])∧Below w.heap.size w w':=by
 go_enter func92,ntmps92;go_wp2;exact Zaj (v:=.agg #[int i64 1,int i64 0,int i64 0,int i64 0]) (by simp [results,results92,go_sem]) rfl ⟨rfl,ZS _ _⟩
theorem ZpB (w:World):Calls prog 82 #[pointer none] w fun e w'=>e=.returned (int i64 1)∧w=w':=by
 go_enter func82,ntmps82;go_wp2;go_ret;exact ⟨rfl,rfl⟩
theorem Zhl (h:St W I w (Zj p S::l)):Calls prog 82 #[pointer (some ⟨p,0,none⟩)] w fun e w'=>e=.returned (int i64 (if S.on=false then 7 else 0))∧w=w':=by
 have H:=Zh h;clear h;cases ho:S.on with
 | false =>
  go_enter func82,ntmps82;go_wp2_with fail;refine (Zix H.o).mono ?_;rw [ho];rintro e w1 ⟨rfl,rfl⟩;go_wp2;go_ret;exact ⟨rfl,rfl⟩
 | true =>
  go_enter func82,ntmps82;go_wp2_with fail;refine (Zix H.o).mono ?_;rw [ho];rintro e w1 ⟨rfl,rfl⟩;go_wp2;go_ret;exact ⟨rfl,rfl⟩
theorem Zky {m:Nat} (h:St W I w (Zj p S::l)) (hk:Inv S m) (hj:JRec S none) :
  Calls prog 83 #[pointer (some ⟨p,0,none⟩)] w fun e w'=>e=.returned (.tuple #[Rc.zeroVal,int i64 (attrS S kJ nmJ).2])∧St W I w' (Zj p S::l):=by
 have h0:=(h.alloc (cells #[int i64 0,int i64 0,int i64 0,int i64 0,int i64 0,slice none 0 0,slice none 0 0] 105)).pull 1 _ rfl;simp only [ZE,ZF] at h0;have H0:=Zh h0;have HK:=Zh hk;obtain ⟨er,her⟩:∃ er,(attrS S kJ nmJ).2=er:=⟨_,rfl⟩;unfold JRec at hj;rw [her] at hj |-;have HER:=Zh her;have hne:(er != 0)=true:=by simpa using hj
 clear h h0 hk her;go_enter func83,ntmps83;go_wp2_with fail;refine (Zeh _).mono ?_;rintro e w1 ⟨rfl,hb1⟩;have h1:=H0.o.keep hb1;have hat:=ZhW kJ nmJ h1 HK.o;rw [HER.o] at hat;simp only [K4.val,kJ,nmJ] at hat;have HAT:=Zh hat;have H1:=Zh h1;clear hat h1 hb1;go_wp2_with fail;refine HAT.o.mono ?_;rintro e w2 ⟨hb2,v2,rfl,ho2⟩;have h2:=H1.o.keep hb2;obtain ⟨x0,x1,x2,x3,x4,x5,x6⟩:=ZaC (h2.pull 1 _ rfl);have f:=frozen_of_row (h2.pull 1 _ rfl).heap;have H2:=Zh ((h2.pull 1 _ rfl).set7 (int i64 0) (int i64 0) (int i64 0) (int i64 0) (int i64 0) (slice none 0 0) (slice none 0 0));clear hb2 ho2 h2;go_wp2_with fail;have h2:=H2.o;generalize (World.setCell _ _ _:World)=w3 at h2 |-;clear x0 x1 x2 x3 x4 x5 x6;obtain ⟨x0,x1,x2,x3,x4,x5,x6⟩:=ZaC h2;refine Zaj (v:=.tuple #[Rc.zeroVal,int i64 er]) (by simp [results,results83,go_sem,x0,x1,x2,x3,x4,x5,x6,Rc.zeroVal]) rfl ?_;exact ⟨rfl,h2.drop⟩
theorem Zkz (r:Rc) {m:Nat} (h:St W I w (Zj p S::l)) (hk:Inv S m) (hj:JRec S (some r)) :
  Calls prog 83 #[pointer (some ⟨p,0,none⟩)] w fun e w'=>∃ I' vt vc,I.sub I'∧e=.returned (.tuple #[.agg (r.cells vt vc),int i64 0])∧recI I' r vt vc∧St W I' w' (Zj p S::l):=by
 have h0:=(h.alloc (cells #[int i64 0,int i64 0,int i64 0,int i64 0,int i64 0,slice none 0 0,slice none 0 0] 105)).pull 1 _ rfl;simp only [ZE,ZF] at h0;have H0:=Zh h0;have HK:=Zh hk;have HJ:=Zh hj;obtain ⟨R,hR⟩:∃ R,recB r=R:=⟨_,rfl⟩;have HR:=Zh hR;have e0:=hj.2;rw [hR] at e0;have HE:=Zh e0;clear h h0 hk hj hR e0;go_enter func83,ntmps83;go_wp2_with fail;refine (Zeh _).mono ?_;rintro e w1 ⟨rfl,hb1⟩;have h1:=H0.o.keep hb1;have hat:=ZhW kJ nmJ h1 HK.o;rw [HE.o] at hat;simp only [K4.val,kJ,nmJ] at hat;have HAT:=Zh hat;have H1:=Zh h1;clear hat h1 hb1;go_wp2_with fail;refine HAT.o.mono ?_;rintro e w2 ⟨hb2,v2,rfl,ho2⟩;obtain ⟨I2,hs2,hB2,h2⟩:=ZbU H1.o hb2 ho2;have hg:=Zs3 v2 r h2 (by rw [HR.o];exact hB2) HJ.o.1;obtain ⟨A2,c2,rfl⟩:=BytesI.isSl hB2;have HG:=Zh hg;have HS2:=Zh hs2;clear hb2 ho2 h2 hB2 hg hs2;go_wp2_with fail;refine HG.o.mono ?_;rintro e w3 ⟨I3,vt,vc,hs3,rfl,hrI,h3⟩;obtain ⟨⟨a,b,sz⟩,fi,st,tags,cls⟩:=r;simp only [Rc.cells];obtain ⟨At,ct,hvt,_⟩:=hrI.1;obtain ⟨Ac,cc,hvc,_⟩:=hrI.2;simp only at hvt hvc;subst hvt hvc;have h4:=h3.alloc (cells #[int i64 a,int i64 b,int i64 sz,int i64 fi,int i64 st,slice At tags.length ct,slice Ac cls.length cc] 105);have h5:=h4.pull 2 _ rfl;simp only [ZE,ZF] at h5;have lt3:=(h3.pull 1 _ rfl).lt;obtain ⟨x0,x1,x2,x3,x4,x5,x6⟩:=ZaC (h3.pull 1 _ rfl);have f:=frozen_of_row (h3.pull 1 _ rfl).heap;have H6:=Zh (((h3.pull 1 _ rfl).set7 (int i64 a) (int i64 b) (int i64 sz) (int i64 fi) (int i64 st) (slice At tags.length ct) (slice Ac cls.length cc)).alloc (cells #[int i64 a,int i64 b,int i64 sz,int i64 fi,int i64 st,slice At tags.length ct,slice Ac cls.length cc] 105));have HI:=Zh hrI;have HS3:=Zh (HS2.o.trans hs3);clear h3 h4 h5 hs3 hrI;go_wp2_with fail;have h6:=H6.o;generalize (World.alloc _ _:World)=w6 at h6 |-;clear x0 x1 x2 x3 x4 x5 x6;have h7:=h6.drop;obtain ⟨x0,x1,x2,x3,x4,x5,x6⟩:=ZaC h7;refine Zaj (v:=.tuple #[.agg #[int i64 a,int i64 b,int i64 sz,int i64 fi,int i64 st,slice At tags.length ct,slice Ac cls.length cc],int i64 0]) (by simp [results,results83,go_sem,x0,x1,x2,x3,x4,x5,x6]) rfl ?_;exact ⟨_,HS3.o,_,_,rfl,HI.o,h7.drop⟩
theorem Zhz (r:Rc) (vt vc:Value) (o:Option Rc) {m:Nat} (h:St W I w (Zj p S::l)) (hk:Keeps S (m+2)) (hr:r.Ok) (hI:recI I r vt vc) (hj:JRec S o) :
  Calls prog 93 #[pointer (some ⟨p,0,none⟩),.agg (r.cells vt vc)] w fun e w'=>∃ I',I.sub I'∧e=.returned (int i64 (saveJ S r).1)∧St W I' w' (Zj p (saveJ S r).2::l):=by
 obtain ⟨R,hR⟩:∃ R,recB r=R:=⟨_,rfl⟩;have hX:saveJ S r=if attrS S kJ nmJ=(R,0) then ZB S else if (setS S kJ nmJ R).1≠0 then setS S kJ nmJ R else ZB (setS S kJ nmJ R).2:=by unfold saveJ;rw [hR]
 have HX:=Zh hX;have HR:=Zh hR;have hRl:=Ze8 hr;have hRb:=Zhy hr;rw [hR] at hRl hRb;have HRB:=Zh hRb;have HOK:=Zh hr;obtain ⟨⟨A,er⟩,hat⟩:∃ x,attrS S kJ nmJ=x:=⟨_,rfl⟩;have hab:er=0->(∀ x ∈ A,isByte x):=by
  intro h0;cases o with
  | none=>unfold JRec at hj;rw [hat] at hj;exact absurd h0 hj
  | some r0 =>
   have h1:=hj.2;rw [hat] at h1;simp only [Zv] at h1;rw [h1.1];exact Zhy hj.1
 have HAB:=Zh hab;have HAT:=Zh hat;rw [hat] at HX;have HK:=Zh hk;obtain ⟨S2,hs2e⟩:∃ x,setS S kJ nmJ R=x:=⟨_,rfl⟩;have hks:Keeps S2.2 m:=by rw [<-hs2e];exact Zkr hk
 have HKS:=Zh hks;have HSE:=Zh hs2e;rw [hs2e] at HX;obtain ⟨e2,S2⟩:=S2;have hput:=Zs1 r vt vc (h.alloc (cells (r.cells vt vc) 105)) hr ((recI.mono (Hp.sub.refl _) hI));have HP:=Zh hput;have H0:=Zh (h.alloc (cells (r.cells vt vc) 105));obtain ⟨⟨a,b,sz⟩,fi,st,tags,cls⟩:=r;obtain ⟨At,ct,hvt,_⟩:=hI.1;obtain ⟨Ac,cc,hvc,_⟩:=hI.2;simp only at hvt hvc;subst hvt hvc;simp only [Rc.cells] at HP H0 |-;clear h hk hr hI hj hab hat hX hR hRb hks hs2e hput;go_enter func93,ntmps93;go_wp2_with fail;refine HP.o.mono ?_;rintro e w1 ⟨A1,c1,q,rfl,hq,hb1,ho1⟩;rw [HR.o] at hq;subst hq;obtain ⟨I1,hs1,hB1,h1⟩:=ZbU H0.o hb1 ho1;have HB1:=Zh hB1;have HS1:=Zh hs1;have H1:=Zh h1.drop;clear hs1 hB1 h1 hb1 ho1;go_wp2_with fail;refine (Zeh _).mono ?_;rintro e w2 ⟨rfl,hb2⟩;have h2:=H1.o.keep hb2;have hat:=ZhW kJ nmJ h2 HK.o.inv;rw [HAT.o] at hat;simp only [K4.val,kJ,nmJ] at hat;have HATS:=Zh hat;have H2:=Zh h2;clear hat h2 hb2;go_wp2_with fail;refine HATS.o.mono ?_;rintro e w3 ⟨hb3,v3,rfl,ho3⟩;obtain ⟨A3,c3,rfl⟩:=ZA ho3;have h3:=H2.o.keep hb3;have H3:=Zh h3;have HO3:=Zh (SliceSrc.of_owns ho3 (Zcb A));have HB3:=Zh hb3;clear h3 ho3 hb3
 -- the two ways on
 have way:∀ (w:World),St W I1 w (Zj p S::l)->Calls prog 151 #[pointer (some ⟨p,0,none⟩),.agg #[int i64 1,int i64 0,int i64 0,int i64 0],.string ⟨#[106]⟩,slice A1 q.length c1] w fun e w'=>∃ I',I1.sub I'∧e=.returned (int i64 e2)∧St W I' w' (Zj p S2::l):=fun w h=>by
  have:=Zsb kJ nmJ (slice A1 q.length c1) q h HK.o (ZaW h HB1.o) (by omega);rw [HSE.o] at this;exact this
 have WAY:=Zh way;clear way;by_cases her:er=0
 ·subst her;have heq:=ZfZ (slice A3 A.length c3) (slice A1 q.length c1) A q w3 HO3.o (ZaW H3.o HB1.o) (HAB.o rfl) HRB.o;obtain ⟨bq,hbq⟩:∃ b,decide (A=q)=b:=⟨_,rfl⟩;rw [hbq] at heq;have HEQ:=Zh heq;have HBQ:=Zh hbq;clear heq hbq;go_wp2_with fail;refine HEQ.o.mono ?_;rintro e w4 ⟨rfl,rfl⟩;cases bq with
  | true =>
   have HX1:=Zh (HX.o.trans (Zb (by rw [of_decide_eq_true HBQ.o])));have hba:=Zec H3.o (HK.o.fewer (show m<=m+2 by omega));have HBA:=Zh hba;clear hba;go_wp2_with fail;refine HBA.o.mono ?_;rintro e w7 ⟨I7,hs7,rfl,h7⟩;have H7:=Zh h7;have HS7:=Zh (HS1.o.trans hs7);clear h7 hs7;go_wp2;go_ret;rw [HX1.o];exact ⟨I7,HS7.o,rfl,H7.o⟩
  | false =>
   have HX1:=Zh (HX.o.trans (Za (fun h=>of_decide_eq_false HBQ.o (by simpa using h))));go_wp2_with fail;refine (Zeh _).mono ?_;rintro e w5 ⟨rfl,hb5⟩;have HW:=Zh (WAY.o w5 (H3.o.keep hb5));clear hb5;go_wp2_with fail;refine HW.o.mono ?_;rintro e w6 ⟨I6,hs6,rfl,h6⟩;by_cases he2:e2=0
   ·subst he2;have HX2:=Zh (HX1.o.trans (Za (by simp)));have hba:=Zec h6 HKS.o;have HBA:=Zh hba;have HS6:=Zh (HS1.o.trans hs6);clear h6 hba hs6;go_wp2_with fail;refine HBA.o.mono ?_;rintro e w7 ⟨I7,hs7,rfl,h7⟩;have H7:=Zh h7;have HS7:=Zh (HS6.o.trans hs7);clear h7 hs7;go_wp2;go_ret;rw [HX2.o];exact ⟨I7,HS7.o,rfl,H7.o⟩
   ·have hne:(e2 != 0)=true:=by simpa using he2
    have HX2:=Zh (HX1.o.trans (Zb he2));have H6:=Zh h6;have HS6:=Zh (HS1.o.trans hs6);clear h6 hs6;go_wp2;go_ret;rw [HX2.o];exact ⟨I6,HS6.o,rfl,H6.o⟩
 ·have hne0:(er==0)=false:=by simpa using her
  have HX1:=Zh (HX.o.trans (Za (fun h=>her (by simpa using (congrArg Prod.snd h)))));go_wp2_with fail;refine (Zeh _).mono ?_;rintro e w5 ⟨rfl,hb5⟩;have HW:=Zh (WAY.o w5 (H3.o.keep hb5));clear hb5;go_wp2_with fail;refine HW.o.mono ?_;rintro e w6 ⟨I6,hs6,rfl,h6⟩;by_cases he2:e2=0
  ·subst he2;have HX2:=Zh (HX1.o.trans (Za (by simp)));have hba:=Zec h6 HKS.o;have HBA:=Zh hba;have HS6:=Zh (HS1.o.trans hs6);clear h6 hba hs6;go_wp2_with fail;refine HBA.o.mono ?_;rintro e w7 ⟨I7,hs7,rfl,h7⟩;have H7:=Zh h7;have HS7:=Zh (HS6.o.trans hs7);clear h7 hs7;go_wp2;go_ret;rw [HX2.o];exact ⟨I7,HS7.o,rfl,H7.o⟩
  ·have hne:(e2 != 0)=true:=by simpa using he2
   have HX2:=Zh (HX1.o.trans (Zb he2));have H6:=Zh h6;have HS6:=Zh (HS1.o.trans hs6);clear h6 hs6;go_wp2;go_ret;rw [HX2.o];exact ⟨I6,HS6.o,rfl,H6.o⟩
theorem ZoC {m:Nat} (h:St W I w (Zj p S::l)) (hk:Keeps S (m+2*(Zau S ⟨2,0⟩).length)) (hn:(Zp S ⟨2,0⟩).length<=1000000) :
  Calls prog 91 #[pointer (some ⟨p,0,none⟩)] w fun e w'=>∃ I',I.sub I'∧e=.returned (int i64 (ZaL S).1)∧St W I' w' (Zj p (ZaL S).2::l):=by
 have hks:=Ziy 2 0 h hn;obtain ⟨ks,hke⟩:∃ ks,Zau S ⟨2,0⟩=ks:=⟨_,rfl⟩;have HX:=Zh (show ZaL S=ZcQ ks S by unfold ZaL;rw [hke]);rw [hke] at hks hk;have HKS:=Zh hks;have HK:=Zh hk;have H:=Zh h;have hkl:ks.length<=1000000:=by
  rw [<-hke];unfold Zau;split
  ·exact hn
  ·simp
 clear h hk hks hke hn;go_enter func91,ntmps91;go_wp2_with fail;refine HKS.o.mono ?_;rintro e w1 ⟨v1,rfl,hb1,ho1⟩;obtain ⟨A1,c1,rfl⟩:=ZA ho1;obtain ⟨I1,hs1,hR1,h1⟩:=(H.o.row_fresh hb1 ho1).freeze_row;have HR1:=Zh hR1;have H1:=Zh h1;have HS1:=Zh hs1;clear hb1 ho1 hR1 h1 hs1;go_wp2;go_loopw [9] (fun a9 wr=>∃ (i:Nat) (S':Str) (I':Hp),a9=int i64 i∧i<=ks.length∧ZcQ ks S=ZcQ (ks.drop i) S'∧Keeps S' (m+2*(ks.length - i))∧I1.sub I'∧St W I' wr (Zj p S'::l)) (fun a9 _=>ks.length - (intOf a9).toNat);case atStart=>exact ⟨0,S,I1,rfl,ZL _,rfl,by simpa using HK.o,Hp.sub.refl _,H1.o⟩
 case round =>
  obtain ⟨i,S',I',rfl,hi,hcl,hk',hsub,hst⟩:=hrel;by_cases hlt:i<ks.length
  ·have d0:decide ((i:Int)<(ks.length:Int))=true:=by rw [Zk];omega
   obtain ⟨k,hkk⟩:∃ k,ks[i]?=some k:=⟨_,Zy hlt⟩;have hR:=HR1.o.mono hsub;obtain ⟨b,off,e1,hc⟩:=ZbL (i:=i) (mk:=K4.vals) (k:=4) hR (Hp.sub.refl _) hst (fun _=>rfl) hkk;simp only [Zz,Zap,ZaR] at e1;subst e1;have y0:=hc 0 (by omega);have y1:=hc 1 (by omega);have y2:=hc 2 (by omega);have y3:=hc 3 (by omega);have hdr:ks.drop i=k::ks.drop (i+1):=by
    obtain ⟨hil,he⟩:=ZH.1 hkk;rw [<-he,<-ZaS hil]
   rw [hdr] at hcl;have h2:=hst.keep (ZS wr (cells #[int i64 k.kind,int i64 k.img,int i64 k.num,int i64 k.snap] 43));have hk2:Keeps S' ((m+2*(ks.length - (i+1)))+2):=by
    rw [show m+2*(ks.length - (i+1))+2=m+2*(ks.length - i) by omega];exact hk'
   have hd:=Zlg k h2 hk2;have hkd:=Zhh (k:=k) hk2;obtain ⟨k0,k1,k2,k3⟩:=k;simp only [K4.vals,Zg,Zi,ZaP] at y0 y1 y2 y3;simp only [K4.val] at hd;obtain ⟨⟨e2,S2⟩,hds⟩:∃ x,dropS S' ⟨k0,k1,k2,k3⟩=x:=⟨_,rfl⟩;have hcl2:ZcQ ks S=if e2≠0 then (e2,S2) else ZcQ (ks.drop (i+1)) S2:=by rw [hcl,ZjP,hds]
   rw [hds] at hd hkd;have HD:=Zh hd;have HKD:=Zh hkd;have HCL:=Zh hcl2;have HSUB:=Zh hsub;have hin:(i:Int)<(ks.length:Int):=by omega
   clear hc hkk hR hdr hcl hcl2 h2 hk2 hd hkd hds hk' hsub hst;go_wp2_with fail;refine HD.o.mono ?_;rintro e w3 ⟨I3,hs3,rfl,h3⟩;have H3:=Zh h3;have HS3:=Zh (HSUB.o.trans hs3);clear h3 hs3;by_cases he2:e2=0
   ·subst he2;have HC2:=Zh (HCL.o.trans (Za (by simp)));go_wp2;go_roundw;case rel=>exact ⟨i+1,S2,I3,by go_num,by omega,HC2.o,HKD.o,HS3.o,H3.o⟩
    case measure=>simp [intOf]<;>omega
   ·have hne:(e2 != 0)=true:=by simpa using he2
    have HC2:=Zh (HX.o.trans (HCL.o.trans (Zb he2)));go_wp2;go_ret;rw [HC2.o];exact ⟨I3,HS1.o.trans HS3.o,rfl,H3.o⟩
  ·obtain rfl:i=ks.length:=by omega
   have d0:decide (((ks.length:Nat):Int)<(ks.length:Int))=false:=by rw [ZT];omega
   rw [Zex] at hcl;have HCL:=Zh (HX.o.trans hcl);have hba:=Zec hst (hk'.fewer (show m<=m+2*(ks.length - ks.length) by omega));have HBA:=Zh hba;have HSUB:=Zh hsub;clear hba hcl hk' hst hsub;go_wp2_with fail;refine HBA.o.mono ?_;rintro e w3 ⟨I3,hs3,rfl,h3⟩;have H3:=Zh h3;have HS3:=Zh (HSUB.o.trans hs3);clear h3 hs3;go_wp2;go_ret;rw [HCL.o];exact ⟨I3,HS1.o.trans HS3.o,rfl,H3.o⟩
end
def Pl.vals (p:Pl):List Value:=[int i64 p.set,int i64 p.obj]
structure JV where
 vt:Value
 vc:Value
 vl:Value
 va:Value
def Zb3 (p:Nat) (J:Jn) (V:JV):Array Value :=
 #[pointer (some ⟨p,0,none⟩),int i64 J.r.shape.splay,int i64 J.r.shape.sets,int i64 J.r.shape.size,int i64 J.r.first,int i64 J.r.set,V.vt,V.vc,V.vl,V.va,int i64 J.fill.set,int i64 J.fill.u0,int i64 J.fill.u1,int i64 J.fill.u2,int i64 J.fill.u3,int i64 J.safe,.bool J.dead]
def jnBlk (q p:Nat) (J:Jn) (V:JV):HP:=pt q (cells (Zb3 p J V) 110)
def ZY (v:Value) (ps:List Pl):HP:=HP.win 41 2 v ps.length (ps.flatMap Pl.vals)
def jnHP (q p:Nat) (J:Jn):HP :=
 HP.ex fun V:JV=>HP.all [jnBlk q p J V,HP.imm ⟨fun I=>recI I J.r V.vt V.vc,fun s h=>h.mono s⟩,Zo V.vl J.l,ZY V.va J.at_]
structure JB (J:Jn):Prop where
 ok:J.r.Ok
 len:J.l.length<=100000
 lens:J.at_.length=J.l.length
 fill:J.fill.okB J.r.shape=true
 safe:0<=J.safe∧J.safe<=3299023255552
def endJ (J:Jn):Int:=J.r.first - 1+J.l.length
def setsJ (J:Jn):Int:=J.fill.set - J.r.set+1
def deadJ (J:Jn):Jn:={ J with dead:=true }
def endsJ (J:Jn) (why:Int):Jn:=if why=7 then deadJ J else J
def mayJ (S:Str) (J:Jn):Int:=if J.dead=true∨S.on=false then 7 else 0
def mayJ2 (S:Str) (J:Jn):Jn:=if J.dead=true∨S.on=false then deadJ J else J
theorem JB.first {J:Jn} (h:JB J):1<=J.r.first∧J.r.first<=2199023255552:=h.ok.first
theorem JB.fills {J:Jn} (h:JB J):(0<=J.fill.u0∧J.fill.u0<=4096)∧(0<=J.fill.u1∧J.fill.u1<=4096)∧(0<=J.fill.u2∧J.fill.u2<=4096)∧(0<=J.fill.u3∧J.fill.u3<=4096)∧(0<=J.fill.set∧J.fill.set<1073741824):=Zlm h.fill h.ok.shape
section
variable {p q : Nat} {S : Str} {J : Jn}
theorem St.jn_open (h:St W I w (jnHP q p J::l)):∃ V:JV,recI I J.r V.vt V.vc∧St W I w (jnBlk q p J V::Zo V.vl J.l::ZY V.va J.at_::l):=by
 obtain ⟨V,h1⟩:=h.ex_open;obtain ⟨hr,h2⟩:=((h1.all_open).pull 1 _ rfl).imm_open;exact ⟨V,hr,h2⟩
theorem St.jn_shut {V:JV} (hr:recI I J.r V.vt V.vc) (h:St W I w (jnBlk q p J V::Zo V.vl J.l::ZY V.va J.at_::l)):St W I w (jnHP q p J::l):=by
 refine St.ex_shut V ?_;refine St.all_shut ?_;exact ((St.imm_shut (A:=⟨fun I=>recI I J.r V.vt V.vc,fun s h=>h.mono s⟩) hr h).pull 1 _ rfl)
theorem Za1 {V:JV} (h:St W I w (jnBlk q p J V::l)) (i:Nat):w.cell? ⟨q,i,none⟩=(Zb3 p J V)[i]?:=Zc h.heap i
theorem jn_c0 {V:JV} (h:St W I w (jnBlk q p J V::l)):w.cell? ⟨q,0,none⟩=some (pointer (some ⟨p,0,none⟩)):=Za1 h 0
theorem Zc0 {V:JV} (h:St W I w (jnBlk q p J V::l)):w.cell? ⟨q,1,none⟩=some (int i64 J.r.shape.splay)∧w.cell? ⟨q,2,none⟩=some (int i64 J.r.shape.sets)∧w.cell? ⟨q,3,none⟩=some (int i64 J.r.shape.size):=⟨Za1 h 1,Za1 h 2,Za1 h 3⟩
theorem jn_c4 {V:JV} (h:St W I w (jnBlk q p J V::l)):w.cell? ⟨q,4,none⟩=some (int i64 J.r.first):=Za1 h 4
theorem jn_c5 {V:JV} (h:St W I w (jnBlk q p J V::l)):w.cell? ⟨q,5,none⟩=some (int i64 J.r.set):=Za1 h 5
theorem jn_c6 {V:JV} (h:St W I w (jnBlk q p J V::l)):w.cell? ⟨q,6,none⟩=some V.vt:=Za1 h 6
theorem jn_c7 {V:JV} (h:St W I w (jnBlk q p J V::l)):w.cell? ⟨q,7,none⟩=some V.vc:=Za1 h 7
theorem jn_c8 {V:JV} (h:St W I w (jnBlk q p J V::l)):w.cell? ⟨q,8,none⟩=some V.vl:=Za1 h 8
theorem jn_c9 {V:JV} (h:St W I w (jnBlk q p J V::l)):w.cell? ⟨q,9,none⟩=some V.va:=Za1 h 9
theorem Zfo {V:JV} (h:St W I w (jnBlk q p J V::l)):w.cell? ⟨q,10,none⟩=some (int i64 J.fill.set)∧w.cell? ⟨q,11,none⟩=some (int i64 J.fill.u0)∧w.cell? ⟨q,12,none⟩=some (int i64 J.fill.u1)∧w.cell? ⟨q,13,none⟩=some (int i64 J.fill.u2)∧w.cell? ⟨q,14,none⟩=some (int i64 J.fill.u3):=⟨Za1 h 10,Za1 h 11,Za1 h 12,Za1 h 13,Za1 h 14⟩
theorem ZgC {V:JV} (h:St W I w (jnBlk q p J V::l)):w.cell? ⟨q,15,none⟩=some (int i64 J.safe):=Za1 h 15
theorem ZmU {V:JV} (h:St W I w (jnBlk q p J V::l)):w.cell? ⟨q,16,none⟩=some (.bool J.dead):=Za1 h 16
theorem Zbx {V:JV} (h:St W I w (jnBlk q p J V::l)) (i:Nat):w.frozen? ⟨q,i,none⟩=false:=frozen_of_row h.heap i
theorem St.jn_dead (h:St W I w (jnHP q p J::l)):St W I (w.setCell ⟨q,16,none⟩ (.bool true)) (jnHP q p (deadJ J)::l):=by
 obtain ⟨V,hr,h1⟩:=h.jn_open;exact St.jn_shut (J:=deadJ J) (V:=V) hr (h1.setCell 16 (.bool true))
theorem ZkA (h:St W I w (jnHP q p J::l)) (hB:JB J):Calls prog 18 #[pointer (some ⟨q,0,none⟩)] w fun e w'=>e=.returned (int i64 J.safe)∧Below w.heap.size w w':=by
 obtain ⟨V,hr,h1⟩:=h.jn_open;have x:=ZgC h1;clear h h1 hr;go_enter func18,ntmps18;go_wp2;go_ret;exact ⟨rfl,ZI _ _⟩
theorem ZjQ (h:St W I w (jnHP q p J::l)) (hB:JB J):Calls prog 48 #[pointer (some ⟨q,0,none⟩)] w fun e w'=>e=.returned (int i64 J.r.first)∧Below w.heap.size w w':=by
 obtain ⟨V,hr,h1⟩:=h.jn_open;have x:=jn_c4 h1;clear h h1 hr;go_enter func48,ntmps48;go_wp2;go_ret;exact ⟨rfl,ZI _ _⟩
theorem ZcW (h:St W I w (jnHP q p J::l)) (hB:JB J):Calls prog 29 #[pointer (some ⟨q,0,none⟩)] w fun e w'=>e=.returned (int i64 (endJ J))∧Below w.heap.size w w':=by
 obtain ⟨V,hr,h1⟩:=h.jn_open;obtain ⟨A,c,hvl,hc,_⟩:=(h1.pull 1 _ rfl).ents_slice;have b1:=hB.first;have b2:=hB.len;have x4:=jn_c4 h1;have x8:=jn_c8 h1;rw [hvl] at x8;have w1:IntKind.i64.wrap (J.r.first - 1)=J.r.first - 1:=by rw [Zx];omega
 have w2:IntKind.i64.wrap (J.r.first - 1+J.l.length)=J.r.first - 1+J.l.length:=by rw [Zx];omega
 unfold endJ;clear h h1 hr;go_enter func29,ntmps29;go_upto_region 3 with fail;go_quiet (fail);go_wp2;go_ret;exact ⟨rfl,⟨rfl,rfl,rfl,ZC _,fun _ _=>rfl⟩⟩
theorem ZkB (h:St W I w (jnHP q p J::l)) (hB:JB J):Calls prog 30 #[pointer (some ⟨q,0,none⟩)] w fun e w'=>e=.returned (int i64 (setsJ J))∧Below w.heap.size w w':=by
 obtain ⟨V,hr,h1⟩:=h.jn_open;have b1:=hB.fills;have b2:=hB.ok.set;have x5:=jn_c5 h1;have x10:=(Zfo h1).1;have w1:IntKind.i64.wrap (J.fill.set - J.r.set)=J.fill.set - J.r.set:=by rw [Zx];omega
 have w2:IntKind.i64.wrap (J.fill.set - J.r.set+1)=J.fill.set - J.r.set+1:=by rw [Zx];omega
 unfold setsJ;clear h h1 hr;go_enter func30,ntmps30;go_upto_region 3 with fail;go_quiet (fail);go_wp2;go_ret;exact ⟨rfl,⟨rfl,rfl,rfl,ZC _,fun _ _=>rfl⟩⟩
theorem ZoD (h:St W I w (jnHP q p J::l)):Calls prog 98 #[pointer (some ⟨q,0,none⟩)] w fun e w'=>e=.returned J.r.shape.val∧Below w.heap.size w w':=by
 obtain ⟨V,hr,h1⟩:=h.jn_open;obtain ⟨x1,x2,x3⟩:=Zc0 h1;have lt:=h1.lt;clear h h1 hr;go_enter func98,ntmps98;go_wp2;refine Zaj (v:=J.r.shape.val) (by simp [results,results98,go_sem,Rg.val]) rfl ?_;exact ⟨rfl,ZS _ _⟩
theorem Zdd (why:Int) (h:St W I w (jnHP q p J::l)):Calls prog 59 #[pointer (some ⟨q,0,none⟩),int i64 why] w fun e w'=>e=.returned (int i64 why)∧St W I w' (jnHP q p (endsJ J why)::l):=by
 have HD:=Zh h.jn_dead;obtain ⟨V,hr,h1⟩:=h.jn_open;have x:=ZmU h1;have f:=Zbx h1;have H:=Zh h;clear h h1 hr;by_cases h7:why=7
 ·subst h7;have e:endsJ J 7=deadJ J:=Zb rfl;rw [e];go_enter func59,ntmps59;go_wp2;go_ret;exact ⟨rfl,HD.o⟩
 ·have e:endsJ J why=J:=Za h7;rw [e];have hne:(why==7)=false:=by simpa using h7
  go_enter func59,ntmps59;go_wp2;go_ret;exact ⟨rfl,H.o⟩
theorem ZdA (h:St W I w (Zj p S::jnHP q p J::l)):Calls prog 57 #[pointer (some ⟨q,0,none⟩)] w fun e w'=>e=.returned (int i64 (mayJ S J))∧St W I w' (Zj p S::jnHP q p (mayJ2 S J)::l):=by
 have hon:=Zix h;have h0:=h.pull 1 _ rfl;have hd:=(h0.jn_dead).pull 1 _ rfl;obtain ⟨V,hr,h1⟩:=h0.jn_open;have x0:=jn_c0 h1;have x:=ZmU h1;have f:=Zbx h1;have HD:=Zh hd;have H:=Zh h;have HON:=Zh hon;obtain ⟨dd,hdd⟩:∃ d,J.dead=d:=⟨_,rfl⟩;obtain ⟨on,hoo⟩:∃ d,S.on=d:=⟨_,rfl⟩;rw [hdd] at x;rw [hoo] at HON;have HX:=Zh (show mayJ S J=if dd=true∨on=false then 7 else 0 by unfold mayJ;rw [hdd,hoo]);have HY:=Zh (show mayJ2 S J=if dd=true∨on=false then deadJ J else J by unfold mayJ2;rw [hdd,hoo]);clear h h0 h1 hr hd hon hdd hoo;cases dd with
 | true =>
  have HX2:=Zh (HX.o.trans (Zb (.inl rfl)));have HY2:=Zh (HY.o.trans (Zb (.inl rfl)));go_enter func57,ntmps57;go_wp2;go_ret;rw [HX2.o,HY2.o];exact ⟨rfl,HD.o⟩
 | false =>
  go_enter func57,ntmps57;go_wp2_with fail;refine HON.o.mono ?_;rintro e w2 ⟨rfl,rfl⟩;cases on with
  | false =>
   have HX2:=Zh (HX.o.trans (Zb (.inr rfl)));have HY2:=Zh (HY.o.trans (Zb (.inr rfl)));go_wp2;go_ret;rw [HX2.o,HY2.o];exact ⟨rfl,HD.o⟩
  | true =>
   have HX2:=Zh (HX.o.trans (Za (by simp)));have HY2:=Zh (HY.o.trans (Za (by simp)));go_wp2;go_ret;rw [HX2.o,HY2.o];exact ⟨rfl,H.o⟩
end
theorem ZpC:prog.underlying 108=some (.struct (prog.fieldsOf 108)):=by kernel_rfl
theorem ZpD:prog.stoodInHeld 108=false:=by kernel_rfl
theorem ZoE:(prog.fieldsOf 108).toList.map (fun f=>(f.name == "_",f.type,f.offset))=[(false,3,0),(false,106,1)]:=by kernel_rfl
theorem ZpE:prog.underlying 106=some (.array 4 3):=by kernel_rfl
theorem Zsl:(prog.info? 3).map (fun i=>i.size)=some 1:=by kernel_rfl
theorem ZpF:prog.cellsOf 3=1:=by kernel_rfl
set_option maxRecDepth 100000 in
theorem Zs4 (a1 a2 a3 a4 b1 b2 b3 b4:Int) (w:World):(Op.equalIn 9999 106 (.agg #[int i64 a1,int i64 a2,int i64 a3,int i64 a4]) (.agg #[int i64 b1,int i64 b2,int i64 b3,int i64 b4])).run prog w=.ok (a1==b1&&a2==b2&&a3==b3&&a4==b4) w:=by
 obtain ⟨i,hi,hs⟩:∃ i,prog.info? 3=some i∧i.size=1:=by
  have h:=Zsl;cases hq:prog.info? 3 with
  | none=>rw [hq] at h;cases h
  | some i=>rw [hq] at h;exact ⟨i,rfl,by simpa using h⟩
 rw [run_equalIn_array w 9998 _ _ ZpE hi];simp only [show List.range 4=[0,1,2,3] from rfl,Op.eqItems];simp [go_sem,hs,ZpF];by_cases e1:a1=b1 <;> by_cases e2:a2=b2 <;> by_cases e3:a3=b3 <;> by_cases e4:a4=b4 <;> simp [e1,e2,e3,e4]
set_option maxRecDepth 100000 in
theorem ZpG (a0 a1 a2 a3 a4 b0 b1 b2 b3 b4:Int) (w:World):(Op.equalIn 10000 108 (.agg #[int i64 a0,int i64 a1,int i64 a2,int i64 a3,int i64 a4]) (.agg #[int i64 b0,int i64 b1,int i64 b2,int i64 b3,int i64 b4])).run prog w=.ok (a0==b0&&a1==b1&&a2==b2&&a3==b3&&a4==b4) w:=by
 rw [run_equalIn_struct w 9999 _ _ _ ZpC ZpD];obtain ⟨fs,hfs⟩:∃ fs,(prog.fieldsOf 108).toList=fs:=⟨_,rfl⟩;have h:=ZoE;rw [hfs] at h |-
 match fs,h with
 | [f0,f1],h =>
  simp only [ZaT,Zcr,ZdH,Zv,Zes,Zap] at h;obtain ⟨⟨n0,t0,o0⟩,⟨n1,t1,o1⟩⟩:=h;simp only [Op.eqFields,n0,n1,t0,t1,o0,o1,Zbn,ZdI,Zan];simp [go_sem,Zs4];by_cases e0:a0=b0 <;> by_cases e1:a1=b1 <;> by_cases e2:a2=b2 <;> by_cases e3:a3=b3 <;> by_cases e4:a4=b4 <;> simp [e0,e1,e2,e3,e4]
theorem ZhY (f g:Fl) (w:World):(Op.equalIn 10000 108 f.val g.val).run prog w=.ok (decide (f=g)) w:=by
 obtain ⟨a0,a1,a2,a3,a4⟩:=f;obtain ⟨b0,b1,b2,b3,b4⟩:=g;have e:decide (Fl.mk a0 a1 a2 a3 a4=Fl.mk b0 b1 b2 b3 b4)=(a0==b0&&a1==b1&&a2==b2&&a3==b3&&a4==b4):=by
  rw [Zb8];simp [and_assoc]
 rw [e];exact ZpG _ _ _ _ _ _ _ _ _ _ w
end Go.Proofs.YtpjchngjhijgmaaGreat
