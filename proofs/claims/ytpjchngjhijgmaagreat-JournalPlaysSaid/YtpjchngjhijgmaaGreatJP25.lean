import Derived.Test.YtpjchngjhijgmaaGreatJP24
set_option linter.all false
set_option maxRecDepth 4000
set_option maxHeartbeats 8000000
open Go.RowKit
open Go.IntKind (i64 u64)
open Go.Value (int pointer slice)
open Go.Obj (cells)
namespace Go.Proofs.YtpjchngjhijgmaaGreat
open Tryz
open HP (pt mapOf)
variable {W w w':World} {I:Hp} {l:List HP}
def Z6 (cs:List Cl):List Value:=cs.flatMap Cl.vals
def Zbm (v:Value) (cs:List Cl):HP:=HP.row 212 3 v cs.length (Z6 cs)
theorem ZbV (cs:List Cl):(Z6 cs).length=cs.length*3:=ZeK (mk:=Cl.vals) (k:=3) (fun _=>rfl) cs
theorem Zh2 (cs:List Cl):∀ u ∈ Z6 cs,u.oneCell'=true:=Zcz cs
section
theorem ZeH (ks:List Cl) (i:Nat):(Z6 ks).take (i*3)=Z6 (ks.take i):=by
 induction ks generalizing i with
 | nil=>simp [Z6]
 | cons t ks ih =>
  cases i with
  | zero=>simp [Z6]
  | succ i =>
   have:=ih i;simp only [Z6,Za0,Zdl] at this |-;rw [Zet,show t.vals.length=3 from rfl,Zba (by show 3<=_;omega),show (i+1)*3 - 3=i*3 by omega,this]
theorem Ze4 (ks:List Cl) (i:Nat):(Z6 ks).drop (i*3)=Z6 (ks.drop i):=by
 induction ks generalizing i with
 | nil=>simp [Z6]
 | cons t ks ih =>
  cases i with
  | zero=>simp [Z6]
  | succ i =>
   have:=ih i;simp only [Z6,Za0,Zd9] at this |-;rw [ZgL,show t.vals.length=3 from rfl,ZbS (by show 3<=_;omega),show (i+1)*3 - 3=i*3 by omega,Zu,this]
theorem ZgV (a b:List Cl):Z6 (a++b)=Z6 a++Z6 b:=by simp [Z6]
theorem ZhF:(prog.info? 212).map (fun i=>(i.zero,i.size,i.bytes))=some (some (.agg #[int i64 0,int i64 0,.bool false]),3,24):=by kernel_rfl
theorem Zny {g n c i:Nat} {ks:List Cl} (h:St W I w (HP.row 212 3 (slice (some ⟨g,0,none⟩) n c) n (Z6 ks)::l)) (hk:ks.length=n) (hi:i<n) (A:Addr) (hA:n - (i+1)=0∨A=⟨g,(i+1)*3,none⟩) (cx:Nat) (ty:TypeId) :
  ∃ w' cur,(Builtin.append_ #[103,103] ty #[slice (some ⟨g,0,none⟩) i c,slice (some A) (n - (i+1)) cx]).run prog w=.ok (slice (some ⟨g,0,none⟩) (n - 1) c) w'∧w'.heap.size=w.heap.size ∧
   n<=c∧c<=maxLen∧cur.size=c*3∧cur.toList.take ((n - 1)*3)=Z6 (ks.eraseIdx i)∧St W I w' (pt g (cells cur 212 (0,0))::l):=by
 obtain ⟨hl,p⟩:=h.row_open;rcases p with ⟨e1,_⟩|⟨g',cap',cur,e1,p3,p4,p5,p6,s⟩
 ·cases e1
 ·simp only [Zz,Zaa,Addr.mk.injEq,Zap,ZaR] at e1;obtain ⟨rfl,rfl⟩:=e1;obtain ⟨i0,hi0,hz0,hz1,hz2⟩:=info_parts ZhF;have hown:=h.row_owns;have hnl:(Z6 (ks.drop (i+1))).length=(n - (i+1))*3:=by rw [ZbV,ZW,hk]
  have hnews:∀ j u,(Z6 (ks.drop (i+1)))[j]?=some u->w.cell? (A.add j)=some u:=fun j u hu=>by
   have hj:=(ZH.1 hu).1;rcases hA with e|rfl
   ·rw [hnl,e] at hj;omega
   ·rw [<-Ze4,Zbw] at hu;have:=hown.cells (g:=g) rfl _ _ hu;rw [add_plain] at this |-;rwa [ZX] at this
  have hr:=run_append_room (P:=prog) w 103 ty 212 i0 underlying103 hi0 g i c cur s.heap A (n - (i+1)) cx (Z6 (ks.drop (i+1))) (by rw [hz1];exact hnl) hnews (fun u hu=>Zh2 _ u hu) (by omega) (by rw [hz1,hnl,p5];omega);rw [show i+(n - (i+1))=n - 1 by omega,hz1] at hr;have hcl:cur.toList.length=c*3:=by simpa using p5
  refine ⟨_,_,hr,by simp [World.setRow],p3,p4,?_,?_,ZeI s⟩
  ·simp only [ZcF,Zs,ZJ,ZW,hnl];omega
  ·have e1:cur.toList.take (i*3)=Z6 (ks.take i):=by
    rw [<-ZeH,<-p6,Zc9,show min (i*3) (n*3)=i*3 by omega]
   rw [e1,ZfG,ZgV];have e2:(Z6 (ks.take i)++Z6 (ks.drop (i+1))).length=(n - 1)*3:=by rw [Zs,hnl,ZbV,ZJ,hk];omega
   rw [<-e2];exact Zer
def ZeR:List Value:=[int i64 0,int i64 0,.bool false]
theorem Zjn {g n c:Nat} {ks:List Cl} {cur:Array Value} (h:St W I w (pt g (cells cur 212 (0,0))::l)) (hn:0<n) (h1:n<=c) (h2:c<=maxLen) (h3:cur.size=c*3) (h4:cur.toList.take ((n - 1)*3)=Z6 ks) (hk:ks.length=n - 1) (cc:Nat) (ty:TypeId) :
  ∃ w',(Builtin.clear_ #[103] ty #[slice (some ⟨g,(n - 1)*3,none⟩) 1 cc]).run prog w=.ok (.tuple #[]) w'∧w'.heap.size=w.heap.size∧St W I w' (Zbm (slice (some ⟨g,0,none⟩) (n - 1) c) ks::l):=by
 have hst:=run_storeCells_at prog g ((n - 1)*3) 212 ZeR 0 cur w h.heap (by show _+0+3<=_;omega) (by intro u hu;simp only [ZeR,Z4,Zbv,Zbi] at hu;rcases hu with rfl|rfl|rfl <;> rfl);have hz:(zeroValue 212).run prog w=.ok (.agg #[int i64 0,int i64 0,.bool false]) w:=by kernel_rfl
 have hr:(Builtin.clear_ #[103] ty #[slice (some ⟨g,(n - 1)*3,none⟩) 1 cc]).run prog w=.ok (.tuple #[]) (w.setRow g (cur.toList.take ((n - 1)*3+0)++ZeR++cur.toList.drop ((n - 1)*3+0+3)).toArray):=by
  have hzc:(Builtin.zeroCells (Value.agg #[int i64 0,int i64 0,.bool false]).cells 1).toList=ZeR:=by kernel_rfl
  simp only [Builtin.clear_];simp [Zbh underlying103,hz,hzc,Result.andThen];have hst2:=hst;simp at hst2;rw [hst2];rfl
 have hcl:cur.toList.length=c*3:=by simpa using h3
 refine ⟨_,hr,by simp [World.setRow],?_⟩;have s:=ZeI (cs:=(cur.toList.take ((n - 1)*3+0)++ZeR++cur.toList.drop ((n - 1)*3+0+3)).toArray) h
 have hs2:St W I _ (HP.row 212 3 (slice (some ⟨g,0,none⟩) (n - 1) c) (n - 1) (Z6 ks)::l):=s.row_shut (by rw [ZbV,hk]) (by omega) h2 (by simp only [ZcF,Zs,ZJ,ZW,ZeR,Z9,ZaZ];omega) (by
  rw [ZV];have e1:(cur.toList.take ((n - 1)*3+0)).length=(n - 1)*3:=by rw [ZJ];omega
  rw [Zet,e1,Zdn,ZfH,Zbc,Zba (by omega),ZaP,h4])
 unfold Zbm;rw [hk];exact hs2
theorem ZnY {v:Value} {ks:List Cl} {i:Nat} (h:St W I w (Zbm v ks::l)) (hn:ks.length<=1000000) (hi:i<ks.length) :
  Calls prog 188 #[v,int i64 i,int i64 ((i:Int)+1)] w fun e w'=>∃ v',e=.returned v'∧St W I w' (Zbm v' (ks.eraseIdx i)::l):=by
 obtain ⟨n,hnn⟩:=Zn ks.length;have hown:=h.row_owns;obtain ⟨g,c,rfl,hnc⟩:∃ g c,v=slice (some ⟨g,0,none⟩) ks.length c∧ks.length<=c:=by
  rcases hown.2 with ⟨_,e2⟩|⟨g,cap,cur,e1,_,_,h1,_⟩
  ·omega
  ·exact ⟨g,cap,e1,h1⟩
 have hs:St W I w (HP.row 212 3 (slice (some ⟨g,0,none⟩) n c) n (Z6 ks)::l):=by rw [hnn];exact h
 rw [<-hnn] at hnc hi hn |-;obtain ⟨q,rfl⟩:∃ q,n=q+1:=⟨n - 1,by omega⟩;have HS:=Zh hs;have HN:=Zh hnn;clear h hown hs hnn;have hne:((i:Int)==(i:Int)+1)=false:=by simp;omega
 have hI1:((i:Int)+1)<=((q:Int)+1):=by omega
 have hic:i<c:=by omega
 have hicl:i<=c:=by omega
 have hin1:i<=q:=by omega
 have h0i:(0:Int)<=(i:Int)+1:=by omega
 have hi0:¬ c=0:=by omega
 have hqc:¬ c=q:=by omega
 by_cases hc:i+1=c
 ·obtain rfl:i=q:=by omega
  subst hc;clear hne hI1 hic hicl hin1 h0i hi0 hqc;have hne:((i:Int)==(i:Int)+1)=false:=by simp;omega
  have h0i:(0:Int)<=(i:Int)+1:=by omega
  have hI1:(i:Int)<=(i:Int)+1:=by omega
  go_enter func188,ntmps188;go_wp2_with fail;obtain ⟨hl,p⟩:=HS.o.drew.row_open;obtain ⟨g',cap',cur,e1,p3,p4,p5,p6,s⟩:∃ g' cap cur,slice (some ⟨g,0,none⟩) (i+1) (i+1)=slice (some ⟨g',0,none⟩) (i+1) cap∧(i+1)<=cap∧cap<=maxLen∧cur.size=cap*3∧cur.toList.take ((i+1)*3)=Z6 ks∧St W I w.drew (pt g' (cells cur 212 (0,0))::l):=by
   rcases p with ⟨e1,_⟩|h1
   ·cases e1
   ·exact h1
  simp only [Zz,Zaa,Addr.mk.injEq,Zap,ZaR] at e1;obtain ⟨rfl,rfl⟩:=e1;obtain ⟨w6,hr6,hs6,h6⟩:=Zjn (ks:=ks.eraseIdx i) s (by omega) p3 p4 p5 (by rw [ZiV,ZfG,ZbS (by have:=HN.o;omega),Zbc,<-ZeH,<-p6,Zc9,show min (i*3) ((i+1)*3)=i*3 by omega]) (by rw [ZiW,<-HN.o,Zb hi]) 1 0;rw [show i+1 - 1=i by omega] at hr6 h6;have H6:=Zh h6;clear hl p p3 p4 p5 p6 s h6
  go_still_tail 6,(by kernel_rfl)
  change wpList _ _ _ _ _ w.drew;generalize w.drew=w2 at *;all_goals
   go_wp2;go_ret;exact ⟨_,rfl,H6.o⟩
 ·have hcc:¬ (c=i+1):=fun e=>hc e.symm;go_enter func188,ntmps188;go_wp2_with fail;obtain ⟨w5,cur,hr5,hs5,h51,h52,h53,h54,h55⟩:=Zny HS.o.drew HN.o.symm hi ⟨g,(i+1)*3,none⟩ (.inr rfl) (c - (i+1)) 103;rw [show q+1 - (i+1)=q - i by omega,show q+1 - 1=q by omega] at hr5;obtain ⟨w6,hr6,hs6,h6⟩:=Zjn h55 (by omega) h51 h52 h53 h54 (by rw [ZiW,<-HN.o,Zb hi]) (c - q) 0;rw [show q+1 - 1=q by omega] at hr6 h6;have H6:=Zh h6;have HR5:=Zh hr5;clear h55 hr5 h6 h51 h52 h53 h54
  go_region_law (refine Zja (by rfl) (.tmp 22) (.tmp 25) 103 103 (by rfl) (slice (some ⟨g,0,none⟩) i c) (slice (some ⟨g,(i+1)*3,none⟩) (q - i) (c - (i+1))) (by rfl) (by rfl) (slice (some ⟨g,0,none⟩) q c) w5 HR5.o ?_)
  all_goals
   go_wp2;go_ret;exact ⟨_,rfl,H6.o⟩
end
def cinsK (i:Nat) (k:Cl) (ks:List Cl):List Cl:=ks.take i++k::ks.drop i
section
variable {P : Program}
theorem ZpW {X v ys R:List Value} {a:Nat} (hv:v.length=3) (h:a+3<=X.length) :
  (((X.take (a+3)++ys++R).take a++v++(X.take (a+3)++ys++R).drop (a+v.length)).take (a+3+ys.length))=X.take a++(v++ys):=by
 rw [hv,ZjL h,ZjM (a:=a+3) h];have e:X.take a++v++(ys++R)=(X.take a++(v++ys))++R:=by simp [ZV]
 rw [e,ZdJ (by simp only [Zs,ZJ,hv];omega)]
theorem ZjY (i:Nat) (k:Cl) (ks:List Cl):Z6 (cinsK i k ks)=Z6 (ks.take i)++(k.vals++Z6 (ks.drop i)):=by
 unfold cinsK;rw [ZgV];rfl
theorem ZoP {v:Value} {ks:List Cl} {gv:Nat} {k0 k1:Int} {k2:Bool} (h:St W I w (pt gv (cells #[int i64 k0,int i64 k1,.bool k2] 212)::Zbm v ks::l)) (hn:ks.length<=1000000) :
  Calls prog 160 #[v,int i64 ks.length,slice (some ⟨gv,0,none⟩) 1 1] w fun e w'=>∃ v',e=.returned v'∧St W I w' (Zbm v' (ks++[⟨k0,k1,k2⟩])::l):=by
 obtain ⟨i0,hi0,hz0,hz1,hz2⟩:=info_parts ZhF;have hg:=h.heap;have h2:=h.pull 1 _ rfl;have hown:=h2.row_owns
 have hsrc:SrcAt w 3 (some ⟨gv,0,none⟩) 1 [int i64 k0,int i64 k1,.bool k2]:=⟨rfl,fun _=>⟨_,rfl,fun j u hu=>by
  rw [add_plain,ZX];have hj:=(ZH.1 hu).1;have:=Zc hg j;simp only [Z9,ZaZ] at hj;rw [this]
  simpa using hu⟩,by simp [Value.oneCell']⟩
 obtain ⟨v',w',hr,ho',hgr,hv'⟩:=Zds (P:=prog) w 0 103 103 212 i0 _ 3 24 underlying103 hi0 hz0 hz1 hz2 rfl (by decide) v ks.length _ hown (some ⟨gv,0,none⟩) 1 1 _ hsrc (by intro h;cases h) (by unfold maxLen;omega) (by omega) (ZL _);have h3:=(h2.row_grown ho' hgr hv').pull 1 _ rfl;have h4:St W I w' (Zbm v' (ks++[⟨k0,k1,k2⟩])::l):=by
  have h5:=h3.drop;have e:Z6 (ks++[⟨k0,k1,k2⟩])=Z6 ks++[int i64 k0,int i64 k1,.bool k2]:=ZgV _ _;have e2:(ks++[(⟨k0,k1,k2⟩:Cl)]).length=ks.length+1:=by simp
  unfold Zbm;rw [e2];show St W I w' (HP.row _ 3 v' _ (Z6 _)::l);rw [e];exact h5
 obtain ⟨A,c,rfl,hA⟩:∃ A c,v=slice A ks.length c∧((A=none∧c=0∧ks.length=0)∨∃ g,A=some ⟨g,0,none⟩∧ks.length<=c):=by
  rcases hown.2 with ⟨e1,e2⟩|⟨g,cap,cur,e1,_,_,h1,_⟩
  ·exact ⟨none,0,by rw [e1,e2],.inl ⟨rfl,rfl,e2⟩⟩
  ·exact ⟨_,_,e1,.inr ⟨g,rfl,h1⟩⟩
 obtain ⟨n,hnn⟩:=Zn ks.length;rw [<-hnn] at hr hA hn |-;have H4:=Zh h4;have HR:=Zh hr;clear h4 h3 ho' hgr hv' hsrc hown h2 hg h hz0 hz1 hz2 hi0 hnn hr;rcases hA with ⟨rfl,rfl,rfl⟩|⟨g,rfl,hnc⟩
 ·go_enter func160,ntmps160;go_wp2_with (at_builtin;refine ZZ _ rfl (.tmp 23) (.tmp 24) 103 103 rfl _ _ rfl rfl v' w' HR.o ?_);go_ret;exact ⟨_,rfl,H4.o⟩
 ·by_cases hcn:c=n
  ·subst hcn;go_enter func160,ntmps160;go_wp2_with (at_builtin;refine ZZ _ rfl (.tmp 23) (.tmp 24) 103 103 rfl _ _ rfl rfl v' w' HR.o ?_);go_ret;exact ⟨_,rfl,H4.o⟩
  ·go_enter func160,ntmps160;go_wp2_with (at_builtin;refine ZZ _ rfl (.tmp 23) (.tmp 24) 103 103 rfl _ _ rfl rfl v' w' HR.o ?_);go_ret;exact ⟨_,rfl,H4.o⟩
theorem ZnZ {v:Value} {ks:List Cl} {i gv g c:Nat} {k0 k1:Int} {k2:Bool} (h:St W I w (pt gv (cells #[int i64 k0,int i64 k1,.bool k2] 212)::Zbm v ks::l)) (hn:ks.length<=1000000) (hi:i<ks.length) (hv:v=slice (some ⟨g,0,none⟩) ks.length c) (hc:ks.length<c) :
  Calls prog 160 #[v,int i64 i,slice (some ⟨gv,0,none⟩) 1 1] w fun e w'=>∃ v',e=.returned v'∧St W I w' (Zbm v' (cinsK i ⟨k0,k1,k2⟩ ks)::l):=by
 subst hv;obtain ⟨n,hnn⟩:=Zn ks.length;rw [<-hnn] at hn hi hc |-;have hg:=h.heap;obtain ⟨hl,p⟩:=(h.pull 1 _ rfl).row_open;obtain ⟨cur,p3,p4,p5,p6,s⟩:∃ cur,ks.length<=c∧c<=maxLen∧cur.size=c*3∧cur.toList.take (ks.length*3)=Z6 ks∧St W I w (pt g (cells cur 212 (0,0))::pt gv (cells #[int i64 k0,int i64 k1,.bool k2] 212)::l):=by
  rcases p with ⟨e1,_⟩|⟨g',cap',cur,e1,h2,h3,h4,h5,h6⟩
  ·cases e1
  ·simp only [Zz,Zaa,Addr.mk.injEq,Zap,ZaR] at e1;obtain ⟨rfl,rfl⟩:=e1;exact ⟨cur,h2,h3,h4,h5,h6⟩
 have hne:=s.ne;have S:=Zh s;have P6:=Zh p6;have HN:=Zh hnn;obtain ⟨w1,hr1,hs1,s1⟩:=s.drew.copy_run (P:=prog) (g:=g) (o:=(i+1)*3) (dLen:=n - i) (dCap:=c - (i+1)) (n:=n - i) (sLen:=n+1 - i) (sCap:=c - i) (size:=3) (a:=⟨g,i*3,none⟩) (dT:=103) (sT:=103) (ty:=3) (cs:=Z6 (ks.drop i)) underlying103 (by kernel_rfl) (by show min _ _=_;omega) (by rw [ZbV,ZW,<-hnn])
  (by
    intro j v hj;rw [add_plain];rw [<-Ze4,<-p6,Zbw,ZcG] at hj;split at hj
    ·have:=Zc s.drew.heap (i*3+j);rw [this];simpa using hj
    ·cases hj) (by rw [ZbV,ZW,<-hnn,p5];omega) (fun u hu=>Zh2 _ u hu)
 have hX:ks.length*3<=cur.toList.length:=by simp [p5];omega
 have hl1:(cur.toList.take ((i+1)*3)++Z6 (ks.drop i)++cur.toList.drop ((i+1)*3+(Z6 (ks.drop i)).length)).length=c*3:=by
  simp only [Zs,ZJ,ZW,ZbV,Zfz,p5,<-hnn];omega
 obtain ⟨w2,hr2,hs2,s2⟩:=s1.copy_run (P:=prog) (g:=g) (o:=i*3) (dLen:=n+1 - i) (dCap:=c - i) (n:=1) (sLen:=1) (sCap:=1) (size:=3) (a:=⟨gv,0,none⟩) (dT:=103) (sT:=103) (ty:=3) (cs:=[int i64 k0,int i64 k1,.bool k2]) underlying103 (by kernel_rfl) (by show min _ _=_;omega) rfl
  (by
    intro j v hj;rw [add_plain,ZX];have:=Zc (s1.pull 1 _ rfl).heap j;rw [this]
    simpa using hj) (by rw [ZcF,hl1];simp;omega) (by simp [Value.oneCell'])
 have h3:St W I w2 (Zbm (slice (some ⟨g,0,none⟩) (n+1) c) (cinsK i ⟨k0,k1,k2⟩ ks)::l):=by
  have h4:=((s2.pull 1 _ rfl).drop);simp only [ZE,ZF] at h4;have e:(cinsK i ⟨k0,k1,k2⟩ ks).length=n+1:=by simp [cinsK];omega
  unfold Zbm;rw [e];refine h4.row_shut (xs:=Z6 (cinsK i ⟨k0,k1,k2⟩ ks)) (by rw [ZbV,e]) (by omega) p4 ?_ ?_
  ·simp only [ZcF,Zs,ZJ,ZW,hl1,Z9,ZaZ];omega
  ·have e2:cur.toList.take (i*3)=Z6 (ks.take i):=by
    rw [<-ZeH,<-p6,Zc9,show min (i*3) (ks.length*3)=i*3 by omega]
   have e3:=ZpW (X:=cur.toList) (v:=[int i64 k0,int i64 k1,.bool k2]) (ys:=Z6 (ks.drop i)) (R:=cur.toList.drop ((i+1)*3+(Z6 (ks.drop i)).length)) (a:=i*3) rfl (by omega);rw [e2,ZbV,ZW,<-hnn] at e3;rw [ZjY,ZbV,ZW,<-hnn];rw [show (n+1)*3=i*3+3+(n - i)*3 by omega];rw [show (i+1)*3=i*3+3 by omega] at e3 |-;exact e3
 have H3:=Zh h3;have HR1:=Zh hr1;have HR2:=Zh hr2;clear h3 hr1 hr2 hs1 hs2 s1 s2 hX hl1;have hov:(callFunc 186 #[slice (some ⟨gv,0,none⟩) 1 1,slice (some ⟨g,(i+1)*3,none⟩) (n - i) (c - (i+1))]).run prog w=.ok (.value (.bool false)) w:=by
  have hgg:=s.heap
  rw [run_callFunc_extern func186 (by kernel_rfl) (by kernel_rfl) (by kernel_rfl) (e:=Extern.SlicesOverlaps.overlaps #[103,103] #[4]) (by kernel_rfl),
   Lib.run_overlaps_apart w 103 4 212 underlying103 3 (fun w=>by kernel_rfl) ⟨gv,0,none⟩ ⟨g,(i+1)*3,none⟩ 1 1 (n - i) (c - (i+1)) (Ne.symm hne) 212 212 3 (c*3) (by simp [World.shape?,hg]) (by simp [World.shape?,hgg,p5]) (by omega) (by simp [World.frozen?,hg]) (by simp [World.frozen?,hg])]
  rfl
 clear h hl p p6 s p5 hnn p3;have h1:((i:Int)==(n:Int))=false:=by simp;omega
 have h2:((n:Int)+1)<=(c:Int):=by omega
 have h3:(n:Int)<=(c:Int):=by omega
 have h4:¬ (i=n):=by omega
 have h5:n+1<=c:=by omega
 have h6:i<=n:=by omega
 have h7:¬ (c=i):=by omega
 have h8:¬ (c=i+1):=by omega
 have h9:((i:Int)+1)<=(n:Int)+1:=by omega
 have h10:((i:Int))<=(n:Int)+1:=by omega
 have h11:((i:Int))<=(n:Int):=by omega
 go_enter func160,ntmps160;go_wp2_with fail;have z1:IntKind.i64.wrap ((i:Int)+1)=(i:Int)+1:=by rw [Zx];omega
 have z2:(0:Int)<=(i:Int)+1:=by omega
 have z3:((i:Int)+1).toNat=i+1:=by omega
 go_still_tail 8,(by kernel_rfl)
 change wpList _ _ _ _ _ w.drew;refine ZeB rfl (.tmp 73) (.tmp 76) 103 103 rfl _ _ rfl rfl _ _ HR1.o ?_;have hr2:=HR2.o;clear z1 z2 z3;go_wp2;go_ret;exact ⟨_,rfl,H3.o⟩
end
section
theorem ZpX {X v ys Z:List Value} {a:Nat} (hv:v.length=3) (ha:X.length=a) (h:3+ys.length<=Z.length) :
  ((((X++Z).take a++v++(X++Z).drop (a+v.length)).take (a+3)++ys++((X++Z).take a++v++(X++Z).drop (a+v.length)).drop (a+3+ys.length)).take (a+3+ys.length))=X++(v++ys):=by
 have e1:(X++Z).take a=X:=by rw [<-ha];exact Zer
 rw [e1];have e2:(X++v++(X++Z).drop (a+v.length)).take (a+3)=X++v:=by
  rw [ZdJ (by rw [Zs,ha,hv])]
 rw [e2,ZdJ (by simp only [Zs,hv,ha]),ZV]
theorem Zn0 {v:Value} {ks:List Cl} {i gv g:Nat} {k0 k1:Int} {k2:Bool} (h:St W I w (pt gv (cells #[int i64 k0,int i64 k1,.bool k2] 212)::Zbm v ks::l)) (hn:ks.length<=1000000) (hi:i<ks.length) (hv:v=slice (some ⟨g,0,none⟩) ks.length ks.length) :
  Calls prog 160 #[v,int i64 i,slice (some ⟨gv,0,none⟩) 1 1] w fun e w'=>∃ v',e=.returned v'∧St W I w' (Zbm v' (cinsK i ⟨k0,k1,k2⟩ ks)::l):=by
 obtain ⟨i0,hi0,hz0,hz1,hz2⟩:=info_parts ZhF;subst hv;obtain ⟨n,hnn⟩:=Zn ks.length;have hown:=(h.pull 1 _ rfl).row_owns;rw [<-hnn] at hn hi |-;have hold:∀ j u,(Z6 (ks.take i))[j]?=some u->w.cell? ((⟨g,0,none⟩:Addr).add j)=some u:=fun j u hu=>by
  rw [<-ZeH,ZcG] at hu;split at hu
  ·exact hown.cells (g:=g) rfl j u hu
  ·cases hu
 have hr:=Zm6 (P:=prog) w 103 3 103 212 i0 _ i64 i64 underlying103 underlying3 hi0 hz0 (some ⟨g,0,none⟩) i n (Z6 (ks.take i))
  (by rw [hz1];exact run_firstCells_some w.drew 3 i _ i n _ (by rw [ZbV,ZJ];omega) hold) (n+1 - i) (by omega) (by omega) (by omega) (by omega) (by rw [hz2];omega) (growslice_fits (by omega) (by rw [hz2];omega))
 rw [show i+(n+1 - i)=n+1 by omega] at hr;have hge:=grownCap_ge w (n+1) n 212;have hcm:grownCap w (n+1) n 212<=maxLen:=grownCap_le_maxLen w (n+1) n 212 (by unfold maxLen;omega);generalize grownCap w (n+1) n 212=c at hr hge hcm;obtain ⟨Z,hZ⟩:∃ Z:Array Value,Z=Builtin.zeroCells (Value.agg #[int i64 0,int i64 0,.bool false]).cells (n+1 - i)++Builtin.zeroCells (Value.agg #[int i64 0,int i64 0,.bool false]).cells (c - (n+1)):=⟨_,rfl⟩;have hZs:Z.size=(c - i)*3:=by
  rw [hZ,ZiL,size_zeroCells,size_zeroCells];show (n+1 - i)*3+(c - (n+1))*3=_;omega
 rw [Array.append_assoc,<-hZ] at hr;have s0:St W I (w.drew.alloc (cells ((Z6 (ks.take i)).toArray++Z) 212)) (pt w.heap.size (cells ((Z6 (ks.take i)).toArray++Z) 212 (0,0))::_):=h.drew.alloc _;have hlt:∀ b o,w.heap[b]?=some o->(w.drew.alloc (cells ((Z6 (ks.take i)).toArray++Z) 212)).heap[b]?=some o:=fun b o hb=>(ZiP w.drew _ _ (Za9.1 hb).1).trans hb;have hX:(Z6 (ks.take i)).length=i*3:=by rw [ZbV,ZJ];omega
 obtain ⟨w1,hr1,hs1,s1⟩:=s0.copy_run (P:=prog) (g:=w.heap.size) (o:=i*3) (dLen:=n+1 - i) (dCap:=c - i) (n:=1) (sLen:=1) (sCap:=1) (size:=3) (a:=⟨gv,0,none⟩) (dT:=103) (sT:=103) (ty:=3) (cs:=[int i64 k0,int i64 k1,.bool k2]) underlying103 (by kernel_rfl) (by show min _ _=_;omega) rfl
  (by
    intro j v hj;rw [add_plain,ZX];have:=Zc (hlt _ _ h.heap) j;rw [this]
    simpa using hj) (by simp [hZs,hX];omega) (by simp [Value.oneCell'])
 have hrow:=s1.pull 2 _ rfl;rw [<-hnn] at hrow;obtain ⟨w2,hr2,hs2,s2⟩:=s1.drew.copy_run (P:=prog) (g:=w.heap.size) (o:=(i+1)*3) (dLen:=n - i) (dCap:=c - (i+1)) (n:=n - i) (sLen:=n - i) (sCap:=n - i) (size:=3) (a:=⟨g,i*3,none⟩) (dT:=103) (sT:=103) (ty:=3) (cs:=Z6 (ks.drop i)) underlying103 (by kernel_rfl) (by show min _ _=_;omega) (by rw [ZbV,ZW,<-hnn])
  (by
    intro j v hj;rw [add_plain];rw [<-Ze4,Zbw] at hj;have:=hrow.drew.row_owns.cells (g:=g) rfl _ _ hj
    rwa [add_plain,ZX] at this) (by simp [hZs,hX,ZbV];omega) (fun u hu=>Zh2 _ u hu)
 have h3:St W I w2 (Zbm (slice (some ⟨w.heap.size,0,none⟩) (n+1) c) (cinsK i ⟨k0,k1,k2⟩ ks)::l):=by
  have h4:St W I w2 (pt w.heap.size _::l):=((s2.pull 1 _ rfl).drop.pull 1 _ rfl).drop;have e:(cinsK i ⟨k0,k1,k2⟩ ks).length=n+1:=by simp [cinsK];omega
  unfold Zbm;rw [e];refine h4.row_shut (xs:=Z6 (cinsK i ⟨k0,k1,k2⟩ ks)) (by rw [ZbV,e]) (by omega) hcm ?_ ?_
  ·simp [hZs,hX,ZbV];omega
  ·have e3:=ZpX (X:=Z6 (ks.take i)) (v:=[int i64 k0,int i64 k1,.bool k2]) (ys:=Z6 (ks.drop i)) (Z:=Z.toList) (a:=i*3) rfl hX (by simp [hZs,ZbV];omega);rw [ZjY];rw [ZbV,ZW,<-hnn] at e3 |-;rw [show (n+1)*3=i*3+3+(n - i)*3 by omega,show (i+1)*3=i*3+3 by omega];have e4:((Z6 (ks.take i)).toArray++Z).toList=Z6 (ks.take i)++Z.toList:=by simp
   rw [<-e4] at e3;exact e3
 rw [show ((n+1 - i:Nat):Int)=(n:Int)+1 - (i:Int) by omega] at hr;have H3:=Zh h3;have HR:=Zh hr;have HR1:=Zh hr1;have HR2:=Zh hr2;generalize w.drew.alloc (cells ((Z6 (ks.take i)).toArray++Z) 212)=w0 at *;clear h3 hr hr1 hr2 hs1 hs2 s1 s2 hX hrow hlt s0 hZs hZ hold hown h hi0 hz0 hz1 hz2 hnn;have h1:((i:Int)==(n:Int))=false:=by simp;omega
 have h2:((n:Int)+1)<=(c:Int):=by omega
 have h4:¬ (i=n):=by omega
 have h6:i<=n:=by omega
 have h7:¬ (c=i):=by omega
 have h8:¬ (c=i+1):=by omega
 have h7':¬ (n=i):=by omega
 have h9:((i:Int)+1)<=(n:Int)+1:=by omega
 have h10:((i:Int))<=(n:Int)+1:=by omega
 have h11:((i:Int))<=(n:Int):=by omega
 go_enter func160,ntmps160;go_wp2_with (at_builtin;refine ZZ _ rfl (.tmp 34) (.tmp 39) 103 3 rfl _ _ rfl rfl _ _ HR.o ?_;have hr1:=HR1.o);have z1:IntKind.i64.wrap ((i:Int)+1)=(i:Int)+1:=by rw [Zx];omega
 have z2:(0:Int)<=(i:Int)+1:=by omega
 have z3:((i:Int)+1).toNat=i+1:=by omega
 clear hr1
 go_still_tail 8,(by kernel_rfl)
 change wpList _ _ _ _ _ w1.drew;have e5:n+1 - (i+1)=n - i:=by omega
 first
  | refine ZeB rfl (.tmp 50) (.tmp 53) 103 103 rfl _ _ rfl rfl _ _ HR2.o ?_
  |(rw [<-e5] at HR2;refine ZeB rfl (.tmp 50) (.tmp 53) 103 103 rfl _ _ rfl rfl _ _ HR2.o ?_)
 clear z1 z2 z3;go_wp2;go_ret;exact ⟨_,rfl,H3.o⟩
theorem Zn1 {v:Value} {ks:List Cl} {i gv:Nat} (k:Cl) (h:St W I w (pt gv (cells #[int i64 k.id,int i64 k.pos,.bool k.off] 212)::Zbm v ks::l)) (hn:ks.length<=1000000) (hi:i<=ks.length) :
  Calls prog 160 #[v,int i64 i,slice (some ⟨gv,0,none⟩) 1 1] w fun e w'=>∃ v',e=.returned v'∧St W I w' (Zbm v' (cinsK i k ks)::l):=by
 obtain ⟨k0,k1,k2⟩:=k;by_cases hin:i=ks.length
 ·subst hin;have e:cinsK ks.length ⟨k0,k1,k2⟩ ks=ks++[⟨k0,k1,k2⟩]:=by simp [cinsK]
  rw [e];exact ZoP h hn
 ·rcases (h.pull 1 _ rfl).row_owns.2 with ⟨e1,e2⟩|⟨g,cap,cur,e1,_,_,h1,_⟩
  ·omega
  ·by_cases hc:cap=ks.length
   ·subst hc;exact Zn0 h hn (by omega) e1
   ·exact ZnZ h hn (by omega) e1 (by omega)
end
theorem Zfg:∀ (l:List Cl) (id:Int),(Zaf l id).1<=l.length∧((Zaf l id).2=true->(Zaf l id).1<l.length)
 | [],_=>⟨ZC _,fun h=>by cases h⟩
 | c::l,id=>by
  unfold Zaf;have ih:=Zfg l id;split
  ·exact ⟨ZL _,fun _=>by simp⟩
  ·simp only [Z9];exact ⟨by omega,fun h=>by have:=ih.2 h;omega⟩
theorem Zh3 {l:List Cl} {id pos:Int} (h:(ZaU l id pos).2=0):(ZaU l id pos).1<l.length:=by
 unfold ZaU at h |-;split at h
 ·cases h
 split at h
 ·cases h
 rename_i h1 h2;rw [Za h1,Za h2];exact (Zfg l id).2 (by simpa using h2)
section
theorem Zg8 (A:Option Addr) (c:Nat) (cs:List Cl) (id pos:Int) (h:St W I w l) (hv:RowI I 3 (slice A cs.length c) cs.length (cs.flatMap Cl.vals)) (hn:cs.length<=1000000) :
  Calls prog 161 #[slice A cs.length c,int i64 id,int i64 pos] w fun e w'=>e=.returned (.tuple #[int i64 ((ZaU cs id pos).1:Nat),int i64 (ZaU cs id pos).2])∧Below w.heap.size w w':=by
 have HRT:=Zh (Zg2 _ cs h hv hn);have HPL:=Zh (fun w1 (h1:St W I w1 l)=>Zjw _ cs id h1 hv hn);obtain ⟨⟨kn,kw⟩,hR⟩:∃ x,x=ZaU cs id pos:=⟨_,rfl⟩;rw [<-hR];unfold ZaU at hR;obtain ⟨r,hr⟩:=Zn (Zae cs);obtain ⟨m,hm⟩:=Zn (mayC id pos);obtain ⟨⟨pn,pb⟩,hp⟩:∃ x,x=Zaf cs id:=⟨_,rfl⟩;rw [<-hr] at HRT;rw [<-hp] at HPL;rw [<-hr,<-hm,<-hp] at hR;have HM:=Zh (Zhw id pos);rw [<-hm] at HM;have HX:=Zh hR;have H:=Zh h;obtain ⟨n,hnn⟩:=Zn cs.length;rw [<-hnn] at HRT HPL |-;clear h hv hn hR hr hm hp hnn;go_enter func161,ntmps161;go_wp2_with fail;refine HRT.o.mono ?_;rintro e w2 ⟨rfl,hb2⟩;have HB2:=Zh hb2;clear hb2 HRT;cases r with
 | false =>
  have e1:=HX.o.trans (Zb (.inl rfl));simp only [Zv] at e1;obtain ⟨rfl,rfl⟩:=e1;go_wp2;go_ret2;exact ⟨rfl,HB2.o⟩
 | true =>
  go_wp2_with fail;refine (HM.o _).mono ?_;rintro e w3 ⟨rfl,rfl⟩;cases m with
  | false =>
   have e1:=HX.o.trans (Zb (.inr rfl));simp only [Zv] at e1;obtain ⟨rfl,rfl⟩:=e1;go_wp2;go_ret2;exact ⟨rfl,HB2.o⟩
  | true =>
   have HX2:=Zh (HX.o.trans (Za (by simp)));go_wp2_with fail;refine (HPL.o _ (H.o.keep HB2.o)).mono ?_;rintro e w4 ⟨rfl,hb4⟩;have HB4:=Zh (HB2.o.trans (hb4.mono HB2.o.size));clear hb4 HB2;cases pb with
   | false =>
    have e1:=HX2.o.trans (Zb rfl);simp only [Zv] at e1;obtain ⟨rfl,rfl⟩:=e1;go_wp2;go_ret2;exact ⟨rfl,HB4.o⟩
   | true =>
    have e1:=HX2.o.trans (Za (by simp));simp only [Zv] at e1;obtain ⟨rfl,rfl⟩:=e1;go_wp2;go_ret2;exact ⟨rfl,HB4.o⟩
theorem Ze9 {α:Type} {f:α->α}:∀ {l:List α} {i:Nat} {a:α},l[i]?=some a->l.modify i f=l.set i (f a)
 | [],i,a,h=>by simp at h
 | x::l,0,a,h=>by
  simp only [Zg,Zaa] at h;subst h;simp
 | x::l,i+1,a,h=>by
  rw [List.modify_succ_cons,Ze,Ze9 (by simpa using h)]
theorem Znz (A:Option Addr) (c:Nat) (cs:List Cl) (id pos:Int) (h:St W I w l) (hv:RowI I 3 (slice A cs.length c) cs.length (cs.flatMap Cl.vals)) (hn:cs.length<=1000000) :
  Calls prog 163 #[slice A cs.length c,int i64 id,int i64 pos] w fun e w'=>∃ I' v,I.sub I'∧e=.returned (.tuple #[v,int i64 (Za5 cs id pos).2])∧RowI I' 3 v (Za5 cs id pos).1.length ((Za5 cs id pos).1.flatMap Cl.vals)∧St W I' w' l:=by
 have HKN:=Zh (Zg8 A c cs id pos h hv hn);have HCL:=Zh (fun w1 (h1:St W I w1 l)=>ZeG (slice A cs.length c) cs.length (cs.flatMap Cl.vals) w1 (hv.src h1.imm (Zcz _) (by omega)) hn);obtain ⟨⟨rs,rw'⟩,hR⟩:∃ x,x=Za5 cs id pos:=⟨_,rfl⟩;rw [<-hR];unfold Za5 at hR;have hlt:=@Zh3 cs id pos;obtain ⟨⟨kn,kw⟩,hk⟩:∃ x,x=ZaU cs id pos:=⟨_,rfl⟩;rw [<-hk] at HKN hR hlt;have HX:=Zh hR;have H:=Zh h;have HN:=Zh hn;obtain ⟨n,hnn⟩:=Zn cs.length;rw [<-hnn] at HKN HCL hlt |-;have HNN:=Zh hnn;have HLT:=Zh hlt;clear h hv hn hR hk hlt hnn;go_enter func163,ntmps163;go_wp2_with fail;refine HKN.o.mono ?_;rintro e w2 ⟨rfl,hb2⟩;have H2:=Zh (H.o.keep hb2);clear hb2 HKN;by_cases hkw:kw=0
 ·subst hkw;have HX2:=Zh (HX.o.trans (Za (by simp)));have hkl:=HLT.o (by first|rfl|trivial);go_wp2_with fail;refine (HCL.o _ H2.o).mono ?_;rintro e w3 ⟨v3,rfl,ho3,hb3⟩;obtain ⟨A3,c3,rfl⟩:=ZA ho3;have h3:=H2.o.row_fresh hb3 ho3;have H3:=Zh h3;clear ho3 hb3 h3 HCL H2;obtain ⟨cl,hcl⟩:∃ x,cs[kn]?=some x:=⟨_,Zy (by rw [<-HNN.o];exact hkl)⟩;have h3:St W I w3 (HP.row 212 3 (slice A3 cs.length c3) cs.length (cs.flatMap Cl.vals)::l):=by rw [<-HNN.o];exact H3.o
  obtain ⟨g3,rfl,hcc⟩:=h3.rowk_cells (fun _=>rfl) hcl;have y0:=hcc 0 (by omega);have y1:=hcc 1 (by omega);have y2:=hcc 2 (by omega);obtain ⟨h4,f4,l4⟩:=h3.row_set (mk:=Cl.vals) (fun _=>rfl) (j:=1) (a':={ cl with pos:=max cl.pos pos }) (v:=int i64 (max cl.pos pos)) hcl (by omega) rfl;have f4:=f4 (kn*3+1);have hmod:rs=cs.set kn ({ cl with pos:=max cl.pos pos }):=by
   have e1:=HX2.o;simp only [Zv] at e1;rw [e1.1];exact Ze9 hcl
  have hrw:rw'=0:=by
   have e1:=HX2.o;simp only [Zv] at e1;exact e1.2
  subst hrw;rw [<-hmod] at h4;have hrl:cs.length=rs.length:=by rw [hmod,List.length_set]
  rw [hrl] at h4;obtain ⟨I5,s5,hR5,h5⟩:=h4.freeze_row;obtain ⟨cid,cpos,coff⟩:=cl;simp only [Cl.vals,Zg,Zi,ZaP] at y0 y1 y2;simp only at h4 h5 hmod;have hnr:n=rs.length:=by rw [HNN.o,hrl]
  have HNR:=Zh hnr;have HR5:=Zh hR5;have S5:=Zh s5;have H5:=Zh h5;have hn1:n<=1000000:=by rw [HNN.o];exact HN.o
  have hki:(kn:Int)<(n:Int):=by omega
  clear h3 h4 h5 hR5 s5 hcc hcl hmod hrl hnr H3 HX HX2;go_wp2;go_ret2;rw [HNR.o];exact ⟨I5,_,S5.o,rfl,HR5.o,H5.o⟩
 ·have e1:=HX.o.trans (Zb hkw);simp only [Zv] at e1;obtain ⟨rfl,rfl⟩:=e1;have hne:(rw' != 0)=true:=by simpa using hkw
  go_wp2;go_ret2;exact ⟨I,_,Hp.sub.refl _,rfl,ZbB _ _,H2.o⟩
theorem ZoQ (A:Option Addr) (c:Nat) (cs:List Cl) (id:Int) (off:Bool) (h:St W I w l) (hv:RowI I 3 (slice A cs.length c) cs.length (cs.flatMap Cl.vals)) (hn:cs.length<=1000000) :
  Calls prog 109 #[slice A cs.length c,int i64 id,.bool off] w fun e w'=>∃ I' v,I.sub I'∧e=.returned (.tuple #[v,int i64 (turnC cs id off).2])∧RowI I' 3 v (turnC cs id off).1.length ((turnC cs id off).1.flatMap Cl.vals)∧St W I' w' l:=by
 have HKN:=Zh (Zg8 A c cs id 0 h hv hn);have HCL:=Zh (fun w1 (h1:St W I w1 l)=>ZeG (slice A cs.length c) cs.length (cs.flatMap Cl.vals) w1 (hv.src h1.imm (Zcz _) (by omega)) hn);obtain ⟨⟨rs,rw'⟩,hR⟩:∃ x,x=turnC cs id off:=⟨_,rfl⟩;rw [<-hR];unfold turnC at hR;have hlt:=@Zh3 cs id 0;obtain ⟨⟨kn,kw⟩,hk⟩:∃ x,x=ZaU cs id 0:=⟨_,rfl⟩;rw [<-hk] at HKN hR hlt;have HX:=Zh hR;have H:=Zh h;have HN:=Zh hn;obtain ⟨n,hnn⟩:=Zn cs.length;rw [<-hnn] at HKN HCL hlt |-;have HNN:=Zh hnn;have HLT:=Zh hlt;clear h hv hn hR hk hlt hnn;go_enter func109,ntmps109;go_wp2_with fail;refine HKN.o.mono ?_;rintro e w2 ⟨rfl,hb2⟩;have H2:=Zh (H.o.keep hb2);clear hb2 HKN;by_cases hkw:kw=0
 ·subst hkw;have HX2:=Zh (HX.o.trans (Za (by simp)));have hkl:=HLT.o (by first|rfl|trivial);go_wp2_with fail;refine (HCL.o _ H2.o).mono ?_;rintro e w3 ⟨v3,rfl,ho3,hb3⟩;obtain ⟨A3,c3,rfl⟩:=ZA ho3;have h3:=H2.o.row_fresh hb3 ho3;have H3:=Zh h3;clear ho3 hb3 h3 HCL H2;obtain ⟨cl,hcl⟩:∃ x,cs[kn]?=some x:=⟨_,Zy (by rw [<-HNN.o];exact hkl)⟩;have h3:St W I w3 (HP.row 212 3 (slice A3 cs.length c3) cs.length (cs.flatMap Cl.vals)::l):=by rw [<-HNN.o];exact H3.o
  obtain ⟨g3,rfl,hcc⟩:=h3.rowk_cells (fun _=>rfl) hcl;have y0:=hcc 0 (by omega);have y1:=hcc 1 (by omega);have y2:=hcc 2 (by omega);obtain ⟨h4,f4,l4⟩:=h3.row_set (mk:=Cl.vals) (fun _=>rfl) (j:=2) (a':={ cl with off:=off }) (v:=.bool off) hcl (by omega) rfl;have f4:=f4 (kn*3+2);have hmod:rs=cs.set kn ({ cl with off:=off }):=by
   have e1:=HX2.o;simp only [Zv] at e1;rw [e1.1];exact Ze9 hcl
  have hrw:rw'=0:=by
   have e1:=HX2.o;simp only [Zv] at e1;exact e1.2
  subst hrw;rw [<-hmod] at h4;have hrl:cs.length=rs.length:=by rw [hmod,List.length_set]
  rw [hrl] at h4;obtain ⟨I5,s5,hR5,h5⟩:=h4.freeze_row;obtain ⟨cid,cpos,coff⟩:=cl;simp only [Cl.vals,Zg,Zi,ZaP] at y0 y1 y2;simp only at h4 h5 hmod;have hnr:n=rs.length:=by rw [HNN.o,hrl]
  have HNR:=Zh hnr;have HR5:=Zh hR5;have S5:=Zh s5;have H5:=Zh h5;have hn1:n<=1000000:=by rw [HNN.o];exact HN.o
  have hki:(kn:Int)<(n:Int):=by omega
  clear h3 h4 h5 hR5 s5 hcc hcl hmod hrl hnr H3 HX HX2;go_wp2;go_ret2;rw [HNR.o];exact ⟨I5,_,S5.o,rfl,HR5.o,H5.o⟩
 ·have e1:=HX.o.trans (Zb hkw);simp only [Zv] at e1;obtain ⟨rfl,rfl⟩:=e1;have hne:(rw' != 0)=true:=by simpa using hkw
  go_wp2;go_ret2;exact ⟨I,_,Hp.sub.refl _,rfl,ZbB _ _,H2.o⟩
theorem ZoR (A:Option Addr) (c:Nat) (cs:List Cl) (id:Int) (h:St W I w l) (hv:RowI I 3 (slice A cs.length c) cs.length (cs.flatMap Cl.vals)) (hn:cs.length<=1000000) :
  Calls prog 162 #[slice A cs.length c,int i64 id] w fun e w'=>∃ I' v,I.sub I'∧e=.returned (.tuple #[v,int i64 (dropC cs id).2])∧RowI I' 3 v (dropC cs id).1.length ((dropC cs id).1.flatMap Cl.vals)∧St W I' w' l:=by
 have HKN:=Zh (Zg8 A c cs id 0 h hv hn);have HCL:=Zh (fun w1 (h1:St W I w1 l)=>ZeG (slice A cs.length c) cs.length (cs.flatMap Cl.vals) w1 (hv.src h1.imm (Zcz _) (by omega)) hn);obtain ⟨⟨rs,rw'⟩,hR⟩:∃ x,x=dropC cs id:=⟨_,rfl⟩;rw [<-hR];unfold dropC at hR;have hlt:=@Zh3 cs id 0;obtain ⟨⟨kn,kw⟩,hk⟩:∃ x,x=ZaU cs id 0:=⟨_,rfl⟩;rw [<-hk] at HKN hR hlt;have HX:=Zh hR;have H:=Zh h;have HN:=Zh hn;obtain ⟨n,hnn⟩:=Zn cs.length;rw [<-hnn] at HKN HCL hlt |-;have HNN:=Zh hnn;have HLT:=Zh hlt;clear h hv hn hR hk hlt hnn;go_enter func162,ntmps162;go_wp2_with fail;refine HKN.o.mono ?_;rintro e w2 ⟨rfl,hb2⟩;have H2:=Zh (H.o.keep hb2);clear hb2 HKN;by_cases hkw:kw=0
 ·subst hkw;have HX2:=Zh (HX.o.trans (Za (by simp)));have hkl:=HLT.o (by first|rfl|trivial);go_wp2_with fail;refine (HCL.o _ H2.o).mono ?_;rintro e w3 ⟨v3,rfl,ho3,hb3⟩;obtain ⟨A3,c3,rfl⟩:=ZA ho3;have h3:=H2.o.row_fresh hb3 ho3;have H3:=Zh h3;clear ho3 hb3 h3 HCL H2;have hki:(kn:Int)<(n:Int):=by omega
  have hn1:n<=1000000:=by rw [HNN.o];exact HN.o
  have w1:IntKind.i64.wrap ((kn:Int)+1)=(kn:Int)+1:=by rw [Zx];omega
  have h3:St W I w3 (Zbm (slice A3 n c3) cs::l):=by
   have h9:=H3.o;unfold Zbm;rw [HNN.o] at h9 |-;exact h9
  have HDL:=Zh (ZnY (i:=kn) h3 HN.o (by rw [<-HNN.o];exact hkl));have e1:=HX2.o;simp only [Zv] at e1;obtain ⟨rfl,rfl⟩:=e1;clear h3 HX HX2 H3;go_wp2_with fail;refine HDL.o.mono ?_;rintro e w4 ⟨v4,rfl,h4⟩;obtain ⟨I5,s5,hR5,h5⟩:=St.freeze_row h4;have hR6:=hR5;obtain ⟨A5,c5,ev,_⟩:=hR6;subst ev;have HR5:=Zh hR5;have S5:=Zh s5;have H5:=Zh h5;clear h4 h5 hR5 s5 HDL;go_wp2;go_ret2;exact ⟨I5,_,S5.o,rfl,HR5.o,H5.o⟩
 ·have e1:=HX.o.trans (Zb hkw);simp only [Zv] at e1;obtain ⟨rfl,rfl⟩:=e1;have hne:(rw' != 0)=true:=by simpa using hkw
  go_wp2;go_ret2;exact ⟨I,_,Hp.sub.refl _,rfl,ZbB _ _,H2.o⟩
theorem ZpY (A:Option Addr) (c:Nat) (cs:List Cl) (id pos:Int) (h:St W I w l) (hv:RowI I 3 (slice A cs.length c) cs.length (cs.flatMap Cl.vals)) (hn:cs.length<=1000000) :
  Calls prog 108 #[slice A cs.length c,int i64 id,int i64 pos] w fun e w'=>∃ I' v,I.sub I'∧e=.returned (.tuple #[v,int i64 (addC cs id pos).2])∧RowI I' 3 v (addC cs id pos).1.length ((addC cs id pos).1.flatMap Cl.vals)∧St W I' w' l:=by
 have HRT:=Zh (Zg2 _ cs h hv hn);have HPL:=Zh (fun w1 (h1:St W I w1 l)=>Zjw _ cs id h1 hv hn);have HCL:=Zh (fun w1 (h1:St W I w1 l)=>ZeG (slice A cs.length c) cs.length (cs.flatMap Cl.vals) w1 (hv.src h1.imm (Zcz _) (by omega)) hn);obtain ⟨⟨rs,rw'⟩,hR⟩:∃ x,x=addC cs id pos:=⟨_,rfl⟩;rw [<-hR];unfold addC at hR;have hple:=(Zfg cs id).1;obtain ⟨r,hr⟩:=Zn (Zae cs);obtain ⟨m,hm⟩:=Zn (mayC id pos);obtain ⟨⟨pn,pb⟩,hp⟩:∃ x,x=Zaf cs id:=⟨_,rfl⟩;rw [<-hr] at HRT;rw [<-hp] at HPL hple;rw [<-hr,<-hm,<-hp] at hR;have HM:=Zh (Zhw id pos);rw [<-hm] at HM;have HX:=Zh hR;have H:=Zh h;obtain ⟨n,hnn⟩:=Zn cs.length;rw [<-hnn] at HRT HPL HCL hple |-;have HN:=Zh hn;have HNN:=Zh hnn;have HPLE:=Zh hple;clear h hv hn hR hr hm hp hnn hple;go_enter func108,ntmps108;go_wp2_with fail;refine HRT.o.mono ?_;rintro e w2 ⟨rfl,hb2⟩;have H2:=Zh (H.o.keep hb2);clear hb2 HRT;cases r with
 | false =>
  have e1:=HX.o.trans (Zb (.inl rfl));simp only [Zv] at e1;obtain ⟨rfl,rfl⟩:=e1;go_wp2;go_ret2;exact ⟨I,_,Hp.sub.refl _,rfl,ZbB _ _,H2.o⟩
 | true =>
  go_wp2_with fail;refine (HM.o _).mono ?_;rintro e w3 ⟨rfl,rfl⟩;cases m with
  | false =>
   have e1:=HX.o.trans (Zb (.inr rfl));simp only [Zv] at e1;obtain ⟨rfl,rfl⟩:=e1;go_wp2;go_ret2;exact ⟨I,_,Hp.sub.refl _,rfl,ZbB _ _,H2.o⟩
  | true =>
   have HX2:=Zh (HX.o.trans (Za (by simp)));go_wp2_with fail;refine (HPL.o _ H2.o).mono ?_;rintro e w4 ⟨rfl,hb4⟩;have H4:=Zh (H2.o.keep hb4);clear hb4 H2;cases pb with
   | true =>
    have e1:=HX2.o.trans (Zb rfl);simp only [Zv] at e1;obtain ⟨rfl,rfl⟩:=e1;go_wp2;go_ret2;exact ⟨I,_,Hp.sub.refl _,rfl,ZbB _ _,H4.o⟩
   | false =>
    have HX3:=Zh (HX2.o.trans (Za (by simp)));rw [<-HNN.o] at HX3;by_cases h4:n=4
    ·have e1:=HX3.o.trans (Zb h4);simp only [Zv] at e1;obtain ⟨rfl,rfl⟩:=e1;have HNN4:=Zh h4;have hn4:((n:Int)==4)=true:=by rw [h4];rfl
     clear h4;go_wp2;go_ret2;exact ⟨I,_,Hp.sub.refl _,rfl,ZbB _ _,H4.o⟩
    ·have e1:=HX3.o.trans (Za h4);simp only [Zv] at e1;obtain ⟨hrs,rfl⟩:=e1;have hn4:((n:Int)==4)=false:=by simp;omega
     have hrs2:rs=cinsK pn ⟨id,pos,false⟩ cs:=by rw [hrs];unfold cinsK;simp
     have HRS:=Zh hrs2;clear hrs hrs2 h4;go_wp2_with fail;refine (HCL.o _ H4.o).mono ?_;rintro e w5 ⟨v5,rfl,ho5,hb5⟩;obtain ⟨A5,c5,rfl⟩:=ZA ho5;have h5:=H4.o.row_fresh hb5 ho5;have h6:=(h5.alloc (cells #[int i64 id,int i64 pos,.bool false] 212));have h7:St W I (w5.alloc (cells #[int i64 id,int i64 pos,.bool false] 212)) (pt w5.heap.size (cells #[int i64 id,int i64 pos,.bool false] 212)::Zbm (slice A5 n c5) cs::l):=by
      unfold Zbm;rw [<-HNN.o];exact h6
     have HIN:=Zh (Zn1 (i:=pn) ⟨id,pos,false⟩ h7 HN.o (by rw [<-HNN.o];exact HPLE.o));clear ho5 hb5 h5 h6 h7 HCL H4;go_wp2_with fail;refine HIN.o.mono ?_;rintro e w6 ⟨v6,rfl,h8⟩;rw [<-HRS.o] at h8;obtain ⟨I9,s9,hR9,h9⟩:=St.freeze_row h8;have hR6:=hR9;obtain ⟨A9,c9,ev,_⟩:=hR6;subst ev;have HR9:=Zh hR9;have S9:=Zh s9;have H9:=Zh h9;clear h8 h9 hR9 s9 HIN;go_wp2;go_ret2;exact ⟨I9,_,S9.o,rfl,HR9.o,H9.o⟩
end
end Go.Proofs.YtpjchngjhijgmaaGreat
