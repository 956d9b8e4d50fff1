import Derived.Test.YtpjchngjhijgmaaGreatJP05
set_option linter.all false
set_option maxRecDepth 4000
set_option maxHeartbeats 8000000
open Go.RowKit
open Go.IntKind (i64 u64)
open Go.Value (int pointer slice)
open Go.Obj (cells)
namespace Go.Proofs.YtpjchngjhijgmaaGreat
open Tryz
open HP (pt mapOf)
variable {W w w':World} {I:Hp} {l:List HP}
def Zm0 (keep:List Int) (i:Nat):Int:=(keep[i]?).getD 0
def Zm1 (L:List (K4 × TS)) (k:K4):Option TS->List (K4 × TS)
 | none=>del k L
 | some t=>put k t L
def fallK (S:Str) (k:K4) (n torn:Int):Str :=
 let S1:=showS S k (wrap64 (sizeO (get k S.seen))) (leftS S k n torn).1
 { S1 with dry:=Zm1 S.dry k (leftS S k n torn).1 }
def fallL (keep:List Int) (torn:Int):List K4->Nat->Str->Int->Str × Int
 | [],_,S,n=>(S,n)
 | k::ks,i,S,n=>fallL keep torn ks (i+1) (fallK S k (Zm0 keep i) torn) (wrap64 (n+(leftS S k (Zm0 keep i) torn).2))
def ZiD (S:Str):Str:=fuseS { S with late:=[],wet:=0,on:=false } (-1) [] 0
structure Inv (S:Str) (m:Nat):Prop where
 rise:∀ g,Zbz (Zp S g)
 many:∀ g,(Zp S g).length+m<=100000
 seen:∀ x ∈ S.seen,x.2.small
 dry:∀ x ∈ S.dry,x.2.small
 late:∀ x ∈ S.late,∀ d ∈ x.2,d.fits
 lateN:∀ x ∈ S.late,x.2.length<=100000
theorem Inv.lateAt {S:Str} {m:Nat} (h:Inv S m) (k:K4):(lateAt S k).length<=100000∧∀ d ∈ lateAt S k,d.fits:=by
 unfold Go.Proofs.YtpjchngjhijgmaaGreat.lateAt;cases hg:get k S.late with
 | none=>exact ⟨by simp,fun d hd=>by simp at hd⟩
 | some x=>exact ⟨h.lateN _ (get_mem hg),h.late _ (get_mem hg)⟩
theorem ZhU {L:List (K4 × TS)} (h:∀ x ∈ L,x.2.small) (k:K4):Zdj (get k L):=by
 cases hg:get k L with
 | none=>trivial
 | some t=>exact h _ (get_mem hg)
theorem Zpp {S:Str} {m:Nat} (h:Inv S m) (k:K4) (n torn:Int):Zdj (leftS S k n torn).1:=by
 have h1:=Zpo (l:=(lateAt S k).take (keptN n (lateAt S k).length)) (ZhU h.dry k) (fun d hd=>(h.lateAt k).2 d (ZbI hd));unfold leftS;simp only;split
 ·rename_i d hd;split
  ·exact Zga h1 (ZqO ((h.lateAt k).2 d (ZaG hd)))
  ·exact h1
 ·exact h1
theorem Zkm {ks:List K4} {k:K4} (h:Zbz ks):Zbz (remK k ks):=List.Pairwise.filter _ h
theorem Zkn {ks:List K4} {k:K4} (h:Zbz ks) (hk:k ∉ ks):Zbz (addK k ks):=by
 unfold addK;refine List.pairwise_append.2 ⟨List.Pairwise.filter _ h,List.pairwise_cons.2 ⟨fun a ha=>?_,List.Pairwise.filter _ h⟩,fun a ha b hb=>?_⟩
 ·have h1:=Za4.1 ha;have hne:a≠k:=fun e=>hk (e ▸ h1.1);have h2:a.lt k=false:=by simpa using h1.2
  rw [ZgK] at h2;obtain ⟨a0,a1,a2,a3⟩:=a;obtain ⟨b0,b1,b2,b3⟩:=k;simp only [K4.lt,Zbn,Zk,K4.mk.injEq] at h2 hne |-;omega
 ·have h1:=(Za4.1 ha).2;rcases Z4.1 hb with rfl|hb
  ·exact h1
  ·have h2:b.lt k=false:=by simpa using (Za4.1 hb).2
   rw [ZgK] at h2;obtain ⟨a0,a1,a2,a3⟩:=a;obtain ⟨b0,b1,b2,b3⟩:=b;obtain ⟨k0,k1,k2,k3⟩:=k;simp only [K4.lt,Zbn,Zk] at h1 h2 |-;omega
theorem ZsR (ks:List K4) (k:K4):(remK k ks).length<=ks.length:=ZiX _ _
theorem ZsS (ks:List K4) (k:K4):(addK k ks).length<=ks.length+1:=by
 unfold addK;rw [Zs,Z9];have h:(ks.filter fun a=>a.lt k).length+(ks.filter fun a=>!a.lt k).length=ks.length:=by
  induction ks with
  | nil=>rfl
  | cons a ks ih=>simp only [Zci];cases a.lt k <;> simp <;> omega
 omega
theorem Zl2 {S:Str} {m:Nat} {k:K4} {was:Int} {o:Option TS} (h:Inv S (m+1)) (ho:Zdj o):Inv (showS S k was o) m:=by
 have hk:∀ g,Zp (showS S k was o) g=Zp S g∨(g=k.grp∧((k ∈ Zp S g∧Zp (showS S k was o) g=remK k (Zp S g))∨(k ∉ Zp S g∧Zp (showS S k was o) g=addK k (Zp S g)))):=fun g=>by
  cases o with
  | none =>
   by_cases hm:k ∈ Zp S k.grp
   ·by_cases e:g=k.grp
    ·subst e;right;refine ⟨rfl,.inl ⟨hm,?_⟩⟩;show (get k.grp (showS S k was none).keys).getD []=_;simp only [showS,hm,Zan,ZcU,ZgM]
    ·left;show (get g (showS S k was none).keys).getD []=_;simp only [showS,hm,Zan,Zdv e];rfl
   ·left;show (get g (showS S k was none).keys).getD []=_;simp only [showS,hm,Zas];rfl
  | some t =>
   by_cases hm:k ∈ Zp S k.grp
   ·left;show (get g (showS S k was (some t)).keys).getD []=_;simp only [showS,hm,Zan];rfl
   ·by_cases e:g=k.grp
    ·subst e;right;refine ⟨rfl,.inr ⟨hm,?_⟩⟩;show (get k.grp (showS S k was (some t)).keys).getD []=_;simp only [showS,hm,Zas,ZcU,ZgM]
    ·left;show (get g (showS S k was (some t)).keys).getD []=_;simp only [showS,hm,Zas,Zdv e];rfl
 refine ⟨fun g=>?_,fun g=>?_,?_,h.dry,h.late,h.lateN⟩
 ·rcases hk g with e|⟨_,⟨_,e⟩|⟨hm,e⟩⟩
  ·rw [e];exact h.rise g
  ·rw [e];exact Zkm (h.rise g)
  ·rw [e];exact Zkn (h.rise g) hm
 ·have h1:=h.many g;rcases hk g with e|⟨_,⟨_,e⟩|⟨hm,e⟩⟩
  ·rw [e];omega
  ·rw [e];have:=ZsR (Zp S g) k;omega
  ·rw [e];have:=ZsS (Zp S g) k;omega
 ·intro x hx;cases o with
  | none=>exact h.seen x (Za4.1 hx).1
  | some t =>
   rcases Z4.1 hx with rfl|hx
   ·exact ho
   ·exact h.seen x (Za4.1 hx).1
theorem Zr8 {S:Str} {m:Nat} {k:K4} {n torn:Int} (h:Inv S (m+1)):Inv (fallK S k n torn) m:=by
 have hl:=Zpp h k n torn;have h1:=Zl2 (k:=k) (was:=wrap64 (sizeO (get k S.seen))) h hl;refine ⟨h1.rise,h1.many,h1.seen,?_,h.late,h.lateN⟩;intro x hx;show x.2.small;have hx':x ∈ Zm1 S.dry k (leftS S k n torn).1:=hx;revert hx' hl;cases (leftS S k n torn).1 with
 | none=>exact fun _ hx'=>h.dry x (Za4.1 hx').1
 | some t =>
  intro hl hx';rcases Z4.1 hx' with rfl|hx'
  ·exact hl
  ·exact h.dry x (Za4.1 hx').1
section
variable {p : Nat}
end
section
variable {p : Nat} {S : Str}
set_option maxHeartbeats 16000000
end
def sortK:List K4->List K4
 | []=>[]
 | k::ks=>addK k (sortK ks)
theorem Zl3 (k:K4) (ks:List K4):(addK k ks).Perm (k::ks):=by
 unfold addK;refine ZcI.trans (List.Perm.cons _ ?_);exact ZiT _ _
theorem Zlf:∀ ks:List K4,(sortK ks).Perm ks
 | []=>ZK _
 | k::ks=>(Zl3 k _).trans ((Zlf ks).cons k)
def fallS (S:Str) (keep:List Int) (torn:Int):Str × Int :=
 if S.on then (ZiD (fallL keep torn (sortK (S.late.map (·.1))) 0 S 0).1,(fallL keep torn (sortK (S.late.map (·.1))) 0 S 0).2) else (S,0)
def Z5 (S:Str):Bool × Str :=
 if S.armed then if 0<S.fuse then (false,{ S with fuse:=S.fuse - 1 }) else (true,(fallS S S.keep S.torn).1) else (false,S)
section
variable {p : Nat} {S : Str}
theorem Zko (h:St W I w (Zj p S::l)) (hkn:S.armed=false) (hf:0<=S.fuse∧S.fuse<=9223372036854775807) (hi:S.on=true->Inv S S.late.length) :
  Calls prog 124 #[pointer (some ⟨p,0,none⟩)] w fun e w'=>∃ I',I.sub I'∧e=.returned (.bool (Z5 S).1)∧St W I' w' (Zj p (Z5 S).2::l):=by
 obtain ⟨B,h1⟩:=h.store_open;obtain ⟨hk,h1'⟩:=(h1.pull 5 _ rfl).imm_open;have c9:=h1.blk 9;have c10:=h1.blk 10;have c11:=h1.blk 11;have c12:=h1.blk 12;have f10:=frozen_of_row h1.heap 10;simp [storeCells] at c9 c10 c11 c12;have hk:IntsI I B.vk S.keep:=hk;have HK:=Zh hk;obtain ⟨A,c,hvk,_⟩:=hk;rw [hvk] at c12;have H:=Zh h;have H1:=Zh h1;have HI:=Zh hi;clear h h1 h1' hi;have ha:=hkn;clear hkn;rw [ha] at c9;rw [show Z5 S=(false,S) by simp [Z5,ha]];go_enter func124,ntmps124;go_wp2;go_ret;exact ⟨I,Hp.sub.refl _,rfl,H.o⟩
end
section
variable {p : Nat} {S : Str}
theorem St.look_spot {b:Nat} {L:List (K4 × TS)} (h:St W I w (mapOf keyKT ZD b L::l)) (a:K4) :
  ∃ v H,(∀ w2,Below w.heap.size w w2->(Instr.lookup 112 (.map (some b)) (keyKT.kv a) false).run prog w2=.ok v w2)∧St W I w (optHP v (get a L)::H::l)∧Spot a b L H:=by
 rcases h.mapOf_look underlying112 (z:=pointer none) (fun w=>by kernel_rfl) a with ⟨hg,hl⟩|⟨v,x,hg,hl,h1⟩
 ·exact ⟨pointer none,mapOf keyKT ZD b L,fun w2 hw=>hl w2 hw false,by rw [hg];exact St.pure_shut rfl h,ZqL a b L⟩
 ·exact ⟨v,HP.hole keyKT ZD b a v (del a L),fun w2 hw=>hl w2 hw false,by rw [hg];exact h1,ZqM a b v L⟩
theorem Zpq {B:SB} (k:K4) (h:St W I w (Zav B S::l)) :
  ∃ st v w',(Instr.mapEntry 113 (.map (some B.m3)) (keyKT.kv k)).run prog w=.ok (.tuple #[v,goInt (st:Nat)]) w'∧w'.heap.size=w.heap.size ∧
   St W I w' (ZbO v (lateAt S k)::HP.held keyKT ZbO B.m3 k v st (del k S.late)::l):=by
 obtain ⟨st,v,w',hr,hs,h1|⟨x,hg,h1⟩⟩:=St.mapOf_entry h underlying113 (z:=slice none 0 0) (fun w=>by kernel_rfl) k
 ·obtain ⟨hg,rfl,h2⟩:=h1;refine ⟨st,_,w',hr,hs,?_⟩;rw [show lateAt S k=[] by simp [lateAt,hg]];exact ZqN _ _ _ h2
 ·refine ⟨st,v,w',hr,hs,?_⟩;rw [show lateAt S k=x by simp [lateAt,hg]];exact h1
theorem Zkp:∀ (ds:List Dd) (ps:List Value) (d:Dd) (q:Value),ps.length=ds.length->Zeo (ds++[d]) (ps++[q])=Zeo ds ps++[intV d.kind,intV d.n,q,.string d.name]
 | [],[],_,_,_=>rfl
 | d'::ds,q'::ps,d,q,h=>by
  have:=Zkp ds ps d q (by simpa using h);simp only [ZG,Zeo,this]
theorem ZqP:(prog.info? 184).map (fun i=>(i.zero,i.size,i.bytes))=some (some (.agg #[int i64 0,int i64 0,slice none 0 0,.string ⟨#[]⟩]),4,56):=by kernel_rfl
theorem ZnP {v:Value} {ds:List Dd} {g:Nat} (d:Dd) (pv:Value) {f:Nat × Nat} (ty:TypeId) (h:St W I w (ZbO v ds::pt g (cells #[intV d.kind,intV d.n,pv,.string d.name] 184 f)::l)) (hp:BytesI I pv d.p) (hn:ds.length<=1000000) (hone:pv.oneCell'=true) :
  ∃ v' w',(Builtin.append_ #[142,142] ty #[v,slice (some ⟨g,0,none⟩) 1 1]).run prog w=.ok v' w' ∧
   St W I w' (ZbO v' (ds++[d])::pt g (cells #[intV d.kind,intV d.n,pv,.string d.name] 184 f)::l):=by
 obtain ⟨ps,hps,h1⟩:=h.deeds_open;have hc:=Zc (h1.pull 1 _ rfl).heap
 have hsrc:SrcAt w 4 (some ⟨g,0,none⟩) 1 [intV d.kind,intV d.n,pv,.string d.name]:=⟨rfl,fun _=>⟨_,rfl,fun j u hu=>by
  rw [add_plain,ZX,hc j]
  simpa using hu⟩,fun u hu=>by
   simp only [Z4,List.mem_nil_iff,Zbi] at hu;rcases hu with rfl|rfl|rfl|rfl
   ·rfl
   ·rfl
   ·exact hone
   ·rfl⟩
 obtain ⟨i0,hi0,hz0,hz1,hz2⟩:=info_parts ZqP;have hown:=h1.row_owns;obtain ⟨v',w',hr,ho',hgr,hv'⟩:=Zds (P:=prog) w 0 142 ty 184 i0 _ 4 56 underlying142 hi0 hz0 hz1 hz2 rfl (by decide) v ds.length _ hown (some ⟨g,0,none⟩) 1 1 _ hsrc (by intro h;cases h) (by unfold maxLen;omega) (by omega) (ZL _);refine ⟨v',w',hr,St.deeds_shut (ps:=ps++[pv]) ?_ ?_⟩
 ·obtain ⟨e1,e2⟩:=hps;refine ⟨by simp [e1],fun i d' q h1 h2=>?_⟩;rw [ZiY] at h1 h2;by_cases hi:i<ds.length
  ·rw [Zb hi] at h1;rw [Zb (by omega)] at h2;exact e2 i d' q h1 h2
  ·rw [Za hi] at h1;rw [Za (by omega)] at h2;have hi':=(ZH.1 h1).1;simp only [Z9,ZaZ] at hi';have e3:i=ds.length:=by omega
   subst e3;simp only [Zdn,Zg,Zaa] at h1;rw [e1] at h2;simp only [Zdn,Zg,Zaa] at h2;subst h1;subst h2;exact hp
 ·rw [Zkp ds ps d pv hps.1,show (ds++[d]).length=ds.length+1 by simp];exact h1.row_grown ho' hgr hv'
end
def doS (S:Str) (k:K4) (d:Dd):Bool × Str :=
 if (Z5 S).1 then (true,(Z5 S).2) else
  let S1:=(Z5 S).2
  let S2:=showS S1 k (wrap64 (sizeO (get k S1.seen))) (stepD (get k S1.seen) d)
  (false,{ S2 with late:=put k (lateAt S2 k++[d]) S2.late,wet:=wrap64 (S2.wet+1),deeds:=wrap64 (S2.deeds+1) })
def offE (b:Bool):Int:=if b then 7 else 0
theorem ZhV {S:Str} (h:(Z5 S).1=false):∃ f,(Z5 S).2={ S with fuse:=f }:=by
 unfold Z5 at *;split
 ·rename_i ha;rw [Zb ha] at h;split
  ·exact ⟨_,rfl⟩
  ·rename_i hf;rw [Za hf] at h;cases h
 ·exact ⟨S.fuse,rfl⟩
section
variable {p : Nat} {S : Str}
theorem Zmw {v:Value} {o:Option TS} (h:St W I w (optHP v o::l)):∃ q,v=pointer q:=by
 cases o with
 | none=>exact ⟨_,h.pure_open.1⟩
 | some t =>
  obtain ⟨b,m,vb,e,_⟩:=St.thing_open (v:=v) (t:=t) h;exact ⟨_,e⟩
theorem ZdB (k:K4) (d:Dd) (pv:Value) (h:St W I w (Zj p S::l)) (hp:BytesI I pv d.p) (hd:d.fits) (hkn:S.armed=false) (hf:0<=S.fuse∧S.fuse<=9223372036854775807) (hi:Inv S S.late.length) :
  Calls prog 132 #[pointer (some ⟨p,0,none⟩),k.val,.agg #[int i64 d.kind,int i64 d.n,pv,.string d.name]] w fun e w'=>∃ I',I.sub I'∧e=.returned (int i64 (offE (doS S k d).1))∧St W I' w' (Zj p (doS S k d).2::l):=by
 obtain ⟨k0,k1,k2,k3⟩:=k;unfold K4.val;have HPV:=Zh hp;obtain ⟨Ap,cp,rfl,_⟩:=hp;have h1:=(h.alloc (cells #[int i64 k0,int i64 k1,int i64 k2,int i64 k3] 43)).alloc (cells #[int i64 d.kind,int i64 d.n,slice Ap d.p.length cp,.string d.name] 184);rw [show (w.alloc (cells #[int i64 k0,int i64 k1,int i64 k2,int i64 k3] 43)).heap.size=w.heap.size+1 by simp] at h1;obtain ⟨w1,hw1⟩:∃ w1,(w.alloc (cells #[int i64 k0,int i64 k1,int i64 k2,int i64 k3] 43)).alloc (cells #[int i64 d.kind,int i64 d.n,slice Ap d.p.length cp,.string d.name] 184)=w1:=⟨_,rfl⟩;rw [hw1] at h1;have HW1:=Zh hw1;have hbs:=Zko (h1.pull 2 _ rfl) hkn hf (fun _=>hi);have HBS:=Zh hbs;have HI:=Zh hi;have HD:=Zh hd;clear h h1 hw1 hbs hi hd;go_enter func132,ntmps132;go_wp2_with fail;rw [HW1.o];refine HBS.o.mono ?_;clear HBS;rintro e w2 ⟨I2,hs2,rfl,h2⟩;have HS2:=Zh hs2;cases hb:(Z5 S).1 with
 | true =>
  have H2:=Zh h2;have HB:=Zh hb;have HDO:=Zh (show doS S ⟨k0,k1,k2,k3⟩ d=(true,(Z5 S).2) by simp [doS,hb]);clear h2 hs2 hb;go_wp2;go_ret;rw [HDO.o];exact ⟨I2,HS2.o,rfl,((H2.o.pull 2 _ rfl).drop.pull 1 _ rfl).drop⟩
 | false =>
  obtain ⟨S1,hS1⟩:∃ S1,(Z5 S).2=S1:=⟨_,rfl⟩;obtain ⟨f,hf1⟩:=ZhV hb;rw [hS1] at h2 hf1;have hi1:Inv S1 S1.late.length:=by rw [hf1];exact ⟨HI.o.rise,HI.o.many,HI.o.seen,HI.o.dry,HI.o.late,HI.o.lateN⟩
  obtain ⟨S2,hS2⟩:∃ S2,showS S1 ⟨k0,k1,k2,k3⟩ (wrap64 (sizeO (get ⟨k0,k1,k2,k3⟩ S1.seen))) (stepD (get ⟨k0,k1,k2,k3⟩ S1.seen) d)=S2:=⟨_,rfl⟩;have hdo:doS S ⟨k0,k1,k2,k3⟩ d=(false,{ S2 with late:=put ⟨k0,k1,k2,k3⟩ (lateAt S2 ⟨k0,k1,k2,k3⟩++[d]) S2.late,wet:=wrap64 (S2.wet+1),deeds:=wrap64 (S2.deeds+1) }):=by
   rw [<-hS2,<-hS1];simp only [doS,hb];rfl
  have HS2':=Zh hS2;have HDO:=Zh hdo;have HB:=Zh hb;have HI1:=Zh hi1;obtain ⟨B,h3⟩:=h2.store_open;have c5:=h3.blk 5;have hxk:=(h3.pull 7 _ rfl).heap;have x0:=Zc hxk 0;have x1:=Zc hxk 1;have x2:=Zc hxk 2;have x3:=Zc hxk 3;simp [storeCells] at c5 x0 x1 x2 x3;obtain ⟨v,X,hlk,h4,hX⟩:=(h3.drew.pull 1 _ rfl).look_spot ⟨k0,k1,k2,k3⟩;have hlk0:=hlk _ (ZI _ _);simp only [keyKT,K4.val] at hlk0;obtain ⟨q,rfl⟩:=Zmw h4;have H4:=Zh h4;have HX:=Zh hX;clear h2 h3 h4 hX hlk hxk hs2 hb hi1 hS1 hdo hS2 hf1;go_wp2_with fail;refine ZaM [] [0,1,2,3,4,5,6] [] (by kernel_rfl) (by kernel_rfl) ?_;simp only [pickL,Zg,Zi];repeat (refine ZaE _ (Or.inl ⟨by rfl,by intro w;go_simp;try with_reducible rfl⟩) ?_;(try go_frame))
  refine ZaF ?_;repeat still_step
  refine ZaQ ?_;go_wp2;refine Zw ?_;clear hlk0 c5 x0 x1 x2 x3;go_wp2_with fail;have hi1:=HI1.o;have hsm:=ZhU hi1.seen ⟨k0,k1,k2,k3⟩;refine (Zr6 H4.o hsm).mono ?_;rintro e w5 ⟨rfl,h5⟩;have hxk:=(h5.pull 8 _ rfl).heap;have x0:=Zc hxk 0;have x1:=Zc hxk 1;have x2:=Zc hxk 2;have x3:=Zc hxk 3;have hyk:=(h5.pull 7 _ rfl).heap;have y0:=Zc hyk 0;have y1:=Zc hyk 1;have y2:=Zc hyk 2;have y3:=Zc hyk 3;simp at x0 x1 x2 x3 y0 y1 y2 y3;have HSM:=Zh hsm;have H5:=Zh h5;clear hxk hyk hi1 hsm h5 H4;go_wp2_with fail;refine Zay (fun w'=>w'.cell? ⟨w.heap.size,0,none⟩=some (int i64 k0)∧w'.cell? ⟨w.heap.size,1,none⟩=some (int i64 k1)∧w'.cell? ⟨w.heap.size,2,none⟩=some (int i64 k2)∧w'.cell? ⟨w.heap.size,3,none⟩=some (int i64 k3)∧w'.cell? ⟨w.heap.size+1,0,none⟩=some (int i64 d.kind)∧w'.cell? ⟨w.heap.size+1,1,none⟩=some (int i64 d.n)∧w'.cell? ⟨w.heap.size+1,2,none⟩=some (slice Ap d.p.length cp)∧w'.cell? ⟨w.heap.size+1,3,none⟩=some (.string d.name)) [0,1,2,3,4] [5] [6] (by kernel_rfl) (by kernel_rfl) (by (exact ⟨x0,x1,x2,x3,y0,y1,y2,y3⟩)) ?_;simp only [pickL,Zg,Zi];repeat (refine ZM _ (Or.inl ⟨by rfl,by (intro w hSw;(try dsimp only at hSw);go_simp;try with_reducible rfl)⟩) ?_;(try go_frame))
  refine Z7 ?_;unfold Zr;go_wp2_with fail;refine (ZsP (slice Ap d.p.length cp) d HD.o HSM.o H5.o.drew ((ZbX _ _).mono HS2.o HPV.o)).mono ?_;rintro e w6 ⟨I6,v6,hs6,rfl,h6⟩;have h6:St W I6 w6 (optHP v6 (stepD (get ⟨k0,k1,k2,k3⟩ S1.seen) d)::X::Zab p S1 B::dryHP B S1::Zav B S1::keyHP B S1::HP.imm (ZbD B.vk S1.keep)::pt (w.heap.size+1) (cells #[int i64 d.kind,int i64 d.n,slice Ap d.p.length cp,.string d.name] 184)::pt w.heap.size (cells #[int i64 k0,int i64 k1,int i64 k2,int i64 k3] 43)::l):=h6;obtain ⟨q6,rfl⟩:=Zmw h6;have hxk:=(h6.pull 8 _ rfl).heap;have x0':=Zc hxk 0;have x1':=Zc hxk 1;have x2':=Zc hxk 2;have x3':=Zc hxk 3;have hyk:=(h6.pull 7 _ rfl).heap;have y0':=Zc hyk 0;have y1':=Zc hyk 1;have y2':=Zc hyk 2;have y3':=Zc hyk 3;simp at x0' x1' x2' x3' y0' y1' y2' y3';have hcall:=ZsQ (Zga HSM.o HD.o) ⟨k0,k1,k2,k3⟩ HX.o (wrap64 (sizeO (get ⟨k0,k1,k2,k3⟩ S1.seen))) (h6.perm (m:=Zab p S1 B::X::dryHP B S1::Zav B S1::keyHP B S1::optHP (pointer q6) (stepD (get ⟨k0,k1,k2,k3⟩ S1.seen) d)::HP.imm (ZbD B.vk S1.keep)::pt (w.heap.size+1) (cells #[int i64 d.kind,int i64 d.n,slice Ap d.p.length cp,.string d.name] 184)::pt w.heap.size (cells #[int i64 k0,int i64 k1,int i64 k2,int i64 k3] 43)::l) (by ((try simp only [ZE,ZF,ZG,Zu]);repeat (first|with_reducible exact ZK _|(apply ZP;(· repeat (first|with_reducible exact ZO|with_reducible apply ZN))))))) (HI1.o.rise _) (by have:=HI1.o.many (⟨k0,k1⟩:G2);exact Zaw (Zdp _ _) this);rw [HS2'.o] at hcall;simp only [K4.val] at hcall;have HCALL:=Zh hcall;have HS6:=Zh hs6;clear h6 hxk hyk hcall hs6 x0 x1 x2 x3 y0 y1 y2 y3;go_wp2;refine Zm ⟨x0',x1',x2',x3',y0',y1',y2',y3'⟩ ?_;unfold Zr;go_wp2_with fail;refine HCALL.o.mono ?_;rintro e w7 ⟨rfl,h7⟩;have H7:=Zh h7;clear h7 HCALL x0' x1' x2' x3' y0' y1' y2' y3';go_wp2;refine Zw ?_;have h7:=H7.o;have c7:=h7.blk 7;have hxk:=(h7.pull 7 _ rfl).heap;have x0:=Zc hxk 0;have x1:=Zc hxk 1;have x2:=Zc hxk 2;have x3:=Zc hxk 3;have hyk:=(h7.pull 6 _ rfl).heap;have y0:=Zc hyk 0;have y1:=Zc hyk 1;have y2:=Zc hyk 2;have y3:=Zc hyk 3;simp [storeCells] at c7 x0 x1 x2 x3 y0 y1 y2 y3;clear h7 hxk hyk;go_wp2_with fail;refine Zjj (fun w'=>w'.cell? ⟨p,7,none⟩=some (.map (some B.m3))∧w'.cell? ⟨w.heap.size,0,none⟩=some (int i64 k0)∧w'.cell? ⟨w.heap.size,1,none⟩=some (int i64 k1)∧w'.cell? ⟨w.heap.size,2,none⟩=some (int i64 k2)∧w'.cell? ⟨w.heap.size,3,none⟩=some (int i64 k3)∧w'.cell? ⟨w.heap.size+1,0,none⟩=some (int i64 d.kind)∧w'.cell? ⟨w.heap.size+1,1,none⟩=some (int i64 d.n)∧w'.cell? ⟨w.heap.size+1,2,none⟩=some (slice Ap d.p.length cp)∧w'.cell? ⟨w.heap.size+1,3,none⟩=some (.string d.name)) [0,1,2,3,4,5] [6] [7] [8,10] [9,11] (by kernel_rfl) (by kernel_rfl) (by (exact ⟨c7,x0,x1,x2,x3,y0,y1,y2,y3⟩)) ?_;simp only [pickL,Zg,Zi];repeat (refine ZM _ (Or.inl ⟨by rfl,by (intro w hSw;(try dsimp only at hSw);go_simp;try with_reducible rfl)⟩) ?_;(try go_frame))
  refine Z7 ?_;unfold Zr;go_wp2_with fail;clear c7 x0 x1 x2 x3 y0 y1 y2 y3;have h8:=(H7.o.alloc (cells #[int i64 d.kind,int i64 d.n,slice Ap d.p.length cp,.string d.name] 184)).drew;obtain ⟨w8,hw8⟩:∃ w8,(w7.alloc (cells #[int i64 d.kind,int i64 d.n,slice Ap d.p.length cp,.string d.name] 184)).drew=w8:=⟨_,rfl⟩;rw [hw8] at h8 |-;clear hw8;have c7:=(h8.pull 1 _ rfl).blk 7;have hxk:=(h8.pull 8 _ rfl).heap;have x0:=Zc hxk 0;have x1:=Zc hxk 1;have x2:=Zc hxk 2;have x3:=Zc hxk 3;have hyk:=(h8.pull 7 _ rfl).heap;have y0:=Zc hyk 0;have y1:=Zc hyk 1;have y2:=Zc hyk 2;have y3:=Zc hyk 3;simp [storeCells] at c7 x0 x1 x2 x3 y0 y1 y2 y3;refine Zm ⟨c7,x0,x1,x2,x3,y0,y1,y2,y3⟩ ?_;unfold Zr;obtain ⟨st,v9,w9,hr9,hs9,h9⟩:=Zpq ⟨k0,k1,k2,k3⟩ (h8.pull 4 _ rfl);simp only [keyKT,K4.val,goInt] at hr9;obtain ⟨ps9,_,h9r⟩:=h9.deeds_open;obtain ⟨A9,c9,rfl⟩:=ZA h9r.row_owns;have hi1:=HI1.o;have hln:(lateAt S2 ⟨k0,k1,k2,k3⟩).length<=1000000:=by
   rw [<-HS2'.o];exact Zaw (hi1.lateAt ⟨k0,k1,k2,k3⟩).1 (by omega)
  obtain ⟨v10,w10,hr10,h10⟩:=ZnP d (slice Ap d.p.length cp) 142 (h9.perm (m:=ZbO _ (lateAt S2 ⟨k0,k1,k2,k3⟩)::pt w7.heap.size (cells #[int i64 d.kind,int i64 d.n,slice Ap d.p.length cp,.string d.name] 184)::HP.held keyKT ZbO B.m3 ⟨k0,k1,k2,k3⟩ _ st (del ⟨k0,k1,k2,k3⟩ S2.late)::Zab p S2 B::Zb5 B S2::dryHP B S2::keyHP B S2::HP.imm (ZbD B.vk S1.keep)::pt (w.heap.size+1) (cells #[int i64 d.kind,int i64 d.n,slice Ap d.p.length cp,.string d.name] 184)::pt w.heap.size (cells #[int i64 k0,int i64 k1,int i64 k2,int i64 k3] 43)::l) (by ((try simp only [ZE,ZF,ZG,Zu]);repeat (first|with_reducible exact ZK _|(apply ZP;(· repeat (first|with_reducible exact ZO|with_reducible apply ZN))))))) ((ZbX _ _).mono (HS2.o.trans HS6.o) HPV.o) hln rfl;obtain ⟨ps10,_,h10r⟩:=h10.deeds_open;obtain ⟨A10,c10,rfl⟩:=ZA h10r.row_owns;obtain ⟨w11,hr11,hs11,h11⟩:=St.held_put (h10.perm (m:=ZbO _ (lateAt S2 ⟨k0,k1,k2,k3⟩++[d])::HP.held keyKT ZbO B.m3 ⟨k0,k1,k2,k3⟩ _ st (del ⟨k0,k1,k2,k3⟩ S2.late)::pt w7.heap.size (cells #[intV d.kind,intV d.n,slice Ap d.p.length cp,.string d.name] 184)::Zab p S2 B::Zb5 B S2::dryHP B S2::keyHP B S2::HP.imm (ZbD B.vk S1.keep)::pt (w.heap.size+1) (cells #[int i64 d.kind,int i64 d.n,slice Ap d.p.length cp,.string d.name] 184)::pt w.heap.size (cells #[int i64 k0,int i64 k1,int i64 k2,int i64 k3] 43)::l) (by ((try simp only [ZE,ZF,ZG,Zu]);repeat (first|with_reducible exact ZK _|(apply ZP;(· repeat (first|with_reducible exact ZO|with_reducible apply ZN))))))) underlying113;simp only [goInt,Zs,Z9,ZaZ,ZX] at hr11;have HR10:=Zh hr10;have HR11:=Zh hr11;have H11:=Zh h11;clear hxk hyk h8 h9 h9r h10 h10r h11 hr10 hr11 hi1 hln hs9 hs11 c7 x0 x1 x2 x3 y0 y1 y2 y3;unfold Zr;go_wp2;refine Zm (S:=fun _=>True) trivial ?_;unfold Zr;clear hr9;repeat (refine ZaE _ (Or.inl ⟨by rfl,by intro w;go_simp;try with_reducible rfl⟩) ?_;(try go_frame))
  refine ZaF ?_;go_wp2_with (at_builtin;refine ZZ _ rfl (.tmp 31) (.tmp 33) 142 142 rfl _ _ rfl rfl _ _ HR10.o ?_;have hr11:=HR11.o);refine Zw ?_;have h11:=H11.o;have c3:=(h11.pull 2 _ rfl).blk 3;have c2:=(h11.pull 2 _ rfl).blk 2;have f3:=frozen_of_row (h11.pull 2 _ rfl).heap 3;have f2:=frozen_of_row (h11.pull 2 _ rfl).heap 2;simp [storeCells] at c3 c2;clear h11;go_wp2;go_ret;have h12:St W I6 _ (Zab p { S2 with late:=put ⟨k0,k1,k2,k3⟩ (lateAt S2 ⟨k0,k1,k2,k3⟩++[d]) S2.late,wet:=wrap64 (S2.wet+1),deeds:=wrap64 (S2.deeds+1) } B::_):=((H11.o.pull 2 _ rfl).setCell 3 (int i64 (wrap64 (S2.wet+1)))).setCell 2 (int i64 (wrap64 (S2.deeds+1)));have hk2:S2.keep=S1.keep:=by rw [<-HS2'.o];rfl
  rw [HDO.o];refine ⟨I6,HS2.o.trans HS6.o,rfl,St.store_shut (B:=B) ?_⟩;rw [show ({ S2 with late:=put ⟨k0,k1,k2,k3⟩ (lateAt S2 ⟨k0,k1,k2,k3⟩++[d]) S2.late,wet:=wrap64 (S2.wet+1),deeds:=wrap64 (S2.deeds+1) }:Str).keep=S1.keep from hk2];exact (((((h12.pull 2 _ rfl).drop.pull 6 _ rfl).drop).pull 6 _ rfl).drop).perm (m:=Zab p { S2 with late:=put ⟨k0,k1,k2,k3⟩ (lateAt S2 ⟨k0,k1,k2,k3⟩++[d]) S2.late,wet:=wrap64 (S2.wet+1),deeds:=wrap64 (S2.deeds+1) } B::Zb5 B S2::dryHP B S2::mapOf keyKT ZbO B.m3 ((⟨k0,k1,k2,k3⟩,lateAt S2 ⟨k0,k1,k2,k3⟩++[d])::del ⟨k0,k1,k2,k3⟩ S2.late)::keyHP B S2::HP.imm (ZbD B.vk S1.keep)::l) (by ((try simp only [ZE,ZF,ZG,Zu]);repeat (first|with_reducible exact ZK _|(apply ZP;(· repeat (first|with_reducible exact ZO|with_reducible apply ZN))))))
end
end Go.Proofs.YtpjchngjhijgmaaGreat
