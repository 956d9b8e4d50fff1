import Derived.Deep.CutRange
import Derived.Test.YtcbdghojlbpomaaGreatIF03
import Derived.Shelf.SlSortCmp.NoneTotal
import Derived.Shelf.SlGeneric
import Derived.Ground.SlsfProg
import Derived.Sort.Grow
set_option linter.all false
set_option maxRecDepth 4000
set_option maxHeartbeats 8000000
open Go.RowKit
open Go.IntKind (i64 u64)
open Go.Value (int pointer slice)
open Go.Obj (cells)
namespace Go.Proofs.YtcbdghojlbpomaaGreat
open Tryz
open HP (pt mapOf)
variable {W w w':World} {I:Hp} {l:List HP}
def lateAt (S:Str) (k:K4):List Dd:=(get k S.late).getD []
def keptN (keep:Int) (n:Nat):Nat:=(max 0 (min keep n)).toNat
def tornD (torn:Int) (d:Dd):Dd:={ d with p:=d.p.take (min torn.toNat (d.p.length - 1)) }
def leftS (S:Str) (k:K4) (keep torn:Int):Option TS × Int :=
 let l:=lateAt S k
 let n:=keptN keep l.length
 let t:=(l.take n).foldl stepD (get k S.dry)
 (match l[n]? with
   | some d=>if d.kind=1∧0<torn∧d.p≠[] then stepD t (tornD torn d) else t
   | none=>t,(l.length:Int) - n)
theorem ZfE {o:Option TS} {d:Dd} (h:ZcM o) (hd:d.fits):ZcM (stepD o d):=by
 obtain ⟨⟨h0,h1,h2,h3⟩,h4,h5⟩:=hd;unfold stepD;split
 ·exact ⟨by simp,by simp⟩
 split
 ·trivial
 cases o with
 | none=>trivial
 | some t =>
  simp only;split
  ·refine ⟨?_,h.2⟩;simp only [ZgN];split
   ·exact h.1
   ·have:=h.1;omega
  split
  ·exact ⟨by have:=h.1;simp [ZN];omega,h.2⟩
  split
  ·rename_i hk;refine ⟨h.1,?_⟩;simp only [Zb7];intro x hx;split at hx
   ·exact h.2 x ((Z1.1 hx).1)
   ·rcases ZO.1 hx with rfl|hx
    ·exact h3 hk
    ·exact h.2 x ((Z1.1 hx).1)
  ·exact h
theorem Zm9 {l:List Dd}:∀ {o:Option TS},ZcM o->(∀ d ∈ l,d.fits)->ZcM (l.foldl stepD o):=by
 induction l with
 | nil=>exact fun h _=>h
 | cons d l ih=>exact fun h hd=>ih (ZfE h (hd d (Z0 ..))) fun x hx=>hd x (Z8 _ hx)
section
variable {p : Nat} {S : Str}
theorem Zom (I:Hp) (w:World) (l:List HP) (h:St W I w l):St W I w (Zbo (slice none 0 0) []::l) :=
 St.ex_shut [] (St.all_shut (St.imm_shut (A:=psIP [] []) ⟨rfl,fun i d p h=>by simp at h⟩ (h.row_nil _ _)))
theorem St.deeds_open {v:Value} {ds:List Dd} (h:St W I w (Zbo v ds::l)):∃ ps,(psIP ds ps).p I∧St W I w (HP.row 244 4 v ds.length (ZdU ds ps)::l):=by
 obtain ⟨ps,h⟩:=h.ex_open;obtain ⟨hp,h⟩:=(St.all_open h).imm_open;exact ⟨ps,hp,h⟩
theorem St.deeds_shut {v:Value} {ds:List Dd} {ps:List Value} (hp:(psIP ds ps).p I) (h:St W I w (HP.row 244 4 v ds.length (ZdU ds ps)::l)):St W I w (Zbo v ds::l) :=
 St.ex_shut ps (St.all_shut (St.imm_shut hp h))
theorem Zon {d:Dd} {torn:Int} (h:d.fits):(tornD torn d).fits:=by
 obtain ⟨⟨h0,h1,h2,h3⟩,h4,h5⟩:=h;have e:(tornD torn d).p.length<=d.p.length:=by simp [tornD,ZN];omega
 exact ⟨⟨h0,by show d.n+_<=_;omega,by omega,fun hk=>by have:=h3 hk;omega⟩,h4,h5⟩
set_option maxHeartbeats 16000000
end
end Go.Proofs.YtcbdghojlbpomaaGreat
namespace Go.Proofs
open Go.Shelf
def Tryz.sortK_ren:Go.Shelf.Ren:=⟨fun|6=>193|15=>226|14=>225|28=>248|29=>249|20=>240|21=>241|22=>242|23=>243|24=>244|25=>245|26=>246|27=>247|46=>254|47=>255|48=>256|49=>257|50=>258|57=>261|n=>n,fun|22=>165|24=>150|25=>171|3=>3|39=>43|0=>0|53=>280|55=>152|4=>4|46=>291|45=>290|50=>248|5=>5|9=>9|66=>302|70=>282|76=>308|77=>112|n=>n,fun|n=>n⟩
end Go.Proofs
namespace Go.Proofs.YtcbdghojlbpomaaGreat
open Tryz
open HP (pt mapOf)
variable {W w w':World} {I:Hp} {l:List HP}
open Go.Sort Go.Shelf Go.Lib Go.Proofs
instance:Inhabited K4:=⟨⟨0,0,0,0⟩⟩
theorem Zft {w:World} {b b':Nat} {e:TypeId} {size:Nat} {v:Value} {n:Nat} {xs:List Value} (h:w.ownsRow b e size v n xs) (hb:b'<=b):w.ownsRow b' e size v n xs:=by
 obtain ⟨h1,h2⟩:=h;refine ⟨h1,?_⟩;rcases h2 with h2|⟨g,cap,cur,e1,hb2,h3⟩
 ·exact .inl h2
 ·exact .inr ⟨g,cap,cur,e1,ZQ hb hb2,h3⟩
def Zlr (keep:List Int) (i:Nat):Int:=(keep[i]?).getD 0
def Zls (L:List (K4 × TS)) (k:K4):Option TS->List (K4 × TS)
 | none=>del k L
 | some t=>put k t L
def fallK (S:Str) (k:K4) (n torn:Int):Str :=
 let S1:=showS S k (wrap64 (sizeO (get k S.seen))) (leftS S k n torn).1
 { S1 with dry:=Zls S.dry k (leftS S k n torn).1 }
def fallL (keep:List Int) (torn:Int):List K4->Nat->Str->Int->Str × Int
 | [],_,S,n=>(S,n)
 | k::ks,i,S,n=>fallL keep torn ks (i+1) (fallK S k (Zlr keep i) torn) (wrap64 (n+(leftS S k (Zlr keep i) torn).2))
def ZhY (S:Str):Str:=fuseS { S with late:=[],wet:=0,on:=false } (-1) [] 0
structure Inv (S:Str) (m:Nat):Prop where
 rise:∀ g,Za6 (Zj S g)
 many:∀ g,(Zj S g).length+m<=100000
 seen:∀ x ∈ S.seen,x.2.small
 dry:∀ x ∈ S.dry,x.2.small
 late:∀ x ∈ S.late,∀ d ∈ x.2,d.fits
 lateN:∀ x ∈ S.late,x.2.length<=100000
theorem Inv.lateAt {S:Str} {m:Nat} (h:Inv S m) (k:K4):(lateAt S k).length<=100000∧∀ d ∈ lateAt S k,d.fits:=by
 unfold Go.Proofs.YtcbdghojlbpomaaGreat.lateAt;cases hg:get k S.late with
 | none=>exact ⟨by simp,fun d hd=>by simp at hd⟩
 | some x=>exact ⟨h.lateN _ (get_mem hg),h.late _ (get_mem hg)⟩
theorem Zhh {L:List (K4 × TS)} (h:∀ x ∈ L,x.2.small) (k:K4):ZcM (get k L):=by
 cases hg:get k L with
 | none=>trivial
 | some t=>exact h _ (get_mem hg)
theorem Zna {S:Str} {m:Nat} (h:Inv S m) (k:K4) (n torn:Int):ZcM (leftS S k n torn).1:=by
 have h1:=Zm9 (l:=(lateAt S k).take (keptN n (lateAt S k).length)) (Zhh h.dry k) (fun d hd=>(h.lateAt k).2 d (Zd3 hd));unfold leftS;simp only;split
 ·rename_i d hd;split
  ·exact ZfE h1 (Zon ((h.lateAt k).2 d (Zay hd)))
  ·exact h1
 ·exact h1
theorem Zi5 {ks:List K4} {k:K4} (h:Za6 ks):Za6 (remK k ks):=Zib _ h
theorem Zi6 {ks:List K4} {k:K4} (h:Za6 ks) (hk:k ∉ ks):Za6 (addK k ks):=by
 unfold addK;refine Zd4.2 ⟨Zib _ h,ZcU.2 ⟨fun a ha=>?_,Zib _ h⟩,fun a ha b hb=>?_⟩
 ·have h1:=Z1.1 ha;have hne:a≠k:=fun e=>hk (e ▸ h1.1);have h2:a.lt k=false:=by simpa using h1.2
  rw [Zeu] at h2;obtain ⟨a0,a1,a2,a3⟩:=a;obtain ⟨b0,b1,b2,b3⟩:=k;simp only [K4.lt,ne_eq,Ze,K4.mk.injEq] at h2 hne |-;omega
 ·have h1:=(Z1.1 ha).2;rcases ZO.1 hb with rfl|hb
  ·exact h1
  ·have h2:b.lt k=false:=by simpa using (Z1.1 hb).2
   rw [Zeu] at h2;obtain ⟨a0,a1,a2,a3⟩:=a;obtain ⟨b0,b1,b2,b3⟩:=b;obtain ⟨k0,k1,k2,k3⟩:=k;simp only [K4.lt,ne_eq,Ze] at h1 h2 |-;omega
theorem Zqo (ks:List K4) (k:K4):(remK k ks).length<=ks.length:=Zbi _ _
theorem Zqp (ks:List K4) (k:K4):(addK k ks).length<=ks.length+1:=by
 unfold addK;rw [ZA,Zat];have h:(ks.filter fun a=>a.lt k).length+(ks.filter fun a=>!a.lt k).length=ks.length:=by
  induction ks with
  | nil=>rfl
  | cons a ks ih=>simp only [ZaM];cases a.lt k <;> simp <;> omega
 omega
theorem Zkw {S:Str} {m:Nat} {k:K4} {was:Int} {o:Option TS} (h:Inv S (m+1)) (ho:ZcM o):Inv (showS S k was o) m:=by
 have hk:∀ g,Zj (showS S k was o) g=Zj S g∨(g=k.grp∧((k ∈ Zj S g∧Zj (showS S k was o) g=remK k (Zj S g))∨(k ∉ Zj S g∧Zj (showS S k was o) g=addK k (Zj S g)))):=fun g=>by
  cases o with
  | none =>
   by_cases hm:k ∈ Zj S k.grp
   ·by_cases e:g=k.grp
    ·subst e;right;refine ⟨rfl,.inl ⟨hm,?_⟩⟩;show (get k.grp (showS S k was none).keys).getD []=_;simp only [showS,hm,Zaw,ZdM,ZeA]
    ·left;show (get g (showS S k was none).keys).getD []=_;simp only [showS,hm,Zaw,ZeN e];rfl
   ·left;show (get g (showS S k was none).keys).getD []=_;simp only [showS,hm,Zau];rfl
  | some t =>
   by_cases hm:k ∈ Zj S k.grp
   ·left;show (get g (showS S k was (some t)).keys).getD []=_;simp only [showS,hm,Zaw];rfl
   ·by_cases e:g=k.grp
    ·subst e;right;refine ⟨rfl,.inr ⟨hm,?_⟩⟩;show (get k.grp (showS S k was (some t)).keys).getD []=_;simp only [showS,hm,Zau,ZdM,ZeA]
    ·left;show (get g (showS S k was (some t)).keys).getD []=_;simp only [showS,hm,Zau,ZeN e];rfl
 refine ⟨fun g=>?_,fun g=>?_,?_,h.dry,h.late,h.lateN⟩
 ·rcases hk g with e|⟨_,⟨_,e⟩|⟨hm,e⟩⟩
  ·rw [e];exact h.rise g
  ·rw [e];exact Zi5 (h.rise g)
  ·rw [e];exact Zi6 (h.rise g) hm
 ·have h1:=h.many g;rcases hk g with e|⟨_,⟨_,e⟩|⟨hm,e⟩⟩
  ·rw [e];omega
  ·rw [e];have:=Zqo (Zj S g) k;omega
  ·rw [e];have:=Zqp (Zj S g) k;omega
 ·intro x hx;cases o with
  | none=>exact h.seen x (Z1.1 hx).1
  | some t =>
   rcases ZO.1 hx with rfl|hx
   ·exact ho
   ·exact h.seen x (Z1.1 hx).1
theorem ZpF {S:Str} {m:Nat} {k:K4} {n torn:Int} (h:Inv S (m+1)):Inv (fallK S k n torn) m:=by
 have hl:=Zna h k n torn;have h1:=Zkw (k:=k) (was:=wrap64 (sizeO (get k S.seen))) h hl;refine ⟨h1.rise,h1.many,h1.seen,?_,h.late,h.lateN⟩;intro x hx;show x.2.small;have hx':x ∈ Zls S.dry k (leftS S k n torn).1:=hx;revert hx' hl;cases (leftS S k n torn).1 with
 | none=>exact fun _ hx'=>h.dry x (Z1.1 hx').1
 | some t =>
  intro hl hx';rcases ZO.1 hx' with rfl|hx'
  ·exact hl
  ·exact h.dry x (Z1.1 hx').1
section
variable {p : Nat}
end
section
variable {p : Nat} {S : Str}
set_option maxHeartbeats 16000000
theorem Zg1 {v:Value} {q:List Int} {j:Nat} {x:Int} (h:St W I w l) (hv:IntsI I v q) (hj:q[j]?=some x):∃ b off,v=slice (some ⟨b,off,none⟩) q.length (match v with|slice _ _ c=>c|_=>0)∧w.cell? ⟨b,off+j,none⟩=some (int i64 x):=by
 obtain ⟨A,c',rfl,h2,h3,h4,h5,h6⟩:=hv;have hjl:=(ZS.1 hj).1;obtain ⟨b,off,cs,t,f,rfl,e2,e3⟩:=h6 (by omega);refine ⟨b,off,rfl,?_⟩;rw [Zc (h.imm_heap e2)];exact e3 j _ (by simp [hj,intV])
end
def sortK:List K4->List K4
 | []=>[]
 | k::ks=>addK k (sortK ks)
theorem Zkx (k:K4) (ks:List K4):(addK k ks).Perm (k::ks):=by
 unfold addK;refine Zb8.trans (List.Perm.cons _ ?_);exact Zh7 _ _
theorem ZjK:∀ ks:List K4,(sortK ks).Perm ks
 | []=>Zad _
 | k::ks=>(Zkx k _).trans ((ZjK ks).cons k)
theorem Zoo {a b:K4} (h:a.lt b=true):b.lt a=false:=by
 rw [Zeu];intro h2;simp only [K4.lt,Ze] at h h2;omega
def fallS (S:Str) (keep:List Int) (torn:Int):Str × Int :=
 if S.on then (ZhY (fallL keep torn (sortK (S.late.map (·.1))) 0 S 0).1,(fallL keep torn (sortK (S.late.map (·.1))) 0 S 0).2) else (S,0)
def ZT (S:Str):Bool × Str :=
 if S.armed then if 0<S.fuse then (false,{ S with fuse:=S.fuse - 1 }) else (true,(fallS S S.keep S.torn).1) else (false,S)
section
variable {p : Nat} {S : Str}
theorem Zi7 (h:St W I w (Zd p S::l)) (hkn:S.armed=false) (hf:0<=S.fuse∧S.fuse<=9223372036854775807) (hi:S.on=true->Inv S S.late.length) :
  Calls prog 202 #[pointer (some ⟨p,0,none⟩)] w fun e w'=>∃ I',I.sub I'∧e=.returned (.bool (ZT S).1)∧St W I' w' (Zd p (ZT S).2::l):=by
 obtain ⟨B,h1⟩:=h.store_open;obtain ⟨hk,h1'⟩:=(h1.pull 5 _ rfl).imm_open;have c9:=h1.blk 9;have c10:=h1.blk 10;have c11:=h1.blk 11;have c12:=h1.blk 12;have f10:=frozen_of_row h1.heap 10;simp [storeCells] at c9 c10 c11 c12;have hk:IntsI I B.vk S.keep:=hk;have HK:=Zh hk;obtain ⟨A,c,hvk,_⟩:=hk;rw [hvk] at c12;have H:=Zh h;have H1:=Zh h1;have HI:=Zh hi;clear h h1 h1' hi;have ha:=hkn;clear hkn;rw [ha] at c9;rw [show ZT S=(false,S) by simp [ZT,ha]];go_enter func202,ntmps202;go_wp2;go_ret;exact ⟨I,Hp.sub.refl _,rfl,H.o⟩
end
section
variable {p : Nat} {S : Str}
theorem St.look_spot {b:Nat} {L:List (K4 × TS)} (h:St W I w (mapOf keyKT Zv b L::l)) (a:K4) :
  ∃ v H,(∀ w2,Below w.heap.size w w2->(Instr.lookup 141 (.map (some b)) (keyKT.kv a) false).run prog w2=.ok v w2)∧St W I w (optHP v (get a L)::H::l)∧Spot a b L H:=by
 rcases h.mapOf_look underlying141 (z:=pointer none) (fun w=>by kernel_rfl) a with ⟨hg,hl⟩|⟨v,x,hg,hl,h1⟩
 ·exact ⟨pointer none,mapOf keyKT Zv b L,fun w2 hw=>hl w2 hw false,by rw [hg];exact St.pure_shut rfl h,Zok a b L⟩
 ·exact ⟨v,HP.hole keyKT Zv b a v (del a L),fun w2 hw=>hl w2 hw false,by rw [hg];exact h1,Zol a b v L⟩
theorem Znb {B:SB} (k:K4) (h:St W I w (Zan B S::l)) :
  ∃ st v w',(Instr.mapEntry 142 (.map (some B.m3)) (keyKT.kv k)).run prog w=.ok (.tuple #[v,goInt (st:Nat)]) w'∧w'.heap.size=w.heap.size ∧
   St W I w' (Zbo v (lateAt S k)::HP.held keyKT Zbo B.m3 k v st (del k S.late)::l):=by
 obtain ⟨st,v,w',hr,hs,h1|⟨x,hg,h1⟩⟩:=St.mapOf_entry h underlying142 (z:=slice none 0 0) (fun w=>by kernel_rfl) k
 ·obtain ⟨hg,rfl,h2⟩:=h1;refine ⟨st,_,w',hr,hs,?_⟩;rw [show lateAt S k=[] by simp [lateAt,hg]];exact Zom _ _ _ h2
 ·refine ⟨st,v,w',hr,hs,?_⟩;rw [show lateAt S k=x by simp [lateAt,hg]];exact h1
theorem Zi8:∀ (ds:List Dd) (ps:List Value) (d:Dd) (q:Value),ps.length=ds.length->ZdU (ds++[d]) (ps++[q])=ZdU ds ps++[intV d.kind,intV d.n,q,.string d.name]
 | [],[],_,_,_=>rfl
 | d'::ds,q'::ps,d,q,h=>by
  have:=Zi8 ds ps d q (by simpa using h);simp only [ZZ,ZdU,this]
theorem Zop:(prog.info? 244).map (fun i=>(i.zero,i.size,i.bytes))=some (some (.agg #[int i64 0,int i64 0,slice none 0 0,.string ⟨#[]⟩]),4,56):=by kernel_rfl
theorem Zl6 {v:Value} {ds:List Dd} {g:Nat} (d:Dd) (pv:Value) {f:Nat × Nat} (ty:TypeId) (h:St W I w (Zbo v ds::pt g (cells #[intV d.kind,intV d.n,pv,.string d.name] 244 f)::l)) (hp:Zw I pv d.p) (hn:ds.length<=1000000) (hone:pv.oneCell'=true) :
  ∃ v' w',(Builtin.append_ #[170,170] ty #[v,slice (some ⟨g,0,none⟩) 1 1]).run prog w=.ok v' w' ∧
   St W I w' (Zbo v' (ds++[d])::pt g (cells #[intV d.kind,intV d.n,pv,.string d.name] 244 f)::l):=by
 obtain ⟨ps,hps,h1⟩:=h.deeds_open;have hc:=Zc (h1.pull 1 _ rfl).heap
 have hsrc:SrcAt w 4 (some ⟨g,0,none⟩) 1 [intV d.kind,intV d.n,pv,.string d.name]:=⟨rfl,fun _=>⟨_,rfl,fun j u hu=>by
  rw [add_plain,Zar,hc j]
  simpa using hu⟩,fun u hu=>by
   simp only [ZO,List.mem_nil_iff,ZcQ] at hu;rcases hu with rfl|rfl|rfl|rfl
   ·rfl
   ·rfl
   ·exact hone
   ·rfl⟩
 obtain ⟨i0,hi0,hz0,hz1,hz2⟩:=info_parts Zop;have hown:=h1.row_owns;obtain ⟨v',w',hr,ho',hgr,hv'⟩:=Zdf (P:=prog) w 0 170 ty 244 i0 _ 4 56 underlying170 hi0 hz0 hz1 hz2 rfl (by decide) v ds.length _ hown (some ⟨g,0,none⟩) 1 1 _ hsrc (by intro h;cases h) (by unfold maxLen;omega) (by omega) (ZaY _);refine ⟨v',w',hr,St.deeds_shut (ps:=ps++[pv]) ?_ ?_⟩
 ·obtain ⟨e1,e2⟩:=hps;refine ⟨by simp [e1],fun i d' q h1 h2=>?_⟩;rw [List.getElem?_append] at h1 h2;by_cases hi:i<ds.length
  ·rw [Zb hi] at h1;rw [Zb (by omega)] at h2;exact e2 i d' q h1 h2
  ·rw [Za hi] at h1;rw [Za (by omega)] at h2;have hi':=(ZS.1 h1).1;simp only [Zat,ZaH] at hi';have e3:i=ds.length:=by omega
   subst e3;simp only [Zfm,Zg,Zah] at h1;rw [e1] at h2;simp only [Zfm,Zg,Zah] at h2;subst h1;subst h2;exact hp
 ·rw [Zi8 ds ps d pv hps.1,show (ds++[d]).length=ds.length+1 by simp];exact h1.row_grown ho' hgr hv'
end
def doS (S:Str) (k:K4) (d:Dd):Bool × Str :=
 if (ZT S).1 then (true,(ZT S).2) else
  let S1:=(ZT S).2
  let S2:=showS S1 k (wrap64 (sizeO (get k S1.seen))) (stepD (get k S1.seen) d)
  (false,{ S2 with late:=put k (lateAt S2 k++[d]) S2.late,wet:=wrap64 (S2.wet+1),deeds:=wrap64 (S2.deeds+1) })
def offE (b:Bool):Int:=if b then 7 else 0
theorem Zhi {S:Str} (h:(ZT S).1=false):∃ f,(ZT S).2={ S with fuse:=f }:=by
 unfold ZT at *;split
 ·rename_i ha;rw [Zb ha] at h;split
  ·exact ⟨_,rfl⟩
  ·rename_i hf;rw [Za hf] at h;cases h
 ·exact ⟨S.fuse,rfl⟩
section
variable {p : Nat} {S : Str}
theorem Zk7 {v:Value} {o:Option TS} (h:St W I w (optHP v o::l)):∃ q,v=pointer q:=by
 cases o with
 | none=>exact ⟨_,h.pure_open.1⟩
 | some t =>
  obtain ⟨b,m,vb,e,_⟩:=St.thing_open (v:=v) (t:=t) h;exact ⟨_,e⟩
theorem Zc3 (k:K4) (d:Dd) (pv:Value) (h:St W I w (Zd p S::l)) (hp:Zw I pv d.p) (hd:d.fits) (hkn:S.armed=false) (hf:0<=S.fuse∧S.fuse<=9223372036854775807) (hi:Inv S S.late.length) :
  Calls prog 201 #[pointer (some ⟨p,0,none⟩),k.val,.agg #[int i64 d.kind,int i64 d.n,pv,.string d.name]] w fun e w'=>∃ I',I.sub I'∧e=.returned (int i64 (offE (doS S k d).1))∧St W I' w' (Zd p (doS S k d).2::l):=by
 obtain ⟨k0,k1,k2,k3⟩:=k;unfold K4.val;have HPV:=Zh hp;obtain ⟨Ap,cp,rfl,_⟩:=hp;have h1:=(h.alloc (cells #[int i64 k0,int i64 k1,int i64 k2,int i64 k3] 150)).alloc (cells #[int i64 d.kind,int i64 d.n,slice Ap d.p.length cp,.string d.name] 244);rw [show (w.alloc (cells #[int i64 k0,int i64 k1,int i64 k2,int i64 k3] 150)).heap.size=w.heap.size+1 by simp] at h1;obtain ⟨w1,hw1⟩:∃ w1,(w.alloc (cells #[int i64 k0,int i64 k1,int i64 k2,int i64 k3] 150)).alloc (cells #[int i64 d.kind,int i64 d.n,slice Ap d.p.length cp,.string d.name] 244)=w1:=⟨_,rfl⟩;rw [hw1] at h1;have HW1:=Zh hw1;have hbs:=Zi7 (h1.pull 2 _ rfl) hkn hf (fun _=>hi);have HBS:=Zh hbs;have HI:=Zh hi;have HD:=Zh hd;clear h h1 hw1 hbs hi hd;go_enter func201,ntmps201;go_wp2_with fail;rw [HW1.o];refine HBS.o.mono ?_;clear HBS;rintro e w2 ⟨I2,hs2,rfl,h2⟩;have HS2:=Zh hs2;cases hb:(ZT S).1 with
 | true =>
  have H2:=Zh h2;have HB:=Zh hb;have HDO:=Zh (show doS S ⟨k0,k1,k2,k3⟩ d=(true,(ZT S).2) by simp [doS,hb]);clear h2 hs2 hb;go_wp2;go_ret;rw [HDO.o];exact ⟨I2,HS2.o,rfl,((H2.o.pull 2 _ rfl).drop.pull 1 _ rfl).drop⟩
 | false =>
  obtain ⟨S1,hS1⟩:∃ S1,(ZT S).2=S1:=⟨_,rfl⟩;obtain ⟨f,hf1⟩:=Zhi hb;rw [hS1] at h2 hf1;have hi1:Inv S1 S1.late.length:=by rw [hf1];exact ⟨HI.o.rise,HI.o.many,HI.o.seen,HI.o.dry,HI.o.late,HI.o.lateN⟩
  obtain ⟨S2,hS2⟩:∃ S2,showS S1 ⟨k0,k1,k2,k3⟩ (wrap64 (sizeO (get ⟨k0,k1,k2,k3⟩ S1.seen))) (stepD (get ⟨k0,k1,k2,k3⟩ S1.seen) d)=S2:=⟨_,rfl⟩;have hdo:doS S ⟨k0,k1,k2,k3⟩ d=(false,{ S2 with late:=put ⟨k0,k1,k2,k3⟩ (lateAt S2 ⟨k0,k1,k2,k3⟩++[d]) S2.late,wet:=wrap64 (S2.wet+1),deeds:=wrap64 (S2.deeds+1) }):=by
   rw [<-hS2,<-hS1];simp only [doS,hb];rfl
  have HS2':=Zh hS2;have HDO:=Zh hdo;have HB:=Zh hb;have HI1:=Zh hi1;obtain ⟨B,h3⟩:=h2.store_open;have c5:=h3.blk 5;have hxk:=(h3.pull 7 _ rfl).heap;have x0:=Zc hxk 0;have x1:=Zc hxk 1;have x2:=Zc hxk 2;have x3:=Zc hxk 3;simp [storeCells] at c5 x0 x1 x2 x3;obtain ⟨v,X,hlk,h4,hX⟩:=(h3.drew.pull 1 _ rfl).look_spot ⟨k0,k1,k2,k3⟩;have hlk0:=hlk _ (ZR _ _);simp only [keyKT,K4.val] at hlk0;obtain ⟨q,rfl⟩:=Zk7 h4;have H4:=Zh h4;have HX:=Zh hX;clear h2 h3 h4 hX hlk hxk hs2 hb hi1 hS1 hdo hS2 hf1;go_wp2_with fail;refine ZaD [] [0,1,2,3,4,5,6] [] (by kernel_rfl) (by kernel_rfl) ?_;simp only [pickL,Zg,Zi];repeat (refine ZaA _ (Or.inl ⟨by rfl,by intro w;go_simp;try with_reducible rfl⟩) ?_;(try go_frame))
  refine ZaB ?_;repeat still_step
  refine ZaI ?_;go_wp2;refine Zu ?_;clear hlk0 c5 x0 x1 x2 x3;go_wp2_with fail;have hi1:=HI1.o;have hsm:=Zhh hi1.seen ⟨k0,k1,k2,k3⟩;refine (ZpD H4.o hsm).mono ?_;rintro e w5 ⟨rfl,h5⟩;have hxk:=(h5.pull 8 _ rfl).heap;have x0:=Zc hxk 0;have x1:=Zc hxk 1;have x2:=Zc hxk 2;have x3:=Zc hxk 3;have hyk:=(h5.pull 7 _ rfl).heap;have y0:=Zc hyk 0;have y1:=Zc hyk 1;have y2:=Zc hyk 2;have y3:=Zc hyk 3;simp at x0 x1 x2 x3 y0 y1 y2 y3;have HSM:=Zh hsm;have H5:=Zh h5;clear hxk hyk hi1 hsm h5 H4;go_wp2_with fail;refine Z3 (fun w'=>w'.cell? ⟨w.heap.size,0,none⟩=some (int i64 k0)∧w'.cell? ⟨w.heap.size,1,none⟩=some (int i64 k1)∧w'.cell? ⟨w.heap.size,2,none⟩=some (int i64 k2)∧w'.cell? ⟨w.heap.size,3,none⟩=some (int i64 k3)∧w'.cell? ⟨w.heap.size+1,0,none⟩=some (int i64 d.kind)∧w'.cell? ⟨w.heap.size+1,1,none⟩=some (int i64 d.n)∧w'.cell? ⟨w.heap.size+1,2,none⟩=some (slice Ap d.p.length cp)∧w'.cell? ⟨w.heap.size+1,3,none⟩=some (.string d.name)) [0,1,2,3,4] [5] [6] (by kernel_rfl) (by kernel_rfl) (by (exact ⟨x0,x1,x2,x3,y0,y1,y2,y3⟩)) ?_;simp only [pickL,Zg,Zi];repeat (refine Zs _ (Or.inl ⟨by rfl,by (intro w hSw;(try dsimp only at hSw);go_simp;try with_reducible rfl)⟩) ?_;(try go_frame))
  refine ZC ?_;unfold Zp;go_wp2_with fail;refine (Zqm (slice Ap d.p.length cp) d HD.o HSM.o H5.o.drew ((Zbv _ _).mono HS2.o HPV.o)).mono ?_;rintro e w6 ⟨I6,v6,hs6,rfl,h6⟩;have h6:St W I6 w6 (optHP v6 (stepD (get ⟨k0,k1,k2,k3⟩ S1.seen) d)::X::ZV p S1 B::dryHP B S1::Zan B S1::keyHP B S1::HP.imm (Zbe B.vk S1.keep)::pt (w.heap.size+1) (cells #[int i64 d.kind,int i64 d.n,slice Ap d.p.length cp,.string d.name] 244)::pt w.heap.size (cells #[int i64 k0,int i64 k1,int i64 k2,int i64 k3] 150)::l):=h6;obtain ⟨q6,rfl⟩:=Zk7 h6;have hxk:=(h6.pull 8 _ rfl).heap;have x0':=Zc hxk 0;have x1':=Zc hxk 1;have x2':=Zc hxk 2;have x3':=Zc hxk 3;have hyk:=(h6.pull 7 _ rfl).heap;have y0':=Zc hyk 0;have y1':=Zc hyk 1;have y2':=Zc hyk 2;have y3':=Zc hyk 3;simp at x0' x1' x2' x3' y0' y1' y2' y3';have hcall:=Zqn (ZfE HSM.o HD.o) ⟨k0,k1,k2,k3⟩ HX.o (wrap64 (sizeO (get ⟨k0,k1,k2,k3⟩ S1.seen))) (h6.perm (m:=ZV p S1 B::X::dryHP B S1::Zan B S1::keyHP B S1::optHP (pointer q6) (stepD (get ⟨k0,k1,k2,k3⟩ S1.seen) d)::HP.imm (Zbe B.vk S1.keep)::pt (w.heap.size+1) (cells #[int i64 d.kind,int i64 d.n,slice Ap d.p.length cp,.string d.name] 244)::pt w.heap.size (cells #[int i64 k0,int i64 k1,int i64 k2,int i64 k3] 150)::l) (by ((try simp only [Zx,Zy,ZZ,ZP]);repeat (first|with_reducible exact Zad _|(apply Zaq;(· repeat (first|with_reducible exact Zap|with_reducible apply Zao))))))) (HI1.o.rise _) (by have:=HI1.o.many (⟨k0,k1⟩:G2);exact ZQ (ZcV _ _) this);rw [HS2'.o] at hcall;simp only [K4.val] at hcall;have HCALL:=Zh hcall;have HS6:=Zh hs6;clear h6 hxk hyk hcall hs6 x0 x1 x2 x3 y0 y1 y2 y3;go_wp2;refine Zt ⟨x0',x1',x2',x3',y0',y1',y2',y3'⟩ ?_;unfold Zp;go_wp2_with fail;refine HCALL.o.mono ?_;rintro e w7 ⟨rfl,h7⟩;have H7:=Zh h7;clear h7 HCALL x0' x1' x2' x3' y0' y1' y2' y3';go_wp2;refine Zu ?_;have h7:=H7.o;have c7:=h7.blk 7;have hxk:=(h7.pull 7 _ rfl).heap;have x0:=Zc hxk 0;have x1:=Zc hxk 1;have x2:=Zc hxk 2;have x3:=Zc hxk 3;have hyk:=(h7.pull 6 _ rfl).heap;have y0:=Zc hyk 0;have y1:=Zc hyk 1;have y2:=Zc hyk 2;have y3:=Zc hyk 3;simp [storeCells] at c7 x0 x1 x2 x3 y0 y1 y2 y3;clear h7 hxk hyk;go_wp2_with fail;refine ZlO (fun w'=>w'.cell? ⟨p,7,none⟩=some (.map (some B.m3))∧w'.cell? ⟨w.heap.size,0,none⟩=some (int i64 k0)∧w'.cell? ⟨w.heap.size,1,none⟩=some (int i64 k1)∧w'.cell? ⟨w.heap.size,2,none⟩=some (int i64 k2)∧w'.cell? ⟨w.heap.size,3,none⟩=some (int i64 k3)∧w'.cell? ⟨w.heap.size+1,0,none⟩=some (int i64 d.kind)∧w'.cell? ⟨w.heap.size+1,1,none⟩=some (int i64 d.n)∧w'.cell? ⟨w.heap.size+1,2,none⟩=some (slice Ap d.p.length cp)∧w'.cell? ⟨w.heap.size+1,3,none⟩=some (.string d.name)) [0,1,2,3,4,5] [6] [7] [8,10] [9,11] (by kernel_rfl) (by kernel_rfl) (by (exact ⟨c7,x0,x1,x2,x3,y0,y1,y2,y3⟩)) ?_;simp only [pickL,Zg,Zi];repeat (refine Zs _ (Or.inl ⟨by rfl,by (intro w hSw;(try dsimp only at hSw);go_simp;try with_reducible rfl)⟩) ?_;(try go_frame))
  refine ZC ?_;unfold Zp;go_wp2_with fail;clear c7 x0 x1 x2 x3 y0 y1 y2 y3;have h8:=(H7.o.alloc (cells #[int i64 d.kind,int i64 d.n,slice Ap d.p.length cp,.string d.name] 244)).drew;obtain ⟨w8,hw8⟩:∃ w8,(w7.alloc (cells #[int i64 d.kind,int i64 d.n,slice Ap d.p.length cp,.string d.name] 244)).drew=w8:=⟨_,rfl⟩;rw [hw8] at h8 |-;clear hw8;have c7:=(h8.pull 1 _ rfl).blk 7;have hxk:=(h8.pull 8 _ rfl).heap;have x0:=Zc hxk 0;have x1:=Zc hxk 1;have x2:=Zc hxk 2;have x3:=Zc hxk 3;have hyk:=(h8.pull 7 _ rfl).heap;have y0:=Zc hyk 0;have y1:=Zc hyk 1;have y2:=Zc hyk 2;have y3:=Zc hyk 3;simp [storeCells] at c7 x0 x1 x2 x3 y0 y1 y2 y3;refine Zt ⟨c7,x0,x1,x2,x3,y0,y1,y2,y3⟩ ?_;unfold Zp;obtain ⟨st,v9,w9,hr9,hs9,h9⟩:=Znb ⟨k0,k1,k2,k3⟩ (h8.pull 4 _ rfl);simp only [keyKT,K4.val,goInt] at hr9;obtain ⟨ps9,_,h9r⟩:=h9.deeds_open;obtain ⟨A9,c9,rfl⟩:=ZD h9r.row_owns;have hi1:=HI1.o;have hln:(lateAt S2 ⟨k0,k1,k2,k3⟩).length<=1000000:=by
   rw [<-HS2'.o];exact ZQ (hi1.lateAt ⟨k0,k1,k2,k3⟩).1 (by omega)
  obtain ⟨v10,w10,hr10,h10⟩:=Zl6 d (slice Ap d.p.length cp) 170 (h9.perm (m:=Zbo _ (lateAt S2 ⟨k0,k1,k2,k3⟩)::pt w7.heap.size (cells #[int i64 d.kind,int i64 d.n,slice Ap d.p.length cp,.string d.name] 244)::HP.held keyKT Zbo B.m3 ⟨k0,k1,k2,k3⟩ _ st (del ⟨k0,k1,k2,k3⟩ S2.late)::ZV p S2 B::ZbD B S2::dryHP B S2::keyHP B S2::HP.imm (Zbe B.vk S1.keep)::pt (w.heap.size+1) (cells #[int i64 d.kind,int i64 d.n,slice Ap d.p.length cp,.string d.name] 244)::pt w.heap.size (cells #[int i64 k0,int i64 k1,int i64 k2,int i64 k3] 150)::l) (by ((try simp only [Zx,Zy,ZZ,ZP]);repeat (first|with_reducible exact Zad _|(apply Zaq;(· repeat (first|with_reducible exact Zap|with_reducible apply Zao))))))) ((Zbv _ _).mono (HS2.o.trans HS6.o) HPV.o) hln rfl;obtain ⟨ps10,_,h10r⟩:=h10.deeds_open;obtain ⟨A10,c10,rfl⟩:=ZD h10r.row_owns;obtain ⟨w11,hr11,hs11,h11⟩:=St.held_put (h10.perm (m:=Zbo _ (lateAt S2 ⟨k0,k1,k2,k3⟩++[d])::HP.held keyKT Zbo B.m3 ⟨k0,k1,k2,k3⟩ _ st (del ⟨k0,k1,k2,k3⟩ S2.late)::pt w7.heap.size (cells #[intV d.kind,intV d.n,slice Ap d.p.length cp,.string d.name] 244)::ZV p S2 B::ZbD B S2::dryHP B S2::keyHP B S2::HP.imm (Zbe B.vk S1.keep)::pt (w.heap.size+1) (cells #[int i64 d.kind,int i64 d.n,slice Ap d.p.length cp,.string d.name] 244)::pt w.heap.size (cells #[int i64 k0,int i64 k1,int i64 k2,int i64 k3] 150)::l) (by ((try simp only [Zx,Zy,ZZ,ZP]);repeat (first|with_reducible exact Zad _|(apply Zaq;(· repeat (first|with_reducible exact Zap|with_reducible apply Zao))))))) underlying142;simp only [goInt,ZA,Zat,ZaH,Zar] at hr11;have HR10:=Zh hr10;have HR11:=Zh hr11;have H11:=Zh h11;clear hxk hyk h8 h9 h9r h10 h10r h11 hr10 hr11 hi1 hln hs9 hs11 c7 x0 x1 x2 x3 y0 y1 y2 y3;unfold Zp;go_wp2;refine Zt (S:=fun _=>True) trivial ?_;unfold Zp;clear hr9;repeat (refine ZaA _ (Or.inl ⟨by rfl,by intro w;go_simp;try with_reducible rfl⟩) ?_;(try go_frame))
  refine ZaB ?_;go_wp2_with (at_builtin;refine Zax _ rfl (.tmp 31) (.tmp 33) 170 170 rfl _ _ rfl rfl _ _ HR10.o ?_;have hr11:=HR11.o);refine Zu ?_;have h11:=H11.o;have c3:=(h11.pull 2 _ rfl).blk 3;have c2:=(h11.pull 2 _ rfl).blk 2;have f3:=frozen_of_row (h11.pull 2 _ rfl).heap 3;have f2:=frozen_of_row (h11.pull 2 _ rfl).heap 2;simp [storeCells] at c3 c2;clear h11;go_wp2;go_ret;have h12:St W I6 _ (ZV p { S2 with late:=put ⟨k0,k1,k2,k3⟩ (lateAt S2 ⟨k0,k1,k2,k3⟩++[d]) S2.late,wet:=wrap64 (S2.wet+1),deeds:=wrap64 (S2.deeds+1) } B::_):=((H11.o.pull 2 _ rfl).setCell 3 (int i64 (wrap64 (S2.wet+1)))).setCell 2 (int i64 (wrap64 (S2.deeds+1)));have hk2:S2.keep=S1.keep:=by rw [<-HS2'.o];rfl
  rw [HDO.o];refine ⟨I6,HS2.o.trans HS6.o,rfl,St.store_shut (B:=B) ?_⟩;rw [show ({ S2 with late:=put ⟨k0,k1,k2,k3⟩ (lateAt S2 ⟨k0,k1,k2,k3⟩++[d]) S2.late,wet:=wrap64 (S2.wet+1),deeds:=wrap64 (S2.deeds+1) }:Str).keep=S1.keep from hk2];exact (((((h12.pull 2 _ rfl).drop.pull 6 _ rfl).drop).pull 6 _ rfl).drop).perm (m:=ZV p { S2 with late:=put ⟨k0,k1,k2,k3⟩ (lateAt S2 ⟨k0,k1,k2,k3⟩++[d]) S2.late,wet:=wrap64 (S2.wet+1),deeds:=wrap64 (S2.deeds+1) } B::ZbD B S2::dryHP B S2::mapOf keyKT Zbo B.m3 ((⟨k0,k1,k2,k3⟩,lateAt S2 ⟨k0,k1,k2,k3⟩++[d])::del ⟨k0,k1,k2,k3⟩ S2.late)::keyHP B S2::HP.imm (Zbe B.vk S1.keep)::l) (by ((try simp only [Zx,Zy,ZZ,ZP]);repeat (first|with_reducible exact Zad _|(apply Zaq;(· repeat (first|with_reducible exact Zap|with_reducible apply Zao))))))
end
end Go.Proofs.YtcbdghojlbpomaaGreat
