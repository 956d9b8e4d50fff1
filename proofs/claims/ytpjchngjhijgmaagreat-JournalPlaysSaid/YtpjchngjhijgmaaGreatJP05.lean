import Derived.RangeFuncNested
import Derived.RangeFuncBound
import Derived.RangeFuncCalls
import Derived.RangeFuncLeaves
import Derived.RangeFuncKeeps
import Derived.Shelf.Abstract
import Derived.Shelf.RegionOpen
import Derived.OwnWalkIn
import Derived.TacticsInMore
import Derived.LoopNIn
import Derived.LoopIn
import Derived.Test.YtpjchngjhijgmaaGreatJP04
import Derived.Deep.CutRange
import Derived.Shelf.SlSortCmp.NoneTotal
import Derived.Shelf.SlGeneric
import Derived.Ground.SlsfProg
import Derived.Sort.Grow
set_option linter.all false
set_option maxRecDepth 4000
set_option maxHeartbeats 8000000
open Go.RowKit
open Go.IntKind (i64 u64)
open Go.Value (int pointer slice)
open Go.Obj (cells)
namespace Go.Proofs.YtpjchngjhijgmaaGreat
open Tryz
open HP (pt mapOf)
variable {W w w':World} {I:Hp} {l:List HP}
section
variable {P : Program} {k : TypeId} {K : Type} [DecidableEq K] {α : Type}
variable {T : KT P k K} {own : Value -> α -> HP} {b : Nat} {L L' : List (K × α)} {a : K} {x : α} {v : Value}
theorem St.look_or (h:St W I w (mapOf T own b L::l)) {t e:TypeId} (ht:P.underlying t=some (.map k e)) {z:Value} {x0:α} (hz:∀ w,(zeroValue e).run P w=.ok z w)
  (h0:∀ I w l,St W I w l->St W I w (own z x0::l)) (a:K) :
  ∃ v H,(∀ w2,Below w.heap.size w w2->∀ ok,(Instr.lookup t (.map (some b)) (T.kv a) ok).run P w2=.ok (if ok then .tuple #[v,.bool (get a L).isSome] else v) w2)∧St W I w (own v ((get a L).getD x0)::H::l) ∧
   (∀ I' w' l',St W I' w' (own v ((get a L).getD x0)::H::l')->St W I' w' (mapOf T own b L::l')) ∧
   (∀ I' w' l' v' x',St W I' w' (own v' x'::H::l')->∃ w'',(Instr.mapUpdate t (.map (some b)) (T.kv a) v').run P w'=.ok () w''∧w''.heap.size=w'.heap.size∧St W I' w'' (mapOf T own b (put a x' L)::l')):=by
 have hn:=h.mapOf_nodup;rcases h.mapOf_look ht hz a with ⟨hg,hl⟩|⟨v,x,hg,hl,h1⟩
 ·refine ⟨z,mapOf T own b L,fun w2 hw ok=>by rw [hl w2 hw ok,hg];rfl,by rw [hg];exact h0 _ _ _ h,fun I' w' l' h'=>h'.drop,fun I' w' l' v' x' h'=>h'.mapOf_put ht a⟩
 ·have hp:((a,x)::del a L).Perm L:=(ZeE hn hg).symm;refine ⟨v,HP.hole T own b a v (del a L),fun w2 hw ok=>by rw [hl w2 hw ok,hg];rfl,by rw [hg];exact h1,fun I' w' l' h'=>?_,fun I' w' l' v' x' h'=>?_⟩
  ·rw [hg] at h';exact (h'.hole_back).mapOf_perm hp
  ·exact h'.hole_put ht
theorem St.mapOf_put_hole (h:St W I w (own v x::mapOf T own b L::l)) {t e:TypeId} (ht:P.underlying t=some (.map k e)) (a:K) :
  ∃ w',(Instr.mapUpdate t (.map (some b)) (T.kv a) v).run P w=.ok () w'∧w'.heap.size=w.heap.size∧St W I w' (own v x::HP.hole T own b a v (del a L)::l):=by
 obtain ⟨M,hp,h⟩:=(h.perm (List.Perm.swap _ _ _)).mapOf_open;obtain ⟨w',hrun,hsz,h⟩:=h.map_put ht a v;refine ⟨w',hrun,hsz,?_⟩;have hM:put a v (M.map fst3)=(a,v)::(M.filter fun m=>decide (m.1≠a)).map fst3:=by
  simp only [put,del,Zd7];rfl
 rw [hM] at h;have hD:((M.filter fun m=>decide (m.1≠a)).map dat3).Perm (del a L):=by
  have:del a (M.map dat3)=(M.filter fun m=>decide (m.1≠a)).map dat3:=by
   simp only [del,Zd7];rfl
  rw [<-this];exact ZcZ hp
 have hsplit:(M.map (own3 own)).Perm ((M.filter fun m=>!decide (m.1≠a)).map (own3 own)++(M.filter fun m=>decide (m.1≠a)).map (own3 own)):=by
  rw [<-Zbo];exact ((ZeV.trans (ZiT _ M)).symm).map _
 have h2:=h.perm (List.Perm.cons _ (hsplit.append_right (own v x::l)))
 have h3:St W I w' ((M.filter fun m=>!decide (m.1≠a)).map (own3 own)++(HP.map T b ((a,v)::(M.filter fun m=>decide (m.1≠a)).map fst3)::((M.filter fun m=>decide (m.1≠a)).map (own3 own)++(own v x::l)))):=h2.perm (by
  rw [ZV]
  exact ZcI.symm)
 have h5:St W I w' (HP.hole T own b a v (del a L)::own v x::l):=St.ex_shut (M.filter fun m=>decide (m.1≠a)) (St.all_shut (St.pure_shut (⟨hD,fun p hp'=>by simpa using (Za4.1 hp').2⟩:_∧_) h3.drops));exact h5.perm (List.Perm.swap _ _ _)
end
def Zp (S:Str) (g:G2):List K4:=(get g S.keys).getD []
def remK (k:K4) (ks:List K4):List K4:=ks.filter fun a=>decide (a≠k)
def addK (k:K4) (ks:List K4):List K4:=ks.filter (fun a=>a.lt k)++k::ks.filter (fun a=>!a.lt k)
def showS (S:Str) (k:K4) (was:Int) (o:Option TS):Str :=
 { S with
  seen:=match o with
   | none=>del k S.seen
   | some t=>put k t S.seen
  keys:=match o with
   | none=>if k ∈ Zp S k.grp then put k.grp (remK k (Zp S k.grp)) S.keys else S.keys
   | some _=>if k ∈ Zp S k.grp then S.keys else put k.grp (addK k (Zp S k.grp)) S.keys
  used:=IntKind.i64.wrap (S.used+(sizeO o - was)) }
theorem Zkk (a:K4):a.lt a=false:=by
 rw [ZgK];intro h;simp only [K4.lt,Zk] at h;omega
theorem ZeJ {ks:List K4} {k:K4} {i:Nat} (hr:Zbz ks) (h:Place ks k i):ks[i]?=some k↔k ∈ ks:=by
 constructor
 ·exact ZaG
 ·intro hm;obtain ⟨j,hj⟩:=ZbH hm;rcases Nat.lt_trichotomy j i with h1|h1|h1
  ·have:=h.below j k h1 hj;rw [Zkk] at this;cases this
  ·rw [<-h1];exact hj
  ·have hil:i<ks.length:=by have:=(ZH.1 hj).1;omega
   have h2:=Zhs hr (Zy hil) hj h1;have h3:=h.above i _ (ZC _) (Zy hil);rw [h2] at h3;cases h3
theorem Zkl {ks:List K4} {k:K4} {i:Nat} (h:Place ks k i):ks.take i=ks.filter (fun a=>a.lt k)∧ks.drop i=ks.filter (fun a=>!a.lt k):=by
 have h1:∀ a ∈ ks.take i,a.lt k=true:=fun a ha=>by
  obtain ⟨j,hj⟩:=ZbH ha;rw [ZcG] at hj;split at hj
  ·exact h.below j a ‹_› hj
  ·cases hj
 have h2:∀ a ∈ ks.drop i,a.lt k=false:=fun a ha=>by
  obtain ⟨j,hj⟩:=ZbH ha;rw [Zbw] at hj;exact h.above _ a (by omega) hj
 have e:ks=ks.take i++ks.drop i:=(Zck i ks).symm;constructor
 ·conv=>rhs;rw [e]
  rw [ZfI,Zd6.2 h1,Zm9.2 (fun a ha=>by rw [h2 a ha];decide),Zbc]
 ·conv=>rhs;rw [e]
  rw [ZfI,Zm9.2 (fun a ha=>by rw [h1 a ha];decide),Zd6.2 (fun a ha=>by rw [h2 a ha];rfl),Zu]
theorem ZqJ {ks:List K4} {k:K4} {i:Nat} (h:Place ks k i):insK i k ks=addK k ks:=by
 unfold insK addK;rw [(Zkl h).1,(Zkl h).2]
theorem ZfR {ks:List K4} (hr:Zbz ks):ks.Nodup:=hr.imp fun {a b} h e=>by subst e;rw [Zkk] at h;cases h
theorem ZqK {ks:List K4} {k:K4} {i:Nat} (hr:Zbz ks) (hi:ks[i]?=some k):ks.eraseIdx i=remK k ks:=by
 have hn:=ZfR hr;obtain ⟨hlt,hk⟩:=ZH.1 hi;have e:ks=ks.take i++k::ks.drop (i+1):=by
  rw [<-hk,<-ZaS hlt,Zck]
 have hn':(ks.take i++k::ks.drop (i+1)).Nodup:=e ▸ hn;have h1:=List.nodup_append.1 hn';have h2:=ZbR.1 h1.2.1;have e2:ks.eraseIdx i=ks.take i++ks.drop (i+1):=ZfG ..;rw [e2];unfold remK;conv=>rhs;rw [e]
 rw [ZfI,Zd6.2 (fun a ha=>by simpa using h1.2.2 a ha k (Zat ..)),Zci];simp only [Zbn,Zdm,decide_false,Zbu,Zas];rw [Zd6.2 (fun a ha=>by simpa using fun q:a=k=>h2.1 (q ▸ ha))]
section
variable {p : Nat} {S : Str}
structure Spot (k:K4) (m:Nat) (L:List (K4 × TS)) (X:HP):Prop where
 dels:∀ {W w:World} {I:Hp} {l:List HP} (ty:TypeId),St W I w (X::l)->∃ w',(Builtin.delete_ #[112,43] ty #[.map (some m),keyKT.kv k]).run prog w=.ok (.tuple #[]) w'∧w'.heap.size=w.heap.size∧St W I w' (mapOf keyKT ZD m (del k L)::l)
 puts:∀ {W w:World} {I:Hp} {l:List HP} {v:Value} {t:TS},St W I w (ZD v t::X::l)->∃ w',(Instr.mapUpdate 112 (.map (some m)) (keyKT.kv k) v).run prog w=.ok () w'∧w'.heap.size=w.heap.size∧St W I w' (ZD v t::HP.hole keyKT ZD m k v (del k L)::l)
theorem ZqL (k:K4) (m:Nat) (L:List (K4 × TS)):Spot k m L (mapOf keyKT ZD m L) :=
 ⟨fun ty h=>h.mapOf_del (ty:=ty) underlying112 k,fun h=>h.mapOf_put_hole underlying112 k⟩
theorem Znp {P:Program} {kt:TypeId} {K α:Type} [DecidableEq K] {T:KT P kt K} {own:Value->α->HP} {W w:World} {I:Hp} {l:List HP} {b:Nat} {L:List (K × α)} {a:K} {u:Value} (h:St W I w (HP.hole T own b a u L::l)) {t e:TypeId} (ht:P.underlying t=some (.map kt e)) (v:Value) :
  ∃ w',(Instr.mapUpdate t (.map (some b)) (T.kv a) v).run P w=.ok () w'∧w'.heap.size=w.heap.size∧St W I w' (HP.hole T own b a v L::l):=by
 obtain ⟨M,hp,hne,h⟩:=h.hole_open;have hn:=h.map_nodup;obtain ⟨w',hrun,hsz,h⟩:=h.map_put ht a v;refine ⟨w',hrun,hsz,?_⟩;have hdel:del a ((a,u)::M.map fst3)=M.map fst3:=by
  unfold del;simp only [Zci,Zbn,Zdm,decide_false,Zbu,Zas];exact ZcV (get_none.2 fun p hp' e=>(ZbR.1 hn).1 (Zam.2 ⟨p,hp',e⟩))
 unfold put at h;rw [hdel] at h;exact St.ex_shut M (St.all_shut (St.pure_shut ⟨hp,hne⟩ h))
theorem ZqM (k:K4) (m:Nat) (u:Value) (L:List (K4 × TS)):Spot k m L (HP.hole keyKT ZD m k u (del k L)) :=
 ⟨fun ty h=>h.hole_del (ty:=ty) underlying112,fun h=>by
  obtain ⟨w',h1,h2,h3⟩:=Znp (h.perm (List.Perm.swap _ _ _)) underlying112 _
  exact ⟨w',h1,h2,h3.perm (List.Perm.swap _ _ _)⟩⟩
theorem Zr6 {v:Value} {o:Option TS} (h:St W I w (optHP v o::l)) (ht:Zdj o) :
  Calls prog 80 #[v] w fun e w'=>e=.returned (int i64 (IntKind.i64.wrap (sizeO o)))∧St W I w' (optHP v o::l):=by
 cases o with
 | none =>
  obtain ⟨rfl,h1⟩:=h.pure_open;refine (Zih w).mono ?_;rintro e w' ⟨rfl,rfl⟩;exact ⟨by rw [show IntKind.i64.wrap (sizeO none)=0 by rfl],h⟩
 | some t=>exact ZhS h (by have:=ht.1;omega)
theorem ZnO {B:SB} {X:HP} (k:K4) (hX:Spot k B.m1 S.seen X) (was:Int) (h:St W I w (Zab p S B::X::dryHP B S::Zav B S::keyHP B S::l)) (hr:Zbz (Zp S k.grp)) (hn:(Zp S k.grp).length<=100000) (hk:k ∈ Zp S k.grp) :
  Calls prog 79 #[pointer (some ⟨p,0,none⟩),k.val,int i64 was,pointer none] w fun e w'=>e=.returned (.tuple #[])∧St W I w' (Zab p (showS S k was none) B::Zb5 B (showS S k was none)::dryHP B S::Zav B S::keyHP B (showS S k was none)::l):=by
 obtain ⟨k0,k1,k2,k3⟩:=k;unfold K4.val;have h2:=(h.alloc (cells #[int i64 k0,int i64 k1,int i64 k2,int i64 k3] 43)).alloc (cells #[int i64 k0,int i64 k1] 193);rw [show (w.alloc (cells #[int i64 k0,int i64 k1,int i64 k2,int i64 k3] 43)).heap.size=w.heap.size+1 by simp] at h2;obtain ⟨w2,hw2⟩:∃ w2,(w.alloc (cells #[int i64 k0,int i64 k1,int i64 k2,int i64 k3] 43)).alloc (cells #[int i64 k0,int i64 k1] 193)=w2:=⟨_,rfl⟩;rw [hw2] at h2;have HW2:=Zh hw2;clear hw2;have c8:=(h2.pull 2 _ rfl).blk 8;have g0:=Zc h2.heap 0;have g1:=Zc h2.heap 1;simp [storeCells] at c8 g0 g1;obtain ⟨vk,HK,hlk,h3,hback,hput⟩:=(h2.drew.pull 6 _ rfl).look_or (x0:=[]) underlying114 (fun w=>by kernel_rfl) (fun I w l h=>h.row_nil _ _) ⟨k0,k1⟩;have hlk:=hlk _ (ZI _ _) false;simp only [grpKT,G2.val] at hlk;have hks:(get (⟨k0,k1⟩:G2) S.keys).getD []=Zp S (K4.mk k0 k1 k2 k3).grp:=rfl;rw [hks] at h3 hback;have H2:=Zh h2;have H3:=Zh h3;have HB:=Zh hback;have HP':=Zh hput;obtain ⟨ks,hks2⟩:=Zn (Zp S (K4.mk k0 k1 k2 k3).grp);have HKS:=Zh hks2;rw [<-hks2] at H3 HB hr hn hk;clear hks hks2 h2 h3 hback hput;have hx2:=(H2.o.pull 1 _ rfl).heap;obtain ⟨Av,cv,rfl⟩:=ZA H3.o.row_owns;have HX2:=Zh hx2;have HR:=Zh hr;have HKM:=Zh hk;clear hx2 h hr hk;go_enter func79,ntmps79;go_wp2_with fail;rw [HW2.o];refine ZaM [] [0,1,2,3,4,5,6] [] (by kernel_rfl) (by kernel_rfl) ?_;simp only [pickL,Zg,Zi];repeat (refine ZaE _ (Or.inl ⟨by rfl,by intro w;go_simp;try with_reducible rfl⟩) ?_;(try go_frame))
 refine ZaF ?_;repeat still_step
 refine ZaQ ?_;go_wp2;refine Zw ?_;have x0:=Zc (w:=w2.drew) HX2.o 0;have x1:=Zc (w:=w2.drew) HX2.o 1;have x2:=Zc (w:=w2.drew) HX2.o 2;have x3:=Zc (w:=w2.drew) HX2.o 3;simp at x0 x1 x2 x3;clear hlk c8 g0 g1;go_wp2_with fail;refine (ZfV ⟨k0,k1,k2,k3⟩ H3.o (by omega) HR.o).mono ?_;rintro e w4 ⟨hb4,i,hpl,rfl⟩;have HPL:=Zh hpl;have hin:decide (ks[i]?=some ⟨k0,k1,k2,k3⟩)=true:=by
  simpa using (ZeJ HR.o HPL.o).2 HKM.o
 rw [hin];have h4:=H3.o.keep hb4;have H4:=Zh h4;have HIN:=Zh hin;clear hb4 hpl h4 hin x0 x1 x2 x3;have h4:St W I w4 (Zal (slice Av ks.length cv) ks::HK::pt (w.heap.size+1) (cells #[int i64 k0,int i64 k1] 193)::pt w.heap.size (cells #[int i64 k0,int i64 k1,int i64 k2,int i64 k3] 43)::Zab p S B::X::dryHP B S::Zav B S::l):=H4.o;have c5:=(h4.pull 4 _ rfl).blk 5;have hxk:=(h4.pull 3 _ rfl).heap;have x0:=Zc hxk 0;have x1:=Zc hxk 1;have x2:=Zc hxk 2;have x3:=Zc hxk 3;simp [storeCells] at c5 x0 x1 x2 x3;obtain ⟨w5,hr5,hs5,h5⟩:=hX.dels 0 (h4.drew.pull 5 _ rfl);simp only [keyKT,K4.val] at hr5;have H5:=Zh h5;have HR5:=Zh hr5;clear h4 h5 hxk hr5;go_wp2_with fail;refine ZaM [] [0,1,2,3,4] [5] (by kernel_rfl) (by kernel_rfl) ?_;simp only [pickL,Zg,Zi];repeat (refine ZaE _ (Or.inl ⟨by rfl,by intro w;go_simp;try with_reducible rfl⟩) ?_;(try go_frame))
 refine ZaF ?_;repeat still_step
 refine ZaQ ?_;have hr5:=HR5.o;go_wp2;refine Zw ?_;clear c5 x0 x1 x2 x3 hr5;have h5:St W I w5 (Zal (slice Av ks.length cv) ks::HK::pt (w.heap.size+1) (cells #[int i64 k0,int i64 k1] 193)::Zab p S B::mapOf keyKT ZD B.m1 (del ⟨k0,k1,k2,k3⟩ S.seen)::dryHP B S::Zav B S::l):=(H5.o.pull 4 _ rfl).drop.perm (by ((try simp only [ZE,ZF,ZG,Zu]);repeat (first|with_reducible exact ZK _|(apply ZP;(· repeat (first|with_reducible exact ZO|with_reducible apply ZN))))));have c8:=(h5.pull 3 _ rfl).blk 8;have hg:=(h5.pull 2 _ rfl).heap;have g0:=Zc hg 0;have g1:=Zc hg 1;simp [storeCells] at c8 g0 g1;have H5':=Zh h5;have z1:IntKind.i64.wrap ((i:Int)+1)=(i:Int)+1:=by
  have:=HPL.o.le;rw [Zx];omega
 clear h5 hg;go_wp2_with fail;refine Zay (fun w'=>w'.cell? ⟨p,8,none⟩=some (.map (some B.m4))∧w'.cell? ⟨w.heap.size+1,0,none⟩=some (int i64 k0)∧w'.cell? ⟨w.heap.size+1,1,none⟩=some (int i64 k1)) [0,1,2,3,4,5,6,7,8] [9] [10] (by kernel_rfl) (by kernel_rfl) (by (exact ⟨c8,g0,g1⟩)) ?_;simp only [pickL,Zg,Zi];repeat (refine ZM _ (Or.inl ⟨by rfl,by (intro w hSw;(try dsimp only at hSw);go_simp;try with_reducible rfl)⟩) ?_;(try go_frame))
 refine Z7 ?_;unfold Zr;go_wp2_with fail;have hilt:i<ks.length:=(ZH.1 ((ZeJ HR.o HPL.o).2 HKM.o)).1;refine (Zom H5'.o.drew (by omega) hilt).mono ?_;rintro e w6 ⟨v6,rfl,h6⟩;rw [ZqK HR.o ((ZeJ HR.o HPL.o).2 HKM.o)] at h6;obtain ⟨A6,c6,rfl⟩:=ZA h6.row_owns;obtain ⟨w7,hr7,hs7,h7⟩:=HP'.o I w6 _ _ _ h6;simp only [grpKT,G2.val] at hr7;have c8':=(h6.pull 3 _ rfl).blk 8;have hg':=(h6.pull 2 _ rfl).heap;have g0':=Zc hg' 0;have g1':=Zc hg' 1;simp [storeCells] at c8' g0' g1';have H7:=Zh h7;have HR7:=Zh hr7;clear h6 h7 hr7 hg' z1 c8 g0 g1 hilt;go_wp2;refine Zm ⟨c8',g0',g1'⟩ ?_;have hr7:=HR7.o;unfold Zr;go_wp2;refine Zw ?_;clear hr7 c8' g0' g1';go_wp2_with fail;have h8:St W I w7 (Zab p S B::mapOf keyKT ZD B.m1 (del ⟨k0,k1,k2,k3⟩ S.seen)::dryHP B S::Zav B S::mapOf grpKT Zal B.m4 (put ⟨k0,k1⟩ (remK ⟨k0,k1,k2,k3⟩ ks) S.keys)::l):=(H7.o.pull 1 _ rfl).drop.perm (by ((try simp only [ZE,ZF,ZG,Zu]);repeat (first|with_reducible exact ZK _|(apply ZP;(· repeat (first|with_reducible exact ZO|with_reducible apply ZN))))));have c1:=h8.blk 1;have f1:=frozen_of_row h8.heap 1;simp [storeCells] at c1;have H8:=Zh h8;clear h8;refine Zay (fun w'=>w'.cell? ⟨p,1,none⟩=some (int i64 S.used)) [0,1,2,3,4,6] [5,7] [8,9,10,11] (by kernel_rfl) (by kernel_rfl) (by (exact c1)) ?_;simp only [pickL,Zg,Zi];repeat (refine ZM _ (Or.inl ⟨by rfl,by (intro w hSw;(try dsimp only at hSw);go_simp;try with_reducible rfl)⟩) ?_;(try go_frame))
 refine Z7 ?_;unfold Zr;go_wp2_with fail;refine (Zih _).mono ?_;rintro e w9 ⟨rfl,rfl⟩;go_wp2;refine Zm c1 ?_;unfold Zr;go_wp2;refine Zm c1 ?_;unfold Zr;go_wp2;refine Zw ?_;clear c1 f1;go_wp2_with fail
 go_end0
 refine ⟨rfl,?_⟩;have h9:=H8.o.drew.setCell 1 (int i64 (IntKind.i64.wrap (S.used+(0 - was))));have e1:wrap64 (S.used+wrap64 (-was))=IntKind.i64.wrap (S.used+(0 - was)):=by simp only [wrap64,Zx];omega
 rw [e1];have hks3:=HKS.o;have hkm3:=HKM.o;rw [hks3] at hkm3;have e2:keyHP B (showS S ⟨k0,k1,k2,k3⟩ was none)=mapOf grpKT Zal B.m4 (put ⟨k0,k1⟩ (remK ⟨k0,k1,k2,k3⟩ ks) S.keys):=by
  unfold keyHP showS
  (simp only [hkm3,Zan,Zas,hks3]) <;> rfl
 rw [e2];exact h9
theorem Znq {B:SB} {X:HP} (k:K4) (hX:Spot k B.m1 S.seen X) (was:Int) (h:St W I w (Zab p S B::X::dryHP B S::Zav B S::keyHP B S::l)) (hr:Zbz (Zp S k.grp)) (hn:(Zp S k.grp).length<=100000) (hk:k ∉ Zp S k.grp) :
  Calls prog 79 #[pointer (some ⟨p,0,none⟩),k.val,int i64 was,pointer none] w fun e w'=>e=.returned (.tuple #[])∧St W I w' (Zab p (showS S k was none) B::Zb5 B (showS S k was none)::dryHP B S::Zav B S::keyHP B (showS S k was none)::l):=by
 obtain ⟨k0,k1,k2,k3⟩:=k;unfold K4.val;have h2:=(h.alloc (cells #[int i64 k0,int i64 k1,int i64 k2,int i64 k3] 43)).alloc (cells #[int i64 k0,int i64 k1] 193);rw [show (w.alloc (cells #[int i64 k0,int i64 k1,int i64 k2,int i64 k3] 43)).heap.size=w.heap.size+1 by simp] at h2;obtain ⟨w2,hw2⟩:∃ w2,(w.alloc (cells #[int i64 k0,int i64 k1,int i64 k2,int i64 k3] 43)).alloc (cells #[int i64 k0,int i64 k1] 193)=w2:=⟨_,rfl⟩;rw [hw2] at h2;have HW2:=Zh hw2;clear hw2;have c8:=(h2.pull 2 _ rfl).blk 8;have g0:=Zc h2.heap 0;have g1:=Zc h2.heap 1;simp [storeCells] at c8 g0 g1;obtain ⟨vk,HK,hlk,h3,hback,hput⟩:=(h2.drew.pull 6 _ rfl).look_or (x0:=[]) underlying114 (fun w=>by kernel_rfl) (fun I w l h=>h.row_nil _ _) ⟨k0,k1⟩;have hlk:=hlk _ (ZI _ _) false;simp only [grpKT,G2.val] at hlk;have hks:(get (⟨k0,k1⟩:G2) S.keys).getD []=Zp S (K4.mk k0 k1 k2 k3).grp:=rfl;rw [hks] at h3 hback;have H2:=Zh h2;have H3:=Zh h3;have HB:=Zh hback;have HP':=Zh hput;obtain ⟨ks,hks2⟩:=Zn (Zp S (K4.mk k0 k1 k2 k3).grp);have HKS:=Zh hks2;rw [<-hks2] at H3 HB hr hn hk;clear hks hks2 h2 h3 hback hput;have hx2:=(H2.o.pull 1 _ rfl).heap;obtain ⟨Av,cv,rfl⟩:=ZA H3.o.row_owns;have HX2:=Zh hx2;have HR:=Zh hr;have HKM:=Zh hk;clear hx2 h hr hk;go_enter func79,ntmps79;go_wp2_with fail;rw [HW2.o];refine ZaM [] [0,1,2,3,4,5,6] [] (by kernel_rfl) (by kernel_rfl) ?_;simp only [pickL,Zg,Zi];repeat (refine ZaE _ (Or.inl ⟨by rfl,by intro w;go_simp;try with_reducible rfl⟩) ?_;(try go_frame))
 refine ZaF ?_;repeat still_step
 refine ZaQ ?_;go_wp2;refine Zw ?_;have x0:=Zc (w:=w2.drew) HX2.o 0;have x1:=Zc (w:=w2.drew) HX2.o 1;have x2:=Zc (w:=w2.drew) HX2.o 2;have x3:=Zc (w:=w2.drew) HX2.o 3;simp at x0 x1 x2 x3;clear hlk c8 g0 g1;go_wp2_with fail;refine (ZfV ⟨k0,k1,k2,k3⟩ H3.o (by omega) HR.o).mono ?_;rintro e w4 ⟨hb4,i,hpl,rfl⟩;have HPL:=Zh hpl;have hin:decide (ks[i]?=some ⟨k0,k1,k2,k3⟩)=false:=by
  rw [ZT];exact fun q=>HKM.o ((ZeJ HR.o HPL.o).1 q)
 rw [hin];have h4:=H3.o.keep hb4;have H4:=Zh h4;have HIN:=Zh hin;clear hb4 hpl h4 hin x0 x1 x2 x3;have h4:St W I w4 (Zal (slice Av ks.length cv) ks::HK::pt (w.heap.size+1) (cells #[int i64 k0,int i64 k1] 193)::pt w.heap.size (cells #[int i64 k0,int i64 k1,int i64 k2,int i64 k3] 43)::Zab p S B::X::dryHP B S::Zav B S::l):=H4.o;have c5:=(h4.pull 4 _ rfl).blk 5;have hxk:=(h4.pull 3 _ rfl).heap;have x0:=Zc hxk 0;have x1:=Zc hxk 1;have x2:=Zc hxk 2;have x3:=Zc hxk 3;simp [storeCells] at c5 x0 x1 x2 x3;obtain ⟨w5,hr5,hs5,h5⟩:=hX.dels 0 (h4.drew.pull 5 _ rfl);simp only [keyKT,K4.val] at hr5;have H5:=Zh h5;have HR5:=Zh hr5;clear h4 h5 hxk hr5;go_wp2_with fail;refine ZaM [] [0,1,2,3,4] [5] (by kernel_rfl) (by kernel_rfl) ?_;simp only [pickL,Zg,Zi];repeat (refine ZaE _ (Or.inl ⟨by rfl,by intro w;go_simp;try with_reducible rfl⟩) ?_;(try go_frame))
 refine ZaF ?_;repeat still_step
 refine ZaQ ?_;have hr5:=HR5.o;go_wp2;refine Zw ?_;clear c5 x0 x1 x2 x3 hr5;have h5:St W I w5 (Zal (slice Av ks.length cv) ks::HK::pt (w.heap.size+1) (cells #[int i64 k0,int i64 k1] 193)::Zab p S B::mapOf keyKT ZD B.m1 (del ⟨k0,k1,k2,k3⟩ S.seen)::dryHP B S::Zav B S::l):=(H5.o.pull 4 _ rfl).drop.perm (by ((try simp only [ZE,ZF,ZG,Zu]);repeat (first|with_reducible exact ZK _|(apply ZP;(· repeat (first|with_reducible exact ZO|with_reducible apply ZN))))));have hbk:=HB.o I w5 _ h5;have H7:=Zh hbk;clear h5 hbk;go_wp2_with fail;have h8:St W I w5 (Zab p S B::mapOf keyKT ZD B.m1 (del ⟨k0,k1,k2,k3⟩ S.seen)::dryHP B S::Zav B S::mapOf grpKT Zal B.m4 S.keys::l):=(H7.o.pull 1 _ rfl).drop.perm (by ((try simp only [ZE,ZF,ZG,Zu]);repeat (first|with_reducible exact ZK _|(apply ZP;(· repeat (first|with_reducible exact ZO|with_reducible apply ZN))))));have c1:=h8.blk 1;have f1:=frozen_of_row h8.heap 1;simp [storeCells] at c1;have H8:=Zh h8;clear h8;refine Zay (fun w'=>w'.cell? ⟨p,1,none⟩=some (int i64 S.used)) [0,1,2,3,4,6] [5,7] [8,9,10,11] (by kernel_rfl) (by kernel_rfl) (by (exact c1)) ?_;simp only [pickL,Zg,Zi];repeat (refine ZM _ (Or.inl ⟨by rfl,by (intro w hSw;(try dsimp only at hSw);go_simp;try with_reducible rfl)⟩) ?_;(try go_frame))
 refine Z7 ?_;unfold Zr;go_wp2_with fail;refine (Zih _).mono ?_;rintro e w9 ⟨rfl,rfl⟩;go_wp2;refine Zm c1 ?_;unfold Zr;go_wp2;refine Zm c1 ?_;unfold Zr;go_wp2;refine Zw ?_;clear c1 f1;go_wp2_with fail
 go_end0
 refine ⟨rfl,?_⟩;have h9:=H8.o.drew.setCell 1 (int i64 (IntKind.i64.wrap (S.used+(0 - was))));have e1:wrap64 (S.used+wrap64 (-was))=IntKind.i64.wrap (S.used+(0 - was)):=by simp only [wrap64,Zx];omega
 rw [e1];have hks3:=HKS.o;have hkm3:=HKM.o;rw [hks3] at hkm3;have e2:keyHP B (showS S ⟨k0,k1,k2,k3⟩ was none)=mapOf grpKT Zal B.m4 S.keys:=by
  unfold keyHP showS
  (simp only [hkm3,Zan,Zas,hks3]) <;> rfl
 rw [e2];exact h9
theorem Znr {B:SB} {X:HP} {v:Value} {t:TS} (ht:t.small) (k:K4) (hX:Spot k B.m1 S.seen X) (was:Int) (h:St W I w (Zab p S B::X::dryHP B S::Zav B S::keyHP B S::ZD v t::l)) (hr:Zbz (Zp S k.grp)) (hn:(Zp S k.grp).length<=100000) (hk:k ∈ Zp S k.grp) :
  Calls prog 79 #[pointer (some ⟨p,0,none⟩),k.val,int i64 was,v] w fun e w'=>e=.returned (.tuple #[])∧St W I w' (Zab p (showS S k was (some t)) B::ZD v t::HP.hole keyKT ZD B.m1 k v (del k S.seen)::dryHP B S::Zav B S::keyHP B (showS S k was (some t))::l):=by
 obtain ⟨k0,k1,k2,k3⟩:=k;unfold K4.val;have h2:=(h.alloc (cells #[int i64 k0,int i64 k1,int i64 k2,int i64 k3] 43)).alloc (cells #[int i64 k0,int i64 k1] 193);rw [show (w.alloc (cells #[int i64 k0,int i64 k1,int i64 k2,int i64 k3] 43)).heap.size=w.heap.size+1 by simp] at h2;obtain ⟨w2,hw2⟩:∃ w2,(w.alloc (cells #[int i64 k0,int i64 k1,int i64 k2,int i64 k3] 43)).alloc (cells #[int i64 k0,int i64 k1] 193)=w2:=⟨_,rfl⟩;rw [hw2] at h2;have HW2:=Zh hw2;clear hw2;have c8:=(h2.pull 2 _ rfl).blk 8;have g0:=Zc h2.heap 0;have g1:=Zc h2.heap 1;simp [storeCells] at c8 g0 g1;obtain ⟨vk,HK,hlk,h3,hback,hput⟩:=(h2.drew.pull 6 _ rfl).look_or (x0:=[]) underlying114 (fun w=>by kernel_rfl) (fun I w l h=>h.row_nil _ _) ⟨k0,k1⟩;have hlk:=hlk _ (ZI _ _) false;simp only [grpKT,G2.val] at hlk;have hks:(get (⟨k0,k1⟩:G2) S.keys).getD []=Zp S (K4.mk k0 k1 k2 k3).grp:=rfl;rw [hks] at h3 hback;have H2:=Zh h2;have H3:=Zh h3;have HB:=Zh hback;have HP':=Zh hput;obtain ⟨ks,hks2⟩:=Zn (Zp S (K4.mk k0 k1 k2 k3).grp);have HKS:=Zh hks2;rw [<-hks2] at H3 HB hr hn hk;clear hks hks2 h2 h3 hback hput;have hx2:=(H2.o.pull 1 _ rfl).heap;obtain ⟨Av,cv,rfl⟩:=ZA H3.o.row_owns;have HX2:=Zh hx2;have HR:=Zh hr;have HKM:=Zh hk;clear hx2 h hr hk;go_enter func79,ntmps79;go_wp2_with fail;rw [HW2.o];refine ZaM [] [0,1,2,3,4,5,6] [] (by kernel_rfl) (by kernel_rfl) ?_;simp only [pickL,Zg,Zi];repeat (refine ZaE _ (Or.inl ⟨by rfl,by intro w;go_simp;try with_reducible rfl⟩) ?_;(try go_frame))
 refine ZaF ?_;repeat still_step
 refine ZaQ ?_;go_wp2;refine Zw ?_;have x0:=Zc (w:=w2.drew) HX2.o 0;have x1:=Zc (w:=w2.drew) HX2.o 1;have x2:=Zc (w:=w2.drew) HX2.o 2;have x3:=Zc (w:=w2.drew) HX2.o 3;simp at x0 x1 x2 x3;clear hlk c8 g0 g1;go_wp2_with fail;refine (ZfV ⟨k0,k1,k2,k3⟩ H3.o (by omega) HR.o).mono ?_;rintro e w4 ⟨hb4,i,hpl,rfl⟩;have HPL:=Zh hpl;have hin:decide (ks[i]?=some ⟨k0,k1,k2,k3⟩)=true:=by
  simpa using (ZeJ HR.o HPL.o).2 HKM.o
 rw [hin];have h4:=H3.o.keep hb4;have H4:=Zh h4;have HIN:=Zh hin;clear hb4 hpl h4 hin x0 x1 x2 x3;have h4:St W I w4 (Zal (slice Av ks.length cv) ks::HK::pt (w.heap.size+1) (cells #[int i64 k0,int i64 k1] 193)::pt w.heap.size (cells #[int i64 k0,int i64 k1,int i64 k2,int i64 k3] 43)::Zab p S B::X::dryHP B S::Zav B S::ZD v t::l):=H4.o;have c5:=(h4.pull 4 _ rfl).blk 5;have hxk:=(h4.pull 3 _ rfl).heap;have x0:=Zc hxk 0;have x1:=Zc hxk 1;have x2:=Zc hxk 2;have x3:=Zc hxk 3;simp [storeCells] at c5 x0 x1 x2 x3;have h4':St W I w4.drew (ZD v t::X::Zal (slice Av ks.length cv) ks::HK::pt (w.heap.size+1) (cells #[int i64 k0,int i64 k1] 193)::pt w.heap.size (cells #[int i64 k0,int i64 k1,int i64 k2,int i64 k3] 43)::Zab p S B::dryHP B S::Zav B S::l):=h4.drew.perm (by ((try simp only [ZE,ZF,ZG,Zu]);repeat (first|with_reducible exact ZK _|(apply ZP;(· repeat (first|with_reducible exact ZO|with_reducible apply ZN))))));obtain ⟨w5,hr5,hs5,h5⟩:=hX.puts h4';simp only [keyKT,K4.val] at hr5;obtain ⟨bt,mt,vbt,hve,_⟩:=h5.thing_open;subst hve;have H5:=Zh h5;have HR5:=Zh hr5;clear h4 h4' h5 hxk hr5 hs5;go_wp2_with fail;refine ZaM [] [0,1,2,3,4,5] [6] (by kernel_rfl) (by kernel_rfl) ?_;simp only [pickL,Zg,Zi];repeat (refine ZaE _ (Or.inl ⟨by rfl,by intro w;go_simp;try with_reducible rfl⟩) ?_;(try go_frame))
 refine ZaF ?_;repeat still_step
 refine ZaQ ?_;have hr5:=HR5.o;go_wp2;refine Zw ?_;clear c5 x0 x1 x2 x3 hr5;have h5:St W I w5 (Zal (slice Av ks.length cv) ks::HK::pt (w.heap.size+1) (cells #[int i64 k0,int i64 k1] 193)::Zab p S B::pt w.heap.size (cells #[int i64 k0,int i64 k1,int i64 k2,int i64 k3] 43)::ZD (pointer (some ⟨bt,0,none⟩)) t::HP.hole keyKT ZD B.m1 ⟨k0,k1,k2,k3⟩ (pointer (some ⟨bt,0,none⟩)) (del ⟨k0,k1,k2,k3⟩ S.seen)::dryHP B S::Zav B S::l):=H5.o.perm (by ((try simp only [ZE,ZF,ZG,Zu]);repeat (first|with_reducible exact ZK _|(apply ZP;(· repeat (first|with_reducible exact ZO|with_reducible apply ZN))))));have hbk:=HB.o I w5 _ h5;have h8:St W I w5 (Zab p S B::ZD (pointer (some ⟨bt,0,none⟩)) t::HP.hole keyKT ZD B.m1 ⟨k0,k1,k2,k3⟩ (pointer (some ⟨bt,0,none⟩)) (del ⟨k0,k1,k2,k3⟩ S.seen)::dryHP B S::Zav B S::mapOf grpKT Zal B.m4 S.keys::l):=((hbk.pull 1 _ rfl).drop.pull 2 _ rfl).drop.perm (by ((try simp only [ZE,ZF,ZG,Zu]);repeat (first|with_reducible exact ZK _|(apply ZP;(· repeat (first|with_reducible exact ZO|with_reducible apply ZN))))));clear h5 hbk;go_wp2_with fail;have c1:=h8.blk 1;simp [storeCells] at c1;have H8:=Zh h8;clear h8;refine Zay (fun w'=>w'.cell? ⟨p,1,none⟩=some (int i64 S.used)) [0,1,2,3,4,6] [5,7] [8,9,10,11] (by kernel_rfl) (by kernel_rfl) (by (exact c1)) ?_;simp only [pickL,Zg,Zi];repeat (refine ZM _ (Or.inl ⟨by rfl,by (intro w hSw;(try dsimp only at hSw);go_simp;try with_reducible rfl)⟩) ?_;(try go_frame))
 refine Z7 ?_;unfold Zr;go_wp2_with fail;refine (ZhS (H8.o.drew.pull 1 _ rfl) (by have:=ht.1;omega)).mono ?_;rintro e w9 ⟨rfl,h9⟩;have c1':=(h9.pull 1 _ rfl).blk 1;have f1:=frozen_of_row (h9.pull 1 _ rfl).heap 1;simp [storeCells] at c1';have H9:=Zh h9;clear h9;go_wp2;refine Zm c1' ?_;unfold Zr;go_wp2;refine Zm c1' ?_;unfold Zr;go_wp2;refine Zw ?_;clear c1 f1 c1';go_wp2_with fail
 go_end0
 refine ⟨rfl,?_⟩;have h9:St W I w9 (Zab p S B::ZD (pointer (some ⟨bt,0,none⟩)) t::HP.hole keyKT ZD B.m1 ⟨k0,k1,k2,k3⟩ (pointer (some ⟨bt,0,none⟩)) (del ⟨k0,k1,k2,k3⟩ S.seen)::dryHP B S::Zav B S::mapOf grpKT Zal B.m4 (S.keys)::l):=H9.o.perm (by ((try simp only [ZE,ZF,ZG,Zu]);repeat (first|with_reducible exact ZK _|(apply ZP;(· repeat (first|with_reducible exact ZO|with_reducible apply ZN))))));have h10:=h9.setCell 1 (int i64 (IntKind.i64.wrap (S.used+(t.size - was))));have e1:wrap64 (S.used+wrap64 (wrap64 t.size - was))=IntKind.i64.wrap (S.used+(t.size - was)):=by simp only [wrap64,Zx];omega
 rw [e1];have hks3:=HKS.o;have hkm3:=HKM.o;rw [hks3] at hkm3;have e2:keyHP B (showS S ⟨k0,k1,k2,k3⟩ was (some t))=mapOf grpKT Zal B.m4 (S.keys):=by
  unfold keyHP showS
  (simp only [hkm3,Zan,Zas,hks3]) <;> rfl
 rw [e2];exact h10
end
section
variable {p : Nat} {S : Str}
theorem Zng {B:SB} {X:HP} {v:Value} {t:TS} (ht:t.small) (k:K4) (hX:Spot k B.m1 S.seen X) (was:Int) (h:St W I w (Zab p S B::X::dryHP B S::Zav B S::keyHP B S::ZD v t::l)) (hr:Zbz (Zp S k.grp)) (hn:(Zp S k.grp).length<=100000) (hk:k ∉ Zp S k.grp) :
  Calls prog 79 #[pointer (some ⟨p,0,none⟩),k.val,int i64 was,v] w fun e w'=>e=.returned (.tuple #[])∧St W I w' (Zab p (showS S k was (some t)) B::ZD v t::HP.hole keyKT ZD B.m1 k v (del k S.seen)::dryHP B S::Zav B S::keyHP B (showS S k was (some t))::l):=by
 obtain ⟨k0,k1,k2,k3⟩:=k;unfold K4.val;have h2:=(h.alloc (cells #[int i64 k0,int i64 k1,int i64 k2,int i64 k3] 43)).alloc (cells #[int i64 k0,int i64 k1] 193);rw [show (w.alloc (cells #[int i64 k0,int i64 k1,int i64 k2,int i64 k3] 43)).heap.size=w.heap.size+1 by simp] at h2;obtain ⟨w2,hw2⟩:∃ w2,(w.alloc (cells #[int i64 k0,int i64 k1,int i64 k2,int i64 k3] 43)).alloc (cells #[int i64 k0,int i64 k1] 193)=w2:=⟨_,rfl⟩;rw [hw2] at h2;have HW2:=Zh hw2;clear hw2;have c8:=(h2.pull 2 _ rfl).blk 8;have g0:=Zc h2.heap 0;have g1:=Zc h2.heap 1;simp [storeCells] at c8 g0 g1;obtain ⟨vk,HK,hlk,h3,hback,hput⟩:=(h2.drew.pull 6 _ rfl).look_or (x0:=[]) underlying114 (fun w=>by kernel_rfl) (fun I w l h=>h.row_nil _ _) ⟨k0,k1⟩;have hlk:=hlk _ (ZI _ _) false;simp only [grpKT,G2.val] at hlk;have hks:(get (⟨k0,k1⟩:G2) S.keys).getD []=Zp S (K4.mk k0 k1 k2 k3).grp:=rfl;rw [hks] at h3 hback;have H2:=Zh h2;have H3:=Zh h3;have HB:=Zh hback;have HP':=Zh hput;obtain ⟨ks,hks2⟩:=Zn (Zp S (K4.mk k0 k1 k2 k3).grp);have HKS:=Zh hks2;rw [<-hks2] at H3 HB hr hn hk;clear hks hks2 h2 h3 hback hput;have hx2:=(H2.o.pull 1 _ rfl).heap;obtain ⟨Av,cv,rfl⟩:=ZA H3.o.row_owns;have HX2:=Zh hx2;have HR:=Zh hr;have HKM:=Zh hk;clear hx2 h hr hk;go_enter func79,ntmps79;go_wp2_with fail;rw [HW2.o];refine ZaM [] [0,1,2,3,4,5,6] [] (by kernel_rfl) (by kernel_rfl) ?_;simp only [pickL,Zg,Zi];repeat (refine ZaE _ (Or.inl ⟨by rfl,by intro w;go_simp;try with_reducible rfl⟩) ?_;(try go_frame))
 refine ZaF ?_;repeat still_step
 refine ZaQ ?_;go_wp2;refine Zw ?_;have x0:=Zc (w:=w2.drew) HX2.o 0;have x1:=Zc (w:=w2.drew) HX2.o 1;have x2:=Zc (w:=w2.drew) HX2.o 2;have x3:=Zc (w:=w2.drew) HX2.o 3;simp at x0 x1 x2 x3;clear hlk c8 g0 g1;go_wp2_with fail;refine (ZfV ⟨k0,k1,k2,k3⟩ H3.o (by omega) HR.o).mono ?_;rintro e w4 ⟨hb4,i,hpl,rfl⟩;have HPL:=Zh hpl;have hin:decide (ks[i]?=some ⟨k0,k1,k2,k3⟩)=false:=by
  rw [ZT];exact fun q=>HKM.o ((ZeJ HR.o HPL.o).1 q)
 rw [hin];have h4:=H3.o.keep hb4;have H4:=Zh h4;have HIN:=Zh hin;clear hb4 hpl h4 hin x0 x1 x2 x3;have h4:St W I w4 (Zal (slice Av ks.length cv) ks::HK::pt (w.heap.size+1) (cells #[int i64 k0,int i64 k1] 193)::pt w.heap.size (cells #[int i64 k0,int i64 k1,int i64 k2,int i64 k3] 43)::Zab p S B::X::dryHP B S::Zav B S::ZD v t::l):=H4.o;have c5:=(h4.pull 4 _ rfl).blk 5;have hxk:=(h4.pull 3 _ rfl).heap;have x0:=Zc hxk 0;have x1:=Zc hxk 1;have x2:=Zc hxk 2;have x3:=Zc hxk 3;simp [storeCells] at c5 x0 x1 x2 x3;have h4':St W I w4.drew (ZD v t::X::Zal (slice Av ks.length cv) ks::HK::pt (w.heap.size+1) (cells #[int i64 k0,int i64 k1] 193)::pt w.heap.size (cells #[int i64 k0,int i64 k1,int i64 k2,int i64 k3] 43)::Zab p S B::dryHP B S::Zav B S::l):=h4.drew.perm (by ((try simp only [ZE,ZF,ZG,Zu]);repeat (first|with_reducible exact ZK _|(apply ZP;(· repeat (first|with_reducible exact ZO|with_reducible apply ZN))))));obtain ⟨w5,hr5,hs5,h5⟩:=hX.puts h4';simp only [keyKT,K4.val] at hr5;obtain ⟨bt,mt,vbt,hve,_⟩:=h5.thing_open;subst hve;have H5:=Zh h5;have HR5:=Zh hr5;clear h4 h4' h5 hxk hr5 hs5;go_wp2_with fail;refine ZaM [] [0,1,2,3,4,5] [6] (by kernel_rfl) (by kernel_rfl) ?_;simp only [pickL,Zg,Zi];repeat (refine ZaE _ (Or.inl ⟨by rfl,by intro w;go_simp;try with_reducible rfl⟩) ?_;(try go_frame))
 refine ZaF ?_;repeat still_step
 refine ZaQ ?_;have hr5:=HR5.o;go_wp2;refine Zw ?_;clear c5 x0 x1 x2 x3 hr5;have h5:St W I w5 (Zal (slice Av ks.length cv) ks::HK::pt (w.heap.size+1) (cells #[int i64 k0,int i64 k1] 193)::Zab p S B::pt w.heap.size (cells #[int i64 k0,int i64 k1,int i64 k2,int i64 k3] 43)::ZD (pointer (some ⟨bt,0,none⟩)) t::HP.hole keyKT ZD B.m1 ⟨k0,k1,k2,k3⟩ (pointer (some ⟨bt,0,none⟩)) (del ⟨k0,k1,k2,k3⟩ S.seen)::dryHP B S::Zav B S::l):=H5.o.perm (by ((try simp only [ZE,ZF,ZG,Zu]);repeat (first|with_reducible exact ZK _|(apply ZP;(· repeat (first|with_reducible exact ZO|with_reducible apply ZN))))));have hxk:=(h5.pull 4 _ rfl).heap;have x0:=Zc hxk 0;have x1:=Zc hxk 1;have x2:=Zc hxk 2;have x3:=Zc hxk 3;simp at x0 x1 x2 x3;clear hxk;have c8:=(h5.pull 3 _ rfl).blk 8;have hg:=(h5.pull 2 _ rfl).heap;have g0:=Zc hg 0;have g1:=Zc hg 1;simp [storeCells] at c8 g0 g1;have H5':=Zh h5;have z1:IntKind.i64.wrap ((i:Int)+1)=(i:Int)+1:=by
  have:=HPL.o.le;rw [Zx];omega
 clear h5 hg;go_wp2_with fail;refine Zay (fun w'=>w'.cell? ⟨p,8,none⟩=some (.map (some B.m4))∧w'.cell? ⟨w.heap.size+1,0,none⟩=some (int i64 k0)∧w'.cell? ⟨w.heap.size+1,1,none⟩=some (int i64 k1)∧w'.cell? ⟨w.heap.size,0,none⟩=some (int i64 k0)∧w'.cell? ⟨w.heap.size,1,none⟩=some (int i64 k1)∧w'.cell? ⟨w.heap.size,2,none⟩=some (int i64 k2)∧w'.cell? ⟨w.heap.size,3,none⟩=some (int i64 k3)) [0,1,2,3,4,5,6,7] [8,9] [10] (by kernel_rfl) (by kernel_rfl) (by (exact ⟨c8,g0,g1,x0,x1,x2,x3⟩)) ?_;simp only [pickL,Zg,Zi];repeat (refine ZM _ (Or.inl ⟨by rfl,by (intro w hSw;(try dsimp only at hSw);go_simp;try with_reducible rfl)⟩) ?_;(try go_frame))
 refine Z7 ?_;unfold Zr;go_wp2_with fail;have hs0:=(H5'.o.alloc (cells #[int i64 k0,int i64 k1,int i64 k2,int i64 k3] 43)).drew;obtain ⟨wn,hwn⟩:∃ wn,(w5.alloc (cells #[int i64 k0,int i64 k1,int i64 k2,int i64 k3] 43)).drew=wn:=⟨_,rfl⟩;rw [hwn] at hs0 |-;clear hwn;have c8b:=(hs0.pull 4 _ rfl).blk 8;have hgb:=(hs0.pull 3 _ rfl).heap;have hkb:=(hs0.pull 5 _ rfl).heap;have g0b:=Zc hgb 0;have g1b:=Zc hgb 1;have x0b:=Zc hkb 0;have x1b:=Zc hkb 1;have x2b:=Zc hkb 2;have x3b:=Zc hkb 3;simp [storeCells] at c8b g0b g1b x0b x1b x2b x3b;have HS0:=Zh hs0;clear hs0 hgb hkb;refine Zm ⟨c8b,g0b,g1b,x0b,x1b,x2b,x3b⟩ ?_;unfold Zr;clear c8 g0 g1 x0 x1 x2 x3;go_wp2_with fail;refine (Zoq ⟨k0,k1,k2,k3⟩ HS0.o (by omega) HPL.o.le).mono ?_;rintro e w6 ⟨v6,rfl,h6⟩;rw [ZqJ HPL.o] at h6;obtain ⟨A6,c6,rfl⟩:=ZA h6.row_owns;obtain ⟨w7,hr7,hs7,h7⟩:=HP'.o I w6 _ _ _ h6;simp only [grpKT,G2.val] at hr7;have c8':=(h6.pull 3 _ rfl).blk 8;have hg':=(h6.pull 2 _ rfl).heap;have hk':=(h6.pull 4 _ rfl).heap;have g0':=Zc hg' 0;have g1':=Zc hg' 1;have x0':=Zc hk' 0;have x1':=Zc hk' 1;have x2':=Zc hk' 2;have x3':=Zc hk' 3;simp [storeCells] at c8' g0' g1' x0' x1' x2' x3';have H7:=Zh h7;have HR7:=Zh hr7;clear h6 h7 hr7 hg' hk' z1 c8b g0b g1b x0b x1b x2b x3b;go_wp2;refine Zm ⟨c8',g0',g1',x0',x1',x2',x3'⟩ ?_;have hr7:=HR7.o;unfold Zr;go_wp2;refine Zw ?_;clear hr7 c8' g0' g1' x0' x1' x2' x3';go_wp2_with fail;have h8:St W I w7 (Zab p S B::ZD (pointer (some ⟨bt,0,none⟩)) t::HP.hole keyKT ZD B.m1 ⟨k0,k1,k2,k3⟩ (pointer (some ⟨bt,0,none⟩)) (del ⟨k0,k1,k2,k3⟩ S.seen)::dryHP B S::Zav B S::mapOf grpKT Zal B.m4 (put ⟨k0,k1⟩ (addK ⟨k0,k1,k2,k3⟩ ks) S.keys)::l):=((H7.o.pull 1 _ rfl).drop.pull 2 _ rfl).drop.perm (by ((try simp only [ZE,ZF,ZG,Zu]);repeat (first|with_reducible exact ZK _|(apply ZP;(· repeat (first|with_reducible exact ZO|with_reducible apply ZN))))));have c1:=h8.blk 1;simp [storeCells] at c1;have H8:=Zh h8;clear h8;refine Zay (fun w'=>w'.cell? ⟨p,1,none⟩=some (int i64 S.used)) [0,1,2,3,4,6] [5,7] [8,9,10,11] (by kernel_rfl) (by kernel_rfl) (by (exact c1)) ?_;simp only [pickL,Zg,Zi];repeat (refine ZM _ (Or.inl ⟨by rfl,by (intro w hSw;(try dsimp only at hSw);go_simp;try with_reducible rfl)⟩) ?_;(try go_frame))
 refine Z7 ?_;unfold Zr;go_wp2_with fail;refine (ZhS (H8.o.drew.pull 1 _ rfl) (by have:=ht.1;omega)).mono ?_;rintro e w9 ⟨rfl,h9⟩;have c1':=(h9.pull 1 _ rfl).blk 1;have f1:=frozen_of_row (h9.pull 1 _ rfl).heap 1;simp [storeCells] at c1';have H9:=Zh h9;clear h9;go_wp2;refine Zm c1' ?_;unfold Zr;go_wp2;refine Zm c1' ?_;unfold Zr;go_wp2;refine Zw ?_;clear c1 f1 c1';go_wp2_with fail
 go_end0
 refine ⟨rfl,?_⟩;have h9:St W I w9 (Zab p S B::ZD (pointer (some ⟨bt,0,none⟩)) t::HP.hole keyKT ZD B.m1 ⟨k0,k1,k2,k3⟩ (pointer (some ⟨bt,0,none⟩)) (del ⟨k0,k1,k2,k3⟩ S.seen)::dryHP B S::Zav B S::mapOf grpKT Zal B.m4 (put ⟨k0,k1⟩ (addK ⟨k0,k1,k2,k3⟩ ks) S.keys)::l):=H9.o.perm (by ((try simp only [ZE,ZF,ZG,Zu]);repeat (first|with_reducible exact ZK _|(apply ZP;(· repeat (first|with_reducible exact ZO|with_reducible apply ZN))))));have h10:=h9.setCell 1 (int i64 (IntKind.i64.wrap (S.used+(t.size - was))));have e1:wrap64 (S.used+wrap64 (wrap64 t.size - was))=IntKind.i64.wrap (S.used+(t.size - was)):=by simp only [wrap64,Zx];omega
 rw [e1];have hks3:=HKS.o;have hkm3:=HKM.o;rw [hks3] at hkm3;have e2:keyHP B (showS S ⟨k0,k1,k2,k3⟩ was (some t))=mapOf grpKT Zal B.m4 (put ⟨k0,k1⟩ (addK ⟨k0,k1,k2,k3⟩ ks) S.keys):=by
  unfold keyHP showS
  (simp only [hkm3,Zan,Zas,hks3]) <;> rfl
 rw [e2];exact h10
theorem Zns {B:SB} {X:HP} {v:Value} {t:TS} (ht:t.small) (k:K4) (hX:Spot k B.m1 S.seen X) (was:Int) (h:St W I w (Zab p S B::X::dryHP B S::Zav B S::keyHP B S::ZD v t::l)) (hr:Zbz (Zp S k.grp)) (hn:(Zp S k.grp).length<=100000) :
  Calls prog 79 #[pointer (some ⟨p,0,none⟩),k.val,int i64 was,v] w fun e w'=>e=.returned (.tuple #[])∧St W I w' (Zab p (showS S k was (some t)) B::ZD v t::HP.hole keyKT ZD B.m1 k v (del k S.seen)::dryHP B (showS S k was (some t))::Zav B (showS S k was (some t))::keyHP B (showS S k was (some t))::l):=by
 by_cases hk:k ∈ Zp S k.grp
 ·exact Znr ht k hX was h hr hn hk
 ·exact Zng ht k hX was h hr hn hk
theorem ZsQ {B:SB} {X:HP} {v:Value} {o:Option TS} (ho:Zdj o) (k:K4) (hX:Spot k B.m1 S.seen X) (was:Int) (h:St W I w (Zab p S B::X::dryHP B S::Zav B S::keyHP B S::optHP v o::l)) (hr:Zbz (Zp S k.grp)) (hn:(Zp S k.grp).length<=100000) :
  Calls prog 79 #[pointer (some ⟨p,0,none⟩),k.val,int i64 was,v] w fun e w'=>e=.returned (.tuple #[])∧St W I w' (Zab p (showS S k was o) B::Zb5 B (showS S k was o)::dryHP B (showS S k was o)::Zav B (showS S k was o)::keyHP B (showS S k was o)::l):=by
 cases o with
 | none =>
  obtain ⟨rfl,h1⟩:=(h.pull 5 _ rfl).pure_open;by_cases hk:k ∈ Zp S k.grp
  ·exact ZnO k hX was h1 hr hn hk
  ·exact Znq k hX was h1 hr hn hk
 | some t =>
  refine (Zns ho k hX was h hr hn).mono ?_;rintro e w' ⟨rfl,h1⟩;exact ⟨rfl,(St.hole_back (h1.perm (m:=ZD v t::HP.hole keyKT ZD B.m1 k v (del k S.seen)::Zab p (showS S k was (some t)) B::dryHP B (showS S k was (some t))::Zav B (showS S k was (some t))::keyHP B (showS S k was (some t))::l) (by ((try simp only [ZE,ZF,ZG,Zu]);repeat (first|with_reducible exact ZK _|(apply ZP;(· repeat (first|with_reducible exact ZO|with_reducible apply ZN)))))))).pull 1 _ rfl⟩
end
def fuseS (S:Str) (n:Int) (keep:List Int) (torn:Int):Str :=
 if 0<=n then { S with armed:=true,fuse:=n,keep:=keep,torn:=torn } else { S with armed:=false,fuse:=0,keep:=[],torn:=0 }
section
variable {p : Nat} {S : Str}
theorem Zr7 (I:Hp):IntsI I (slice none 0 0) []:=⟨none,0,rfl,rfl,ZC _,by unfold maxLen;omega,fun _=>rfl,fun h=>absurd h (by simp)⟩
end
open Go.Shelf
attribute [local go_sem] Oper.semAt_some
def lateAt (S:Str) (k:K4):List Dd:=(get k S.late).getD []
def keptN (keep:Int) (n:Nat):Nat:=(max 0 (min keep n)).toNat
def tornD (torn:Int) (d:Dd):Dd:={ d with p:=d.p.take (min torn.toNat (d.p.length - 1)) }
def leftS (S:Str) (k:K4) (keep torn:Int):Option TS × Int :=
 let l:=lateAt S k
 let n:=keptN keep l.length
 let t:=(l.take n).foldl stepD (get k S.dry)
 (match l[n]? with
   | some d=>if d.kind=1∧0<torn∧d.p≠[] then stepD t (tornD torn d) else t
   | none=>t,(l.length:Int) - n)
theorem Zga {o:Option TS} {d:Dd} (h:Zdj o) (hd:d.fits):Zdj (stepD o d):=by
 obtain ⟨⟨h0,h1,h2,h3⟩,h4,h5⟩:=hd;unfold stepD;split
 ·exact ⟨by simp,by simp⟩
 split
 ·trivial
 cases o with
 | none=>trivial
 | some t =>
  simp only;split
  ·refine ⟨?_,h.2⟩;simp only [ZjK];split
   ·exact h.1
   ·have:=h.1;omega
  split
  ·exact ⟨by have:=h.1;simp [ZJ];omega,h.2⟩
  split
  ·rename_i hk;refine ⟨h.1,?_⟩;simp only [ZbN];intro x hx;split at hx
   ·exact h.2 x ((Za4.1 hx).1)
   ·rcases Z4.1 hx with rfl|hx
    ·exact h3 hk
    ·exact h.2 x ((Za4.1 hx).1)
  ·exact h
theorem Zpo {l:List Dd}:∀ {o:Option TS},Zdj o->(∀ d ∈ l,d.fits)->Zdj (l.foldl stepD o):=by
 induction l with
 | nil=>exact fun h _=>h
 | cons d l ih=>exact fun h hd=>ih (Zga h (hd d (Zat ..))) fun x hx=>hd x (ZaB _ hx)
section
variable {p : Nat} {S : Str}
theorem ZqN (I:Hp) (w:World) (l:List HP) (h:St W I w l):St W I w (ZbO (slice none 0 0) []::l) :=
 St.ex_shut [] (St.all_shut (St.imm_shut (A:=psIP [] []) ⟨rfl,fun i d p h=>by simp at h⟩ (h.row_nil _ _)))
theorem St.deeds_open {v:Value} {ds:List Dd} (h:St W I w (ZbO v ds::l)):∃ ps,(psIP ds ps).p I∧St W I w (HP.row 184 4 v ds.length (Zeo ds ps)::l):=by
 obtain ⟨ps,h⟩:=h.ex_open;obtain ⟨hp,h⟩:=(St.all_open h).imm_open;exact ⟨ps,hp,h⟩
theorem St.deeds_shut {v:Value} {ds:List Dd} {ps:List Value} (hp:(psIP ds ps).p I) (h:St W I w (HP.row 184 4 v ds.length (Zeo ds ps)::l)):St W I w (ZbO v ds::l) :=
 St.ex_shut ps (St.all_shut (St.imm_shut hp h))
theorem ZqO {d:Dd} {torn:Int} (h:d.fits):(tornD torn d).fits:=by
 obtain ⟨⟨h0,h1,h2,h3⟩,h4,h5⟩:=h;have e:(tornD torn d).p.length<=d.p.length:=by simp [tornD,ZJ];omega
 exact ⟨⟨h0,by show d.n+_<=_;omega,by omega,fun hk=>by have:=h3 hk;omega⟩,h4,h5⟩
set_option maxHeartbeats 16000000
end
end Go.Proofs.YtpjchngjhijgmaaGreat
namespace Go.Proofs
open Go.Shelf
def Tryz.sortK_ren:Go.Shelf.Ren:=⟨fun|6=>135|15=>177|14=>176|28=>199|29=>200|20=>191|21=>192|22=>193|23=>194|24=>195|25=>196|26=>197|27=>198|46=>206|47=>207|48=>208|49=>209|50=>210|57=>214|n=>n,fun|22=>137|24=>43|25=>143|3=>3|39=>78|0=>0|53=>180|55=>122|4=>4|46=>253|45=>252|50=>194|5=>5|9=>9|66=>265|70=>237|76=>275|77=>168|n=>n,fun|n=>n⟩
end Go.Proofs
namespace Go.Proofs.YtpjchngjhijgmaaGreat
open Go.Sort Go.Shelf Go.Lib Go.Proofs
instance:Inhabited K4:=⟨⟨0,0,0,0⟩⟩
theorem Zg0 {w:World} {b b':Nat} {e:TypeId} {size:Nat} {v:Value} {n:Nat} {xs:List Value} (h:w.ownsRow b e size v n xs) (hb:b'<=b):w.ownsRow b' e size v n xs:=by
 obtain ⟨h1,h2⟩:=h;refine ⟨h1,?_⟩;rcases h2 with h2|⟨g,cap,cur,e1,hb2,h3⟩
 ·exact .inl h2
 ·exact .inr ⟨g,cap,cur,e1,Zaw hb hb2,h3⟩
end Go.Proofs.YtpjchngjhijgmaaGreat
