import Derived.RangeFuncNested
import Derived.RangeFuncBound
import Derived.RangeFuncCalls
import Derived.RangeFuncLeaves
import Derived.RangeFuncKeeps
import Derived.Shelf.Abstract
import Derived.Shelf.RegionOpen
import Derived.OwnWalkIn
import Derived.TacticsInMore
import Derived.LoopNIn
import Derived.LoopIn
import Derived.Test.YtcbdghojlbpomaaGreatIF02
set_option linter.all false
set_option maxRecDepth 4000
set_option maxHeartbeats 8000000
open Go.RowKit
open Go.IntKind (i64 u64)
open Go.Value (int pointer slice)
open Go.Obj (cells)
namespace Go.Proofs.YtcbdghojlbpomaaGreat
open Tryz
open HP (pt mapOf)
variable {W w w':World} {I:Hp} {l:List HP}
section
variable {P : Program} {k : TypeId} {K : Type} [DecidableEq K] {α : Type}
variable {T : KT P k K} {own : Value -> α -> HP} {b : Nat} {L L' : List (K × α)} {a : K} {x : α} {v : Value}
theorem St.look_or (h:St W I w (mapOf T own b L::l)) {t e:TypeId} (ht:P.underlying t=some (.map k e)) {z:Value} {x0:α} (hz:∀ w,(zeroValue e).run P w=.ok z w)
  (h0:∀ I w l,St W I w l->St W I w (own z x0::l)) (a:K) :
  ∃ v H,(∀ w2,Below w.heap.size w w2->∀ ok,(Instr.lookup t (.map (some b)) (T.kv a) ok).run P w2=.ok (if ok then .tuple #[v,.bool (get a L).isSome] else v) w2)∧St W I w (own v ((get a L).getD x0)::H::l) ∧
   (∀ I' w' l',St W I' w' (own v ((get a L).getD x0)::H::l')->St W I' w' (mapOf T own b L::l')) ∧
   (∀ I' w' l' v' x',St W I' w' (own v' x'::H::l')->∃ w'',(Instr.mapUpdate t (.map (some b)) (T.kv a) v').run P w'=.ok () w''∧w''.heap.size=w'.heap.size∧St W I' w'' (mapOf T own b (put a x' L)::l')):=by
 have hn:=h.mapOf_nodup;rcases h.mapOf_look ht hz a with ⟨hg,hl⟩|⟨v,x,hg,hl,h1⟩
 ·refine ⟨z,mapOf T own b L,fun w2 hw ok=>by rw [hl w2 hw ok,hg];rfl,by rw [hg];exact h0 _ _ _ h,fun I' w' l' h'=>h'.drop,fun I' w' l' v' x' h'=>h'.mapOf_put ht a⟩
 ·have hp:((a,x)::del a L).Perm L:=(ZeI hn hg).symm;refine ⟨v,HP.hole T own b a v (del a L),fun w2 hw ok=>by rw [hl w2 hw ok,hg];rfl,by rw [hg];exact h1,fun I' w' l' h'=>?_,fun I' w' l' v' x' h'=>?_⟩
  ·rw [hg] at h';exact (h'.hole_back).mapOf_perm hp
  ·exact h'.hole_put ht
theorem St.mapOf_put_hole (h:St W I w (own v x::mapOf T own b L::l)) {t e:TypeId} (ht:P.underlying t=some (.map k e)) (a:K) :
  ∃ w',(Instr.mapUpdate t (.map (some b)) (T.kv a) v).run P w=.ok () w'∧w'.heap.size=w.heap.size∧St W I w' (own v x::HP.hole T own b a v (del a L)::l):=by
 obtain ⟨M,hp,h⟩:=(h.perm (List.Perm.swap _ _ _)).mapOf_open;obtain ⟨w',hrun,hsz,h⟩:=h.map_put ht a v;refine ⟨w',hrun,hsz,?_⟩;have hM:put a v (M.map fst3)=(a,v)::(M.filter fun m=>decide (m.1≠a)).map fst3:=by
  simp only [put,del,ZcP];rfl
 rw [hM] at h;have hD:((M.filter fun m=>decide (m.1≠a)).map dat3).Perm (del a L):=by
  have:del a (M.map dat3)=(M.filter fun m=>decide (m.1≠a)).map dat3:=by
   simp only [del,ZcP];rfl
  rw [<-this];exact Zcq hp
 have hsplit:(M.map (own3 own)).Perm ((M.filter fun m=>!decide (m.1≠a)).map (own3 own)++(M.filter fun m=>decide (m.1≠a)).map (own3 own)):=by
  rw [<-Z4];exact ((Zes.trans (Zh7 _ M)).symm).map _
 have h2:=h.perm (List.Perm.cons _ (hsplit.append_right (own v x::l)))
 have h3:St W I w' ((M.filter fun m=>!decide (m.1≠a)).map (own3 own)++(HP.map T b ((a,v)::(M.filter fun m=>decide (m.1≠a)).map fst3)::((M.filter fun m=>decide (m.1≠a)).map (own3 own)++(own v x::l)))):=h2.perm (by
  rw [Zam]
  exact Zb8.symm)
 have h5:St W I w' (HP.hole T own b a v (del a L)::own v x::l):=St.ex_shut (M.filter fun m=>decide (m.1≠a)) (St.all_shut (St.pure_shut (⟨hD,fun p hp'=>by simpa using (Z1.1 hp').2⟩:_∧_) h3.drops));exact h5.perm (List.Perm.swap _ _ _)
end
def Zj (S:Str) (g:G2):List K4:=(get g S.keys).getD []
def remK (k:K4) (ks:List K4):List K4:=ks.filter fun a=>decide (a≠k)
def addK (k:K4) (ks:List K4):List K4:=ks.filter (fun a=>a.lt k)++k::ks.filter (fun a=>!a.lt k)
def showS (S:Str) (k:K4) (was:Int) (o:Option TS):Str :=
 { S with
  seen:=match o with
   | none=>del k S.seen
   | some t=>put k t S.seen
  keys:=match o with
   | none=>if k ∈ Zj S k.grp then put k.grp (remK k (Zj S k.grp)) S.keys else S.keys
   | some _=>if k ∈ Zj S k.grp then S.keys else put k.grp (addK k (Zj S k.grp)) S.keys
  used:=IntKind.i64.wrap (S.used+(sizeO o - was)) }
theorem ZfD (a:K4):a.lt a=false:=by
 rw [Zeu];intro h;simp only [K4.lt,Ze] at h;omega
theorem Zeg {ks:List K4} {k:K4} {i:Nat} (hr:Za6 ks) (h:Place ks k i):ks[i]?=some k↔k ∈ ks:=by
 constructor
 ·exact Zay
 ·intro hm;obtain ⟨j,hj⟩:=Zc8 hm;rcases Nat.lt_trichotomy j i with h1|h1|h1
  ·have:=h.below j k h1 hj;rw [ZfD] at this;cases this
  ·rw [<-h1];exact hj
  ·have hil:i<ks.length:=by have:=(ZS.1 hj).1;omega
   have h2:=ZgZ hr (ZL hil) hj h1;have h3:=h.above i _ (Z9 _) (ZL hil);rw [h2] at h3;cases h3
theorem Zi4 {ks:List K4} {k:K4} {i:Nat} (h:Place ks k i):ks.take i=ks.filter (fun a=>a.lt k)∧ks.drop i=ks.filter (fun a=>!a.lt k):=by
 have h1:∀ a ∈ ks.take i,a.lt k=true:=fun a ha=>by
  obtain ⟨j,hj⟩:=Zc8 ha;rw [Zci] at hj;split at hj
  ·exact h.below j a ‹_› hj
  ·cases hj
 have h2:∀ a ∈ ks.drop i,a.lt k=false:=fun a ha=>by
  obtain ⟨j,hj⟩:=Zc8 ha;rw [Zb9] at hj;exact h.above _ a (by omega) hj
 have e:ks=ks.take i++ks.drop i:=(ZdH i ks).symm;constructor
 ·conv=>rhs;rw [e]
  rw [Zca,Zcy.2 h1,Zd2.2 (fun a ha=>by rw [h2 a ha];decide),ZdG]
 ·conv=>rhs;rw [e]
  rw [Zca,Zd2.2 (fun a ha=>by rw [h1 a ha];decide),Zcy.2 (fun a ha=>by rw [h2 a ha];rfl),ZP]
theorem Zoi {ks:List K4} {k:K4} {i:Nat} (h:Place ks k i):insK i k ks=addK k ks:=by
 unfold insK addK;rw [(Zi4 h).1,(Zi4 h).2]
theorem ZgH {ks:List K4} (hr:Za6 ks):ks.Nodup:=hr.imp fun {a b} h e=>by subst e;rw [ZfD] at h;cases h
theorem Zoj {ks:List K4} {k:K4} {i:Nat} (hr:Za6 ks) (hi:ks[i]?=some k):ks.eraseIdx i=remK k ks:=by
 have hn:=ZgH hr;obtain ⟨hlt,hk⟩:=ZS.1 hi;have e:ks=ks.take i++k::ks.drop (i+1):=by
  rw [<-hk,<-ZdI hlt,ZdH]
 have hn':(ks.take i++k::ks.drop (i+1)).Nodup:=e ▸ hn;have h1:=Zgo.1 hn';have h2:=Za9.1 h1.2.1;have e2:ks.eraseIdx i=ks.take i++ks.drop (i+1):=Zey ..;rw [e2];unfold remK;conv=>rhs;rw [e]
 rw [Zca,Zcy.2 (fun a ha=>by simpa using h1.2.2 a ha k (Z0 ..)),ZaM];simp only [ne_eq,Zc9,decide_false,ZaS,Zau];rw [Zcy.2 (fun a ha=>by simpa using fun q:a=k=>h2.1 (q ▸ ha))]
section
variable {p : Nat} {S : Str}
structure Spot (k:K4) (m:Nat) (L:List (K4 × TS)) (X:HP):Prop where
 dels:∀ {W w:World} {I:Hp} {l:List HP} (ty:TypeId),St W I w (X::l)->∃ w',(Builtin.delete_ #[141,150] ty #[.map (some m),keyKT.kv k]).run prog w=.ok (.tuple #[]) w'∧w'.heap.size=w.heap.size∧St W I w' (mapOf keyKT Zv m (del k L)::l)
 puts:∀ {W w:World} {I:Hp} {l:List HP} {v:Value} {t:TS},St W I w (Zv v t::X::l)->∃ w',(Instr.mapUpdate 141 (.map (some m)) (keyKT.kv k) v).run prog w=.ok () w'∧w'.heap.size=w.heap.size∧St W I w' (Zv v t::HP.hole keyKT Zv m k v (del k L)::l)
theorem Zok (k:K4) (m:Nat) (L:List (K4 × TS)):Spot k m L (mapOf keyKT Zv m L) :=
 ⟨fun ty h=>h.mapOf_del (ty:=ty) underlying141 k,fun h=>h.mapOf_put_hole underlying141 k⟩
theorem ZlR {P:Program} {kt:TypeId} {K α:Type} [DecidableEq K] {T:KT P kt K} {own:Value->α->HP} {W w:World} {I:Hp} {l:List HP} {b:Nat} {L:List (K × α)} {a:K} {u:Value} (h:St W I w (HP.hole T own b a u L::l)) {t e:TypeId} (ht:P.underlying t=some (.map kt e)) (v:Value) :
  ∃ w',(Instr.mapUpdate t (.map (some b)) (T.kv a) v).run P w=.ok () w'∧w'.heap.size=w.heap.size∧St W I w' (HP.hole T own b a v L::l):=by
 obtain ⟨M,hp,hne,h⟩:=h.hole_open;have hn:=h.map_nodup;obtain ⟨w',hrun,hsz,h⟩:=h.map_put ht a v;refine ⟨w',hrun,hsz,?_⟩;have hdel:del a ((a,u)::M.map fst3)=M.map fst3:=by
  unfold del;simp only [ZaM,ne_eq,Zc9,decide_false,ZaS,Zau];exact Zcm (get_none.2 fun p hp' e=>(Za9.1 hn).1 (ZH.2 ⟨p,hp',e⟩))
 unfold put at h;rw [hdel] at h;exact St.ex_shut M (St.all_shut (St.pure_shut ⟨hp,hne⟩ h))
theorem Zol (k:K4) (m:Nat) (u:Value) (L:List (K4 × TS)):Spot k m L (HP.hole keyKT Zv m k u (del k L)) :=
 ⟨fun ty h=>h.hole_del (ty:=ty) underlying141,fun h=>by
  obtain ⟨w',h1,h2,h3⟩:=ZlR (h.perm (List.Perm.swap _ _ _)) underlying141 _
  exact ⟨w',h1,h2,h3.perm (List.Perm.swap _ _ _)⟩⟩
theorem ZpD {v:Value} {o:Option TS} (h:St W I w (optHP v o::l)) (ht:ZcM o) :
  Calls prog 129 #[v] w fun e w'=>e=.returned (int i64 (IntKind.i64.wrap (sizeO o)))∧St W I w' (optHP v o::l):=by
 cases o with
 | none =>
  obtain ⟨rfl,h1⟩:=h.pure_open;refine (ZhA w).mono ?_;rintro e w' ⟨rfl,rfl⟩;exact ⟨by rw [show IntKind.i64.wrap (sizeO none)=0 by rfl],h⟩
 | some t=>exact Zhf h (by have:=ht.1;omega)
theorem Zl5 {B:SB} {X:HP} (k:K4) (hX:Spot k B.m1 S.seen X) (was:Int) (h:St W I w (ZV p S B::X::dryHP B S::Zan B S::keyHP B S::l)) (hr:Za6 (Zj S k.grp)) (hn:(Zj S k.grp).length<=100000) (hk:k ∈ Zj S k.grp) :
  Calls prog 128 #[pointer (some ⟨p,0,none⟩),k.val,int i64 was,pointer none] w fun e w'=>e=.returned (.tuple #[])∧St W I w' (ZV p (showS S k was none) B::ZbD B (showS S k was none)::dryHP B S::Zan B S::keyHP B (showS S k was none)::l):=by
 obtain ⟨k0,k1,k2,k3⟩:=k;unfold K4.val;have h2:=(h.alloc (cells #[int i64 k0,int i64 k1,int i64 k2,int i64 k3] 150)).alloc (cells #[int i64 k0,int i64 k1] 247);rw [show (w.alloc (cells #[int i64 k0,int i64 k1,int i64 k2,int i64 k3] 150)).heap.size=w.heap.size+1 by simp] at h2;obtain ⟨w2,hw2⟩:∃ w2,(w.alloc (cells #[int i64 k0,int i64 k1,int i64 k2,int i64 k3] 150)).alloc (cells #[int i64 k0,int i64 k1] 247)=w2:=⟨_,rfl⟩;rw [hw2] at h2;have HW2:=Zh hw2;clear hw2;have c8:=(h2.pull 2 _ rfl).blk 8;have g0:=Zc h2.heap 0;have g1:=Zc h2.heap 1;simp [storeCells] at c8 g0 g1;obtain ⟨vk,HK,hlk,h3,hback,hput⟩:=(h2.drew.pull 6 _ rfl).look_or (x0:=[]) underlying143 (fun w=>by kernel_rfl) (fun I w l h=>h.row_nil _ _) ⟨k0,k1⟩;have hlk:=hlk _ (ZR _ _) false;simp only [grpKT,G2.val] at hlk;have hks:(get (⟨k0,k1⟩:G2) S.keys).getD []=Zj S (K4.mk k0 k1 k2 k3).grp:=rfl;rw [hks] at h3 hback;have H2:=Zh h2;have H3:=Zh h3;have HB:=Zh hback;have HP':=Zh hput;obtain ⟨ks,hks2⟩:=Zn (Zj S (K4.mk k0 k1 k2 k3).grp);have HKS:=Zh hks2;rw [<-hks2] at H3 HB hr hn hk;clear hks hks2 h2 h3 hback hput;have hx2:=(H2.o.pull 1 _ rfl).heap;obtain ⟨Av,cv,rfl⟩:=ZD H3.o.row_owns;have HX2:=Zh hx2;have HR:=Zh hr;have HKM:=Zh hk;clear hx2 h hr hk;go_enter func128,ntmps128;go_wp2_with fail;rw [HW2.o];refine ZaD [] [0,1,2,3,4,5,6] [] (by kernel_rfl) (by kernel_rfl) ?_;simp only [pickL,Zg,Zi];repeat (refine ZaA _ (Or.inl ⟨by rfl,by intro w;go_simp;try with_reducible rfl⟩) ?_;(try go_frame))
 refine ZaB ?_;repeat still_step
 refine ZaI ?_;go_wp2;refine Zu ?_;have x0:=Zc (w:=w2.drew) HX2.o 0;have x1:=Zc (w:=w2.drew) HX2.o 1;have x2:=Zc (w:=w2.drew) HX2.o 2;have x3:=Zc (w:=w2.drew) HX2.o 3;simp at x0 x1 x2 x3;clear hlk c8 g0 g1;go_wp2_with fail;refine (Zfv ⟨k0,k1,k2,k3⟩ H3.o (by omega) HR.o).mono ?_;rintro e w4 ⟨hb4,i,hpl,rfl⟩;have HPL:=Zh hpl;have hin:decide (ks[i]?=some ⟨k0,k1,k2,k3⟩)=true:=by
  simpa using (Zeg HR.o HPL.o).2 HKM.o
 rw [hin];have h4:=H3.o.keep hb4;have H4:=Zh h4;have HIN:=Zh hin;clear hb4 hpl h4 hin x0 x1 x2 x3;have h4:St W I w4 (Z6 (slice Av ks.length cv) ks::HK::pt (w.heap.size+1) (cells #[int i64 k0,int i64 k1] 247)::pt w.heap.size (cells #[int i64 k0,int i64 k1,int i64 k2,int i64 k3] 150)::ZV p S B::X::dryHP B S::Zan B S::l):=H4.o;have c5:=(h4.pull 4 _ rfl).blk 5;have hxk:=(h4.pull 3 _ rfl).heap;have x0:=Zc hxk 0;have x1:=Zc hxk 1;have x2:=Zc hxk 2;have x3:=Zc hxk 3;simp [storeCells] at c5 x0 x1 x2 x3;obtain ⟨w5,hr5,hs5,h5⟩:=hX.dels 0 (h4.drew.pull 5 _ rfl);simp only [keyKT,K4.val] at hr5;have H5:=Zh h5;have HR5:=Zh hr5;clear h4 h5 hxk hr5;go_wp2_with fail;refine ZaD [] [0,1,2,3,4] [5] (by kernel_rfl) (by kernel_rfl) ?_;simp only [pickL,Zg,Zi];repeat (refine ZaA _ (Or.inl ⟨by rfl,by intro w;go_simp;try with_reducible rfl⟩) ?_;(try go_frame))
 refine ZaB ?_;repeat still_step
 refine ZaI ?_;have hr5:=HR5.o;go_wp2;refine Zu ?_;clear c5 x0 x1 x2 x3 hr5;have h5:St W I w5 (Z6 (slice Av ks.length cv) ks::HK::pt (w.heap.size+1) (cells #[int i64 k0,int i64 k1] 247)::ZV p S B::mapOf keyKT Zv B.m1 (del ⟨k0,k1,k2,k3⟩ S.seen)::dryHP B S::Zan B S::l):=(H5.o.pull 4 _ rfl).drop.perm (by ((try simp only [Zx,Zy,ZZ,ZP]);repeat (first|with_reducible exact Zad _|(apply Zaq;(· repeat (first|with_reducible exact Zap|with_reducible apply Zao))))));have c8:=(h5.pull 3 _ rfl).blk 8;have hg:=(h5.pull 2 _ rfl).heap;have g0:=Zc hg 0;have g1:=Zc hg 1;simp [storeCells] at c8 g0 g1;have H5':=Zh h5;have z1:IntKind.i64.wrap ((i:Int)+1)=(i:Int)+1:=by
  have:=HPL.o.le;rw [Z2];omega
 clear h5 hg;go_wp2_with fail;refine Z3 (fun w'=>w'.cell? ⟨p,8,none⟩=some (.map (some B.m4))∧w'.cell? ⟨w.heap.size+1,0,none⟩=some (int i64 k0)∧w'.cell? ⟨w.heap.size+1,1,none⟩=some (int i64 k1)) [0,1,2,3,4,5,6,7,8] [9] [10] (by kernel_rfl) (by kernel_rfl) (by (exact ⟨c8,g0,g1⟩)) ?_;simp only [pickL,Zg,Zi];repeat (refine Zs _ (Or.inl ⟨by rfl,by (intro w hSw;(try dsimp only at hSw);go_simp;try with_reducible rfl)⟩) ?_;(try go_frame))
 refine ZC ?_;unfold Zp;go_wp2_with fail;have hilt:i<ks.length:=(ZS.1 ((Zeg HR.o HPL.o).2 HKM.o)).1;refine (Zmi H5'.o.drew (by omega) hilt).mono ?_;rintro e w6 ⟨v6,rfl,h6⟩;rw [Zoj HR.o ((Zeg HR.o HPL.o).2 HKM.o)] at h6;obtain ⟨A6,c6,rfl⟩:=ZD h6.row_owns;obtain ⟨w7,hr7,hs7,h7⟩:=HP'.o I w6 _ _ _ h6;simp only [grpKT,G2.val] at hr7;have c8':=(h6.pull 3 _ rfl).blk 8;have hg':=(h6.pull 2 _ rfl).heap;have g0':=Zc hg' 0;have g1':=Zc hg' 1;simp [storeCells] at c8' g0' g1';have H7:=Zh h7;have HR7:=Zh hr7;clear h6 h7 hr7 hg' z1 c8 g0 g1 hilt;go_wp2;refine Zt ⟨c8',g0',g1'⟩ ?_;have hr7:=HR7.o;unfold Zp;go_wp2;refine Zu ?_;clear hr7 c8' g0' g1';go_wp2_with fail;have h8:St W I w7 (ZV p S B::mapOf keyKT Zv B.m1 (del ⟨k0,k1,k2,k3⟩ S.seen)::dryHP B S::Zan B S::mapOf grpKT Z6 B.m4 (put ⟨k0,k1⟩ (remK ⟨k0,k1,k2,k3⟩ ks) S.keys)::l):=(H7.o.pull 1 _ rfl).drop.perm (by ((try simp only [Zx,Zy,ZZ,ZP]);repeat (first|with_reducible exact Zad _|(apply Zaq;(· repeat (first|with_reducible exact Zap|with_reducible apply Zao))))));have c1:=h8.blk 1;have f1:=frozen_of_row h8.heap 1;simp [storeCells] at c1;have H8:=Zh h8;clear h8;refine Z3 (fun w'=>w'.cell? ⟨p,1,none⟩=some (int i64 S.used)) [0,1,2,3,4,6] [5,7] [8,9,10,11] (by kernel_rfl) (by kernel_rfl) (by (exact c1)) ?_;simp only [pickL,Zg,Zi];repeat (refine Zs _ (Or.inl ⟨by rfl,by (intro w hSw;(try dsimp only at hSw);go_simp;try with_reducible rfl)⟩) ?_;(try go_frame))
 refine ZC ?_;unfold Zp;go_wp2_with fail;refine (ZhA _).mono ?_;rintro e w9 ⟨rfl,rfl⟩;go_wp2;refine Zt c1 ?_;unfold Zp;go_wp2;refine Zt c1 ?_;unfold Zp;go_wp2;refine Zu ?_;clear c1 f1;go_wp2_with fail
 go_end0
 refine ⟨rfl,?_⟩;have h9:=H8.o.drew.setCell 1 (int i64 (IntKind.i64.wrap (S.used+(0 - was))));have e1:wrap64 (S.used+wrap64 (-was))=IntKind.i64.wrap (S.used+(0 - was)):=by simp only [wrap64,Z2];omega
 rw [e1];have hks3:=HKS.o;have hkm3:=HKM.o;rw [hks3] at hkm3;have e2:keyHP B (showS S ⟨k0,k1,k2,k3⟩ was none)=mapOf grpKT Z6 B.m4 (put ⟨k0,k1⟩ (remK ⟨k0,k1,k2,k3⟩ ks) S.keys):=by
  unfold keyHP showS
  (simp only [hkm3,Zaw,Zau,hks3]) <;> rfl
 rw [e2];exact h9
theorem ZlS {B:SB} {X:HP} (k:K4) (hX:Spot k B.m1 S.seen X) (was:Int) (h:St W I w (ZV p S B::X::dryHP B S::Zan B S::keyHP B S::l)) (hr:Za6 (Zj S k.grp)) (hn:(Zj S k.grp).length<=100000) (hk:k ∉ Zj S k.grp) :
  Calls prog 128 #[pointer (some ⟨p,0,none⟩),k.val,int i64 was,pointer none] w fun e w'=>e=.returned (.tuple #[])∧St W I w' (ZV p (showS S k was none) B::ZbD B (showS S k was none)::dryHP B S::Zan B S::keyHP B (showS S k was none)::l):=by
 obtain ⟨k0,k1,k2,k3⟩:=k;unfold K4.val;have h2:=(h.alloc (cells #[int i64 k0,int i64 k1,int i64 k2,int i64 k3] 150)).alloc (cells #[int i64 k0,int i64 k1] 247);rw [show (w.alloc (cells #[int i64 k0,int i64 k1,int i64 k2,int i64 k3] 150)).heap.size=w.heap.size+1 by simp] at h2;obtain ⟨w2,hw2⟩:∃ w2,(w.alloc (cells #[int i64 k0,int i64 k1,int i64 k2,int i64 k3] 150)).alloc (cells #[int i64 k0,int i64 k1] 247)=w2:=⟨_,rfl⟩;rw [hw2] at h2;have HW2:=Zh hw2;clear hw2;have c8:=(h2.pull 2 _ rfl).blk 8;have g0:=Zc h2.heap 0;have g1:=Zc h2.heap 1;simp [storeCells] at c8 g0 g1;obtain ⟨vk,HK,hlk,h3,hback,hput⟩:=(h2.drew.pull 6 _ rfl).look_or (x0:=[]) underlying143 (fun w=>by kernel_rfl) (fun I w l h=>h.row_nil _ _) ⟨k0,k1⟩;have hlk:=hlk _ (ZR _ _) false;simp only [grpKT,G2.val] at hlk;have hks:(get (⟨k0,k1⟩:G2) S.keys).getD []=Zj S (K4.mk k0 k1 k2 k3).grp:=rfl;rw [hks] at h3 hback;have H2:=Zh h2;have H3:=Zh h3;have HB:=Zh hback;have HP':=Zh hput;obtain ⟨ks,hks2⟩:=Zn (Zj S (K4.mk k0 k1 k2 k3).grp);have HKS:=Zh hks2;rw [<-hks2] at H3 HB hr hn hk;clear hks hks2 h2 h3 hback hput;have hx2:=(H2.o.pull 1 _ rfl).heap;obtain ⟨Av,cv,rfl⟩:=ZD H3.o.row_owns;have HX2:=Zh hx2;have HR:=Zh hr;have HKM:=Zh hk;clear hx2 h hr hk;go_enter func128,ntmps128;go_wp2_with fail;rw [HW2.o];refine ZaD [] [0,1,2,3,4,5,6] [] (by kernel_rfl) (by kernel_rfl) ?_;simp only [pickL,Zg,Zi];repeat (refine ZaA _ (Or.inl ⟨by rfl,by intro w;go_simp;try with_reducible rfl⟩) ?_;(try go_frame))
 refine ZaB ?_;repeat still_step
 refine ZaI ?_;go_wp2;refine Zu ?_;have x0:=Zc (w:=w2.drew) HX2.o 0;have x1:=Zc (w:=w2.drew) HX2.o 1;have x2:=Zc (w:=w2.drew) HX2.o 2;have x3:=Zc (w:=w2.drew) HX2.o 3;simp at x0 x1 x2 x3;clear hlk c8 g0 g1;go_wp2_with fail;refine (Zfv ⟨k0,k1,k2,k3⟩ H3.o (by omega) HR.o).mono ?_;rintro e w4 ⟨hb4,i,hpl,rfl⟩;have HPL:=Zh hpl;have hin:decide (ks[i]?=some ⟨k0,k1,k2,k3⟩)=false:=by
  rw [Zk];exact fun q=>HKM.o ((Zeg HR.o HPL.o).1 q)
 rw [hin];have h4:=H3.o.keep hb4;have H4:=Zh h4;have HIN:=Zh hin;clear hb4 hpl h4 hin x0 x1 x2 x3;have h4:St W I w4 (Z6 (slice Av ks.length cv) ks::HK::pt (w.heap.size+1) (cells #[int i64 k0,int i64 k1] 247)::pt w.heap.size (cells #[int i64 k0,int i64 k1,int i64 k2,int i64 k3] 150)::ZV p S B::X::dryHP B S::Zan B S::l):=H4.o;have c5:=(h4.pull 4 _ rfl).blk 5;have hxk:=(h4.pull 3 _ rfl).heap;have x0:=Zc hxk 0;have x1:=Zc hxk 1;have x2:=Zc hxk 2;have x3:=Zc hxk 3;simp [storeCells] at c5 x0 x1 x2 x3;obtain ⟨w5,hr5,hs5,h5⟩:=hX.dels 0 (h4.drew.pull 5 _ rfl);simp only [keyKT,K4.val] at hr5;have H5:=Zh h5;have HR5:=Zh hr5;clear h4 h5 hxk hr5;go_wp2_with fail;refine ZaD [] [0,1,2,3,4] [5] (by kernel_rfl) (by kernel_rfl) ?_;simp only [pickL,Zg,Zi];repeat (refine ZaA _ (Or.inl ⟨by rfl,by intro w;go_simp;try with_reducible rfl⟩) ?_;(try go_frame))
 refine ZaB ?_;repeat still_step
 refine ZaI ?_;have hr5:=HR5.o;go_wp2;refine Zu ?_;clear c5 x0 x1 x2 x3 hr5;have h5:St W I w5 (Z6 (slice Av ks.length cv) ks::HK::pt (w.heap.size+1) (cells #[int i64 k0,int i64 k1] 247)::ZV p S B::mapOf keyKT Zv B.m1 (del ⟨k0,k1,k2,k3⟩ S.seen)::dryHP B S::Zan B S::l):=(H5.o.pull 4 _ rfl).drop.perm (by ((try simp only [Zx,Zy,ZZ,ZP]);repeat (first|with_reducible exact Zad _|(apply Zaq;(· repeat (first|with_reducible exact Zap|with_reducible apply Zao))))));have hbk:=HB.o I w5 _ h5;have H7:=Zh hbk;clear h5 hbk;go_wp2_with fail;have h8:St W I w5 (ZV p S B::mapOf keyKT Zv B.m1 (del ⟨k0,k1,k2,k3⟩ S.seen)::dryHP B S::Zan B S::mapOf grpKT Z6 B.m4 S.keys::l):=(H7.o.pull 1 _ rfl).drop.perm (by ((try simp only [Zx,Zy,ZZ,ZP]);repeat (first|with_reducible exact Zad _|(apply Zaq;(· repeat (first|with_reducible exact Zap|with_reducible apply Zao))))));have c1:=h8.blk 1;have f1:=frozen_of_row h8.heap 1;simp [storeCells] at c1;have H8:=Zh h8;clear h8;refine Z3 (fun w'=>w'.cell? ⟨p,1,none⟩=some (int i64 S.used)) [0,1,2,3,4,6] [5,7] [8,9,10,11] (by kernel_rfl) (by kernel_rfl) (by (exact c1)) ?_;simp only [pickL,Zg,Zi];repeat (refine Zs _ (Or.inl ⟨by rfl,by (intro w hSw;(try dsimp only at hSw);go_simp;try with_reducible rfl)⟩) ?_;(try go_frame))
 refine ZC ?_;unfold Zp;go_wp2_with fail;refine (ZhA _).mono ?_;rintro e w9 ⟨rfl,rfl⟩;go_wp2;refine Zt c1 ?_;unfold Zp;go_wp2;refine Zt c1 ?_;unfold Zp;go_wp2;refine Zu ?_;clear c1 f1;go_wp2_with fail
 go_end0
 refine ⟨rfl,?_⟩;have h9:=H8.o.drew.setCell 1 (int i64 (IntKind.i64.wrap (S.used+(0 - was))));have e1:wrap64 (S.used+wrap64 (-was))=IntKind.i64.wrap (S.used+(0 - was)):=by simp only [wrap64,Z2];omega
 rw [e1];have hks3:=HKS.o;have hkm3:=HKM.o;rw [hks3] at hkm3;have e2:keyHP B (showS S ⟨k0,k1,k2,k3⟩ was none)=mapOf grpKT Z6 B.m4 S.keys:=by
  unfold keyHP showS
  (simp only [hkm3,Zaw,Zau,hks3]) <;> rfl
 rw [e2];exact h9
theorem ZlT {B:SB} {X:HP} {v:Value} {t:TS} (ht:t.small) (k:K4) (hX:Spot k B.m1 S.seen X) (was:Int) (h:St W I w (ZV p S B::X::dryHP B S::Zan B S::keyHP B S::Zv v t::l)) (hr:Za6 (Zj S k.grp)) (hn:(Zj S k.grp).length<=100000) (hk:k ∈ Zj S k.grp) :
  Calls prog 128 #[pointer (some ⟨p,0,none⟩),k.val,int i64 was,v] w fun e w'=>e=.returned (.tuple #[])∧St W I w' (ZV p (showS S k was (some t)) B::Zv v t::HP.hole keyKT Zv B.m1 k v (del k S.seen)::dryHP B S::Zan B S::keyHP B (showS S k was (some t))::l):=by
 obtain ⟨k0,k1,k2,k3⟩:=k;unfold K4.val;have h2:=(h.alloc (cells #[int i64 k0,int i64 k1,int i64 k2,int i64 k3] 150)).alloc (cells #[int i64 k0,int i64 k1] 247);rw [show (w.alloc (cells #[int i64 k0,int i64 k1,int i64 k2,int i64 k3] 150)).heap.size=w.heap.size+1 by simp] at h2;obtain ⟨w2,hw2⟩:∃ w2,(w.alloc (cells #[int i64 k0,int i64 k1,int i64 k2,int i64 k3] 150)).alloc (cells #[int i64 k0,int i64 k1] 247)=w2:=⟨_,rfl⟩;rw [hw2] at h2;have HW2:=Zh hw2;clear hw2;have c8:=(h2.pull 2 _ rfl).blk 8;have g0:=Zc h2.heap 0;have g1:=Zc h2.heap 1;simp [storeCells] at c8 g0 g1;obtain ⟨vk,HK,hlk,h3,hback,hput⟩:=(h2.drew.pull 6 _ rfl).look_or (x0:=[]) underlying143 (fun w=>by kernel_rfl) (fun I w l h=>h.row_nil _ _) ⟨k0,k1⟩;have hlk:=hlk _ (ZR _ _) false;simp only [grpKT,G2.val] at hlk;have hks:(get (⟨k0,k1⟩:G2) S.keys).getD []=Zj S (K4.mk k0 k1 k2 k3).grp:=rfl;rw [hks] at h3 hback;have H2:=Zh h2;have H3:=Zh h3;have HB:=Zh hback;have HP':=Zh hput;obtain ⟨ks,hks2⟩:=Zn (Zj S (K4.mk k0 k1 k2 k3).grp);have HKS:=Zh hks2;rw [<-hks2] at H3 HB hr hn hk;clear hks hks2 h2 h3 hback hput;have hx2:=(H2.o.pull 1 _ rfl).heap;obtain ⟨Av,cv,rfl⟩:=ZD H3.o.row_owns;have HX2:=Zh hx2;have HR:=Zh hr;have HKM:=Zh hk;clear hx2 h hr hk;go_enter func128,ntmps128;go_wp2_with fail;rw [HW2.o];refine ZaD [] [0,1,2,3,4,5,6] [] (by kernel_rfl) (by kernel_rfl) ?_;simp only [pickL,Zg,Zi];repeat (refine ZaA _ (Or.inl ⟨by rfl,by intro w;go_simp;try with_reducible rfl⟩) ?_;(try go_frame))
 refine ZaB ?_;repeat still_step
 refine ZaI ?_;go_wp2;refine Zu ?_;have x0:=Zc (w:=w2.drew) HX2.o 0;have x1:=Zc (w:=w2.drew) HX2.o 1;have x2:=Zc (w:=w2.drew) HX2.o 2;have x3:=Zc (w:=w2.drew) HX2.o 3;simp at x0 x1 x2 x3;clear hlk c8 g0 g1;go_wp2_with fail;refine (Zfv ⟨k0,k1,k2,k3⟩ H3.o (by omega) HR.o).mono ?_;rintro e w4 ⟨hb4,i,hpl,rfl⟩;have HPL:=Zh hpl;have hin:decide (ks[i]?=some ⟨k0,k1,k2,k3⟩)=true:=by
  simpa using (Zeg HR.o HPL.o).2 HKM.o
 rw [hin];have h4:=H3.o.keep hb4;have H4:=Zh h4;have HIN:=Zh hin;clear hb4 hpl h4 hin x0 x1 x2 x3;have h4:St W I w4 (Z6 (slice Av ks.length cv) ks::HK::pt (w.heap.size+1) (cells #[int i64 k0,int i64 k1] 247)::pt w.heap.size (cells #[int i64 k0,int i64 k1,int i64 k2,int i64 k3] 150)::ZV p S B::X::dryHP B S::Zan B S::Zv v t::l):=H4.o;have c5:=(h4.pull 4 _ rfl).blk 5;have hxk:=(h4.pull 3 _ rfl).heap;have x0:=Zc hxk 0;have x1:=Zc hxk 1;have x2:=Zc hxk 2;have x3:=Zc hxk 3;simp [storeCells] at c5 x0 x1 x2 x3;have h4':St W I w4.drew (Zv v t::X::Z6 (slice Av ks.length cv) ks::HK::pt (w.heap.size+1) (cells #[int i64 k0,int i64 k1] 247)::pt w.heap.size (cells #[int i64 k0,int i64 k1,int i64 k2,int i64 k3] 150)::ZV p S B::dryHP B S::Zan B S::l):=h4.drew.perm (by ((try simp only [Zx,Zy,ZZ,ZP]);repeat (first|with_reducible exact Zad _|(apply Zaq;(· repeat (first|with_reducible exact Zap|with_reducible apply Zao))))));obtain ⟨w5,hr5,hs5,h5⟩:=hX.puts h4';simp only [keyKT,K4.val] at hr5;obtain ⟨bt,mt,vbt,hve,_⟩:=h5.thing_open;subst hve;have H5:=Zh h5;have HR5:=Zh hr5;clear h4 h4' h5 hxk hr5 hs5;go_wp2_with fail;refine ZaD [] [0,1,2,3,4,5] [6] (by kernel_rfl) (by kernel_rfl) ?_;simp only [pickL,Zg,Zi];repeat (refine ZaA _ (Or.inl ⟨by rfl,by intro w;go_simp;try with_reducible rfl⟩) ?_;(try go_frame))
 refine ZaB ?_;repeat still_step
 refine ZaI ?_;have hr5:=HR5.o;go_wp2;refine Zu ?_;clear c5 x0 x1 x2 x3 hr5;have h5:St W I w5 (Z6 (slice Av ks.length cv) ks::HK::pt (w.heap.size+1) (cells #[int i64 k0,int i64 k1] 247)::ZV p S B::pt w.heap.size (cells #[int i64 k0,int i64 k1,int i64 k2,int i64 k3] 150)::Zv (pointer (some ⟨bt,0,none⟩)) t::HP.hole keyKT Zv B.m1 ⟨k0,k1,k2,k3⟩ (pointer (some ⟨bt,0,none⟩)) (del ⟨k0,k1,k2,k3⟩ S.seen)::dryHP B S::Zan B S::l):=H5.o.perm (by ((try simp only [Zx,Zy,ZZ,ZP]);repeat (first|with_reducible exact Zad _|(apply Zaq;(· repeat (first|with_reducible exact Zap|with_reducible apply Zao))))));have hbk:=HB.o I w5 _ h5;have h8:St W I w5 (ZV p S B::Zv (pointer (some ⟨bt,0,none⟩)) t::HP.hole keyKT Zv B.m1 ⟨k0,k1,k2,k3⟩ (pointer (some ⟨bt,0,none⟩)) (del ⟨k0,k1,k2,k3⟩ S.seen)::dryHP B S::Zan B S::mapOf grpKT Z6 B.m4 S.keys::l):=((hbk.pull 1 _ rfl).drop.pull 2 _ rfl).drop.perm (by ((try simp only [Zx,Zy,ZZ,ZP]);repeat (first|with_reducible exact Zad _|(apply Zaq;(· repeat (first|with_reducible exact Zap|with_reducible apply Zao))))));clear h5 hbk;go_wp2_with fail;have c1:=h8.blk 1;simp [storeCells] at c1;have H8:=Zh h8;clear h8;refine Z3 (fun w'=>w'.cell? ⟨p,1,none⟩=some (int i64 S.used)) [0,1,2,3,4,6] [5,7] [8,9,10,11] (by kernel_rfl) (by kernel_rfl) (by (exact c1)) ?_;simp only [pickL,Zg,Zi];repeat (refine Zs _ (Or.inl ⟨by rfl,by (intro w hSw;(try dsimp only at hSw);go_simp;try with_reducible rfl)⟩) ?_;(try go_frame))
 refine ZC ?_;unfold Zp;go_wp2_with fail;refine (Zhf (H8.o.drew.pull 1 _ rfl) (by have:=ht.1;omega)).mono ?_;rintro e w9 ⟨rfl,h9⟩;have c1':=(h9.pull 1 _ rfl).blk 1;have f1:=frozen_of_row (h9.pull 1 _ rfl).heap 1;simp [storeCells] at c1';have H9:=Zh h9;clear h9;go_wp2;refine Zt c1' ?_;unfold Zp;go_wp2;refine Zt c1' ?_;unfold Zp;go_wp2;refine Zu ?_;clear c1 f1 c1';go_wp2_with fail
 go_end0
 refine ⟨rfl,?_⟩;have h9:St W I w9 (ZV p S B::Zv (pointer (some ⟨bt,0,none⟩)) t::HP.hole keyKT Zv B.m1 ⟨k0,k1,k2,k3⟩ (pointer (some ⟨bt,0,none⟩)) (del ⟨k0,k1,k2,k3⟩ S.seen)::dryHP B S::Zan B S::mapOf grpKT Z6 B.m4 (S.keys)::l):=H9.o.perm (by ((try simp only [Zx,Zy,ZZ,ZP]);repeat (first|with_reducible exact Zad _|(apply Zaq;(· repeat (first|with_reducible exact Zap|with_reducible apply Zao))))));have h10:=h9.setCell 1 (int i64 (IntKind.i64.wrap (S.used+(t.size - was))));have e1:wrap64 (S.used+wrap64 (wrap64 t.size - was))=IntKind.i64.wrap (S.used+(t.size - was)):=by simp only [wrap64,Z2];omega
 rw [e1];have hks3:=HKS.o;have hkm3:=HKM.o;rw [hks3] at hkm3;have e2:keyHP B (showS S ⟨k0,k1,k2,k3⟩ was (some t))=mapOf grpKT Z6 B.m4 (S.keys):=by
  unfold keyHP showS
  (simp only [hkm3,Zaw,Zau,hks3]) <;> rfl
 rw [e2];exact h10
end
section
variable {p : Nat} {S : Str}
theorem ZlK {B:SB} {X:HP} {v:Value} {t:TS} (ht:t.small) (k:K4) (hX:Spot k B.m1 S.seen X) (was:Int) (h:St W I w (ZV p S B::X::dryHP B S::Zan B S::keyHP B S::Zv v t::l)) (hr:Za6 (Zj S k.grp)) (hn:(Zj S k.grp).length<=100000) (hk:k ∉ Zj S k.grp) :
  Calls prog 128 #[pointer (some ⟨p,0,none⟩),k.val,int i64 was,v] w fun e w'=>e=.returned (.tuple #[])∧St W I w' (ZV p (showS S k was (some t)) B::Zv v t::HP.hole keyKT Zv B.m1 k v (del k S.seen)::dryHP B S::Zan B S::keyHP B (showS S k was (some t))::l):=by
 obtain ⟨k0,k1,k2,k3⟩:=k;unfold K4.val;have h2:=(h.alloc (cells #[int i64 k0,int i64 k1,int i64 k2,int i64 k3] 150)).alloc (cells #[int i64 k0,int i64 k1] 247);rw [show (w.alloc (cells #[int i64 k0,int i64 k1,int i64 k2,int i64 k3] 150)).heap.size=w.heap.size+1 by simp] at h2;obtain ⟨w2,hw2⟩:∃ w2,(w.alloc (cells #[int i64 k0,int i64 k1,int i64 k2,int i64 k3] 150)).alloc (cells #[int i64 k0,int i64 k1] 247)=w2:=⟨_,rfl⟩;rw [hw2] at h2;have HW2:=Zh hw2;clear hw2;have c8:=(h2.pull 2 _ rfl).blk 8;have g0:=Zc h2.heap 0;have g1:=Zc h2.heap 1;simp [storeCells] at c8 g0 g1;obtain ⟨vk,HK,hlk,h3,hback,hput⟩:=(h2.drew.pull 6 _ rfl).look_or (x0:=[]) underlying143 (fun w=>by kernel_rfl) (fun I w l h=>h.row_nil _ _) ⟨k0,k1⟩;have hlk:=hlk _ (ZR _ _) false;simp only [grpKT,G2.val] at hlk;have hks:(get (⟨k0,k1⟩:G2) S.keys).getD []=Zj S (K4.mk k0 k1 k2 k3).grp:=rfl;rw [hks] at h3 hback;have H2:=Zh h2;have H3:=Zh h3;have HB:=Zh hback;have HP':=Zh hput;obtain ⟨ks,hks2⟩:=Zn (Zj S (K4.mk k0 k1 k2 k3).grp);have HKS:=Zh hks2;rw [<-hks2] at H3 HB hr hn hk;clear hks hks2 h2 h3 hback hput;have hx2:=(H2.o.pull 1 _ rfl).heap;obtain ⟨Av,cv,rfl⟩:=ZD H3.o.row_owns;have HX2:=Zh hx2;have HR:=Zh hr;have HKM:=Zh hk;clear hx2 h hr hk;go_enter func128,ntmps128;go_wp2_with fail;rw [HW2.o];refine ZaD [] [0,1,2,3,4,5,6] [] (by kernel_rfl) (by kernel_rfl) ?_;simp only [pickL,Zg,Zi];repeat (refine ZaA _ (Or.inl ⟨by rfl,by intro w;go_simp;try with_reducible rfl⟩) ?_;(try go_frame))
 refine ZaB ?_;repeat still_step
 refine ZaI ?_;go_wp2;refine Zu ?_;have x0:=Zc (w:=w2.drew) HX2.o 0;have x1:=Zc (w:=w2.drew) HX2.o 1;have x2:=Zc (w:=w2.drew) HX2.o 2;have x3:=Zc (w:=w2.drew) HX2.o 3;simp at x0 x1 x2 x3;clear hlk c8 g0 g1;go_wp2_with fail;refine (Zfv ⟨k0,k1,k2,k3⟩ H3.o (by omega) HR.o).mono ?_;rintro e w4 ⟨hb4,i,hpl,rfl⟩;have HPL:=Zh hpl;have hin:decide (ks[i]?=some ⟨k0,k1,k2,k3⟩)=false:=by
  rw [Zk];exact fun q=>HKM.o ((Zeg HR.o HPL.o).1 q)
 rw [hin];have h4:=H3.o.keep hb4;have H4:=Zh h4;have HIN:=Zh hin;clear hb4 hpl h4 hin x0 x1 x2 x3;have h4:St W I w4 (Z6 (slice Av ks.length cv) ks::HK::pt (w.heap.size+1) (cells #[int i64 k0,int i64 k1] 247)::pt w.heap.size (cells #[int i64 k0,int i64 k1,int i64 k2,int i64 k3] 150)::ZV p S B::X::dryHP B S::Zan B S::Zv v t::l):=H4.o;have c5:=(h4.pull 4 _ rfl).blk 5;have hxk:=(h4.pull 3 _ rfl).heap;have x0:=Zc hxk 0;have x1:=Zc hxk 1;have x2:=Zc hxk 2;have x3:=Zc hxk 3;simp [storeCells] at c5 x0 x1 x2 x3;have h4':St W I w4.drew (Zv v t::X::Z6 (slice Av ks.length cv) ks::HK::pt (w.heap.size+1) (cells #[int i64 k0,int i64 k1] 247)::pt w.heap.size (cells #[int i64 k0,int i64 k1,int i64 k2,int i64 k3] 150)::ZV p S B::dryHP B S::Zan B S::l):=h4.drew.perm (by ((try simp only [Zx,Zy,ZZ,ZP]);repeat (first|with_reducible exact Zad _|(apply Zaq;(· repeat (first|with_reducible exact Zap|with_reducible apply Zao))))));obtain ⟨w5,hr5,hs5,h5⟩:=hX.puts h4';simp only [keyKT,K4.val] at hr5;obtain ⟨bt,mt,vbt,hve,_⟩:=h5.thing_open;subst hve;have H5:=Zh h5;have HR5:=Zh hr5;clear h4 h4' h5 hxk hr5 hs5;go_wp2_with fail;refine ZaD [] [0,1,2,3,4,5] [6] (by kernel_rfl) (by kernel_rfl) ?_;simp only [pickL,Zg,Zi];repeat (refine ZaA _ (Or.inl ⟨by rfl,by intro w;go_simp;try with_reducible rfl⟩) ?_;(try go_frame))
 refine ZaB ?_;repeat still_step
 refine ZaI ?_;have hr5:=HR5.o;go_wp2;refine Zu ?_;clear c5 x0 x1 x2 x3 hr5;have h5:St W I w5 (Z6 (slice Av ks.length cv) ks::HK::pt (w.heap.size+1) (cells #[int i64 k0,int i64 k1] 247)::ZV p S B::pt w.heap.size (cells #[int i64 k0,int i64 k1,int i64 k2,int i64 k3] 150)::Zv (pointer (some ⟨bt,0,none⟩)) t::HP.hole keyKT Zv B.m1 ⟨k0,k1,k2,k3⟩ (pointer (some ⟨bt,0,none⟩)) (del ⟨k0,k1,k2,k3⟩ S.seen)::dryHP B S::Zan B S::l):=H5.o.perm (by ((try simp only [Zx,Zy,ZZ,ZP]);repeat (first|with_reducible exact Zad _|(apply Zaq;(· repeat (first|with_reducible exact Zap|with_reducible apply Zao))))));have hxk:=(h5.pull 4 _ rfl).heap;have x0:=Zc hxk 0;have x1:=Zc hxk 1;have x2:=Zc hxk 2;have x3:=Zc hxk 3;simp at x0 x1 x2 x3;clear hxk;have c8:=(h5.pull 3 _ rfl).blk 8;have hg:=(h5.pull 2 _ rfl).heap;have g0:=Zc hg 0;have g1:=Zc hg 1;simp [storeCells] at c8 g0 g1;have H5':=Zh h5;have z1:IntKind.i64.wrap ((i:Int)+1)=(i:Int)+1:=by
  have:=HPL.o.le;rw [Z2];omega
 clear h5 hg;go_wp2_with fail;refine Z3 (fun w'=>w'.cell? ⟨p,8,none⟩=some (.map (some B.m4))∧w'.cell? ⟨w.heap.size+1,0,none⟩=some (int i64 k0)∧w'.cell? ⟨w.heap.size+1,1,none⟩=some (int i64 k1)∧w'.cell? ⟨w.heap.size,0,none⟩=some (int i64 k0)∧w'.cell? ⟨w.heap.size,1,none⟩=some (int i64 k1)∧w'.cell? ⟨w.heap.size,2,none⟩=some (int i64 k2)∧w'.cell? ⟨w.heap.size,3,none⟩=some (int i64 k3)) [0,1,2,3,4,5,6,7] [8,9] [10] (by kernel_rfl) (by kernel_rfl) (by (exact ⟨c8,g0,g1,x0,x1,x2,x3⟩)) ?_;simp only [pickL,Zg,Zi];repeat (refine Zs _ (Or.inl ⟨by rfl,by (intro w hSw;(try dsimp only at hSw);go_simp;try with_reducible rfl)⟩) ?_;(try go_frame))
 refine ZC ?_;unfold Zp;go_wp2_with fail;have hs0:=(H5'.o.alloc (cells #[int i64 k0,int i64 k1,int i64 k2,int i64 k3] 150)).drew;obtain ⟨wn,hwn⟩:∃ wn,(w5.alloc (cells #[int i64 k0,int i64 k1,int i64 k2,int i64 k3] 150)).drew=wn:=⟨_,rfl⟩;rw [hwn] at hs0 |-;clear hwn;have c8b:=(hs0.pull 4 _ rfl).blk 8;have hgb:=(hs0.pull 3 _ rfl).heap;have hkb:=(hs0.pull 5 _ rfl).heap;have g0b:=Zc hgb 0;have g1b:=Zc hgb 1;have x0b:=Zc hkb 0;have x1b:=Zc hkb 1;have x2b:=Zc hkb 2;have x3b:=Zc hkb 3;simp [storeCells] at c8b g0b g1b x0b x1b x2b x3b;have HS0:=Zh hs0;clear hs0 hgb hkb;refine Zt ⟨c8b,g0b,g1b,x0b,x1b,x2b,x3b⟩ ?_;unfold Zp;clear c8 g0 g1 x0 x1 x2 x3;go_wp2_with fail;refine (Zmo ⟨k0,k1,k2,k3⟩ HS0.o (by omega) HPL.o.le).mono ?_;rintro e w6 ⟨v6,rfl,h6⟩;rw [Zoi HPL.o] at h6;obtain ⟨A6,c6,rfl⟩:=ZD h6.row_owns;obtain ⟨w7,hr7,hs7,h7⟩:=HP'.o I w6 _ _ _ h6;simp only [grpKT,G2.val] at hr7;have c8':=(h6.pull 3 _ rfl).blk 8;have hg':=(h6.pull 2 _ rfl).heap;have hk':=(h6.pull 4 _ rfl).heap;have g0':=Zc hg' 0;have g1':=Zc hg' 1;have x0':=Zc hk' 0;have x1':=Zc hk' 1;have x2':=Zc hk' 2;have x3':=Zc hk' 3;simp [storeCells] at c8' g0' g1' x0' x1' x2' x3';have H7:=Zh h7;have HR7:=Zh hr7;clear h6 h7 hr7 hg' hk' z1 c8b g0b g1b x0b x1b x2b x3b;go_wp2;refine Zt ⟨c8',g0',g1',x0',x1',x2',x3'⟩ ?_;have hr7:=HR7.o;unfold Zp;go_wp2;refine Zu ?_;clear hr7 c8' g0' g1' x0' x1' x2' x3';go_wp2_with fail;have h8:St W I w7 (ZV p S B::Zv (pointer (some ⟨bt,0,none⟩)) t::HP.hole keyKT Zv B.m1 ⟨k0,k1,k2,k3⟩ (pointer (some ⟨bt,0,none⟩)) (del ⟨k0,k1,k2,k3⟩ S.seen)::dryHP B S::Zan B S::mapOf grpKT Z6 B.m4 (put ⟨k0,k1⟩ (addK ⟨k0,k1,k2,k3⟩ ks) S.keys)::l):=((H7.o.pull 1 _ rfl).drop.pull 2 _ rfl).drop.perm (by ((try simp only [Zx,Zy,ZZ,ZP]);repeat (first|with_reducible exact Zad _|(apply Zaq;(· repeat (first|with_reducible exact Zap|with_reducible apply Zao))))));have c1:=h8.blk 1;simp [storeCells] at c1;have H8:=Zh h8;clear h8;refine Z3 (fun w'=>w'.cell? ⟨p,1,none⟩=some (int i64 S.used)) [0,1,2,3,4,6] [5,7] [8,9,10,11] (by kernel_rfl) (by kernel_rfl) (by (exact c1)) ?_;simp only [pickL,Zg,Zi];repeat (refine Zs _ (Or.inl ⟨by rfl,by (intro w hSw;(try dsimp only at hSw);go_simp;try with_reducible rfl)⟩) ?_;(try go_frame))
 refine ZC ?_;unfold Zp;go_wp2_with fail;refine (Zhf (H8.o.drew.pull 1 _ rfl) (by have:=ht.1;omega)).mono ?_;rintro e w9 ⟨rfl,h9⟩;have c1':=(h9.pull 1 _ rfl).blk 1;have f1:=frozen_of_row (h9.pull 1 _ rfl).heap 1;simp [storeCells] at c1';have H9:=Zh h9;clear h9;go_wp2;refine Zt c1' ?_;unfold Zp;go_wp2;refine Zt c1' ?_;unfold Zp;go_wp2;refine Zu ?_;clear c1 f1 c1';go_wp2_with fail
 go_end0
 refine ⟨rfl,?_⟩;have h9:St W I w9 (ZV p S B::Zv (pointer (some ⟨bt,0,none⟩)) t::HP.hole keyKT Zv B.m1 ⟨k0,k1,k2,k3⟩ (pointer (some ⟨bt,0,none⟩)) (del ⟨k0,k1,k2,k3⟩ S.seen)::dryHP B S::Zan B S::mapOf grpKT Z6 B.m4 (put ⟨k0,k1⟩ (addK ⟨k0,k1,k2,k3⟩ ks) S.keys)::l):=H9.o.perm (by ((try simp only [Zx,Zy,ZZ,ZP]);repeat (first|with_reducible exact Zad _|(apply Zaq;(· repeat (first|with_reducible exact Zap|with_reducible apply Zao))))));have h10:=h9.setCell 1 (int i64 (IntKind.i64.wrap (S.used+(t.size - was))));have e1:wrap64 (S.used+wrap64 (wrap64 t.size - was))=IntKind.i64.wrap (S.used+(t.size - was)):=by simp only [wrap64,Z2];omega
 rw [e1];have hks3:=HKS.o;have hkm3:=HKM.o;rw [hks3] at hkm3;have e2:keyHP B (showS S ⟨k0,k1,k2,k3⟩ was (some t))=mapOf grpKT Z6 B.m4 (put ⟨k0,k1⟩ (addK ⟨k0,k1,k2,k3⟩ ks) S.keys):=by
  unfold keyHP showS
  (simp only [hkm3,Zaw,Zau,hks3]) <;> rfl
 rw [e2];exact h10
theorem ZlU {B:SB} {X:HP} {v:Value} {t:TS} (ht:t.small) (k:K4) (hX:Spot k B.m1 S.seen X) (was:Int) (h:St W I w (ZV p S B::X::dryHP B S::Zan B S::keyHP B S::Zv v t::l)) (hr:Za6 (Zj S k.grp)) (hn:(Zj S k.grp).length<=100000) :
  Calls prog 128 #[pointer (some ⟨p,0,none⟩),k.val,int i64 was,v] w fun e w'=>e=.returned (.tuple #[])∧St W I w' (ZV p (showS S k was (some t)) B::Zv v t::HP.hole keyKT Zv B.m1 k v (del k S.seen)::dryHP B (showS S k was (some t))::Zan B (showS S k was (some t))::keyHP B (showS S k was (some t))::l):=by
 by_cases hk:k ∈ Zj S k.grp
 ·exact ZlT ht k hX was h hr hn hk
 ·exact ZlK ht k hX was h hr hn hk
theorem Zqn {B:SB} {X:HP} {v:Value} {o:Option TS} (ho:ZcM o) (k:K4) (hX:Spot k B.m1 S.seen X) (was:Int) (h:St W I w (ZV p S B::X::dryHP B S::Zan B S::keyHP B S::optHP v o::l)) (hr:Za6 (Zj S k.grp)) (hn:(Zj S k.grp).length<=100000) :
  Calls prog 128 #[pointer (some ⟨p,0,none⟩),k.val,int i64 was,v] w fun e w'=>e=.returned (.tuple #[])∧St W I w' (ZV p (showS S k was o) B::ZbD B (showS S k was o)::dryHP B (showS S k was o)::Zan B (showS S k was o)::keyHP B (showS S k was o)::l):=by
 cases o with
 | none =>
  obtain ⟨rfl,h1⟩:=(h.pull 5 _ rfl).pure_open;by_cases hk:k ∈ Zj S k.grp
  ·exact Zl5 k hX was h1 hr hn hk
  ·exact ZlS k hX was h1 hr hn hk
 | some t =>
  refine (ZlU ho k hX was h hr hn).mono ?_;rintro e w' ⟨rfl,h1⟩;exact ⟨rfl,(St.hole_back (h1.perm (m:=Zv v t::HP.hole keyKT Zv B.m1 k v (del k S.seen)::ZV p (showS S k was (some t)) B::dryHP B (showS S k was (some t))::Zan B (showS S k was (some t))::keyHP B (showS S k was (some t))::l) (by ((try simp only [Zx,Zy,ZZ,ZP]);repeat (first|with_reducible exact Zad _|(apply Zaq;(· repeat (first|with_reducible exact Zap|with_reducible apply Zao)))))))).pull 1 _ rfl⟩
end
def fuseS (S:Str) (n:Int) (keep:List Int) (torn:Int):Str :=
 if 0<=n then { S with armed:=true,fuse:=n,keep:=keep,torn:=torn } else { S with armed:=false,fuse:=0,keep:=[],torn:=0 }
section
variable {p : Nat} {S : Str}
theorem ZpE (I:Hp):IntsI I (slice none 0 0) []:=⟨none,0,rfl,rfl,Z9 _,by unfold maxLen;omega,fun _=>rfl,fun h=>absurd h (by simp)⟩
end
open Go.Shelf
attribute [local go_sem] Oper.semAt_some
end Go.Proofs.YtcbdghojlbpomaaGreat
