import Derived.RangeFuncNested
import Derived.RangeFuncBound
import Derived.RangeFuncCalls
import Derived.RangeFuncLeaves
import Derived.RangeFuncKeeps
import Derived.Shelf.Abstract
import Derived.Shelf.RegionOpen
import Derived.OwnWalkIn
import Derived.TacticsInMore
import Derived.LoopNIn
import Derived.LoopIn
import Derived.Test.YtpjchngjhijgmaaGreatJM08
set_option linter.all false
namespace Go.Proofs.YtpjchngjhijgmaaGreat
open Go.RowKit
section
variable {P : Program} {k : TypeId} {K : Type} [DecidableEq K] {α : Type}
variable {T : KT P k K} {own : Value → α → HP} {W w w' : World} {I : Hp} {l : List HP} {b : Nat} {L L' : List (K × α)} {a : K} {x : α} {v : Value}
theorem St.look_or (h:St W I w (HP.mapOf T own b L::l)) {t e:TypeId} (ht:P.underlying t=some (.map k e)) {z:Value} {x0:α} (hz:∀ w,(zeroValue e).run P w=.ok z w)
  (h0:∀ I w l,St W I w l→St W I w (own z x0::l)) (a:K) :
  ∃ v H,(∀ w2,Below w.heap.size w w2→∀ ok,(Instr.lookup t (.map (some b)) (T.kv a) ok).run P w2=.ok (if ok then .tuple #[v,.bool (get a L).isSome] else v) w2)∧St W I w (own v ((get a L).getD x0)::H::l) ∧
   (∀ I' w' l',St W I' w' (own v ((get a L).getD x0)::H::l')→St W I' w' (HP.mapOf T own b L::l')) ∧
   (∀ I' w' l' v' x',St W I' w' (own v' x'::H::l')→∃ w'',(Instr.mapUpdate t (.map (some b)) (T.kv a) v').run P w'=.ok () w''∧w''.heap.size=w'.heap.size∧St W I' w'' (HP.mapOf T own b (put a x' L)::l')):=by
 have hn:=h.mapOf_nodup
 rcases h.mapOf_look ht hz a with ⟨hg,hl⟩|⟨v,x,hg,hl,h1⟩
 ·refine ⟨z,HP.mapOf T own b L,fun w2 hw ok=>by rw [hl w2 hw ok,hg];rfl,by rw [hg];exact h0 _ _ _ h,fun I' w' l' h'=>h'.drop,fun I' w' l' v' x' h'=>h'.mapOf_put ht a⟩
 ·have hp:((a,x)::del a L).Perm L:=(Zq72 hn hg).symm
  refine ⟨v,HP.hole T own b a v (del a L),fun w2 hw ok=>by rw [hl w2 hw ok,hg];rfl,by rw [hg];exact h1,fun I' w' l' h'=>?_,fun I' w' l' v' x' h'=>?_⟩
  ·rw [hg] at h'
   exact (h'.hole_back).mapOf_perm hp
  ·exact h'.hole_put ht
theorem St.mapOf_put_hole (h:St W I w (own v x::HP.mapOf T own b L::l)) {t e:TypeId} (ht:P.underlying t=some (.map k e)) (a:K) :
  ∃ w',(Instr.mapUpdate t (.map (some b)) (T.kv a) v).run P w=.ok () w'∧w'.heap.size=w.heap.size∧St W I w' (own v x::HP.hole T own b a v (del a L)::l):=by
 obtain ⟨M,hp,h⟩:=(h.perm (List.Perm.swap _ _ _)).mapOf_open
 obtain ⟨w',hrun,hsz,h⟩:=h.map_put ht a v
 refine ⟨w',hrun,hsz,?_⟩
 have hM:put a v (M.map fst3)=(a,v)::(M.filter fun m=>decide (m.1≠a)).map fst3:=by
  simp only [put,del,List.filter_map]
  rfl
 rw [hM] at h
 have hD:((M.filter fun m=>decide (m.1≠a)).map dat3).Perm (del a L):=by
  have:del a (M.map dat3)=(M.filter fun m=>decide (m.1≠a)).map dat3:=by
   simp only [del,List.filter_map]
   rfl
  rw [←this]
  exact Zq109 hp
 have hsplit:(M.map (own3 own)).Perm ((M.filter fun m=>!decide (m.1≠a)).map (own3 own)++(M.filter fun m=>decide (m.1≠a)).map (own3 own)):=by
  rw [←List.map_append]
  exact ((List.perm_append_comm.trans (List.filter_append_perm _ M)).symm).map _
 have h2:=h.perm (List.Perm.cons _ (hsplit.append_right (own v x::l)))
 have h3:St W I w' ((M.filter fun m=>!decide (m.1≠a)).map (own3 own)++(HP.map T b ((a,v)::(M.filter fun m=>decide (m.1≠a)).map fst3)::((M.filter fun m=>decide (m.1≠a)).map (own3 own)++(own v x::l)))):=h2.perm (by
  rw [List.append_assoc]
  exact List.perm_middle.symm)
 have h5:St W I w' (HP.hole T own b a v (del a L)::own v x::l):=St.ex_shut (M.filter fun m=>decide (m.1≠a)) (St.all_shut (St.pure_shut (⟨hD,fun p hp'=>by simpa using (List.mem_filter.1 hp').2⟩:_∧_) h3.drops))
 exact h5.perm (List.Perm.swap _ _ _)
end
def Zq18 (S:Str) (g:G2):List K4:=(get g S.keys).getD []
def remK (k:K4) (ks:List K4):List K4:=ks.filter fun a=>decide (a≠k)
def addK (k:K4) (ks:List K4):List K4:=ks.filter (fun a=>a.lt k)++k::ks.filter (fun a=>!a.lt k)
def showS (S:Str) (k:K4) (was:Int) (o:Option TS):Str :=
 { S with
  seen:=match o with
   | none=>del k S.seen
   | some t=>put k t S.seen
  keys:=match o with
   | none=>if k ∈ Zq18 S k.grp then put k.grp (remK k (Zq18 S k.grp)) S.keys else S.keys
   | some _=>if k ∈ Zq18 S k.grp then S.keys else put k.grp (addK k (Zq18 S k.grp)) S.keys
  used:=IntKind.i64.wrap (S.used+(sizeO o - was)) }
theorem Zq369 (a:K4):a.lt a=false:=by
 rw [Bool.eq_false_iff]
 intro h
 simp only [K4.lt,decide_eq_true_eq] at h
 omega
theorem Zq167 {ks:List K4} {k:K4} {i:Nat} (hr:Zq90 ks) (h:Place ks k i):ks[i]?=some k↔k ∈ ks:=by
 constructor
 ·exact List.mem_of_getElem?
 ·intro hm
  obtain ⟨j,hj⟩:=List.getElem?_of_mem hm
  rcases Nat.lt_trichotomy j i with h1|h1|h1
  ·have:=h.below j k h1 hj
   rw [Zq369] at this;cases this
  ·rw [←h1];exact hj
  ·have hil:i<ks.length:=by have:=(List.getElem?_eq_some_iff.1 hj).1;omega
   have h2:=Zq262 hr (List.getElem?_eq_getElem hil) hj h1
   have h3:=h.above i _ (Nat.le_refl _) (List.getElem?_eq_getElem hil)
   rw [h2] at h3;cases h3
theorem Zq370 {ks:List K4} {k:K4} {i:Nat} (h:Place ks k i):ks.take i=ks.filter (fun a=>a.lt k)∧ks.drop i=ks.filter (fun a=>!a.lt k):=by
 have h1:∀ a ∈ ks.take i,a.lt k=true:=fun a ha=>by
  obtain ⟨j,hj⟩:=List.getElem?_of_mem ha
  rw [List.getElem?_take] at hj
  split at hj
  ·exact h.below j a ‹_› hj
  ·cases hj
 have h2:∀ a ∈ ks.drop i,a.lt k=false:=fun a ha=>by
  obtain ⟨j,hj⟩:=List.getElem?_of_mem ha
  rw [List.getElem?_drop] at hj
  exact h.above _ a (by omega) hj
 have e:ks=ks.take i++ks.drop i:=(List.take_append_drop i ks).symm
 constructor
 ·conv=>rhs;rw [e]
  rw [List.filter_append,List.filter_eq_self.2 h1,List.filter_eq_nil_iff.2 (fun a ha=>by rw [h2 a ha];decide),List.append_nil]
 ·conv=>rhs;rw [e]
  rw [List.filter_append,List.filter_eq_nil_iff.2 (fun a ha=>by rw [h1 a ha];decide),List.filter_eq_self.2 (fun a ha=>by rw [h2 a ha];rfl),Zl3]
theorem Zq709 {ks:List K4} {k:K4} {i:Nat} (h:Place ks k i):insK i k ks=addK k ks:=by
 unfold insK addK
 rw [(Zq370 h).1,(Zq370 h).2]
theorem Zq139 {ks:List K4} (hr:Zq90 ks):ks.Nodup:=hr.imp fun {a b} h e=>by subst e;rw [Zq369] at h;cases h
theorem Zq710 {ks:List K4} {k:K4} {i:Nat} (hr:Zq90 ks) (hi:ks[i]?=some k):ks.eraseIdx i=remK k ks:=by
 have hn:=Zq139 hr
 obtain ⟨hlt,hk⟩:=List.getElem?_eq_some_iff.1 hi
 have e:ks=ks.take i++k::ks.drop (i+1):=by
  rw [←hk,←List.drop_eq_getElem_cons hlt,List.take_append_drop]
 have hn':(ks.take i++k::ks.drop (i+1)).Nodup:=e ▸ hn
 have h1:=List.nodup_append.1 hn'
 have h2:=List.nodup_cons.1 h1.2.1
 have e2:ks.eraseIdx i=ks.take i++ks.drop (i+1):=List.eraseIdx_eq_take_drop_succ ..
 rw [e2]
 unfold remK
 conv=>rhs;rw [e]
 rw [List.filter_append,List.filter_eq_self.2 (fun a ha=>by simpa using h1.2.2 a ha k (List.mem_cons_self ..)),List.filter_cons]
 simp only [ne_eq,not_true_eq_false,decide_false,Bool.false_eq_true,if_false]
 rw [List.filter_eq_self.2 (fun a ha=>by simpa using fun q:a=k=>h2.1 (q ▸ ha))]
end Go.Proofs.YtpjchngjhijgmaaGreat
namespace Go.Proofs.YtpjchngjhijgmaaGreat
open Go.RowKit
section
variable {W w : World} {I : Hp} {l : List HP} {p : Nat} {S : Str}
set_option maxRecDepth 4000
set_option maxHeartbeats 2000000
structure Spot (k:K4) (m:Nat) (L:List (K4 × TS)) (X:HP):Prop where
 dels:∀ {W w:World} {I:Hp} {l:List HP} (ty:TypeId),St W I w (X::l)→∃ w',(Builtin.delete_ #[112,43] ty #[.map (some m),keyKT.kv k]).run Tryz.prog w=.ok (.tuple #[]) w'∧w'.heap.size=w.heap.size∧St W I w' (HP.mapOf keyKT Zq12 m (del k L)::l)
 puts:∀ {W w:World} {I:Hp} {l:List HP} {v:Value} {t:TS},St W I w (Zq12 v t::X::l)→∃ w',(Instr.mapUpdate 112 (.map (some m)) (keyKT.kv k) v).run Tryz.prog w=.ok () w'∧w'.heap.size=w.heap.size∧St W I w' (Zq12 v t::HP.hole keyKT Zq12 m k v (del k L)::l)
theorem Zq252 (k:K4) (m:Nat) (L:List (K4 × TS)):Spot k m L (HP.mapOf keyKT Zq12 m L) :=
 ⟨fun ty h=>h.mapOf_del (ty:=ty) Tryz.underlying112 k,fun h=>h.mapOf_put_hole Tryz.underlying112 k⟩
theorem Zq371 {P:Program} {kt:TypeId} {K α:Type} [DecidableEq K] {T:KT P kt K} {own:Value→α→HP} {W w:World} {I:Hp} {l:List HP} {b:Nat} {L:List (K × α)} {a:K} {u:Value} (h:St W I w (HP.hole T own b a u L::l)) {t e:TypeId} (ht:P.underlying t=some (.map kt e)) (v:Value) :
  ∃ w',(Instr.mapUpdate t (.map (some b)) (T.kv a) v).run P w=.ok () w'∧w'.heap.size=w.heap.size∧St W I w' (HP.hole T own b a v L::l):=by
 obtain ⟨M,hp,hne,h⟩:=h.hole_open
 have hn:=h.map_nodup
 obtain ⟨w',hrun,hsz,h⟩:=h.map_put ht a v
 refine ⟨w',hrun,hsz,?_⟩
 have hdel:del a ((a,u)::M.map fst3)=M.map fst3:=by
  unfold del
  simp only [List.filter_cons,ne_eq,not_true_eq_false,decide_false,Bool.false_eq_true,if_false]
  exact Zq53 (get_none.2 fun p hp' e=>(List.nodup_cons.1 hn).1 (List.mem_map.2 ⟨p,hp',e⟩))
 unfold put at h
 rw [hdel] at h
 exact St.ex_shut M (St.all_shut (St.pure_shut ⟨hp,hne⟩ h))
theorem Zq711 (k:K4) (m:Nat) (u:Value) (L:List (K4 × TS)):Spot k m L (HP.hole keyKT Zq12 m k u (del k L)) :=
 ⟨fun ty h=>h.hole_del (ty:=ty) Tryz.underlying112,fun h=>by
  obtain ⟨w',h1,h2,h3⟩:=Zq371 (h.perm (List.Perm.swap _ _ _)) Tryz.underlying112 _
  exact ⟨w',h1,h2,h3.perm (List.Perm.swap _ _ _)⟩⟩
theorem Zq265 {v:Value} {o:Option TS} (h:St W I w (optHP v o::l)) (ht:Zq164 o) :
  Calls Tryz.prog 80 #[v] w fun e w'=>e=.returned (.int .i64 (IntKind.i64.wrap (sizeO o)))∧St W I w' (optHP v o::l):=by
 cases o with
 | none =>
  obtain ⟨rfl,h1⟩:=h.pure_open
  refine (Zq439 w).mono ?_
  rintro e w' ⟨rfl,rfl⟩
  exact ⟨by rw [show IntKind.i64.wrap (sizeO none)=0 by rfl],h⟩
 | some t=>exact Zq328 h (by have:=ht.1;omega)
theorem Zq442 {B:SB} {X:HP} (k:K4) (hX:Spot k B.m1 S.seen X) (was:Int) (h:St W I w (Zq6 p S B::X::dryHP B S::Zq25 B S::keyHP B S::l)) (hr:Zq90 (Zq18 S k.grp)) (hn:(Zq18 S k.grp).length≤100000) (hk:k ∈ Zq18 S k.grp) :
  Calls Tryz.prog 79 #[.pointer (some ⟨p,0,none⟩),k.val,.int .i64 was,.pointer none] w fun e w'=>e=.returned (.tuple #[])∧St W I w' (Zq6 p (showS S k was none) B::Zq70 B (showS S k was none)::dryHP B S::Zq25 B S::keyHP B (showS S k was none)::l):=by
 obtain ⟨k0,k1,k2,k3⟩:=k
 unfold K4.val
 have h2:=(h.alloc (.cells #[.int .i64 k0,.int .i64 k1,.int .i64 k2,.int .i64 k3] 43)).alloc (.cells #[.int .i64 k0,.int .i64 k1] 193)
 rw [show (w.alloc (.cells #[.int .i64 k0,.int .i64 k1,.int .i64 k2,.int .i64 k3] 43)).heap.size=w.heap.size+1 by simp] at h2
 obtain ⟨w2,hw2⟩:∃ w2,(w.alloc (.cells #[.int .i64 k0,.int .i64 k1,.int .i64 k2,.int .i64 k3] 43)).alloc (.cells #[.int .i64 k0,.int .i64 k1] 193)=w2:=⟨_,rfl⟩
 rw [hw2] at h2
 have HW2:=Zh hw2
 clear hw2
 have c8:=(h2.pull 2 _ rfl).blk 8
 have g0:=Zq1 h2.heap 0
 have g1:=Zq1 h2.heap 1
 simp [storeCells] at c8 g0 g1
 obtain ⟨vk,HK,hlk,h3,hback,hput⟩:=(h2.drew.pull 6 _ rfl).look_or (x0:=[]) Tryz.underlying114 (fun w=>by kernel_rfl) (fun I w l h=>h.row_nil _ _) ⟨k0,k1⟩
 have hlk:=hlk _ (Below.refl _ _) false
 simp only [grpKT,G2.val] at hlk
 have hks:(get (⟨k0,k1⟩:G2) S.keys).getD []=Zq18 S (K4.mk k0 k1 k2 k3).grp:=rfl
 rw [hks] at h3 hback
 have H2:=Zh h2
 have H3:=Zh h3
 have HB:=Zh hback
 have HP':=Zh hput
 obtain ⟨ks,hks2⟩:∃ ks,ks=Zq18 S (K4.mk k0 k1 k2 k3).grp:=⟨_,rfl⟩
 have HKS:=Zh hks2
 rw [←hks2] at H3 HB hr hn hk
 clear hks hks2 h2 h3 hback hput
 have hx2:=(H2.out.pull 1 _ rfl).heap
 obtain ⟨Av,cv,rfl⟩:=Zq17 H3.out.row_owns
 have HX2:=Zh hx2
 have HR:=Zh hr
 have HKM:=Zh hk
 clear hx2 h hr hk
 go_enter Tryz.func79,Tryz.ntmps79
 go_wp2_with fail
 rw [HW2.out]
 refine Zq11 [] [0,1,2,3,4,5,6] [] (by kernel_rfl) (by kernel_rfl) ?_
 simp only [pickL,Zl6,Zl7]
 repeat (refine Zq13 _ (Or.inl ⟨by rfl,by intro w;go_simp;try with_reducible rfl⟩) ?_;(try simp only [Act.put,List.setIfInBounds_toArray,Zl4,Zl5]))
 refine Zq15 ?_
 repeat still_step
 refine wpStill_nil ?_
 go_wp2_with fail
 refine NoPanic.normal ?_
 have x0:=Zq1 (w:=w2.drew) HX2.out 0
 have x1:=Zq1 (w:=w2.drew) HX2.out 1
 have x2:=Zq1 (w:=w2.drew) HX2.out 2
 have x3:=Zq1 (w:=w2.drew) HX2.out 3
 simp at x0 x1 x2 x3
 clear hlk c8 g0 g1
 go_wp2_with fail
 refine (Zq166 ⟨k0,k1,k2,k3⟩ H3.out (by omega) HR.out).mono ?_
 rintro e w4 ⟨hb4,i,hpl,rfl⟩
 have HPL:=Zh hpl
 have hin:decide (ks[i]?=some ⟨k0,k1,k2,k3⟩)=true:=by
  simpa using (Zq167 HR.out HPL.out).2 HKM.out
 rw [hin]
 have h4:=H3.out.keep hb4
 have H4:=Zh h4
 have HIN:=Zh hin
 clear hb4 hpl h4 hin x0 x1 x2 x3
 have h4:St W I w4 (Zq30 (.slice Av ks.length cv) ks::HK::HP.pt (w.heap.size+1) (.cells #[.int .i64 k0,.int .i64 k1] 193)::HP.pt w.heap.size (.cells #[.int .i64 k0,.int .i64 k1,.int .i64 k2,.int .i64 k3] 43)::Zq6 p S B::X::dryHP B S::Zq25 B S::l):=H4.out
 have c5:=(h4.pull 4 _ rfl).blk 5
 have hxk:=(h4.pull 3 _ rfl).heap
 have x0:=Zq1 hxk 0
 have x1:=Zq1 hxk 1
 have x2:=Zq1 hxk 2
 have x3:=Zq1 hxk 3
 simp [storeCells] at c5 x0 x1 x2 x3
 obtain ⟨w5,hr5,hs5,h5⟩:=hX.dels 0 (h4.drew.pull 5 _ rfl)
 simp only [keyKT,K4.val] at hr5
 have H5:=Zh h5
 have HR5:=Zh hr5
 clear h4 h5 hxk hr5
 go_wp2_with fail
 refine Zq11 [] [0,1,2,3,4] [5] (by kernel_rfl) (by kernel_rfl) ?_
 simp only [pickL,Zl6,Zl7]
 repeat (refine Zq13 _ (Or.inl ⟨by rfl,by intro w;go_simp;try with_reducible rfl⟩) ?_;(try simp only [Act.put,List.setIfInBounds_toArray,Zl4,Zl5]))
 refine Zq15 ?_
 repeat still_step
 refine wpStill_nil ?_
 have hr5:=HR5.out
 go_wp2_with fail
 refine NoPanic.normal ?_
 clear c5 x0 x1 x2 x3 hr5
 have h5:St W I w5 (Zq30 (.slice Av ks.length cv) ks::HK::HP.pt (w.heap.size+1) (.cells #[.int .i64 k0,.int .i64 k1] 193)::Zq6 p S B::HP.mapOf keyKT Zq12 B.m1 (del ⟨k0,k1,k2,k3⟩ S.seen)::dryHP B S::Zq25 B S::l):=(H5.out.pull 4 _ rfl).drop.perm (by ((try simp only [Zl0,Zl1,Zl2,Zl3]);repeat (first|with_reducible exact List.Perm.refl _|(apply Zq4;(· repeat (first|with_reducible exact Zq3|with_reducible apply Zq2))))))
 have c8:=(h5.pull 3 _ rfl).blk 8
 have hg:=(h5.pull 2 _ rfl).heap
 have g0:=Zq1 hg 0
 have g1:=Zq1 hg 1
 simp [storeCells] at c8 g0 g1
 have H5':=Zh h5
 have z1:IntKind.i64.wrap ((i:Int)+1)=(i:Int)+1:=by
  have:=HPL.out.le
  rw [IntKind.wrap_i64];omega
 clear h5 hg
 go_wp2_with fail
 refine Zq8 (fun w'=>w'.cell? ⟨p,8,none⟩=some (.map (some B.m4))∧w'.cell? ⟨w.heap.size+1,0,none⟩=some (.int .i64 k0)∧w'.cell? ⟨w.heap.size+1,1,none⟩=some (.int .i64 k1)) [0,1,2,3,4,5,6,7,8] [9] [10] (by kernel_rfl) (by kernel_rfl) (by (exact ⟨c8,g0,g1⟩)) ?_
 simp only [pickL,Zl6,Zl7]
 repeat (refine Zq5 _ (Or.inl ⟨by rfl,by (intro w hSw;(try dsimp only at hSw);go_simp;try with_reducible rfl)⟩) ?_;(try simp only [Act.put,List.setIfInBounds_toArray,Zl4,Zl5]))
 refine Zq9 ?_
 unfold Zq16
 go_wp2_with fail
 have hilt:i<ks.length:=(List.getElem?_eq_some_iff.1 ((Zq167 HR.out HPL.out).2 HKM.out)).1
 refine (Zq532 H5'.out.drew (by omega) hilt).mono ?_
 rintro e w6 ⟨v6,rfl,h6⟩
 rw [Zq710 HR.out ((Zq167 HR.out HPL.out).2 HKM.out)] at h6
 obtain ⟨A6,c6,rfl⟩:=Zq17 h6.row_owns
 obtain ⟨w7,hr7,hs7,h7⟩:=HP'.out I w6 _ _ _ h6
 simp only [grpKT,G2.val] at hr7
 have c8':=(h6.pull 3 _ rfl).blk 8
 have hg':=(h6.pull 2 _ rfl).heap
 have g0':=Zq1 hg' 0
 have g1':=Zq1 hg' 1
 simp [storeCells] at c8' g0' g1'
 have H7:=Zh h7
 have HR7:=Zh hr7
 clear h6 h7 hr7 hg' z1 c8 g0 g1 hilt
 go_wp2_with fail
 refine Zq0 ⟨c8',g0',g1'⟩ ?_
 have hr7:=HR7.out
 unfold Zq16
 go_wp2_with fail
 refine NoPanic.normal ?_
 clear hr7 c8' g0' g1'
 go_wp2_with fail
 have h8:St W I w7 (Zq6 p S B::HP.mapOf keyKT Zq12 B.m1 (del ⟨k0,k1,k2,k3⟩ S.seen)::dryHP B S::Zq25 B S::HP.mapOf grpKT Zq30 B.m4 (put ⟨k0,k1⟩ (remK ⟨k0,k1,k2,k3⟩ ks) S.keys)::l):=(H7.out.pull 1 _ rfl).drop.perm (by ((try simp only [Zl0,Zl1,Zl2,Zl3]);repeat (first|with_reducible exact List.Perm.refl _|(apply Zq4;(· repeat (first|with_reducible exact Zq3|with_reducible apply Zq2))))))
 have c1:=h8.blk 1
 have f1:=frozen_of_row h8.heap 1
 simp [storeCells] at c1
 have H8:=Zh h8
 clear h8
 refine Zq8 (fun w'=>w'.cell? ⟨p,1,none⟩=some (.int .i64 S.used)) [0,1,2,3,4,6] [5,7] [8,9,10,11] (by kernel_rfl) (by kernel_rfl) (by (exact c1)) ?_
 simp only [pickL,Zl6,Zl7]
 repeat (refine Zq5 _ (Or.inl ⟨by rfl,by (intro w hSw;(try dsimp only at hSw);go_simp;try with_reducible rfl)⟩) ?_;(try simp only [Act.put,List.setIfInBounds_toArray,Zl4,Zl5]))
 refine Zq9 ?_
 unfold Zq16
 go_wp2_with fail
 refine (Zq439 _).mono ?_
 rintro e w9 ⟨rfl,rfl⟩
 go_wp2_with fail
 refine Zq0 c1 ?_
 unfold Zq16
 go_wp2_with fail
 refine Zq0 c1 ?_
 unfold Zq16
 go_wp2_with fail
 refine NoPanic.normal ?_
 clear c1 f1
 go_wp2_with fail
 go_end0
 refine ⟨rfl,?_⟩
 have h9:=H8.out.drew.setCell 1 (.int .i64 (IntKind.i64.wrap (S.used+(0 - was))))
 have e1:wrap64 (S.used+wrap64 (-was))=IntKind.i64.wrap (S.used+(0 - was)):=by simp only [wrap64,IntKind.wrap_i64];omega
 rw [e1]
 have hks3:=HKS.out
 have hkm3:=HKM.out
 rw [hks3] at hkm3
 have e2:keyHP B (showS S ⟨k0,k1,k2,k3⟩ was none)=HP.mapOf grpKT Zq30 B.m4 (put ⟨k0,k1⟩ (remK ⟨k0,k1,k2,k3⟩ ks) S.keys):=by
  unfold keyHP showS
  (simp only [hkm3,if_true,if_false,hks3]) <;> rfl
 rw [e2]
 exact h9
theorem Zq372 {B:SB} {X:HP} (k:K4) (hX:Spot k B.m1 S.seen X) (was:Int) (h:St W I w (Zq6 p S B::X::dryHP B S::Zq25 B S::keyHP B S::l)) (hr:Zq90 (Zq18 S k.grp)) (hn:(Zq18 S k.grp).length≤100000) (hk:k ∉ Zq18 S k.grp) :
  Calls Tryz.prog 79 #[.pointer (some ⟨p,0,none⟩),k.val,.int .i64 was,.pointer none] w fun e w'=>e=.returned (.tuple #[])∧St W I w' (Zq6 p (showS S k was none) B::Zq70 B (showS S k was none)::dryHP B S::Zq25 B S::keyHP B (showS S k was none)::l):=by
 obtain ⟨k0,k1,k2,k3⟩:=k
 unfold K4.val
 have h2:=(h.alloc (.cells #[.int .i64 k0,.int .i64 k1,.int .i64 k2,.int .i64 k3] 43)).alloc (.cells #[.int .i64 k0,.int .i64 k1] 193)
 rw [show (w.alloc (.cells #[.int .i64 k0,.int .i64 k1,.int .i64 k2,.int .i64 k3] 43)).heap.size=w.heap.size+1 by simp] at h2
 obtain ⟨w2,hw2⟩:∃ w2,(w.alloc (.cells #[.int .i64 k0,.int .i64 k1,.int .i64 k2,.int .i64 k3] 43)).alloc (.cells #[.int .i64 k0,.int .i64 k1] 193)=w2:=⟨_,rfl⟩
 rw [hw2] at h2
 have HW2:=Zh hw2
 clear hw2
 have c8:=(h2.pull 2 _ rfl).blk 8
 have g0:=Zq1 h2.heap 0
 have g1:=Zq1 h2.heap 1
 simp [storeCells] at c8 g0 g1
 obtain ⟨vk,HK,hlk,h3,hback,hput⟩:=(h2.drew.pull 6 _ rfl).look_or (x0:=[]) Tryz.underlying114 (fun w=>by kernel_rfl) (fun I w l h=>h.row_nil _ _) ⟨k0,k1⟩
 have hlk:=hlk _ (Below.refl _ _) false
 simp only [grpKT,G2.val] at hlk
 have hks:(get (⟨k0,k1⟩:G2) S.keys).getD []=Zq18 S (K4.mk k0 k1 k2 k3).grp:=rfl
 rw [hks] at h3 hback
 have H2:=Zh h2
 have H3:=Zh h3
 have HB:=Zh hback
 have HP':=Zh hput
 obtain ⟨ks,hks2⟩:∃ ks,ks=Zq18 S (K4.mk k0 k1 k2 k3).grp:=⟨_,rfl⟩
 have HKS:=Zh hks2
 rw [←hks2] at H3 HB hr hn hk
 clear hks hks2 h2 h3 hback hput
 have hx2:=(H2.out.pull 1 _ rfl).heap
 obtain ⟨Av,cv,rfl⟩:=Zq17 H3.out.row_owns
 have HX2:=Zh hx2
 have HR:=Zh hr
 have HKM:=Zh hk
 clear hx2 h hr hk
 go_enter Tryz.func79,Tryz.ntmps79
 go_wp2_with fail
 rw [HW2.out]
 refine Zq11 [] [0,1,2,3,4,5,6] [] (by kernel_rfl) (by kernel_rfl) ?_
 simp only [pickL,Zl6,Zl7]
 repeat (refine Zq13 _ (Or.inl ⟨by rfl,by intro w;go_simp;try with_reducible rfl⟩) ?_;(try simp only [Act.put,List.setIfInBounds_toArray,Zl4,Zl5]))
 refine Zq15 ?_
 repeat still_step
 refine wpStill_nil ?_
 go_wp2_with fail
 refine NoPanic.normal ?_
 have x0:=Zq1 (w:=w2.drew) HX2.out 0
 have x1:=Zq1 (w:=w2.drew) HX2.out 1
 have x2:=Zq1 (w:=w2.drew) HX2.out 2
 have x3:=Zq1 (w:=w2.drew) HX2.out 3
 simp at x0 x1 x2 x3
 clear hlk c8 g0 g1
 go_wp2_with fail
 refine (Zq166 ⟨k0,k1,k2,k3⟩ H3.out (by omega) HR.out).mono ?_
 rintro e w4 ⟨hb4,i,hpl,rfl⟩
 have HPL:=Zh hpl
 have hin:decide (ks[i]?=some ⟨k0,k1,k2,k3⟩)=false:=by
  rw [decide_eq_false_iff_not];exact fun q=>HKM.out ((Zq167 HR.out HPL.out).1 q)
 rw [hin]
 have h4:=H3.out.keep hb4
 have H4:=Zh h4
 have HIN:=Zh hin
 clear hb4 hpl h4 hin x0 x1 x2 x3
 have h4:St W I w4 (Zq30 (.slice Av ks.length cv) ks::HK::HP.pt (w.heap.size+1) (.cells #[.int .i64 k0,.int .i64 k1] 193)::HP.pt w.heap.size (.cells #[.int .i64 k0,.int .i64 k1,.int .i64 k2,.int .i64 k3] 43)::Zq6 p S B::X::dryHP B S::Zq25 B S::l):=H4.out
 have c5:=(h4.pull 4 _ rfl).blk 5
 have hxk:=(h4.pull 3 _ rfl).heap
 have x0:=Zq1 hxk 0
 have x1:=Zq1 hxk 1
 have x2:=Zq1 hxk 2
 have x3:=Zq1 hxk 3
 simp [storeCells] at c5 x0 x1 x2 x3
 obtain ⟨w5,hr5,hs5,h5⟩:=hX.dels 0 (h4.drew.pull 5 _ rfl)
 simp only [keyKT,K4.val] at hr5
 have H5:=Zh h5
 have HR5:=Zh hr5
 clear h4 h5 hxk hr5
 go_wp2_with fail
 refine Zq11 [] [0,1,2,3,4] [5] (by kernel_rfl) (by kernel_rfl) ?_
 simp only [pickL,Zl6,Zl7]
 repeat (refine Zq13 _ (Or.inl ⟨by rfl,by intro w;go_simp;try with_reducible rfl⟩) ?_;(try simp only [Act.put,List.setIfInBounds_toArray,Zl4,Zl5]))
 refine Zq15 ?_
 repeat still_step
 refine wpStill_nil ?_
 have hr5:=HR5.out
 go_wp2_with fail
 refine NoPanic.normal ?_
 clear c5 x0 x1 x2 x3 hr5
 have h5:St W I w5 (Zq30 (.slice Av ks.length cv) ks::HK::HP.pt (w.heap.size+1) (.cells #[.int .i64 k0,.int .i64 k1] 193)::Zq6 p S B::HP.mapOf keyKT Zq12 B.m1 (del ⟨k0,k1,k2,k3⟩ S.seen)::dryHP B S::Zq25 B S::l):=(H5.out.pull 4 _ rfl).drop.perm (by ((try simp only [Zl0,Zl1,Zl2,Zl3]);repeat (first|with_reducible exact List.Perm.refl _|(apply Zq4;(· repeat (first|with_reducible exact Zq3|with_reducible apply Zq2))))))
 have hbk:=HB.out I w5 _ h5
 have H7:=Zh hbk
 clear h5 hbk
 go_wp2_with fail
 have h8:St W I w5 (Zq6 p S B::HP.mapOf keyKT Zq12 B.m1 (del ⟨k0,k1,k2,k3⟩ S.seen)::dryHP B S::Zq25 B S::HP.mapOf grpKT Zq30 B.m4 S.keys::l):=(H7.out.pull 1 _ rfl).drop.perm (by ((try simp only [Zl0,Zl1,Zl2,Zl3]);repeat (first|with_reducible exact List.Perm.refl _|(apply Zq4;(· repeat (first|with_reducible exact Zq3|with_reducible apply Zq2))))))
 have c1:=h8.blk 1
 have f1:=frozen_of_row h8.heap 1
 simp [storeCells] at c1
 have H8:=Zh h8
 clear h8
 refine Zq8 (fun w'=>w'.cell? ⟨p,1,none⟩=some (.int .i64 S.used)) [0,1,2,3,4,6] [5,7] [8,9,10,11] (by kernel_rfl) (by kernel_rfl) (by (exact c1)) ?_
 simp only [pickL,Zl6,Zl7]
 repeat (refine Zq5 _ (Or.inl ⟨by rfl,by (intro w hSw;(try dsimp only at hSw);go_simp;try with_reducible rfl)⟩) ?_;(try simp only [Act.put,List.setIfInBounds_toArray,Zl4,Zl5]))
 refine Zq9 ?_
 unfold Zq16
 go_wp2_with fail
 refine (Zq439 _).mono ?_
 rintro e w9 ⟨rfl,rfl⟩
 go_wp2_with fail
 refine Zq0 c1 ?_
 unfold Zq16
 go_wp2_with fail
 refine Zq0 c1 ?_
 unfold Zq16
 go_wp2_with fail
 refine NoPanic.normal ?_
 clear c1 f1
 go_wp2_with fail
 go_end0
 refine ⟨rfl,?_⟩
 have h9:=H8.out.drew.setCell 1 (.int .i64 (IntKind.i64.wrap (S.used+(0 - was))))
 have e1:wrap64 (S.used+wrap64 (-was))=IntKind.i64.wrap (S.used+(0 - was)):=by simp only [wrap64,IntKind.wrap_i64];omega
 rw [e1]
 have hks3:=HKS.out
 have hkm3:=HKM.out
 rw [hks3] at hkm3
 have e2:keyHP B (showS S ⟨k0,k1,k2,k3⟩ was none)=HP.mapOf grpKT Zq30 B.m4 S.keys:=by
  unfold keyHP showS
  (simp only [hkm3,if_true,if_false,hks3]) <;> rfl
 rw [e2]
 exact h9
theorem Zq373 {B:SB} {X:HP} {v:Value} {t:TS} (ht:t.small) (k:K4) (hX:Spot k B.m1 S.seen X) (was:Int) (h:St W I w (Zq6 p S B::X::dryHP B S::Zq25 B S::keyHP B S::Zq12 v t::l)) (hr:Zq90 (Zq18 S k.grp)) (hn:(Zq18 S k.grp).length≤100000) (hk:k ∈ Zq18 S k.grp) :
  Calls Tryz.prog 79 #[.pointer (some ⟨p,0,none⟩),k.val,.int .i64 was,v] w fun e w'=>e=.returned (.tuple #[])∧St W I w' (Zq6 p (showS S k was (some t)) B::Zq12 v t::HP.hole keyKT Zq12 B.m1 k v (del k S.seen)::dryHP B S::Zq25 B S::keyHP B (showS S k was (some t))::l):=by
 obtain ⟨k0,k1,k2,k3⟩:=k
 unfold K4.val
 have h2:=(h.alloc (.cells #[.int .i64 k0,.int .i64 k1,.int .i64 k2,.int .i64 k3] 43)).alloc (.cells #[.int .i64 k0,.int .i64 k1] 193)
 rw [show (w.alloc (.cells #[.int .i64 k0,.int .i64 k1,.int .i64 k2,.int .i64 k3] 43)).heap.size=w.heap.size+1 by simp] at h2
 obtain ⟨w2,hw2⟩:∃ w2,(w.alloc (.cells #[.int .i64 k0,.int .i64 k1,.int .i64 k2,.int .i64 k3] 43)).alloc (.cells #[.int .i64 k0,.int .i64 k1] 193)=w2:=⟨_,rfl⟩
 rw [hw2] at h2
 have HW2:=Zh hw2
 clear hw2
 have c8:=(h2.pull 2 _ rfl).blk 8
 have g0:=Zq1 h2.heap 0
 have g1:=Zq1 h2.heap 1
 simp [storeCells] at c8 g0 g1
 obtain ⟨vk,HK,hlk,h3,hback,hput⟩:=(h2.drew.pull 6 _ rfl).look_or (x0:=[]) Tryz.underlying114 (fun w=>by kernel_rfl) (fun I w l h=>h.row_nil _ _) ⟨k0,k1⟩
 have hlk:=hlk _ (Below.refl _ _) false
 simp only [grpKT,G2.val] at hlk
 have hks:(get (⟨k0,k1⟩:G2) S.keys).getD []=Zq18 S (K4.mk k0 k1 k2 k3).grp:=rfl
 rw [hks] at h3 hback
 have H2:=Zh h2
 have H3:=Zh h3
 have HB:=Zh hback
 have HP':=Zh hput
 obtain ⟨ks,hks2⟩:∃ ks,ks=Zq18 S (K4.mk k0 k1 k2 k3).grp:=⟨_,rfl⟩
 have HKS:=Zh hks2
 rw [←hks2] at H3 HB hr hn hk
 clear hks hks2 h2 h3 hback hput
 have hx2:=(H2.out.pull 1 _ rfl).heap
 obtain ⟨Av,cv,rfl⟩:=Zq17 H3.out.row_owns
 have HX2:=Zh hx2
 have HR:=Zh hr
 have HKM:=Zh hk
 clear hx2 h hr hk
 go_enter Tryz.func79,Tryz.ntmps79
 go_wp2_with fail
 rw [HW2.out]
 refine Zq11 [] [0,1,2,3,4,5,6] [] (by kernel_rfl) (by kernel_rfl) ?_
 simp only [pickL,Zl6,Zl7]
 repeat (refine Zq13 _ (Or.inl ⟨by rfl,by intro w;go_simp;try with_reducible rfl⟩) ?_;(try simp only [Act.put,List.setIfInBounds_toArray,Zl4,Zl5]))
 refine Zq15 ?_
 repeat still_step
 refine wpStill_nil ?_
 go_wp2_with fail
 refine NoPanic.normal ?_
 have x0:=Zq1 (w:=w2.drew) HX2.out 0
 have x1:=Zq1 (w:=w2.drew) HX2.out 1
 have x2:=Zq1 (w:=w2.drew) HX2.out 2
 have x3:=Zq1 (w:=w2.drew) HX2.out 3
 simp at x0 x1 x2 x3
 clear hlk c8 g0 g1
 go_wp2_with fail
 refine (Zq166 ⟨k0,k1,k2,k3⟩ H3.out (by omega) HR.out).mono ?_
 rintro e w4 ⟨hb4,i,hpl,rfl⟩
 have HPL:=Zh hpl
 have hin:decide (ks[i]?=some ⟨k0,k1,k2,k3⟩)=true:=by
  simpa using (Zq167 HR.out HPL.out).2 HKM.out
 rw [hin]
 have h4:=H3.out.keep hb4
 have H4:=Zh h4
 have HIN:=Zh hin
 clear hb4 hpl h4 hin x0 x1 x2 x3
 have h4:St W I w4 (Zq30 (.slice Av ks.length cv) ks::HK::HP.pt (w.heap.size+1) (.cells #[.int .i64 k0,.int .i64 k1] 193)::HP.pt w.heap.size (.cells #[.int .i64 k0,.int .i64 k1,.int .i64 k2,.int .i64 k3] 43)::Zq6 p S B::X::dryHP B S::Zq25 B S::Zq12 v t::l):=H4.out
 have c5:=(h4.pull 4 _ rfl).blk 5
 have hxk:=(h4.pull 3 _ rfl).heap
 have x0:=Zq1 hxk 0
 have x1:=Zq1 hxk 1
 have x2:=Zq1 hxk 2
 have x3:=Zq1 hxk 3
 simp [storeCells] at c5 x0 x1 x2 x3
 have h4':St W I w4.drew (Zq12 v t::X::Zq30 (.slice Av ks.length cv) ks::HK::HP.pt (w.heap.size+1) (.cells #[.int .i64 k0,.int .i64 k1] 193)::HP.pt w.heap.size (.cells #[.int .i64 k0,.int .i64 k1,.int .i64 k2,.int .i64 k3] 43)::Zq6 p S B::dryHP B S::Zq25 B S::l):=h4.drew.perm (by ((try simp only [Zl0,Zl1,Zl2,Zl3]);repeat (first|with_reducible exact List.Perm.refl _|(apply Zq4;(· repeat (first|with_reducible exact Zq3|with_reducible apply Zq2))))))
 obtain ⟨w5,hr5,hs5,h5⟩:=hX.puts h4'
 simp only [keyKT,K4.val] at hr5
 obtain ⟨bt,mt,vbt,hve,_⟩:=h5.thing_open
 subst hve
 have H5:=Zh h5
 have HR5:=Zh hr5
 clear h4 h4' h5 hxk hr5 hs5
 go_wp2_with fail
 refine Zq11 [] [0,1,2,3,4,5] [6] (by kernel_rfl) (by kernel_rfl) ?_
 simp only [pickL,Zl6,Zl7]
 repeat (refine Zq13 _ (Or.inl ⟨by rfl,by intro w;go_simp;try with_reducible rfl⟩) ?_;(try simp only [Act.put,List.setIfInBounds_toArray,Zl4,Zl5]))
 refine Zq15 ?_
 repeat still_step
 refine wpStill_nil ?_
 have hr5:=HR5.out
 go_wp2_with fail
 refine NoPanic.normal ?_
 clear c5 x0 x1 x2 x3 hr5
 have h5:St W I w5 (Zq30 (.slice Av ks.length cv) ks::HK::HP.pt (w.heap.size+1) (.cells #[.int .i64 k0,.int .i64 k1] 193)::Zq6 p S B::HP.pt w.heap.size (.cells #[.int .i64 k0,.int .i64 k1,.int .i64 k2,.int .i64 k3] 43)::Zq12 (.pointer (some ⟨bt,0,none⟩)) t::HP.hole keyKT Zq12 B.m1 ⟨k0,k1,k2,k3⟩ (.pointer (some ⟨bt,0,none⟩)) (del ⟨k0,k1,k2,k3⟩ S.seen)::dryHP B S::Zq25 B S::l):=H5.out.perm (by ((try simp only [Zl0,Zl1,Zl2,Zl3]);repeat (first|with_reducible exact List.Perm.refl _|(apply Zq4;(· repeat (first|with_reducible exact Zq3|with_reducible apply Zq2))))))
 have hbk:=HB.out I w5 _ h5
 have h8:St W I w5 (Zq6 p S B::Zq12 (.pointer (some ⟨bt,0,none⟩)) t::HP.hole keyKT Zq12 B.m1 ⟨k0,k1,k2,k3⟩ (.pointer (some ⟨bt,0,none⟩)) (del ⟨k0,k1,k2,k3⟩ S.seen)::dryHP B S::Zq25 B S::HP.mapOf grpKT Zq30 B.m4 S.keys::l):=((hbk.pull 1 _ rfl).drop.pull 2 _ rfl).drop.perm (by ((try simp only [Zl0,Zl1,Zl2,Zl3]);repeat (first|with_reducible exact List.Perm.refl _|(apply Zq4;(· repeat (first|with_reducible exact Zq3|with_reducible apply Zq2))))))
 clear h5 hbk
 go_wp2_with fail
 have c1:=h8.blk 1
 simp [storeCells] at c1
 have H8:=Zh h8
 clear h8
 refine Zq8 (fun w'=>w'.cell? ⟨p,1,none⟩=some (.int .i64 S.used)) [0,1,2,3,4,6] [5,7] [8,9,10,11] (by kernel_rfl) (by kernel_rfl) (by (exact c1)) ?_
 simp only [pickL,Zl6,Zl7]
 repeat (refine Zq5 _ (Or.inl ⟨by rfl,by (intro w hSw;(try dsimp only at hSw);go_simp;try with_reducible rfl)⟩) ?_;(try simp only [Act.put,List.setIfInBounds_toArray,Zl4,Zl5]))
 refine Zq9 ?_
 unfold Zq16
 go_wp2_with fail
 refine (Zq328 (H8.out.drew.pull 1 _ rfl) (by have:=ht.1;omega)).mono ?_
 rintro e w9 ⟨rfl,h9⟩
 have c1':=(h9.pull 1 _ rfl).blk 1
 have f1:=frozen_of_row (h9.pull 1 _ rfl).heap 1
 simp [storeCells] at c1'
 have H9:=Zh h9
 clear h9
 go_wp2_with fail
 refine Zq0 c1' ?_
 unfold Zq16
 go_wp2_with fail
 refine Zq0 c1' ?_
 unfold Zq16
 go_wp2_with fail
 refine NoPanic.normal ?_
 clear c1 f1 c1'
 go_wp2_with fail
 go_end0
 refine ⟨rfl,?_⟩
 have h9:St W I w9 (Zq6 p S B::Zq12 (.pointer (some ⟨bt,0,none⟩)) t::HP.hole keyKT Zq12 B.m1 ⟨k0,k1,k2,k3⟩ (.pointer (some ⟨bt,0,none⟩)) (del ⟨k0,k1,k2,k3⟩ S.seen)::dryHP B S::Zq25 B S::HP.mapOf grpKT Zq30 B.m4 (S.keys)::l):=H9.out.perm (by ((try simp only [Zl0,Zl1,Zl2,Zl3]);repeat (first|with_reducible exact List.Perm.refl _|(apply Zq4;(· repeat (first|with_reducible exact Zq3|with_reducible apply Zq2))))))
 have h10:=h9.setCell 1 (.int .i64 (IntKind.i64.wrap (S.used+(t.size - was))))
 have e1:wrap64 (S.used+wrap64 (wrap64 t.size - was))=IntKind.i64.wrap (S.used+(t.size - was)):=by simp only [wrap64,IntKind.wrap_i64];omega
 rw [e1]
 have hks3:=HKS.out
 have hkm3:=HKM.out
 rw [hks3] at hkm3
 have e2:keyHP B (showS S ⟨k0,k1,k2,k3⟩ was (some t))=HP.mapOf grpKT Zq30 B.m4 (S.keys):=by
  unfold keyHP showS
  (simp only [hkm3,if_true,if_false,hks3]) <;> rfl
 rw [e2]
 exact h10
end
end Go.Proofs.YtpjchngjhijgmaaGreat
namespace Go.Proofs.YtpjchngjhijgmaaGreat
open Go.RowKit
section
variable {W w : World} {I : Hp} {l : List HP} {p : Nat} {S : Str}
set_option maxRecDepth 4000
set_option maxHeartbeats 2000000
theorem Zq335 {B:SB} {X:HP} {v:Value} {t:TS} (ht:t.small) (k:K4) (hX:Spot k B.m1 S.seen X) (was:Int) (h:St W I w (Zq6 p S B::X::dryHP B S::Zq25 B S::keyHP B S::Zq12 v t::l)) (hr:Zq90 (Zq18 S k.grp)) (hn:(Zq18 S k.grp).length≤100000) (hk:k ∉ Zq18 S k.grp) :
  Calls Tryz.prog 79 #[.pointer (some ⟨p,0,none⟩),k.val,.int .i64 was,v] w fun e w'=>e=.returned (.tuple #[])∧St W I w' (Zq6 p (showS S k was (some t)) B::Zq12 v t::HP.hole keyKT Zq12 B.m1 k v (del k S.seen)::dryHP B S::Zq25 B S::keyHP B (showS S k was (some t))::l):=by
 obtain ⟨k0,k1,k2,k3⟩:=k
 unfold K4.val
 have h2:=(h.alloc (.cells #[.int .i64 k0,.int .i64 k1,.int .i64 k2,.int .i64 k3] 43)).alloc (.cells #[.int .i64 k0,.int .i64 k1] 193)
 rw [show (w.alloc (.cells #[.int .i64 k0,.int .i64 k1,.int .i64 k2,.int .i64 k3] 43)).heap.size=w.heap.size+1 by simp] at h2
 obtain ⟨w2,hw2⟩:∃ w2,(w.alloc (.cells #[.int .i64 k0,.int .i64 k1,.int .i64 k2,.int .i64 k3] 43)).alloc (.cells #[.int .i64 k0,.int .i64 k1] 193)=w2:=⟨_,rfl⟩
 rw [hw2] at h2
 have HW2:=Zh hw2
 clear hw2
 have c8:=(h2.pull 2 _ rfl).blk 8
 have g0:=Zq1 h2.heap 0
 have g1:=Zq1 h2.heap 1
 simp [storeCells] at c8 g0 g1
 obtain ⟨vk,HK,hlk,h3,hback,hput⟩:=(h2.drew.pull 6 _ rfl).look_or (x0:=[]) Tryz.underlying114 (fun w=>by kernel_rfl) (fun I w l h=>h.row_nil _ _) ⟨k0,k1⟩
 have hlk:=hlk _ (Below.refl _ _) false
 simp only [grpKT,G2.val] at hlk
 have hks:(get (⟨k0,k1⟩:G2) S.keys).getD []=Zq18 S (K4.mk k0 k1 k2 k3).grp:=rfl
 rw [hks] at h3 hback
 have H2:=Zh h2
 have H3:=Zh h3
 have HB:=Zh hback
 have HP':=Zh hput
 obtain ⟨ks,hks2⟩:∃ ks,ks=Zq18 S (K4.mk k0 k1 k2 k3).grp:=⟨_,rfl⟩
 have HKS:=Zh hks2
 rw [←hks2] at H3 HB hr hn hk
 clear hks hks2 h2 h3 hback hput
 have hx2:=(H2.out.pull 1 _ rfl).heap
 obtain ⟨Av,cv,rfl⟩:=Zq17 H3.out.row_owns
 have HX2:=Zh hx2
 have HR:=Zh hr
 have HKM:=Zh hk
 clear hx2 h hr hk
 go_enter Tryz.func79,Tryz.ntmps79
 go_wp2_with fail
 rw [HW2.out]
 refine Zq11 [] [0,1,2,3,4,5,6] [] (by kernel_rfl) (by kernel_rfl) ?_
 simp only [pickL,Zl6,Zl7]
 repeat (refine Zq13 _ (Or.inl ⟨by rfl,by intro w;go_simp;try with_reducible rfl⟩) ?_;(try simp only [Act.put,List.setIfInBounds_toArray,Zl4,Zl5]))
 refine Zq15 ?_
 repeat still_step
 refine wpStill_nil ?_
 go_wp2_with fail
 refine NoPanic.normal ?_
 have x0:=Zq1 (w:=w2.drew) HX2.out 0
 have x1:=Zq1 (w:=w2.drew) HX2.out 1
 have x2:=Zq1 (w:=w2.drew) HX2.out 2
 have x3:=Zq1 (w:=w2.drew) HX2.out 3
 simp at x0 x1 x2 x3
 clear hlk c8 g0 g1
 go_wp2_with fail
 refine (Zq166 ⟨k0,k1,k2,k3⟩ H3.out (by omega) HR.out).mono ?_
 rintro e w4 ⟨hb4,i,hpl,rfl⟩
 have HPL:=Zh hpl
 have hin:decide (ks[i]?=some ⟨k0,k1,k2,k3⟩)=false:=by
  rw [decide_eq_false_iff_not];exact fun q=>HKM.out ((Zq167 HR.out HPL.out).1 q)
 rw [hin]
 have h4:=H3.out.keep hb4
 have H4:=Zh h4
 have HIN:=Zh hin
 clear hb4 hpl h4 hin x0 x1 x2 x3
 have h4:St W I w4 (Zq30 (.slice Av ks.length cv) ks::HK::HP.pt (w.heap.size+1) (.cells #[.int .i64 k0,.int .i64 k1] 193)::HP.pt w.heap.size (.cells #[.int .i64 k0,.int .i64 k1,.int .i64 k2,.int .i64 k3] 43)::Zq6 p S B::X::dryHP B S::Zq25 B S::Zq12 v t::l):=H4.out
 have c5:=(h4.pull 4 _ rfl).blk 5
 have hxk:=(h4.pull 3 _ rfl).heap
 have x0:=Zq1 hxk 0
 have x1:=Zq1 hxk 1
 have x2:=Zq1 hxk 2
 have x3:=Zq1 hxk 3
 simp [storeCells] at c5 x0 x1 x2 x3
 have h4':St W I w4.drew (Zq12 v t::X::Zq30 (.slice Av ks.length cv) ks::HK::HP.pt (w.heap.size+1) (.cells #[.int .i64 k0,.int .i64 k1] 193)::HP.pt w.heap.size (.cells #[.int .i64 k0,.int .i64 k1,.int .i64 k2,.int .i64 k3] 43)::Zq6 p S B::dryHP B S::Zq25 B S::l):=h4.drew.perm (by ((try simp only [Zl0,Zl1,Zl2,Zl3]);repeat (first|with_reducible exact List.Perm.refl _|(apply Zq4;(· repeat (first|with_reducible exact Zq3|with_reducible apply Zq2))))))
 obtain ⟨w5,hr5,hs5,h5⟩:=hX.puts h4'
 simp only [keyKT,K4.val] at hr5
 obtain ⟨bt,mt,vbt,hve,_⟩:=h5.thing_open
 subst hve
 have H5:=Zh h5
 have HR5:=Zh hr5
 clear h4 h4' h5 hxk hr5 hs5
 go_wp2_with fail
 refine Zq11 [] [0,1,2,3,4,5] [6] (by kernel_rfl) (by kernel_rfl) ?_
 simp only [pickL,Zl6,Zl7]
 repeat (refine Zq13 _ (Or.inl ⟨by rfl,by intro w;go_simp;try with_reducible rfl⟩) ?_;(try simp only [Act.put,List.setIfInBounds_toArray,Zl4,Zl5]))
 refine Zq15 ?_
 repeat still_step
 refine wpStill_nil ?_
 have hr5:=HR5.out
 go_wp2_with fail
 refine NoPanic.normal ?_
 clear c5 x0 x1 x2 x3 hr5
 have h5:St W I w5 (Zq30 (.slice Av ks.length cv) ks::HK::HP.pt (w.heap.size+1) (.cells #[.int .i64 k0,.int .i64 k1] 193)::Zq6 p S B::HP.pt w.heap.size (.cells #[.int .i64 k0,.int .i64 k1,.int .i64 k2,.int .i64 k3] 43)::Zq12 (.pointer (some ⟨bt,0,none⟩)) t::HP.hole keyKT Zq12 B.m1 ⟨k0,k1,k2,k3⟩ (.pointer (some ⟨bt,0,none⟩)) (del ⟨k0,k1,k2,k3⟩ S.seen)::dryHP B S::Zq25 B S::l):=H5.out.perm (by ((try simp only [Zl0,Zl1,Zl2,Zl3]);repeat (first|with_reducible exact List.Perm.refl _|(apply Zq4;(· repeat (first|with_reducible exact Zq3|with_reducible apply Zq2))))))
 have hxk:=(h5.pull 4 _ rfl).heap
 have x0:=Zq1 hxk 0
 have x1:=Zq1 hxk 1
 have x2:=Zq1 hxk 2
 have x3:=Zq1 hxk 3
 simp at x0 x1 x2 x3
 clear hxk
 have c8:=(h5.pull 3 _ rfl).blk 8
 have hg:=(h5.pull 2 _ rfl).heap
 have g0:=Zq1 hg 0
 have g1:=Zq1 hg 1
 simp [storeCells] at c8 g0 g1
 have H5':=Zh h5
 have z1:IntKind.i64.wrap ((i:Int)+1)=(i:Int)+1:=by
  have:=HPL.out.le
  rw [IntKind.wrap_i64];omega
 clear h5 hg
 go_wp2_with fail
 refine Zq8 (fun w'=>w'.cell? ⟨p,8,none⟩=some (.map (some B.m4))∧w'.cell? ⟨w.heap.size+1,0,none⟩=some (.int .i64 k0)∧w'.cell? ⟨w.heap.size+1,1,none⟩=some (.int .i64 k1)∧w'.cell? ⟨w.heap.size,0,none⟩=some (.int .i64 k0)∧w'.cell? ⟨w.heap.size,1,none⟩=some (.int .i64 k1)∧w'.cell? ⟨w.heap.size,2,none⟩=some (.int .i64 k2)∧w'.cell? ⟨w.heap.size,3,none⟩=some (.int .i64 k3)) [0,1,2,3,4,5,6,7] [8,9] [10] (by kernel_rfl) (by kernel_rfl) (by (exact ⟨c8,g0,g1,x0,x1,x2,x3⟩)) ?_
 simp only [pickL,Zl6,Zl7]
 repeat (refine Zq5 _ (Or.inl ⟨by rfl,by (intro w hSw;(try dsimp only at hSw);go_simp;try with_reducible rfl)⟩) ?_;(try simp only [Act.put,List.setIfInBounds_toArray,Zl4,Zl5]))
 refine Zq9 ?_
 unfold Zq16
 go_wp2_with fail
 have hs0:=(H5'.out.alloc (.cells #[.int .i64 k0,.int .i64 k1,.int .i64 k2,.int .i64 k3] 43)).drew
 obtain ⟨wn,hwn⟩:∃ wn,(w5.alloc (.cells #[.int .i64 k0,.int .i64 k1,.int .i64 k2,.int .i64 k3] 43)).drew=wn:=⟨_,rfl⟩
 rw [hwn] at hs0 ⊢
 clear hwn
 have c8b:=(hs0.pull 4 _ rfl).blk 8
 have hgb:=(hs0.pull 3 _ rfl).heap
 have hkb:=(hs0.pull 5 _ rfl).heap
 have g0b:=Zq1 hgb 0
 have g1b:=Zq1 hgb 1
 have x0b:=Zq1 hkb 0
 have x1b:=Zq1 hkb 1
 have x2b:=Zq1 hkb 2
 have x3b:=Zq1 hkb 3
 simp [storeCells] at c8b g0b g1b x0b x1b x2b x3b
 have HS0:=Zh hs0
 clear hs0 hgb hkb
 refine Zq0 ⟨c8b,g0b,g1b,x0b,x1b,x2b,x3b⟩ ?_
 unfold Zq16
 clear c8 g0 g1 x0 x1 x2 x3
 go_wp2_with fail
 refine (Zq538 ⟨k0,k1,k2,k3⟩ HS0.out (by omega) HPL.out.le).mono ?_
 rintro e w6 ⟨v6,rfl,h6⟩
 rw [Zq709 HPL.out] at h6
 obtain ⟨A6,c6,rfl⟩:=Zq17 h6.row_owns
 obtain ⟨w7,hr7,hs7,h7⟩:=HP'.out I w6 _ _ _ h6
 simp only [grpKT,G2.val] at hr7
 have c8':=(h6.pull 3 _ rfl).blk 8
 have hg':=(h6.pull 2 _ rfl).heap
 have hk':=(h6.pull 4 _ rfl).heap
 have g0':=Zq1 hg' 0
 have g1':=Zq1 hg' 1
 have x0':=Zq1 hk' 0
 have x1':=Zq1 hk' 1
 have x2':=Zq1 hk' 2
 have x3':=Zq1 hk' 3
 simp [storeCells] at c8' g0' g1' x0' x1' x2' x3'
 have H7:=Zh h7
 have HR7:=Zh hr7
 clear h6 h7 hr7 hg' hk' z1 c8b g0b g1b x0b x1b x2b x3b
 go_wp2_with fail
 refine Zq0 ⟨c8',g0',g1',x0',x1',x2',x3'⟩ ?_
 have hr7:=HR7.out
 unfold Zq16
 go_wp2_with fail
 refine NoPanic.normal ?_
 clear hr7 c8' g0' g1' x0' x1' x2' x3'
 go_wp2_with fail
 have h8:St W I w7 (Zq6 p S B::Zq12 (.pointer (some ⟨bt,0,none⟩)) t::HP.hole keyKT Zq12 B.m1 ⟨k0,k1,k2,k3⟩ (.pointer (some ⟨bt,0,none⟩)) (del ⟨k0,k1,k2,k3⟩ S.seen)::dryHP B S::Zq25 B S::HP.mapOf grpKT Zq30 B.m4 (put ⟨k0,k1⟩ (addK ⟨k0,k1,k2,k3⟩ ks) S.keys)::l):=((H7.out.pull 1 _ rfl).drop.pull 2 _ rfl).drop.perm (by ((try simp only [Zl0,Zl1,Zl2,Zl3]);repeat (first|with_reducible exact List.Perm.refl _|(apply Zq4;(· repeat (first|with_reducible exact Zq3|with_reducible apply Zq2))))))
 have c1:=h8.blk 1
 simp [storeCells] at c1
 have H8:=Zh h8
 clear h8
 refine Zq8 (fun w'=>w'.cell? ⟨p,1,none⟩=some (.int .i64 S.used)) [0,1,2,3,4,6] [5,7] [8,9,10,11] (by kernel_rfl) (by kernel_rfl) (by (exact c1)) ?_
 simp only [pickL,Zl6,Zl7]
 repeat (refine Zq5 _ (Or.inl ⟨by rfl,by (intro w hSw;(try dsimp only at hSw);go_simp;try with_reducible rfl)⟩) ?_;(try simp only [Act.put,List.setIfInBounds_toArray,Zl4,Zl5]))
 refine Zq9 ?_
 unfold Zq16
 go_wp2_with fail
 refine (Zq328 (H8.out.drew.pull 1 _ rfl) (by have:=ht.1;omega)).mono ?_
 rintro e w9 ⟨rfl,h9⟩
 have c1':=(h9.pull 1 _ rfl).blk 1
 have f1:=frozen_of_row (h9.pull 1 _ rfl).heap 1
 simp [storeCells] at c1'
 have H9:=Zh h9
 clear h9
 go_wp2_with fail
 refine Zq0 c1' ?_
 unfold Zq16
 go_wp2_with fail
 refine Zq0 c1' ?_
 unfold Zq16
 go_wp2_with fail
 refine NoPanic.normal ?_
 clear c1 f1 c1'
 go_wp2_with fail
 go_end0
 refine ⟨rfl,?_⟩
 have h9:St W I w9 (Zq6 p S B::Zq12 (.pointer (some ⟨bt,0,none⟩)) t::HP.hole keyKT Zq12 B.m1 ⟨k0,k1,k2,k3⟩ (.pointer (some ⟨bt,0,none⟩)) (del ⟨k0,k1,k2,k3⟩ S.seen)::dryHP B S::Zq25 B S::HP.mapOf grpKT Zq30 B.m4 (put ⟨k0,k1⟩ (addK ⟨k0,k1,k2,k3⟩ ks) S.keys)::l):=H9.out.perm (by ((try simp only [Zl0,Zl1,Zl2,Zl3]);repeat (first|with_reducible exact List.Perm.refl _|(apply Zq4;(· repeat (first|with_reducible exact Zq3|with_reducible apply Zq2))))))
 have h10:=h9.setCell 1 (.int .i64 (IntKind.i64.wrap (S.used+(t.size - was))))
 have e1:wrap64 (S.used+wrap64 (wrap64 t.size - was))=IntKind.i64.wrap (S.used+(t.size - was)):=by simp only [wrap64,IntKind.wrap_i64];omega
 rw [e1]
 have hks3:=HKS.out
 have hkm3:=HKM.out
 rw [hks3] at hkm3
 have e2:keyHP B (showS S ⟨k0,k1,k2,k3⟩ was (some t))=HP.mapOf grpKT Zq30 B.m4 (put ⟨k0,k1⟩ (addK ⟨k0,k1,k2,k3⟩ ks) S.keys):=by
  unfold keyHP showS
  (simp only [hkm3,if_true,if_false,hks3]) <;> rfl
 rw [e2]
 exact h10
theorem Zq155 {B:SB} {X:HP} {v:Value} {t:TS} (ht:t.small) (k:K4) (hX:Spot k B.m1 S.seen X) (was:Int) (h:St W I w (Zq6 p S B::X::dryHP B S::Zq25 B S::keyHP B S::Zq12 v t::l)) (hr:Zq90 (Zq18 S k.grp)) (hn:(Zq18 S k.grp).length≤100000) :
  Calls Tryz.prog 79 #[.pointer (some ⟨p,0,none⟩),k.val,.int .i64 was,v] w fun e w'=>e=.returned (.tuple #[])∧St W I w' (Zq6 p (showS S k was (some t)) B::Zq12 v t::HP.hole keyKT Zq12 B.m1 k v (del k S.seen)::dryHP B (showS S k was (some t))::Zq25 B (showS S k was (some t))::keyHP B (showS S k was (some t))::l):=by
 by_cases hk:k ∈ Zq18 S k.grp
 ·exact Zq373 ht k hX was h hr hn hk
 ·exact Zq335 ht k hX was h hr hn hk
theorem Zq772 {B:SB} {X:HP} {v:Value} {o:Option TS} (ho:Zq164 o) (k:K4) (hX:Spot k B.m1 S.seen X) (was:Int) (h:St W I w (Zq6 p S B::X::dryHP B S::Zq25 B S::keyHP B S::optHP v o::l)) (hr:Zq90 (Zq18 S k.grp)) (hn:(Zq18 S k.grp).length≤100000) :
  Calls Tryz.prog 79 #[.pointer (some ⟨p,0,none⟩),k.val,.int .i64 was,v] w fun e w'=>e=.returned (.tuple #[])∧St W I w' (Zq6 p (showS S k was o) B::Zq70 B (showS S k was o)::dryHP B (showS S k was o)::Zq25 B (showS S k was o)::keyHP B (showS S k was o)::l):=by
 cases o with
 | none =>
  obtain ⟨rfl,h1⟩:=(h.pull 5 _ rfl).pure_open
  by_cases hk:k ∈ Zq18 S k.grp
  ·exact Zq442 k hX was h1 hr hn hk
  ·exact Zq372 k hX was h1 hr hn hk
 | some t =>
  refine (Zq155 ho k hX was h hr hn).mono ?_
  rintro e w' ⟨rfl,h1⟩
  exact ⟨rfl,(St.hole_back (h1.perm (m:=Zq12 v t::HP.hole keyKT Zq12 B.m1 k v (del k S.seen)::Zq6 p (showS S k was (some t)) B::dryHP B (showS S k was (some t))::Zq25 B (showS S k was (some t))::keyHP B (showS S k was (some t))::l) (by ((try simp only [Zl0,Zl1,Zl2,Zl3]);repeat (first|with_reducible exact List.Perm.refl _|(apply Zq4;(· repeat (first|with_reducible exact Zq3|with_reducible apply Zq2)))))))).pull 1 _ rfl⟩
theorem Zq483 {B:SB} {v:Value} {o:Option TS} (ho:Zq164 o) (k:K4) (was:Int) (h:St W I w (Zq6 p S B::Zq70 B S::dryHP B S::Zq25 B S::keyHP B S::optHP v o::l)) (hr:Zq90 (Zq18 S k.grp)) (hn:(Zq18 S k.grp).length≤100000) :
  Calls Tryz.prog 79 #[.pointer (some ⟨p,0,none⟩),k.val,.int .i64 was,v] w fun e w'=>e=.returned (.tuple #[])∧St W I w' (Zq6 p (showS S k was o) B::Zq70 B (showS S k was o)::dryHP B (showS S k was o)::Zq25 B (showS S k was o)::keyHP B (showS S k was o)::l) :=
 Zq772 ho k (Zq252 k B.m1 S.seen) was h hr hn
end
end Go.Proofs.YtpjchngjhijgmaaGreat
namespace Go.Proofs.YtpjchngjhijgmaaGreat
open Go.RowKit
def fuseS (S:Str) (n:Int) (keep:List Int) (torn:Int):Str :=
 if 0≤n then { S with armed:=true,fuse:=n,keep:=keep,torn:=torn } else { S with armed:=false,fuse:=0,keep:=[],torn:=0 }
section
variable {W w : World} {I : Hp} {l : List HP} {p : Nat} {S : Str}
set_option maxRecDepth 4000
set_option maxHeartbeats 4000000
theorem Zq805 (h:St W I w l) {v:Value} {q:List Int} (hb:IntsI I v q):SliceSrc w 1 v q.length (q.map intV):=RowI.src hb h.imm (Zq798 q) (by omega)
theorem Zq336 (I:Hp):IntsI I (.slice none 0 0) []:=⟨none,0,rfl,rfl,Nat.le_refl _,by unfold maxLen;omega,fun _=>rfl,fun h=>absurd h (by simp)⟩
theorem Zq712 {B:SB} (n:Int) (kv:Value) (keep:List Int) (torn:Int) (h:St W I w (Zq6 p S B::l)) (hk:IntsI I kv keep) (hn:keep.length≤1000000) :
  Calls Tryz.prog 53 #[.pointer (some ⟨p,0,none⟩),.int .i64 n,kv,.int .i64 torn] w fun e w'=>e=.returned (.tuple #[])∧∃ vk I',I.sub I'∧IntsI I' vk (fuseS S n keep torn).keep∧St W I' w' (Zq6 p (fuseS S n keep torn) { B with vk:=vk }::l):=by
 have f9:=frozen_of_row h.heap 9
 have f10:=frozen_of_row h.heap 10
 have f11:=frozen_of_row h.heap 11
 have f12:=frozen_of_row h.heap 12
 have c9:=h.blk 9
 have c10:=h.blk 10
 have c11:=h.blk 11
 have c12:=h.blk 12
 simp [storeCells] at c9 c10 c11 c12
 have h2:St W I ((((w.setCell ⟨p,9,none⟩ (.bool false)).setCell ⟨p,10,none⟩ (.int .i64 0)).setCell ⟨p,12,none⟩ (.slice none 0 0)).setCell ⟨p,11,none⟩ (.int .i64 0)) (Zq6 p { S with armed:=false,fuse:=0,keep:=[],torn:=0 } { B with vk:=.slice none 0 0 }::l):=(((h.setCell 9 (.bool false)).setCell 10 (.int .i64 0)).setCell 12 (.slice none 0 0)).setCell 11 (.int .i64 0)
 have H:=Zh h2
 have HK:=Zh (Zq805 h2 hk)
 have HKI:=Zh hk
 obtain ⟨A,c,rfl,_⟩:=hk
 clear h h2
 by_cases h0:0≤n
 ·go_enter Tryz.func53,Tryz.ntmps53
  go_wp2_with fail
  generalize (((w.setCell ⟨p,9,none⟩ (.bool false)).setCell ⟨p,10,none⟩ (.int .i64 0)).setCell ⟨p,12,none⟩ (.slice none 0 0)).setCell ⟨p,11,none⟩ (.int .i64 0)=w2 at *
  refine (Zq528 _ _ _ _ HK.out hn).mono ?_
  rintro e w4 ⟨v4,rfl,ho4,hb4⟩
  obtain ⟨A4,k4,rfl⟩:=Zq17 ho4
  obtain ⟨I',h1,h3,h4⟩:=(H.out.row_fresh hb4 ho4).freeze_row
  have f9':=frozen_of_row h4.heap 9
  have f10':=frozen_of_row h4.heap 10
  have f11':=frozen_of_row h4.heap 11
  have f12':=frozen_of_row h4.heap 12
  have c9':=h4.blk 9
  have c10':=h4.blk 10
  have c11':=h4.blk 11
  have c12':=h4.blk 12
  simp [storeCells] at c9' c10' c11' c12'
  have h5:=(((h4.setCell 9 (.bool true)).setCell 10 (.int .i64 n)).setCell 12 (.slice A4 keep.length k4)).setCell 11 (.int .i64 torn)
  have H5:=Zh h5
  have HI:=Zh h1
  have HR:=Zh h3
  clear h5 h4 h3 h1 ho4 hb4 c9 c10 c11 c12 f9 f10 f11 f12
  go_wp2_with fail
  go_end0
  refine ⟨rfl,.slice A4 keep.length k4,I',HI.out,?_,?_⟩
  ·rw [show (fuseS S n keep torn).keep=keep by simp [fuseS,h0]]
   exact HR.out
  ·rw [show fuseS S n keep torn={ S with armed:=true,fuse:=n,keep:=keep,torn:=torn } by simp [fuseS,h0]]
   exact H5.out
 ·go_enter Tryz.func53,Tryz.ntmps53
  go_wp2_with fail
  go_end0
  refine ⟨rfl,.slice none 0 0,I,Hp.sub.refl _,?_,?_⟩
  ·rw [show (fuseS S n keep torn).keep=[] by unfold fuseS;rw [if_neg (by omega)]]
   exact Zq336 I
  ·rw [show fuseS S n keep torn={ S with armed:=false,fuse:=0,keep:=[],torn:=0 } by unfold fuseS;rw [if_neg (by omega)]]
   exact H.out
end
end Go.Proofs.YtpjchngjhijgmaaGreat
namespace Go.Proofs.YtpjchngjhijgmaaGreat
open Go.RowKit Go.Shelf
attribute [local go_sem] Oper.semAt_some
section
theorem Zq374 {w:World} {m r:Nat} {L left:List (K4 × Value)} (h:(HP.iter keyKT m r L left).p Hp.nil w.hp):w.rangeLeft m r=left.length:=(Zq771 h).iter_left
theorem Zq606 {w w':World} {m r:Nat} {L left:List (K4 × Value)} (h:(HP.iter keyKT m r L left).p Hp.nil w.hp) (hk:KeepsWalks w w'):(HP.iter keyKT m r L left).p Hp.nil w'.hp:=by
 obtain ⟨es,clock,L',since,seen,c0,h1,h2,h3,h4,h5⟩:=h
 exact ⟨es,clock,L',since,seen,c0,hk.same _ _ h1 rfl,h2,h3,hk.same _ _ h4 rfl,h5⟩
theorem Zq607 {w w':World} {m r:Nat} {L left:List (K4 × Value)} (h:(HP.iter keyKT m r L left).p Hp.nil w.hp) (hg:w.grownBy w' none):(HP.iter keyKT m r L left).p Hp.nil w'.hp:=by
 obtain ⟨es,clock,L',since,seen,c0,h1,h2,h3,h4,h5⟩:=h
 have old:∀ {b o},w.hp b=some o→w'.hp b=some o:=fun {b o} e=>(hg.block b (Array.getElem?_eq_some_iff.1 (show w.heap[b]?=some o from e)).1 (by simp)).trans e
 exact ⟨es,clock,L',since,seen,c0,old h1,h2,h3,old h4,h5⟩
theorem Zq849 {w:World} {m r:Nat} {L left:List (K4 × Value)} (h:(HP.iter keyKT m r L left).p Hp.nil w.hp):∃ o:Obj,w.heap[r]?=some o∧o.isWalk=true:=by
 obtain ⟨es,clock,L',since,seen,c0,h1,h2,h3,h4,h5⟩:=h
 exact ⟨_,h4,rfl⟩
theorem Zq608 {w:World} {m:Nat} {L:List (K4 × Value)} (h:(HP.map keyKT m L).p Hp.nil w.hp):∃ w',(Instr.range 113 (.map (some m))).run Tryz.prog w=.ok (.pointer (some ⟨w.heap.size,0,none⟩)) w'∧(HP.iter keyKT m w.heap.size L L).p Hp.nil w'.hp∧w.grownBy w' none:=by
 obtain ⟨es,clock,L1,hb,q,p⟩:=h
 have hrun:=run_range_map (P:=Tryz.prog) w _ _ _ m es clock Tryz.underlying113 hb
 have s:St { w with heap:=#[] } Hp.nil w [HP.map keyKT m L]:=⟨rfl,rfl,rfl,fun c o e=>by simp [World.hp] at e,Hp.nil_sub _,w.hp,Hp.sub.refl _,(Hp.disj_nil _).symm,w.hp,Hp.nil,Hp.disj_nil _,Hp.sub.refl _,Hp.nil_sub _,⟨es,clock,L1,hb,q,p⟩,trivial⟩
 obtain ⟨w2,hr2,_,s2⟩:=s.range (P:=Tryz.prog) Tryz.underlying113
 rw [hrun] at hr2
 cases hr2
 exact ⟨_,hrun,s2.iter_out,World.grownBy_alloc _ _ _⟩
set_option maxRecDepth 100000 in
set_option maxHeartbeats 2000000 in
theorem Zq806 (F:Fence) (n:Nat) (hF:F.fn 136) (hro:F.round=none) (hn:1≤n) (Bm m:Nat) (L:List (K4 × Value)) (w:World) (hBm:Bm<w.heap.size) (hmlt:m<w.heap.size)
  (hm:w.cell? ⟨Bm,0,none⟩=some (.map (some m))) (hL:(HP.map keyKT m L).p Hp.nil w.hp) :
  SeqStopsK F n Tryz.prog 136 #[.pointer (some ⟨Bm,0,none⟩)] (fun k:K4=>#[k.val]) KeepsWalks (fun xs=>xs.Perm (L.map (·.1))) (fun _=>True) L.length w:=fun l J Jx W hW hJ hJx hY h0=>by
 have hm':=(hW.cell (p:=⟨Bm,0,none⟩) hBm).trans hm
 have hL':(HP.map keyKT m L).p Hp.nil W.hp:=by
  obtain ⟨es,clock,L1,hb,q,p⟩:=hL
  exact ⟨es,clock,L1,(hW.block m hmlt).trans hb,q,p⟩
 obtain ⟨w0,hrun0,hit0,hg0⟩:=Zq608 hL'
 refine callsIn_of_wp Tryz.func136 rfl hF ?_ hro
 simp only [Tryz.ntmps136,List.size_toArray,List.length_cons,List.length_nil,Nat.reduceAdd,Nat.reduceSub,Array.replicate_succ,Array.replicate_zero,List.push_toArray,List.append_toArray,Zl3,Zl2]
 have HJ:=Zh hJ
 have HY:=Zh hY
 have HIT0:=Zh hit0
 have HJ0:=Zh (hJ [] W w0 none h0 hg0 (fun r e=>by cases e))
 clear hJ hY hit0 hJx hL' hL hW hm
 gi_wp2
 gi_loopw [3] (fun _ wr=>∃ (left:List (K4 × Value)) (done:List K4),(left.map (·.1)++done).Perm (L.map (·.1))∧(HP.iter keyKT m W.heap.size L left).p Hp.nil wr.hp∧J done wr) (fun _ wr=>wr.rangeLeft m W.heap.size)
 case atStart=>exact ⟨L,[],by simp,HIT0.out,HJ0.out⟩
 case round =>
  obtain ⟨left,done,hp,hit,hJs⟩:=hrel
  have hlen:left.length+done.length=L.length:=by have:=hp.length_eq;simpa using this
  rcases Zq584 (P:=Tryz.prog) hit 0 with ⟨rfl,hrun⟩|⟨a,v,left',w2,hpl,hrun,hent,hit2,hg2⟩
  ·have HP':=Zh hp
   have HJS:=Zh hJs
   clear hp hJs hit hlen
   gi_wp2
   go_end0
   exact ⟨⟨_,rfl⟩,.inl ⟨done,by simpa using HP'.out,HJS.out⟩⟩
  ·have hJ2:J done w2:=HJ.out done wr w2 (some W.heap.size) hJs hg2 (fun r e=>by cases e;exact ⟨Nat.le_refl _,Zq849 hit⟩)
   obtain ⟨a0,a1,a2,a3⟩:=a
   simp only [keyKT,K4.val] at hrun hent
   have hg4:w2.grownBy (w2.alloc (.cells #[.int .i64 a0,.int .i64 a1,.int .i64 a2,.int .i64 a3] 43)) none:=World.grownBy_alloc _ _ _
   have hJ4:=HJ.out done w2 _ none hJ2 hg4 (fun r e=>by cases e)
   have hit4:=Zq607 hit2 hg4
   have hlt:done.length<L.length:=by have:=hpl.length_eq;simp at this;omega
   obtain ⟨fn,tmps,assign,body,hy,hR⟩:=HY.out done ⟨a0,a1,a2,a3⟩ _ hJ4 hlt
   simp only [K4.val] at hy
   have HP':=Zh hp
   have HPL:=Zh hpl
   have HIT:=Zh hit
   have HIT4:=Zh hit4
   have HR:=Zh hR
   clear hp hpl hit hit4 hit2 hJ2 hJ4 hJs hg2 hg4 hlen hlt hR
   gi_wp2
   refine HR.out.mono ?_
   rintro e W3 (⟨rfl,hJ3,hk3⟩|⟨rfl,hJx3⟩)
   ·have hit5:=Zq606 HIT4.out hk3
    have HIT5:=Zh hit5
    clear hit5 hk3
    gi_wp2
    go_roundw
    case rel =>
     refine ⟨left',done++[⟨a0,a1,a2,a3⟩],?_,HIT5.out,hJ3⟩
     refine List.Perm.trans ?_ HP'.out
     have h1:=(HPL.out.map (·.1)).append_right done
     refine List.Perm.trans ?_ h1.symm
     simp only [List.map_cons,Zl2]
     rw [←List.append_assoc]
     exact List.perm_append_comm (l₂:=[_])
    case measure =>
     rw [Zq374 HIT5.out,Zq374 HIT.out]
     have:=HPL.out.length_eq
     simp at this
     omega
   ·gi_wp2
    (try simp only [Exit.inBlock,Exit.then])
    refine bodyPost_ret (results_none rfl _ _ _) rfl ?_
    exact ⟨⟨_,rfl⟩,.inr ⟨_,trivial,hJx3⟩⟩
theorem Zq713 {β:Type} (B:Nat) (cs:Array Value) (t:TypeId) (f:Nat × Nat):Own (fun (_:β) W=>W.heap[B]?=some (.cells cs t f)):=fun s X Y row hs hg hrow=>by
 refine (hg.block B (Array.getElem?_eq_some_iff.1 hs).1 (fun e'=>?_)).trans hs
 obtain ⟨o,ho,hc⟩:=hrow B e'.symm
 rw [hs] at ho
 cases ho
 cases hc
set_option maxRecDepth 100000 in
set_option maxHeartbeats 2000000 in
theorem Zq443 (F:Fence) (n:Nat) (hF:F.fn 175) (hro:F.round=none) (hn:2≤n) (g:Nat) (lb:Array Value) (hFg:F.fn g) (eg:∀ args w,(callFunc g args).run Tryz.prog w=.ok (.enter g args) w)
  (S Sp:List K4→Prop) (N:Nat) (hN:N≤1000000) (w:World) (hseq:SeqStopsK F (n - 1) Tryz.prog g lb (fun k:K4=>#[k.val]) KeepsWalks S Sp N w) :
  CallsIn F n Tryz.prog 175 #[.slice none 0 0,.func (.func g) #[] lb] w fun e w'=>∃ (v:Value) (ss:List K4),e=.returned v∧S ss∧w'.ownsRow w.heap.size 43 4 v ss.length (kflat ss)∧Below w.heap.size w w':=by
 have h1:1≤n:=by omega
 obtain ⟨i0,hi0,hz0,hz1,hz2⟩:=info_parts Zq294
 refine callsIn_of_wp_marks Tryz.func175 rfl hF ?_ hro
 simp only [Tryz.ntmps175,List.size_toArray,List.length_cons,List.length_nil,Nat.reduceAdd,Nat.reduceSub,Array.replicate_succ,Array.replicate_zero,List.push_toArray,List.append_toArray,Zl3,Zl2]
 gi_wp2
 refine wpIn_rangeFunc_ownH hro h1 (gf:=g) (lb:=lb) rfl hFg eg hseq walksK_t walksK_b ((Below.refl _ _).alloc (Nat.le_refl _) _) (fun _=>rfl)
  (fun pre W=>(∃ v,Boxed W w.heap.size 137 v∧W.ownsRow w.heap.size 43 4 v pre.length (kflat pre)∧True)∧Below w.heap.size w W)
  (fun _ _ _=>False)
  (OwnFrom.and (Own.from (holdsRow_own w.heap.size w.heap.size 137 43 4 (fun pre:List K4=>pre.length) kflat (fun _ _=>True)) _) (ownFrom_below (Nat.le_refl _) (by simp)))
  (fun _ _ _ _ _ hs _ _=>hs) ⟨⟨_,Boxed.new w _ _,⟨rfl,.inl ⟨rfl,rfl⟩⟩,trivial⟩,(Below.refl _ _).alloc (Nat.le_refl _) _⟩
  (fun x a' W=>∃ Bx,w.heap.size<Bx∧W.heap[Bx]?=some (.cells #[.int .i64 x.kind,.int .i64 x.img,.int .i64 x.num,.int .i64 x.snap] 43 (0,0))∧a'={ tmps:=#[.slice none 0 0,.func (.func g) #[] lb,.pointer (some ⟨w.heap.size,0,none⟩),undef,.slice none 0 0,.pointer (some ⟨Bx,0,none⟩),.func (.func g) #[] lb,x.val,undef,undef,undef,undef,undef],defers:=[] })
  (fun x a'=>by
    rintro s X Y row ⟨Bx,h1,h2,h3⟩ hg hr
    exact ⟨Bx,h1,Zq713 (β:=Unit) _ _ _ _ s X Y row h2 hg (fun r e=>(hr r e).2),h3⟩) ?assign ?body ?done ?stop
 case assign =>
  rintro l pre ⟨x0,x1,x2,x3⟩ W K ⟨⟨v,hv,hr,_⟩,hB⟩ hK
  simp only [K4.val]
  have HK:=Zh hK
  clear hK
  have hlt:=hv.lt
  gi_wp2
  exact HK.out _ _ ((KeepsOthers.alloc _ _).from _) (KeepsWalks.alloc _ _) ⟨⟨v,hv.alloc _,hr.alloc _,trivial⟩,(hB.trans ((Below.refl _ _).alloc hB.size _))⟩ ⟨W.heap.size,hlt,World.alloc_heap_new W _,rfl⟩
 case body =>
  rintro l pre ⟨x0,x1,x2,x3⟩ a' W hl ⟨rc,hrc⟩ ⟨⟨v,hv,hrow,_⟩,hB⟩ ⟨Bx,hBx,hx,rfl⟩ hlen
  simp only [K4.val]
  have hc:=hv.cell
  have hf:=hv.frozen
  have y0:W.cell? ⟨Bx,0,none⟩=some (.int .i64 x0):=Zq1 hx 0
  have y1:W.cell? ⟨Bx,1,none⟩=some (.int .i64 x1):=Zq1 hx 1
  have y2:W.cell? ⟨Bx,2,none⟩=some (.int .i64 x2):=Zq1 hx 2
  have y3:W.cell? ⟨Bx,3,none⟩=some (.int .i64 x3):=Zq1 hx 3
  have hnew:∀ j u,[(.int .i64 x0:Value),.int .i64 x1,.int .i64 x2,.int .i64 x3][j]?=some u→(W.alloc (.cells #[.int .i64 x0,.int .i64 x1,.int .i64 x2,.int .i64 x3] 43)).cell? ((⟨W.heap.size,0,none⟩:Addr).add j)=some u:=fun j u hu=>by
   rw [add_plain,Nat.zero_add]
   rw [Zq1 (World.alloc_heap_new W _) j]
   simpa using hu
  have hpl:pre.length≤1000000:=by omega
  clear hx hrc
  gi_wp2_with (gi_at_builtin;refine wpListIn_append_own _ rfl _ _ 137 rfl w.heap.size 43 i0 _ 4 32 Tryz.underlying137 hi0 hz0 hz1 hz2 rfl (by decide) _ _ _ rfl (hrow.alloc _) ⟨W.heap.size,0,none⟩ 1 1 [.int .i64 x0,.int .i64 x1,.int .i64 x2,.int .i64 x3] rfl rfl hnew (by simp [Value.oneCell']) (by unfold maxLen;omega) (by omega) (by have:=hB.size;simp;omega) ?_;intro v' w1 hown' hgrow _;obtain ⟨g',cap',rfl⟩:=ownsRow_succ hown';obtain ⟨hv1,hv2,hr2,hk2,hb2⟩:=hv.appended (by decide) hrow hB.size (Nat.le_refl _) hown' hgrow;have hc1:=hv1.cell;have hf1:=hv1.frozen)
  have e1:(pre++[(⟨x0,x1,x2,x3⟩:K4)]).length=pre.length+1:=by simp
  have e2:kflat (pre++[(⟨x0,x1,x2,x3⟩:K4)])=kflat pre++[.int .i64 x0,.int .i64 x1,.int .i64 x2,.int .i64 x3]:=Zq138 _ _
  refine ⟨hk2.from _,⟨hk2.size,fun k o h hw=>hk2.same k o h (Obj.not_cells_of_walk hw)⟩,⟨_,hv2,?_,trivial⟩,hB.trans hb2⟩
  rw [e1,e2]
  exact hr2
 case done =>
  rintro D ys W hD hS ⟨⟨v,hv,hr,_⟩,hB⟩ hK
  have hc:=hv.cell
  have HS:=Zh hS
  have HR:=Zh hr
  have HB:=Zh hB
  have HK:=Zh hK
  clear hS hr hB hK
  gi_wp2
  refine ⟨by simp,.inl ⟨_,_,rfl,run_takeDeferred HK.out,?_⟩⟩
  exact ⟨_,results_tmp rfl _ _ _,v,ys,rfl,HS.out,ownsRow_putObj HR.out _ HK.out rfl,HB.out.trans (belowK_b (w:=w) (Nat.le_refl _) W D _ _ (by simp at hD;omega) HK.out rfl rfl)⟩
 case stop =>
  rintro D c pre W _ _ h _
  exact h.elim
set_option maxHeartbeats 1000000 in
theorem Zq609 (F:Fence) (n:Nat) (hF:F.fn 134) (hF2:F.fn 175) (hro:F.round=none) (hn:3≤n) (g:Nat) (lb:Array Value) (hFg:F.fn g) (eg:∀ args w,(callFunc g args).run Tryz.prog w=.ok (.enter g args) w)
  (S Sp:List K4→Prop) (N:Nat) (hN:N≤1000000) (w:World) (hseq:SeqStopsK F (n - 1 - 1) Tryz.prog g lb (fun k:K4=>#[k.val]) KeepsWalks S Sp N w) :
  CallsIn F n Tryz.prog 134 #[.func (.func g) #[] lb] w fun e w'=>∃ (v:Value) (ss:List K4),e=.returned v∧S ss∧w'.ownsRow w.heap.size 43 4 v ss.length (kflat ss)∧Below w.heap.size w w':=by
 have h1:1≤n:=by omega
 refine callsIn_of_wp Tryz.func134 rfl hF ?_ hro
 simp only [Tryz.ntmps134,List.size_toArray,List.length_cons,List.length_nil,Nat.reduceAdd,Nat.reduceSub,Array.replicate_succ,Array.replicate_zero,List.push_toArray,List.append_toArray,Zl3,Zl2]
 gi_wp2_with (gi_at_call 175;refine (Zq443 F (n - 1) hF2 hro (by omega) g lb hFg eg S Sp N hN _ hseq).mono ?_;rintro e w' ⟨v,ss,rfl,hS,hrow,hb⟩)
 go_ret
 exact ⟨v,ss,rfl,hS,hrow,hb⟩
theorem Zq444 (Bm m:Nat) (L:List (K4 × Value)) (w:World) (hBm:Bm<w.heap.size) (hmlt:m<w.heap.size) (hm:w.cell? ⟨Bm,0,none⟩=some (.map (some m))) (hL:(HP.map keyKT m L).p Hp.nil w.hp) (hN:L.length≤1000000) :
  Calls Tryz.prog 134 #[.func (.func 136) #[] #[.pointer (some ⟨Bm,0,none⟩)]] w fun e w'=>∃ (v:Value) (ss:List K4),e=.returned v∧ss.Perm (L.map (·.1))∧w'.ownsRow w.heap.size 43 4 v ss.length (kflat ss)∧Below w.heap.size w w' :=
 (callsIn_wide (n:=5)).1 (Zq609 Fence.wide 5 trivial trivial rfl (by omega) _ _ trivial (enters_of Tryz.func136 (by kernel_rfl) rfl) _ _ L.length hN w (Zq806 Fence.wide 3 trivial rfl (by omega) Bm m L w hBm hmlt hm hL))
end
end Go.Proofs.YtpjchngjhijgmaaGreat
