import Derived.RangeFuncNested
import Derived.RangeFuncBound
import Derived.RangeFuncCalls
import Derived.RangeFuncLeaves
import Derived.RangeFuncKeeps
import Derived.Shelf.Abstract
import Derived.Shelf.RegionOpen
import Derived.OwnWalkIn
import Derived.TacticsInMore
import Derived.LoopNIn
import Derived.LoopIn
import Derived.Test.YtpjchngjhijgmaaGreatJQ04
set_option linter.all false
namespace Go.Proofs.YtpjchngjhijgmaaGreat
open Go.RowKit
section
variable {P : Program} {k : TypeId} {K : Type} [DecidableEq K] {α : Type}
variable {T : KT P k K} {own : Value → α → HP} {W w w' : World} {I : Hp} {l : List HP} {b : Nat} {L L' : List (K × α)} {a : K} {x : α} {v : Value}
theorem St.look_or (h:St W I w (HP.mapOf T own b L::l)) {t e:TypeId} (ht:P.underlying t=some (.map k e)) {z:Value} {x0:α} (hz:∀ w,(zeroValue e).run P w=.ok z w)
  (h0:∀ I w l,St W I w l→St W I w (own z x0::l)) (a:K) :
  ∃ v H,(∀ w2,Below w.heap.size w w2→∀ ok,(Instr.lookup t (.map (some b)) (T.kv a) ok).run P w2=.ok (if ok then .tuple #[v,.bool (get a L).isSome] else v) w2)∧St W I w (own v ((get a L).getD x0)::H::l) ∧
   (∀ I' w' l',St W I' w' (own v ((get a L).getD x0)::H::l')→St W I' w' (HP.mapOf T own b L::l')) ∧
   (∀ I' w' l' v' x',St W I' w' (own v' x'::H::l')→∃ w'',(Instr.mapUpdate t (.map (some b)) (T.kv a) v').run P w'=.ok () w''∧w''.heap.size=w'.heap.size∧St W I' w'' (HP.mapOf T own b (put a x' L)::l')):=by
 have hn:=h.mapOf_nodup
 rcases h.mapOf_look ht hz a with ⟨hg,hl⟩|⟨v,x,hg,hl,h1⟩
 ·refine ⟨z,HP.mapOf T own b L,fun w2 hw ok=>by rw [hl w2 hw ok,hg];rfl,by rw [hg];exact h0 _ _ _ h,fun I' w' l' h'=>h'.drop,fun I' w' l' v' x' h'=>h'.mapOf_put ht a⟩
 ·have hp:((a,x)::del a L).Perm L:=(Zq100 hn hg).symm
  refine ⟨v,HP.hole T own b a v (del a L),fun w2 hw ok=>by rw [hl w2 hw ok,hg];rfl,by rw [hg];exact h1,fun I' w' l' h'=>?_,fun I' w' l' v' x' h'=>?_⟩
  ·rw [hg] at h'
   exact (h'.hole_back).mapOf_perm hp
  ·exact h'.hole_put ht
theorem St.mapOf_put_hole (h:St W I w (own v x::HP.mapOf T own b L::l)) {t e:TypeId} (ht:P.underlying t=some (.map k e)) (a:K) :
  ∃ w',(Instr.mapUpdate t (.map (some b)) (T.kv a) v).run P w=.ok () w'∧w'.heap.size=w.heap.size∧St W I w' (own v x::HP.hole T own b a v (del a L)::l):=by
 obtain ⟨M,hp,h⟩:=(h.perm (List.Perm.swap _ _ _)).mapOf_open
 obtain ⟨w',hrun,hsz,h⟩:=h.map_put ht a v
 refine ⟨w',hrun,hsz,?_⟩
 have hM:put a v (M.map fst3)=(a,v)::(M.filter fun m=>decide (m.1≠a)).map fst3:=by
  simp only [put,del,List.filter_map]
  rfl
 rw [hM] at h
 have hD:((M.filter fun m=>decide (m.1≠a)).map dat3).Perm (del a L):=by
  have:del a (M.map dat3)=(M.filter fun m=>decide (m.1≠a)).map dat3:=by
   simp only [del,List.filter_map]
   rfl
  rw [←this]
  exact Zq101 hp
 have hsplit:(M.map (own3 own)).Perm ((M.filter fun m=>!decide (m.1≠a)).map (own3 own)++(M.filter fun m=>decide (m.1≠a)).map (own3 own)):=by
  rw [←List.map_append]
  exact ((List.perm_append_comm.trans (List.filter_append_perm _ M)).symm).map _
 have h2:=h.perm (List.Perm.cons _ (hsplit.append_right (own v x::l)))
 have h3:St W I w' ((M.filter fun m=>!decide (m.1≠a)).map (own3 own)++(HP.map T b ((a,v)::(M.filter fun m=>decide (m.1≠a)).map fst3)::((M.filter fun m=>decide (m.1≠a)).map (own3 own)++(own v x::l)))):=h2.perm (by
  rw [List.append_assoc]
  exact List.perm_middle.symm)
 have h5:St W I w' (HP.hole T own b a v (del a L)::own v x::l):=St.ex_shut (M.filter fun m=>decide (m.1≠a)) (St.all_shut (St.pure_shut (⟨hD,fun p hp'=>by simpa using (List.mem_filter.1 hp').2⟩:_∧_) h3.drops))
 exact h5.perm (List.Perm.swap _ _ _)
end
def Zq18 (S:Str) (g:G2):List K4:=(get g S.keys).getD []
def remK (k:K4) (ks:List K4):List K4:=ks.filter fun a=>decide (a≠k)
def addK (k:K4) (ks:List K4):List K4:=ks.filter (fun a=>a.lt k)++k::ks.filter (fun a=>!a.lt k)
def showS (S:Str) (k:K4) (was:Int) (o:Option TS):Str :=
 { S with
  seen:=match o with
   | none=>del k S.seen
   | some t=>put k t S.seen
  keys:=match o with
   | none=>if k ∈ Zq18 S k.grp then put k.grp (remK k (Zq18 S k.grp)) S.keys else S.keys
   | some _=>if k ∈ Zq18 S k.grp then S.keys else put k.grp (addK k (Zq18 S k.grp)) S.keys
  used:=IntKind.i64.wrap (S.used+(sizeO o - was)) }
theorem Zq338 (a:K4):a.lt a=false:=by
 rw [Bool.eq_false_iff]
 intro h
 simp only [K4.lt,decide_eq_true_eq] at h
 omega
theorem Zq152 {ks:List K4} {k:K4} {i:Nat} (hr:Zq122 ks) (h:Place ks k i):ks[i]?=some k↔k ∈ ks:=by
 constructor
 ·exact List.mem_of_getElem?
 ·intro hm
  obtain ⟨j,hj⟩:=List.getElem?_of_mem hm
  rcases Nat.lt_trichotomy j i with h1|h1|h1
  ·have:=h.below j k h1 hj
   rw [Zq338] at this;cases this
  ·rw [←h1];exact hj
  ·have hil:i<ks.length:=by have:=(List.getElem?_eq_some_iff.1 hj).1;omega
   have h2:=Zq244 hr (List.getElem?_eq_getElem hil) hj h1
   have h3:=h.above i _ (Nat.le_refl _) (List.getElem?_eq_getElem hil)
   rw [h2] at h3;cases h3
theorem Zq339 {ks:List K4} {k:K4} {i:Nat} (h:Place ks k i):ks.take i=ks.filter (fun a=>a.lt k)∧ks.drop i=ks.filter (fun a=>!a.lt k):=by
 have h1:∀ a ∈ ks.take i,a.lt k=true:=fun a ha=>by
  obtain ⟨j,hj⟩:=List.getElem?_of_mem ha
  rw [List.getElem?_take] at hj
  split at hj
  ·exact h.below j a ‹_› hj
  ·cases hj
 have h2:∀ a ∈ ks.drop i,a.lt k=false:=fun a ha=>by
  obtain ⟨j,hj⟩:=List.getElem?_of_mem ha
  rw [List.getElem?_drop] at hj
  exact h.above _ a (by omega) hj
 have e:ks=ks.take i++ks.drop i:=(List.take_append_drop i ks).symm
 constructor
 ·conv=>rhs;rw [e]
  rw [List.filter_append,List.filter_eq_self.2 h1,List.filter_eq_nil_iff.2 (fun a ha=>by rw [h2 a ha];decide),List.append_nil]
 ·conv=>rhs;rw [e]
  rw [List.filter_append,List.filter_eq_nil_iff.2 (fun a ha=>by rw [h1 a ha];decide),List.filter_eq_self.2 (fun a ha=>by rw [h2 a ha];rfl),Zl3]
theorem Zq660 {ks:List K4} {k:K4} {i:Nat} (h:Place ks k i):insK i k ks=addK k ks:=by
 unfold insK addK
 rw [(Zq339 h).1,(Zq339 h).2]
theorem Zq127 {ks:List K4} (hr:Zq122 ks):ks.Nodup:=hr.imp fun {a b} h e=>by subst e;rw [Zq338] at h;cases h
theorem Zq661 {ks:List K4} {k:K4} {i:Nat} (hr:Zq122 ks) (hi:ks[i]?=some k):ks.eraseIdx i=remK k ks:=by
 have hn:=Zq127 hr
 obtain ⟨hlt,hk⟩:=List.getElem?_eq_some_iff.1 hi
 have e:ks=ks.take i++k::ks.drop (i+1):=by
  rw [←hk,←List.drop_eq_getElem_cons hlt,List.take_append_drop]
 have hn':(ks.take i++k::ks.drop (i+1)).Nodup:=e ▸ hn
 have h1:=List.nodup_append.1 hn'
 have h2:=List.nodup_cons.1 h1.2.1
 have e2:ks.eraseIdx i=ks.take i++ks.drop (i+1):=List.eraseIdx_eq_take_drop_succ ..
 rw [e2]
 unfold remK
 conv=>rhs;rw [e]
 rw [List.filter_append,List.filter_eq_self.2 (fun a ha=>by simpa using h1.2.2 a ha k (List.mem_cons_self ..)),List.filter_cons]
 simp only [ne_eq,not_true_eq_false,decide_false,Bool.false_eq_true,if_false]
 rw [List.filter_eq_self.2 (fun a ha=>by simpa using fun q:a=k=>h2.1 (q ▸ ha))]
end Go.Proofs.YtpjchngjhijgmaaGreat
namespace Go.Proofs.YtpjchngjhijgmaaGreat
open Go.RowKit
section
variable {W w : World} {I : Hp} {l : List HP} {p : Nat} {S : Str}
set_option maxRecDepth 4000
set_option maxHeartbeats 2000000
structure Spot (k:K4) (m:Nat) (L:List (K4 × TS)) (X:HP):Prop where
 dels:∀ {W w:World} {I:Hp} {l:List HP} (ty:TypeId),St W I w (X::l)→∃ w',(Builtin.delete_ #[112,43] ty #[.map (some m),keyKT.kv k]).run Tryz.prog w=.ok (.tuple #[]) w'∧w'.heap.size=w.heap.size∧St W I w' (HP.mapOf keyKT Zq16 m (del k L)::l)
 puts:∀ {W w:World} {I:Hp} {l:List HP} {v:Value} {t:TS},St W I w (Zq16 v t::X::l)→∃ w',(Instr.mapUpdate 112 (.map (some m)) (keyKT.kv k) v).run Tryz.prog w=.ok () w'∧w'.heap.size=w.heap.size∧St W I w' (Zq16 v t::HP.hole keyKT Zq16 m k v (del k L)::l)
theorem Zq662 (k:K4) (m:Nat) (L:List (K4 × TS)):Spot k m L (HP.mapOf keyKT Zq16 m L) :=
 ⟨fun ty h=>h.mapOf_del (ty:=ty) Tryz.underlying112 k,fun h=>h.mapOf_put_hole Tryz.underlying112 k⟩
theorem Zq340 {P:Program} {kt:TypeId} {K α:Type} [DecidableEq K] {T:KT P kt K} {own:Value→α→HP} {W w:World} {I:Hp} {l:List HP} {b:Nat} {L:List (K × α)} {a:K} {u:Value} (h:St W I w (HP.hole T own b a u L::l)) {t e:TypeId} (ht:P.underlying t=some (.map kt e)) (v:Value) :
  ∃ w',(Instr.mapUpdate t (.map (some b)) (T.kv a) v).run P w=.ok () w'∧w'.heap.size=w.heap.size∧St W I w' (HP.hole T own b a v L::l):=by
 obtain ⟨M,hp,hne,h⟩:=h.hole_open
 have hn:=h.map_nodup
 obtain ⟨w',hrun,hsz,h⟩:=h.map_put ht a v
 refine ⟨w',hrun,hsz,?_⟩
 have hdel:del a ((a,u)::M.map fst3)=M.map fst3:=by
  unfold del
  simp only [List.filter_cons,ne_eq,not_true_eq_false,decide_false,Bool.false_eq_true,if_false]
  exact Zq54 (get_none.2 fun p hp' e=>(List.nodup_cons.1 hn).1 (List.mem_map.2 ⟨p,hp',e⟩))
 unfold put at h
 rw [hdel] at h
 exact St.ex_shut M (St.all_shut (St.pure_shut ⟨hp,hne⟩ h))
theorem Zq663 (k:K4) (m:Nat) (u:Value) (L:List (K4 × TS)):Spot k m L (HP.hole keyKT Zq16 m k u (del k L)) :=
 ⟨fun ty h=>h.hole_del (ty:=ty) Tryz.underlying112,fun h=>by
  obtain ⟨w',h1,h2,h3⟩:=Zq340 (h.perm (List.Perm.swap _ _ _)) Tryz.underlying112 _
  exact ⟨w',h1,h2,h3.perm (List.Perm.swap _ _ _)⟩⟩
theorem Zq744 {v:Value} {o:Option TS} (h:St W I w (optHP v o::l)) (ht:Zq268 o) :
  Calls Tryz.prog 80 #[v] w fun e w'=>e=.returned (.int .i64 (IntKind.i64.wrap (sizeO o)))∧St W I w' (optHP v o::l):=by
 cases o with
 | none =>
  obtain ⟨rfl,h1⟩:=h.pure_open
  refine (Zq410 w).mono ?_
  rintro e w' ⟨rfl,rfl⟩
  exact ⟨by rw [show IntKind.i64.wrap (sizeO none)=0 by rfl],h⟩
 | some t=>exact Zq305 h (by have:=ht.1;omega)
theorem Zq412 {B:SB} {X:HP} (k:K4) (hX:Spot k B.m1 S.seen X) (was:Int) (h:St W I w (Zq20 p S B::X::dryHP B S::Zq61 B S::keyHP B S::l)) (hr:Zq122 (Zq18 S k.grp)) (hn:(Zq18 S k.grp).length≤100000) (hk:k ∈ Zq18 S k.grp) :
  Calls Tryz.prog 79 #[.pointer (some ⟨p,0,none⟩),k.val,.int .i64 was,.pointer none] w fun e w'=>e=.returned (.tuple #[])∧St W I w' (Zq20 p (showS S k was none) B::Zq161 B (showS S k was none)::dryHP B S::Zq61 B S::keyHP B (showS S k was none)::l):=by
 obtain ⟨k0,k1,k2,k3⟩:=k
 unfold K4.val
 have h2:=(h.alloc (.cells #[.int .i64 k0,.int .i64 k1,.int .i64 k2,.int .i64 k3] 43)).alloc (.cells #[.int .i64 k0,.int .i64 k1] 193)
 rw [show (w.alloc (.cells #[.int .i64 k0,.int .i64 k1,.int .i64 k2,.int .i64 k3] 43)).heap.size=w.heap.size+1 by simp] at h2
 obtain ⟨w2,hw2⟩:∃ w2,(w.alloc (.cells #[.int .i64 k0,.int .i64 k1,.int .i64 k2,.int .i64 k3] 43)).alloc (.cells #[.int .i64 k0,.int .i64 k1] 193)=w2:=⟨_,rfl⟩
 rw [hw2] at h2
 have HW2:=Zh hw2
 clear hw2
 have c8:=(h2.pull 2 _ rfl).blk 8
 have g0:=Zq1 h2.heap 0
 have g1:=Zq1 h2.heap 1
 simp [storeCells] at c8 g0 g1
 obtain ⟨vk,HK,hlk,h3,hback,hput⟩:=(h2.drew.pull 6 _ rfl).look_or (x0:=[]) Tryz.underlying114 (fun w=>by kernel_rfl) (fun I w l h=>h.row_nil _ _) ⟨k0,k1⟩
 have hlk:=hlk _ (Below.refl _ _) false
 simp only [grpKT,G2.val] at hlk
 have hks:(get (⟨k0,k1⟩:G2) S.keys).getD []=Zq18 S (K4.mk k0 k1 k2 k3).grp:=rfl
 rw [hks] at h3 hback
 have H2:=Zh h2
 have H3:=Zh h3
 have HB:=Zh hback
 have HP':=Zh hput
 obtain ⟨ks,hks2⟩:∃ ks,ks=Zq18 S (K4.mk k0 k1 k2 k3).grp:=⟨_,rfl⟩
 have HKS:=Zh hks2
 rw [←hks2] at H3 HB hr hn hk
 clear hks hks2 h2 h3 hback hput
 have hx2:=(H2.out.pull 1 _ rfl).heap
 obtain ⟨Av,cv,rfl⟩:=Zq15 H3.out.row_owns
 have HX2:=Zh hx2
 have HR:=Zh hr
 have HKM:=Zh hk
 clear hx2 h hr hk
 go_enter Tryz.func79,Tryz.ntmps79
 go_wp2_with fail
 rw [HW2.out]
 refine Zq11 [] [0,1,2,3,4,5,6] [] (by kernel_rfl) (by kernel_rfl) ?_
 simp only [pickL,Zl6,Zl7]
 repeat (refine Zq14 _ (Or.inl ⟨by rfl,by intro w;go_simp;try with_reducible rfl⟩) ?_;(try simp only [Act.put,List.setIfInBounds_toArray,Zl4,Zl5]))
 refine Zq17 ?_
 repeat still_step
 refine wpStill_nil ?_
 go_wp2_with fail
 refine NoPanic.normal ?_
 have x0:=Zq1 (w:=w2.drew) HX2.out 0
 have x1:=Zq1 (w:=w2.drew) HX2.out 1
 have x2:=Zq1 (w:=w2.drew) HX2.out 2
 have x3:=Zq1 (w:=w2.drew) HX2.out 3
 simp at x0 x1 x2 x3
 clear hlk c8 g0 g1
 go_wp2_with fail
 refine (Zq151 ⟨k0,k1,k2,k3⟩ H3.out (by omega) HR.out).mono ?_
 rintro e w4 ⟨hb4,i,hpl,rfl⟩
 have HPL:=Zh hpl
 have hin:decide (ks[i]?=some ⟨k0,k1,k2,k3⟩)=true:=by
  simpa using (Zq152 HR.out HPL.out).2 HKM.out
 rw [hin]
 have h4:=H3.out.keep hb4
 have H4:=Zh h4
 have HIN:=Zh hin
 clear hb4 hpl h4 hin x0 x1 x2 x3
 have h4:St W I w4 (Zq53 (.slice Av ks.length cv) ks::HK::HP.pt (w.heap.size+1) (.cells #[.int .i64 k0,.int .i64 k1] 193)::HP.pt w.heap.size (.cells #[.int .i64 k0,.int .i64 k1,.int .i64 k2,.int .i64 k3] 43)::Zq20 p S B::X::dryHP B S::Zq61 B S::l):=H4.out
 have c5:=(h4.pull 4 _ rfl).blk 5
 have hxk:=(h4.pull 3 _ rfl).heap
 have x0:=Zq1 hxk 0
 have x1:=Zq1 hxk 1
 have x2:=Zq1 hxk 2
 have x3:=Zq1 hxk 3
 simp [storeCells] at c5 x0 x1 x2 x3
 obtain ⟨w5,hr5,hs5,h5⟩:=hX.dels 0 (h4.drew.pull 5 _ rfl)
 simp only [keyKT,K4.val] at hr5
 have H5:=Zh h5
 have HR5:=Zh hr5
 clear h4 h5 hxk hr5
 go_wp2_with fail
 refine Zq11 [] [0,1,2,3,4] [5] (by kernel_rfl) (by kernel_rfl) ?_
 simp only [pickL,Zl6,Zl7]
 repeat (refine Zq14 _ (Or.inl ⟨by rfl,by intro w;go_simp;try with_reducible rfl⟩) ?_;(try simp only [Act.put,List.setIfInBounds_toArray,Zl4,Zl5]))
 refine Zq17 ?_
 repeat still_step
 refine wpStill_nil ?_
 have hr5:=HR5.out
 go_wp2_with fail
 refine NoPanic.normal ?_
 clear c5 x0 x1 x2 x3 hr5
 have h5:St W I w5 (Zq53 (.slice Av ks.length cv) ks::HK::HP.pt (w.heap.size+1) (.cells #[.int .i64 k0,.int .i64 k1] 193)::Zq20 p S B::HP.mapOf keyKT Zq16 B.m1 (del ⟨k0,k1,k2,k3⟩ S.seen)::dryHP B S::Zq61 B S::l):=(H5.out.pull 4 _ rfl).drop.perm (by ((try simp only [Zl0,Zl1,Zl2,Zl3]);repeat (first|with_reducible exact List.Perm.refl _|(apply Zq6;(· repeat (first|with_reducible exact Zq5|with_reducible apply Zq2))))))
 have c8:=(h5.pull 3 _ rfl).blk 8
 have hg:=(h5.pull 2 _ rfl).heap
 have g0:=Zq1 hg 0
 have g1:=Zq1 hg 1
 simp [storeCells] at c8 g0 g1
 have H5':=Zh h5
 have z1:IntKind.i64.wrap ((i:Int)+1)=(i:Int)+1:=by
  have:=HPL.out.le
  rw [IntKind.wrap_i64];omega
 clear h5 hg
 go_wp2_with fail
 refine Zq7 (fun w'=>w'.cell? ⟨p,8,none⟩=some (.map (some B.m4))∧w'.cell? ⟨w.heap.size+1,0,none⟩=some (.int .i64 k0)∧w'.cell? ⟨w.heap.size+1,1,none⟩=some (.int .i64 k1)) [0,1,2,3,4,5,6,7,8] [9] [10] (by kernel_rfl) (by kernel_rfl) (by (exact ⟨c8,g0,g1⟩)) ?_
 simp only [pickL,Zl6,Zl7]
 repeat (refine Zq4 _ (Or.inl ⟨by rfl,by (intro w hSw;(try dsimp only at hSw);go_simp;try with_reducible rfl)⟩) ?_;(try simp only [Act.put,List.setIfInBounds_toArray,Zl4,Zl5]))
 refine Zq10 ?_
 unfold Zq13
 go_wp2_with fail
 have hilt:i<ks.length:=(List.getElem?_eq_some_iff.1 ((Zq152 HR.out HPL.out).2 HKM.out)).1
 refine (Zq494 H5'.out.drew (by omega) hilt).mono ?_
 rintro e w6 ⟨v6,rfl,h6⟩
 rw [Zq661 HR.out ((Zq152 HR.out HPL.out).2 HKM.out)] at h6
 obtain ⟨A6,c6,rfl⟩:=Zq15 h6.row_owns
 obtain ⟨w7,hr7,hs7,h7⟩:=HP'.out I w6 _ _ _ h6
 simp only [grpKT,G2.val] at hr7
 have c8':=(h6.pull 3 _ rfl).blk 8
 have hg':=(h6.pull 2 _ rfl).heap
 have g0':=Zq1 hg' 0
 have g1':=Zq1 hg' 1
 simp [storeCells] at c8' g0' g1'
 have H7:=Zh h7
 have HR7:=Zh hr7
 clear h6 h7 hr7 hg' z1 c8 g0 g1 hilt
 go_wp2_with fail
 refine Zq0 ⟨c8',g0',g1'⟩ ?_
 have hr7:=HR7.out
 unfold Zq13
 go_wp2_with fail
 refine NoPanic.normal ?_
 clear hr7 c8' g0' g1'
 go_wp2_with fail
 have h8:St W I w7 (Zq20 p S B::HP.mapOf keyKT Zq16 B.m1 (del ⟨k0,k1,k2,k3⟩ S.seen)::dryHP B S::Zq61 B S::HP.mapOf grpKT Zq53 B.m4 (put ⟨k0,k1⟩ (remK ⟨k0,k1,k2,k3⟩ ks) S.keys)::l):=(H7.out.pull 1 _ rfl).drop.perm (by ((try simp only [Zl0,Zl1,Zl2,Zl3]);repeat (first|with_reducible exact List.Perm.refl _|(apply Zq6;(· repeat (first|with_reducible exact Zq5|with_reducible apply Zq2))))))
 have c1:=h8.blk 1
 have f1:=frozen_of_row h8.heap 1
 simp [storeCells] at c1
 have H8:=Zh h8
 clear h8
 refine Zq7 (fun w'=>w'.cell? ⟨p,1,none⟩=some (.int .i64 S.used)) [0,1,2,3,4,6] [5,7] [8,9,10,11] (by kernel_rfl) (by kernel_rfl) (by (exact c1)) ?_
 simp only [pickL,Zl6,Zl7]
 repeat (refine Zq4 _ (Or.inl ⟨by rfl,by (intro w hSw;(try dsimp only at hSw);go_simp;try with_reducible rfl)⟩) ?_;(try simp only [Act.put,List.setIfInBounds_toArray,Zl4,Zl5]))
 refine Zq10 ?_
 unfold Zq13
 go_wp2_with fail
 refine (Zq410 _).mono ?_
 rintro e w9 ⟨rfl,rfl⟩
 go_wp2_with fail
 refine Zq0 c1 ?_
 unfold Zq13
 go_wp2_with fail
 refine Zq0 c1 ?_
 unfold Zq13
 go_wp2_with fail
 refine NoPanic.normal ?_
 clear c1 f1
 go_wp2_with fail
 go_end0
 refine ⟨rfl,?_⟩
 have h9:=H8.out.drew.setCell 1 (.int .i64 (IntKind.i64.wrap (S.used+(0 - was))))
 have e1:wrap64 (S.used+wrap64 (-was))=IntKind.i64.wrap (S.used+(0 - was)):=by simp only [wrap64,IntKind.wrap_i64];omega
 rw [e1]
 have hks3:=HKS.out
 have hkm3:=HKM.out
 rw [hks3] at hkm3
 have e2:keyHP B (showS S ⟨k0,k1,k2,k3⟩ was none)=HP.mapOf grpKT Zq53 B.m4 (put ⟨k0,k1⟩ (remK ⟨k0,k1,k2,k3⟩ ks) S.keys):=by
  unfold keyHP showS
  (simp only [hkm3,if_true,if_false,hks3]) <;> rfl
 rw [e2]
 exact h9
theorem Zq341 {B:SB} {X:HP} (k:K4) (hX:Spot k B.m1 S.seen X) (was:Int) (h:St W I w (Zq20 p S B::X::dryHP B S::Zq61 B S::keyHP B S::l)) (hr:Zq122 (Zq18 S k.grp)) (hn:(Zq18 S k.grp).length≤100000) (hk:k ∉ Zq18 S k.grp) :
  Calls Tryz.prog 79 #[.pointer (some ⟨p,0,none⟩),k.val,.int .i64 was,.pointer none] w fun e w'=>e=.returned (.tuple #[])∧St W I w' (Zq20 p (showS S k was none) B::Zq161 B (showS S k was none)::dryHP B S::Zq61 B S::keyHP B (showS S k was none)::l):=by
 obtain ⟨k0,k1,k2,k3⟩:=k
 unfold K4.val
 have h2:=(h.alloc (.cells #[.int .i64 k0,.int .i64 k1,.int .i64 k2,.int .i64 k3] 43)).alloc (.cells #[.int .i64 k0,.int .i64 k1] 193)
 rw [show (w.alloc (.cells #[.int .i64 k0,.int .i64 k1,.int .i64 k2,.int .i64 k3] 43)).heap.size=w.heap.size+1 by simp] at h2
 obtain ⟨w2,hw2⟩:∃ w2,(w.alloc (.cells #[.int .i64 k0,.int .i64 k1,.int .i64 k2,.int .i64 k3] 43)).alloc (.cells #[.int .i64 k0,.int .i64 k1] 193)=w2:=⟨_,rfl⟩
 rw [hw2] at h2
 have HW2:=Zh hw2
 clear hw2
 have c8:=(h2.pull 2 _ rfl).blk 8
 have g0:=Zq1 h2.heap 0
 have g1:=Zq1 h2.heap 1
 simp [storeCells] at c8 g0 g1
 obtain ⟨vk,HK,hlk,h3,hback,hput⟩:=(h2.drew.pull 6 _ rfl).look_or (x0:=[]) Tryz.underlying114 (fun w=>by kernel_rfl) (fun I w l h=>h.row_nil _ _) ⟨k0,k1⟩
 have hlk:=hlk _ (Below.refl _ _) false
 simp only [grpKT,G2.val] at hlk
 have hks:(get (⟨k0,k1⟩:G2) S.keys).getD []=Zq18 S (K4.mk k0 k1 k2 k3).grp:=rfl
 rw [hks] at h3 hback
 have H2:=Zh h2
 have H3:=Zh h3
 have HB:=Zh hback
 have HP':=Zh hput
 obtain ⟨ks,hks2⟩:∃ ks,ks=Zq18 S (K4.mk k0 k1 k2 k3).grp:=⟨_,rfl⟩
 have HKS:=Zh hks2
 rw [←hks2] at H3 HB hr hn hk
 clear hks hks2 h2 h3 hback hput
 have hx2:=(H2.out.pull 1 _ rfl).heap
 obtain ⟨Av,cv,rfl⟩:=Zq15 H3.out.row_owns
 have HX2:=Zh hx2
 have HR:=Zh hr
 have HKM:=Zh hk
 clear hx2 h hr hk
 go_enter Tryz.func79,Tryz.ntmps79
 go_wp2_with fail
 rw [HW2.out]
 refine Zq11 [] [0,1,2,3,4,5,6] [] (by kernel_rfl) (by kernel_rfl) ?_
 simp only [pickL,Zl6,Zl7]
 repeat (refine Zq14 _ (Or.inl ⟨by rfl,by intro w;go_simp;try with_reducible rfl⟩) ?_;(try simp only [Act.put,List.setIfInBounds_toArray,Zl4,Zl5]))
 refine Zq17 ?_
 repeat still_step
 refine wpStill_nil ?_
 go_wp2_with fail
 refine NoPanic.normal ?_
 have x0:=Zq1 (w:=w2.drew) HX2.out 0
 have x1:=Zq1 (w:=w2.drew) HX2.out 1
 have x2:=Zq1 (w:=w2.drew) HX2.out 2
 have x3:=Zq1 (w:=w2.drew) HX2.out 3
 simp at x0 x1 x2 x3
 clear hlk c8 g0 g1
 go_wp2_with fail
 refine (Zq151 ⟨k0,k1,k2,k3⟩ H3.out (by omega) HR.out).mono ?_
 rintro e w4 ⟨hb4,i,hpl,rfl⟩
 have HPL:=Zh hpl
 have hin:decide (ks[i]?=some ⟨k0,k1,k2,k3⟩)=false:=by
  rw [decide_eq_false_iff_not];exact fun q=>HKM.out ((Zq152 HR.out HPL.out).1 q)
 rw [hin]
 have h4:=H3.out.keep hb4
 have H4:=Zh h4
 have HIN:=Zh hin
 clear hb4 hpl h4 hin x0 x1 x2 x3
 have h4:St W I w4 (Zq53 (.slice Av ks.length cv) ks::HK::HP.pt (w.heap.size+1) (.cells #[.int .i64 k0,.int .i64 k1] 193)::HP.pt w.heap.size (.cells #[.int .i64 k0,.int .i64 k1,.int .i64 k2,.int .i64 k3] 43)::Zq20 p S B::X::dryHP B S::Zq61 B S::l):=H4.out
 have c5:=(h4.pull 4 _ rfl).blk 5
 have hxk:=(h4.pull 3 _ rfl).heap
 have x0:=Zq1 hxk 0
 have x1:=Zq1 hxk 1
 have x2:=Zq1 hxk 2
 have x3:=Zq1 hxk 3
 simp [storeCells] at c5 x0 x1 x2 x3
 obtain ⟨w5,hr5,hs5,h5⟩:=hX.dels 0 (h4.drew.pull 5 _ rfl)
 simp only [keyKT,K4.val] at hr5
 have H5:=Zh h5
 have HR5:=Zh hr5
 clear h4 h5 hxk hr5
 go_wp2_with fail
 refine Zq11 [] [0,1,2,3,4] [5] (by kernel_rfl) (by kernel_rfl) ?_
 simp only [pickL,Zl6,Zl7]
 repeat (refine Zq14 _ (Or.inl ⟨by rfl,by intro w;go_simp;try with_reducible rfl⟩) ?_;(try simp only [Act.put,List.setIfInBounds_toArray,Zl4,Zl5]))
 refine Zq17 ?_
 repeat still_step
 refine wpStill_nil ?_
 have hr5:=HR5.out
 go_wp2_with fail
 refine NoPanic.normal ?_
 clear c5 x0 x1 x2 x3 hr5
 have h5:St W I w5 (Zq53 (.slice Av ks.length cv) ks::HK::HP.pt (w.heap.size+1) (.cells #[.int .i64 k0,.int .i64 k1] 193)::Zq20 p S B::HP.mapOf keyKT Zq16 B.m1 (del ⟨k0,k1,k2,k3⟩ S.seen)::dryHP B S::Zq61 B S::l):=(H5.out.pull 4 _ rfl).drop.perm (by ((try simp only [Zl0,Zl1,Zl2,Zl3]);repeat (first|with_reducible exact List.Perm.refl _|(apply Zq6;(· repeat (first|with_reducible exact Zq5|with_reducible apply Zq2))))))
 have hbk:=HB.out I w5 _ h5
 have H7:=Zh hbk
 clear h5 hbk
 go_wp2_with fail
 have h8:St W I w5 (Zq20 p S B::HP.mapOf keyKT Zq16 B.m1 (del ⟨k0,k1,k2,k3⟩ S.seen)::dryHP B S::Zq61 B S::HP.mapOf grpKT Zq53 B.m4 S.keys::l):=(H7.out.pull 1 _ rfl).drop.perm (by ((try simp only [Zl0,Zl1,Zl2,Zl3]);repeat (first|with_reducible exact List.Perm.refl _|(apply Zq6;(· repeat (first|with_reducible exact Zq5|with_reducible apply Zq2))))))
 have c1:=h8.blk 1
 have f1:=frozen_of_row h8.heap 1
 simp [storeCells] at c1
 have H8:=Zh h8
 clear h8
 refine Zq7 (fun w'=>w'.cell? ⟨p,1,none⟩=some (.int .i64 S.used)) [0,1,2,3,4,6] [5,7] [8,9,10,11] (by kernel_rfl) (by kernel_rfl) (by (exact c1)) ?_
 simp only [pickL,Zl6,Zl7]
 repeat (refine Zq4 _ (Or.inl ⟨by rfl,by (intro w hSw;(try dsimp only at hSw);go_simp;try with_reducible rfl)⟩) ?_;(try simp only [Act.put,List.setIfInBounds_toArray,Zl4,Zl5]))
 refine Zq10 ?_
 unfold Zq13
 go_wp2_with fail
 refine (Zq410 _).mono ?_
 rintro e w9 ⟨rfl,rfl⟩
 go_wp2_with fail
 refine Zq0 c1 ?_
 unfold Zq13
 go_wp2_with fail
 refine Zq0 c1 ?_
 unfold Zq13
 go_wp2_with fail
 refine NoPanic.normal ?_
 clear c1 f1
 go_wp2_with fail
 go_end0
 refine ⟨rfl,?_⟩
 have h9:=H8.out.drew.setCell 1 (.int .i64 (IntKind.i64.wrap (S.used+(0 - was))))
 have e1:wrap64 (S.used+wrap64 (-was))=IntKind.i64.wrap (S.used+(0 - was)):=by simp only [wrap64,IntKind.wrap_i64];omega
 rw [e1]
 have hks3:=HKS.out
 have hkm3:=HKM.out
 rw [hks3] at hkm3
 have e2:keyHP B (showS S ⟨k0,k1,k2,k3⟩ was none)=HP.mapOf grpKT Zq53 B.m4 S.keys:=by
  unfold keyHP showS
  (simp only [hkm3,if_true,if_false,hks3]) <;> rfl
 rw [e2]
 exact h9
theorem Zq342 {B:SB} {X:HP} {v:Value} {t:TS} (ht:t.small) (k:K4) (hX:Spot k B.m1 S.seen X) (was:Int) (h:St W I w (Zq20 p S B::X::dryHP B S::Zq61 B S::keyHP B S::Zq16 v t::l)) (hr:Zq122 (Zq18 S k.grp)) (hn:(Zq18 S k.grp).length≤100000) (hk:k ∈ Zq18 S k.grp) :
  Calls Tryz.prog 79 #[.pointer (some ⟨p,0,none⟩),k.val,.int .i64 was,v] w fun e w'=>e=.returned (.tuple #[])∧St W I w' (Zq20 p (showS S k was (some t)) B::Zq16 v t::HP.hole keyKT Zq16 B.m1 k v (del k S.seen)::dryHP B S::Zq61 B S::keyHP B (showS S k was (some t))::l):=by
 obtain ⟨k0,k1,k2,k3⟩:=k
 unfold K4.val
 have h2:=(h.alloc (.cells #[.int .i64 k0,.int .i64 k1,.int .i64 k2,.int .i64 k3] 43)).alloc (.cells #[.int .i64 k0,.int .i64 k1] 193)
 rw [show (w.alloc (.cells #[.int .i64 k0,.int .i64 k1,.int .i64 k2,.int .i64 k3] 43)).heap.size=w.heap.size+1 by simp] at h2
 obtain ⟨w2,hw2⟩:∃ w2,(w.alloc (.cells #[.int .i64 k0,.int .i64 k1,.int .i64 k2,.int .i64 k3] 43)).alloc (.cells #[.int .i64 k0,.int .i64 k1] 193)=w2:=⟨_,rfl⟩
 rw [hw2] at h2
 have HW2:=Zh hw2
 clear hw2
 have c8:=(h2.pull 2 _ rfl).blk 8
 have g0:=Zq1 h2.heap 0
 have g1:=Zq1 h2.heap 1
 simp [storeCells] at c8 g0 g1
 obtain ⟨vk,HK,hlk,h3,hback,hput⟩:=(h2.drew.pull 6 _ rfl).look_or (x0:=[]) Tryz.underlying114 (fun w=>by kernel_rfl) (fun I w l h=>h.row_nil _ _) ⟨k0,k1⟩
 have hlk:=hlk _ (Below.refl _ _) false
 simp only [grpKT,G2.val] at hlk
 have hks:(get (⟨k0,k1⟩:G2) S.keys).getD []=Zq18 S (K4.mk k0 k1 k2 k3).grp:=rfl
 rw [hks] at h3 hback
 have H2:=Zh h2
 have H3:=Zh h3
 have HB:=Zh hback
 have HP':=Zh hput
 obtain ⟨ks,hks2⟩:∃ ks,ks=Zq18 S (K4.mk k0 k1 k2 k3).grp:=⟨_,rfl⟩
 have HKS:=Zh hks2
 rw [←hks2] at H3 HB hr hn hk
 clear hks hks2 h2 h3 hback hput
 have hx2:=(H2.out.pull 1 _ rfl).heap
 obtain ⟨Av,cv,rfl⟩:=Zq15 H3.out.row_owns
 have HX2:=Zh hx2
 have HR:=Zh hr
 have HKM:=Zh hk
 clear hx2 h hr hk
 go_enter Tryz.func79,Tryz.ntmps79
 go_wp2_with fail
 rw [HW2.out]
 refine Zq11 [] [0,1,2,3,4,5,6] [] (by kernel_rfl) (by kernel_rfl) ?_
 simp only [pickL,Zl6,Zl7]
 repeat (refine Zq14 _ (Or.inl ⟨by rfl,by intro w;go_simp;try with_reducible rfl⟩) ?_;(try simp only [Act.put,List.setIfInBounds_toArray,Zl4,Zl5]))
 refine Zq17 ?_
 repeat still_step
 refine wpStill_nil ?_
 go_wp2_with fail
 refine NoPanic.normal ?_
 have x0:=Zq1 (w:=w2.drew) HX2.out 0
 have x1:=Zq1 (w:=w2.drew) HX2.out 1
 have x2:=Zq1 (w:=w2.drew) HX2.out 2
 have x3:=Zq1 (w:=w2.drew) HX2.out 3
 simp at x0 x1 x2 x3
 clear hlk c8 g0 g1
 go_wp2_with fail
 refine (Zq151 ⟨k0,k1,k2,k3⟩ H3.out (by omega) HR.out).mono ?_
 rintro e w4 ⟨hb4,i,hpl,rfl⟩
 have HPL:=Zh hpl
 have hin:decide (ks[i]?=some ⟨k0,k1,k2,k3⟩)=true:=by
  simpa using (Zq152 HR.out HPL.out).2 HKM.out
 rw [hin]
 have h4:=H3.out.keep hb4
 have H4:=Zh h4
 have HIN:=Zh hin
 clear hb4 hpl h4 hin x0 x1 x2 x3
 have h4:St W I w4 (Zq53 (.slice Av ks.length cv) ks::HK::HP.pt (w.heap.size+1) (.cells #[.int .i64 k0,.int .i64 k1] 193)::HP.pt w.heap.size (.cells #[.int .i64 k0,.int .i64 k1,.int .i64 k2,.int .i64 k3] 43)::Zq20 p S B::X::dryHP B S::Zq61 B S::Zq16 v t::l):=H4.out
 have c5:=(h4.pull 4 _ rfl).blk 5
 have hxk:=(h4.pull 3 _ rfl).heap
 have x0:=Zq1 hxk 0
 have x1:=Zq1 hxk 1
 have x2:=Zq1 hxk 2
 have x3:=Zq1 hxk 3
 simp [storeCells] at c5 x0 x1 x2 x3
 have h4':St W I w4.drew (Zq16 v t::X::Zq53 (.slice Av ks.length cv) ks::HK::HP.pt (w.heap.size+1) (.cells #[.int .i64 k0,.int .i64 k1] 193)::HP.pt w.heap.size (.cells #[.int .i64 k0,.int .i64 k1,.int .i64 k2,.int .i64 k3] 43)::Zq20 p S B::dryHP B S::Zq61 B S::l):=h4.drew.perm (by ((try simp only [Zl0,Zl1,Zl2,Zl3]);repeat (first|with_reducible exact List.Perm.refl _|(apply Zq6;(· repeat (first|with_reducible exact Zq5|with_reducible apply Zq2))))))
 obtain ⟨w5,hr5,hs5,h5⟩:=hX.puts h4'
 simp only [keyKT,K4.val] at hr5
 obtain ⟨bt,mt,vbt,hve,_⟩:=h5.thing_open
 subst hve
 have H5:=Zh h5
 have HR5:=Zh hr5
 clear h4 h4' h5 hxk hr5 hs5
 go_wp2_with fail
 refine Zq11 [] [0,1,2,3,4,5] [6] (by kernel_rfl) (by kernel_rfl) ?_
 simp only [pickL,Zl6,Zl7]
 repeat (refine Zq14 _ (Or.inl ⟨by rfl,by intro w;go_simp;try with_reducible rfl⟩) ?_;(try simp only [Act.put,List.setIfInBounds_toArray,Zl4,Zl5]))
 refine Zq17 ?_
 repeat still_step
 refine wpStill_nil ?_
 have hr5:=HR5.out
 go_wp2_with fail
 refine NoPanic.normal ?_
 clear c5 x0 x1 x2 x3 hr5
 have h5:St W I w5 (Zq53 (.slice Av ks.length cv) ks::HK::HP.pt (w.heap.size+1) (.cells #[.int .i64 k0,.int .i64 k1] 193)::Zq20 p S B::HP.pt w.heap.size (.cells #[.int .i64 k0,.int .i64 k1,.int .i64 k2,.int .i64 k3] 43)::Zq16 (.pointer (some ⟨bt,0,none⟩)) t::HP.hole keyKT Zq16 B.m1 ⟨k0,k1,k2,k3⟩ (.pointer (some ⟨bt,0,none⟩)) (del ⟨k0,k1,k2,k3⟩ S.seen)::dryHP B S::Zq61 B S::l):=H5.out.perm (by ((try simp only [Zl0,Zl1,Zl2,Zl3]);repeat (first|with_reducible exact List.Perm.refl _|(apply Zq6;(· repeat (first|with_reducible exact Zq5|with_reducible apply Zq2))))))
 have hbk:=HB.out I w5 _ h5
 have h8:St W I w5 (Zq20 p S B::Zq16 (.pointer (some ⟨bt,0,none⟩)) t::HP.hole keyKT Zq16 B.m1 ⟨k0,k1,k2,k3⟩ (.pointer (some ⟨bt,0,none⟩)) (del ⟨k0,k1,k2,k3⟩ S.seen)::dryHP B S::Zq61 B S::HP.mapOf grpKT Zq53 B.m4 S.keys::l):=((hbk.pull 1 _ rfl).drop.pull 2 _ rfl).drop.perm (by ((try simp only [Zl0,Zl1,Zl2,Zl3]);repeat (first|with_reducible exact List.Perm.refl _|(apply Zq6;(· repeat (first|with_reducible exact Zq5|with_reducible apply Zq2))))))
 clear h5 hbk
 go_wp2_with fail
 have c1:=h8.blk 1
 simp [storeCells] at c1
 have H8:=Zh h8
 clear h8
 refine Zq7 (fun w'=>w'.cell? ⟨p,1,none⟩=some (.int .i64 S.used)) [0,1,2,3,4,6] [5,7] [8,9,10,11] (by kernel_rfl) (by kernel_rfl) (by (exact c1)) ?_
 simp only [pickL,Zl6,Zl7]
 repeat (refine Zq4 _ (Or.inl ⟨by rfl,by (intro w hSw;(try dsimp only at hSw);go_simp;try with_reducible rfl)⟩) ?_;(try simp only [Act.put,List.setIfInBounds_toArray,Zl4,Zl5]))
 refine Zq10 ?_
 unfold Zq13
 go_wp2_with fail
 refine (Zq305 (H8.out.drew.pull 1 _ rfl) (by have:=ht.1;omega)).mono ?_
 rintro e w9 ⟨rfl,h9⟩
 have c1':=(h9.pull 1 _ rfl).blk 1
 have f1:=frozen_of_row (h9.pull 1 _ rfl).heap 1
 simp [storeCells] at c1'
 have H9:=Zh h9
 clear h9
 go_wp2_with fail
 refine Zq0 c1' ?_
 unfold Zq13
 go_wp2_with fail
 refine Zq0 c1' ?_
 unfold Zq13
 go_wp2_with fail
 refine NoPanic.normal ?_
 clear c1 f1 c1'
 go_wp2_with fail
 go_end0
 refine ⟨rfl,?_⟩
 have h9:St W I w9 (Zq20 p S B::Zq16 (.pointer (some ⟨bt,0,none⟩)) t::HP.hole keyKT Zq16 B.m1 ⟨k0,k1,k2,k3⟩ (.pointer (some ⟨bt,0,none⟩)) (del ⟨k0,k1,k2,k3⟩ S.seen)::dryHP B S::Zq61 B S::HP.mapOf grpKT Zq53 B.m4 (S.keys)::l):=H9.out.perm (by ((try simp only [Zl0,Zl1,Zl2,Zl3]);repeat (first|with_reducible exact List.Perm.refl _|(apply Zq6;(· repeat (first|with_reducible exact Zq5|with_reducible apply Zq2))))))
 have h10:=h9.setCell 1 (.int .i64 (IntKind.i64.wrap (S.used+(t.size - was))))
 have e1:wrap64 (S.used+wrap64 (wrap64 t.size - was))=IntKind.i64.wrap (S.used+(t.size - was)):=by simp only [wrap64,IntKind.wrap_i64];omega
 rw [e1]
 have hks3:=HKS.out
 have hkm3:=HKM.out
 rw [hks3] at hkm3
 have e2:keyHP B (showS S ⟨k0,k1,k2,k3⟩ was (some t))=HP.mapOf grpKT Zq53 B.m4 (S.keys):=by
  unfold keyHP showS
  (simp only [hkm3,if_true,if_false,hks3]) <;> rfl
 rw [e2]
 exact h10
end
end Go.Proofs.YtpjchngjhijgmaaGreat
namespace Go.Proofs.YtpjchngjhijgmaaGreat
open Go.RowKit
section
variable {W w : World} {I : Hp} {l : List HP} {p : Nat} {S : Str}
set_option maxRecDepth 4000
set_option maxHeartbeats 2000000
theorem Zq308 {B:SB} {X:HP} {v:Value} {t:TS} (ht:t.small) (k:K4) (hX:Spot k B.m1 S.seen X) (was:Int) (h:St W I w (Zq20 p S B::X::dryHP B S::Zq61 B S::keyHP B S::Zq16 v t::l)) (hr:Zq122 (Zq18 S k.grp)) (hn:(Zq18 S k.grp).length≤100000) (hk:k ∉ Zq18 S k.grp) :
  Calls Tryz.prog 79 #[.pointer (some ⟨p,0,none⟩),k.val,.int .i64 was,v] w fun e w'=>e=.returned (.tuple #[])∧St W I w' (Zq20 p (showS S k was (some t)) B::Zq16 v t::HP.hole keyKT Zq16 B.m1 k v (del k S.seen)::dryHP B S::Zq61 B S::keyHP B (showS S k was (some t))::l):=by
 obtain ⟨k0,k1,k2,k3⟩:=k
 unfold K4.val
 have h2:=(h.alloc (.cells #[.int .i64 k0,.int .i64 k1,.int .i64 k2,.int .i64 k3] 43)).alloc (.cells #[.int .i64 k0,.int .i64 k1] 193)
 rw [show (w.alloc (.cells #[.int .i64 k0,.int .i64 k1,.int .i64 k2,.int .i64 k3] 43)).heap.size=w.heap.size+1 by simp] at h2
 obtain ⟨w2,hw2⟩:∃ w2,(w.alloc (.cells #[.int .i64 k0,.int .i64 k1,.int .i64 k2,.int .i64 k3] 43)).alloc (.cells #[.int .i64 k0,.int .i64 k1] 193)=w2:=⟨_,rfl⟩
 rw [hw2] at h2
 have HW2:=Zh hw2
 clear hw2
 have c8:=(h2.pull 2 _ rfl).blk 8
 have g0:=Zq1 h2.heap 0
 have g1:=Zq1 h2.heap 1
 simp [storeCells] at c8 g0 g1
 obtain ⟨vk,HK,hlk,h3,hback,hput⟩:=(h2.drew.pull 6 _ rfl).look_or (x0:=[]) Tryz.underlying114 (fun w=>by kernel_rfl) (fun I w l h=>h.row_nil _ _) ⟨k0,k1⟩
 have hlk:=hlk _ (Below.refl _ _) false
 simp only [grpKT,G2.val] at hlk
 have hks:(get (⟨k0,k1⟩:G2) S.keys).getD []=Zq18 S (K4.mk k0 k1 k2 k3).grp:=rfl
 rw [hks] at h3 hback
 have H2:=Zh h2
 have H3:=Zh h3
 have HB:=Zh hback
 have HP':=Zh hput
 obtain ⟨ks,hks2⟩:∃ ks,ks=Zq18 S (K4.mk k0 k1 k2 k3).grp:=⟨_,rfl⟩
 have HKS:=Zh hks2
 rw [←hks2] at H3 HB hr hn hk
 clear hks hks2 h2 h3 hback hput
 have hx2:=(H2.out.pull 1 _ rfl).heap
 obtain ⟨Av,cv,rfl⟩:=Zq15 H3.out.row_owns
 have HX2:=Zh hx2
 have HR:=Zh hr
 have HKM:=Zh hk
 clear hx2 h hr hk
 go_enter Tryz.func79,Tryz.ntmps79
 go_wp2_with fail
 rw [HW2.out]
 refine Zq11 [] [0,1,2,3,4,5,6] [] (by kernel_rfl) (by kernel_rfl) ?_
 simp only [pickL,Zl6,Zl7]
 repeat (refine Zq14 _ (Or.inl ⟨by rfl,by intro w;go_simp;try with_reducible rfl⟩) ?_;(try simp only [Act.put,List.setIfInBounds_toArray,Zl4,Zl5]))
 refine Zq17 ?_
 repeat still_step
 refine wpStill_nil ?_
 go_wp2_with fail
 refine NoPanic.normal ?_
 have x0:=Zq1 (w:=w2.drew) HX2.out 0
 have x1:=Zq1 (w:=w2.drew) HX2.out 1
 have x2:=Zq1 (w:=w2.drew) HX2.out 2
 have x3:=Zq1 (w:=w2.drew) HX2.out 3
 simp at x0 x1 x2 x3
 clear hlk c8 g0 g1
 go_wp2_with fail
 refine (Zq151 ⟨k0,k1,k2,k3⟩ H3.out (by omega) HR.out).mono ?_
 rintro e w4 ⟨hb4,i,hpl,rfl⟩
 have HPL:=Zh hpl
 have hin:decide (ks[i]?=some ⟨k0,k1,k2,k3⟩)=false:=by
  rw [decide_eq_false_iff_not];exact fun q=>HKM.out ((Zq152 HR.out HPL.out).1 q)
 rw [hin]
 have h4:=H3.out.keep hb4
 have H4:=Zh h4
 have HIN:=Zh hin
 clear hb4 hpl h4 hin x0 x1 x2 x3
 have h4:St W I w4 (Zq53 (.slice Av ks.length cv) ks::HK::HP.pt (w.heap.size+1) (.cells #[.int .i64 k0,.int .i64 k1] 193)::HP.pt w.heap.size (.cells #[.int .i64 k0,.int .i64 k1,.int .i64 k2,.int .i64 k3] 43)::Zq20 p S B::X::dryHP B S::Zq61 B S::Zq16 v t::l):=H4.out
 have c5:=(h4.pull 4 _ rfl).blk 5
 have hxk:=(h4.pull 3 _ rfl).heap
 have x0:=Zq1 hxk 0
 have x1:=Zq1 hxk 1
 have x2:=Zq1 hxk 2
 have x3:=Zq1 hxk 3
 simp [storeCells] at c5 x0 x1 x2 x3
 have h4':St W I w4.drew (Zq16 v t::X::Zq53 (.slice Av ks.length cv) ks::HK::HP.pt (w.heap.size+1) (.cells #[.int .i64 k0,.int .i64 k1] 193)::HP.pt w.heap.size (.cells #[.int .i64 k0,.int .i64 k1,.int .i64 k2,.int .i64 k3] 43)::Zq20 p S B::dryHP B S::Zq61 B S::l):=h4.drew.perm (by ((try simp only [Zl0,Zl1,Zl2,Zl3]);repeat (first|with_reducible exact List.Perm.refl _|(apply Zq6;(· repeat (first|with_reducible exact Zq5|with_reducible apply Zq2))))))
 obtain ⟨w5,hr5,hs5,h5⟩:=hX.puts h4'
 simp only [keyKT,K4.val] at hr5
 obtain ⟨bt,mt,vbt,hve,_⟩:=h5.thing_open
 subst hve
 have H5:=Zh h5
 have HR5:=Zh hr5
 clear h4 h4' h5 hxk hr5 hs5
 go_wp2_with fail
 refine Zq11 [] [0,1,2,3,4,5] [6] (by kernel_rfl) (by kernel_rfl) ?_
 simp only [pickL,Zl6,Zl7]
 repeat (refine Zq14 _ (Or.inl ⟨by rfl,by intro w;go_simp;try with_reducible rfl⟩) ?_;(try simp only [Act.put,List.setIfInBounds_toArray,Zl4,Zl5]))
 refine Zq17 ?_
 repeat still_step
 refine wpStill_nil ?_
 have hr5:=HR5.out
 go_wp2_with fail
 refine NoPanic.normal ?_
 clear c5 x0 x1 x2 x3 hr5
 have h5:St W I w5 (Zq53 (.slice Av ks.length cv) ks::HK::HP.pt (w.heap.size+1) (.cells #[.int .i64 k0,.int .i64 k1] 193)::Zq20 p S B::HP.pt w.heap.size (.cells #[.int .i64 k0,.int .i64 k1,.int .i64 k2,.int .i64 k3] 43)::Zq16 (.pointer (some ⟨bt,0,none⟩)) t::HP.hole keyKT Zq16 B.m1 ⟨k0,k1,k2,k3⟩ (.pointer (some ⟨bt,0,none⟩)) (del ⟨k0,k1,k2,k3⟩ S.seen)::dryHP B S::Zq61 B S::l):=H5.out.perm (by ((try simp only [Zl0,Zl1,Zl2,Zl3]);repeat (first|with_reducible exact List.Perm.refl _|(apply Zq6;(· repeat (first|with_reducible exact Zq5|with_reducible apply Zq2))))))
 have hxk:=(h5.pull 4 _ rfl).heap
 have x0:=Zq1 hxk 0
 have x1:=Zq1 hxk 1
 have x2:=Zq1 hxk 2
 have x3:=Zq1 hxk 3
 simp at x0 x1 x2 x3
 clear hxk
 have c8:=(h5.pull 3 _ rfl).blk 8
 have hg:=(h5.pull 2 _ rfl).heap
 have g0:=Zq1 hg 0
 have g1:=Zq1 hg 1
 simp [storeCells] at c8 g0 g1
 have H5':=Zh h5
 have z1:IntKind.i64.wrap ((i:Int)+1)=(i:Int)+1:=by
  have:=HPL.out.le
  rw [IntKind.wrap_i64];omega
 clear h5 hg
 go_wp2_with fail
 refine Zq7 (fun w'=>w'.cell? ⟨p,8,none⟩=some (.map (some B.m4))∧w'.cell? ⟨w.heap.size+1,0,none⟩=some (.int .i64 k0)∧w'.cell? ⟨w.heap.size+1,1,none⟩=some (.int .i64 k1)∧w'.cell? ⟨w.heap.size,0,none⟩=some (.int .i64 k0)∧w'.cell? ⟨w.heap.size,1,none⟩=some (.int .i64 k1)∧w'.cell? ⟨w.heap.size,2,none⟩=some (.int .i64 k2)∧w'.cell? ⟨w.heap.size,3,none⟩=some (.int .i64 k3)) [0,1,2,3,4,5,6,7] [8,9] [10] (by kernel_rfl) (by kernel_rfl) (by (exact ⟨c8,g0,g1,x0,x1,x2,x3⟩)) ?_
 simp only [pickL,Zl6,Zl7]
 repeat (refine Zq4 _ (Or.inl ⟨by rfl,by (intro w hSw;(try dsimp only at hSw);go_simp;try with_reducible rfl)⟩) ?_;(try simp only [Act.put,List.setIfInBounds_toArray,Zl4,Zl5]))
 refine Zq10 ?_
 unfold Zq13
 go_wp2_with fail
 have hs0:=(H5'.out.alloc (.cells #[.int .i64 k0,.int .i64 k1,.int .i64 k2,.int .i64 k3] 43)).drew
 obtain ⟨wn,hwn⟩:∃ wn,(w5.alloc (.cells #[.int .i64 k0,.int .i64 k1,.int .i64 k2,.int .i64 k3] 43)).drew=wn:=⟨_,rfl⟩
 rw [hwn] at hs0 ⊢
 clear hwn
 have c8b:=(hs0.pull 4 _ rfl).blk 8
 have hgb:=(hs0.pull 3 _ rfl).heap
 have hkb:=(hs0.pull 5 _ rfl).heap
 have g0b:=Zq1 hgb 0
 have g1b:=Zq1 hgb 1
 have x0b:=Zq1 hkb 0
 have x1b:=Zq1 hkb 1
 have x2b:=Zq1 hkb 2
 have x3b:=Zq1 hkb 3
 simp [storeCells] at c8b g0b g1b x0b x1b x2b x3b
 have HS0:=Zh hs0
 clear hs0 hgb hkb
 refine Zq0 ⟨c8b,g0b,g1b,x0b,x1b,x2b,x3b⟩ ?_
 unfold Zq13
 clear c8 g0 g1 x0 x1 x2 x3
 go_wp2_with fail
 refine (Zq500 ⟨k0,k1,k2,k3⟩ HS0.out (by omega) HPL.out.le).mono ?_
 rintro e w6 ⟨v6,rfl,h6⟩
 rw [Zq660 HPL.out] at h6
 obtain ⟨A6,c6,rfl⟩:=Zq15 h6.row_owns
 obtain ⟨w7,hr7,hs7,h7⟩:=HP'.out I w6 _ _ _ h6
 simp only [grpKT,G2.val] at hr7
 have c8':=(h6.pull 3 _ rfl).blk 8
 have hg':=(h6.pull 2 _ rfl).heap
 have hk':=(h6.pull 4 _ rfl).heap
 have g0':=Zq1 hg' 0
 have g1':=Zq1 hg' 1
 have x0':=Zq1 hk' 0
 have x1':=Zq1 hk' 1
 have x2':=Zq1 hk' 2
 have x3':=Zq1 hk' 3
 simp [storeCells] at c8' g0' g1' x0' x1' x2' x3'
 have H7:=Zh h7
 have HR7:=Zh hr7
 clear h6 h7 hr7 hg' hk' z1 c8b g0b g1b x0b x1b x2b x3b
 go_wp2_with fail
 refine Zq0 ⟨c8',g0',g1',x0',x1',x2',x3'⟩ ?_
 have hr7:=HR7.out
 unfold Zq13
 go_wp2_with fail
 refine NoPanic.normal ?_
 clear hr7 c8' g0' g1' x0' x1' x2' x3'
 go_wp2_with fail
 have h8:St W I w7 (Zq20 p S B::Zq16 (.pointer (some ⟨bt,0,none⟩)) t::HP.hole keyKT Zq16 B.m1 ⟨k0,k1,k2,k3⟩ (.pointer (some ⟨bt,0,none⟩)) (del ⟨k0,k1,k2,k3⟩ S.seen)::dryHP B S::Zq61 B S::HP.mapOf grpKT Zq53 B.m4 (put ⟨k0,k1⟩ (addK ⟨k0,k1,k2,k3⟩ ks) S.keys)::l):=((H7.out.pull 1 _ rfl).drop.pull 2 _ rfl).drop.perm (by ((try simp only [Zl0,Zl1,Zl2,Zl3]);repeat (first|with_reducible exact List.Perm.refl _|(apply Zq6;(· repeat (first|with_reducible exact Zq5|with_reducible apply Zq2))))))
 have c1:=h8.blk 1
 simp [storeCells] at c1
 have H8:=Zh h8
 clear h8
 refine Zq7 (fun w'=>w'.cell? ⟨p,1,none⟩=some (.int .i64 S.used)) [0,1,2,3,4,6] [5,7] [8,9,10,11] (by kernel_rfl) (by kernel_rfl) (by (exact c1)) ?_
 simp only [pickL,Zl6,Zl7]
 repeat (refine Zq4 _ (Or.inl ⟨by rfl,by (intro w hSw;(try dsimp only at hSw);go_simp;try with_reducible rfl)⟩) ?_;(try simp only [Act.put,List.setIfInBounds_toArray,Zl4,Zl5]))
 refine Zq10 ?_
 unfold Zq13
 go_wp2_with fail
 refine (Zq305 (H8.out.drew.pull 1 _ rfl) (by have:=ht.1;omega)).mono ?_
 rintro e w9 ⟨rfl,h9⟩
 have c1':=(h9.pull 1 _ rfl).blk 1
 have f1:=frozen_of_row (h9.pull 1 _ rfl).heap 1
 simp [storeCells] at c1'
 have H9:=Zh h9
 clear h9
 go_wp2_with fail
 refine Zq0 c1' ?_
 unfold Zq13
 go_wp2_with fail
 refine Zq0 c1' ?_
 unfold Zq13
 go_wp2_with fail
 refine NoPanic.normal ?_
 clear c1 f1 c1'
 go_wp2_with fail
 go_end0
 refine ⟨rfl,?_⟩
 have h9:St W I w9 (Zq20 p S B::Zq16 (.pointer (some ⟨bt,0,none⟩)) t::HP.hole keyKT Zq16 B.m1 ⟨k0,k1,k2,k3⟩ (.pointer (some ⟨bt,0,none⟩)) (del ⟨k0,k1,k2,k3⟩ S.seen)::dryHP B S::Zq61 B S::HP.mapOf grpKT Zq53 B.m4 (put ⟨k0,k1⟩ (addK ⟨k0,k1,k2,k3⟩ ks) S.keys)::l):=H9.out.perm (by ((try simp only [Zl0,Zl1,Zl2,Zl3]);repeat (first|with_reducible exact List.Perm.refl _|(apply Zq6;(· repeat (first|with_reducible exact Zq5|with_reducible apply Zq2))))))
 have h10:=h9.setCell 1 (.int .i64 (IntKind.i64.wrap (S.used+(t.size - was))))
 have e1:wrap64 (S.used+wrap64 (wrap64 t.size - was))=IntKind.i64.wrap (S.used+(t.size - was)):=by simp only [wrap64,IntKind.wrap_i64];omega
 rw [e1]
 have hks3:=HKS.out
 have hkm3:=HKM.out
 rw [hks3] at hkm3
 have e2:keyHP B (showS S ⟨k0,k1,k2,k3⟩ was (some t))=HP.mapOf grpKT Zq53 B.m4 (put ⟨k0,k1⟩ (addK ⟨k0,k1,k2,k3⟩ ks) S.keys):=by
  unfold keyHP showS
  (simp only [hkm3,if_true,if_false,hks3]) <;> rfl
 rw [e2]
 exact h10
theorem Zq343 {B:SB} {X:HP} {v:Value} {t:TS} (ht:t.small) (k:K4) (hX:Spot k B.m1 S.seen X) (was:Int) (h:St W I w (Zq20 p S B::X::dryHP B S::Zq61 B S::keyHP B S::Zq16 v t::l)) (hr:Zq122 (Zq18 S k.grp)) (hn:(Zq18 S k.grp).length≤100000) :
  Calls Tryz.prog 79 #[.pointer (some ⟨p,0,none⟩),k.val,.int .i64 was,v] w fun e w'=>e=.returned (.tuple #[])∧St W I w' (Zq20 p (showS S k was (some t)) B::Zq16 v t::HP.hole keyKT Zq16 B.m1 k v (del k S.seen)::dryHP B (showS S k was (some t))::Zq61 B (showS S k was (some t))::keyHP B (showS S k was (some t))::l):=by
 by_cases hk:k ∈ Zq18 S k.grp
 ·exact Zq342 ht k hX was h hr hn hk
 ·exact Zq308 ht k hX was h hr hn hk
theorem Zq793 {B:SB} {X:HP} {v:Value} {o:Option TS} (ho:Zq268 o) (k:K4) (hX:Spot k B.m1 S.seen X) (was:Int) (h:St W I w (Zq20 p S B::X::dryHP B S::Zq61 B S::keyHP B S::optHP v o::l)) (hr:Zq122 (Zq18 S k.grp)) (hn:(Zq18 S k.grp).length≤100000) :
  Calls Tryz.prog 79 #[.pointer (some ⟨p,0,none⟩),k.val,.int .i64 was,v] w fun e w'=>e=.returned (.tuple #[])∧St W I w' (Zq20 p (showS S k was o) B::Zq161 B (showS S k was o)::dryHP B (showS S k was o)::Zq61 B (showS S k was o)::keyHP B (showS S k was o)::l):=by
 cases o with
 | none =>
  obtain ⟨rfl,h1⟩:=(h.pull 5 _ rfl).pure_open
  by_cases hk:k ∈ Zq18 S k.grp
  ·exact Zq412 k hX was h1 hr hn hk
  ·exact Zq341 k hX was h1 hr hn hk
 | some t =>
  refine (Zq343 ho k hX was h hr hn).mono ?_
  rintro e w' ⟨rfl,h1⟩
  exact ⟨rfl,(St.hole_back (h1.perm (m:=Zq16 v t::HP.hole keyKT Zq16 B.m1 k v (del k S.seen)::Zq20 p (showS S k was (some t)) B::dryHP B (showS S k was (some t))::Zq61 B (showS S k was (some t))::keyHP B (showS S k was (some t))::l) (by ((try simp only [Zl0,Zl1,Zl2,Zl3]);repeat (first|with_reducible exact List.Perm.refl _|(apply Zq6;(· repeat (first|with_reducible exact Zq5|with_reducible apply Zq2)))))))).pull 1 _ rfl⟩
end
end Go.Proofs.YtpjchngjhijgmaaGreat
namespace Go.Proofs.YtpjchngjhijgmaaGreat
open Go.RowKit
def fuseS (S:Str) (n:Int) (keep:List Int) (torn:Int):Str :=
 if 0≤n then { S with armed:=true,fuse:=n,keep:=keep,torn:=torn } else { S with armed:=false,fuse:=0,keep:=[],torn:=0 }
section
variable {W w : World} {I : Hp} {l : List HP} {p : Nat} {S : Str}
set_option maxRecDepth 4000
set_option maxHeartbeats 4000000
theorem Zq745 (I:Hp):IntsI I (.slice none 0 0) []:=⟨none,0,rfl,rfl,Nat.le_refl _,by unfold maxLen;omega,fun _=>rfl,fun h=>absurd h (by simp)⟩
end
end Go.Proofs.YtpjchngjhijgmaaGreat
namespace Go.Proofs.YtpjchngjhijgmaaGreat
open Go.RowKit Go.Shelf
attribute [local go_sem] Oper.semAt_some
section
end
end Go.Proofs.YtpjchngjhijgmaaGreat
