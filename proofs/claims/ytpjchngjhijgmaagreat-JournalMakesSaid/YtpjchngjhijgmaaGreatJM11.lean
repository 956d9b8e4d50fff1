import Derived.Shelf.SlSortCmp.NoneTotal
import Derived.Shelf.SlGeneric
import Derived.Ground.SlsfProg
import Derived.Sort.Grow
import Derived.Test.YtpjchngjhijgmaaGreatJM09
namespace Go.Proofs
open Go.Shelf
def Tryz.sortK_ren:Go.Shelf.Ren:=⟨fun|6=>135|15=>177|14=>176|28=>199|29=>200|20=>191|21=>192|22=>193|23=>194|24=>195|25=>196|26=>197|27=>198|46=>206|47=>207|48=>208|49=>209|50=>210|57=>214|n=>n,fun|22=>137|24=>43|25=>143|3=>3|39=>78|0=>0|53=>180|55=>122|4=>4|46=>253|45=>252|50=>194|5=>5|9=>9|66=>265|70=>237|76=>275|77=>168|n=>n,fun|n=>n⟩
theorem Tryz.sortK:Go.Proofs.SlLaysF0.n6 Tryz.prog Tryz.sortK_ren:={
 mixed:=by kernel_rfl
 f6:=⟨Tryz.f135.name,by decide,Tryz.func135.trans (congrArg some (by kernel_rfl))⟩
 f14:=⟨Tryz.f176.name,by decide,Tryz.func176.trans (congrArg some (by kernel_rfl))⟩
 f15:=Tryz.func177.trans (congrArg some (by kernel_rfl))
 f20:=⟨Tryz.f191.name,by decide,Tryz.func191.trans (congrArg some (by kernel_rfl))⟩
 f21:=⟨Tryz.f192.name,by decide,Tryz.func192.trans (congrArg some (by kernel_rfl))⟩
 f22:=⟨Tryz.f193.name,by decide,Tryz.func193.trans (congrArg some (by kernel_rfl))⟩
 f23:=⟨Tryz.f194.name,by decide,Tryz.func194.trans (congrArg some (by kernel_rfl))⟩
 f24:=⟨Tryz.f195.name,by decide,Tryz.func195.trans (congrArg some (by kernel_rfl))⟩
 f25:=⟨Tryz.f196.name,by decide,Tryz.func196.trans (congrArg some (by kernel_rfl))⟩
 f26:=⟨Tryz.f197.name,by decide,Tryz.func197.trans (congrArg some (by kernel_rfl))⟩
 f27:=⟨Tryz.f198.name,by decide,Tryz.func198.trans (congrArg some (by kernel_rfl))⟩
 f28:=Tryz.func199.trans (congrArg some (by kernel_rfl))
 f29:=Tryz.func200.trans (congrArg some (by kernel_rfl))
 f46:=⟨Tryz.f206.name,by decide,Tryz.func206.trans (congrArg some (by kernel_rfl))⟩
 f47:=Tryz.func207.trans (congrArg some (by kernel_rfl))
 f48:=Tryz.func208.trans (congrArg some (by kernel_rfl))
 f49:=⟨Tryz.f209.name,by decide,Tryz.func209.trans (congrArg some (by kernel_rfl))⟩
 f50:=⟨Tryz.f210.name,by decide,Tryz.func210.trans (congrArg some (by kernel_rfl))⟩
 f57:=⟨Tryz.f214.name,by decide,Tryz.func214.trans (congrArg some (by kernel_rfl))⟩
 t0:=Tryz.underlying0
 a0:=Tryz.isAgg0
 z0:=Tryz.sizeOf0
 v0:=Tryz.zeroValue0
 t3:=Tryz.underlying3
 a3:=Tryz.isAgg3
 z3:=Tryz.sizeOf3
 v3:=Tryz.zeroValue3
 t4:=Tryz.underlying4
 a4:=Tryz.isAgg4
 z4:=Tryz.sizeOf4
 v4:=Tryz.zeroValue4
 t5:=Tryz.underlying5
 a5:=Tryz.isAgg5
 z5:=Tryz.sizeOf5
 v5:=Tryz.zeroValue5
 t9:=Tryz.underlying9
 a9:=Tryz.isAgg9
 z9:=Tryz.sizeOf9
 v9:=Tryz.zeroValue9
 t22:=Tryz.underlying137
 a22:=Tryz.isAgg137
 z22:=Tryz.sizeOf137
 v22:=Tryz.zeroValue137
 t25:=Tryz.underlying143
 a25:=Tryz.isAgg143
 z25:=Tryz.sizeOf143
 v25:=Tryz.zeroValue143
 t39:=Tryz.underlying78
 a39:=Tryz.isAgg78
 z39:=Tryz.sizeOf78
 v39:=Tryz.zeroValue78
 t45:=Tryz.underlying252
 a45:=Tryz.isAgg252
 z45:=Tryz.sizeOf252
 v45:=Tryz.zeroValue252
 t46:=Tryz.underlying253
 a46:=Tryz.isAgg253
 z46:=Tryz.sizeOf253
 v46:=Tryz.zeroValue253
 t50:=Tryz.underlying194
 a50:=Tryz.isAgg194
 z50:=Tryz.sizeOf194
 v50:=Tryz.zeroValue194
 t53:=Tryz.underlying180
 a53:=Tryz.isAgg180
 z53:=Tryz.sizeOf180
 v53:=Tryz.zeroValue180
 t55:=Tryz.underlying122
 a55:=Tryz.isAgg122
 z55:=Tryz.sizeOf122
 v55:=Tryz.zeroValue122
 t66:=Tryz.underlying265
 a66:=Tryz.isAgg265
 z66:=Tryz.sizeOf265
 v66:=Tryz.zeroValue265
 t70:=Tryz.underlying237
 a70:=Tryz.isAgg237
 z70:=Tryz.sizeOf237
 v70:=Tryz.zeroValue237
 t76:=Tryz.underlying275
 a76:=Tryz.isAgg275
 z76:=Tryz.sizeOf275
 v76:=Tryz.zeroValue275
 t77:=Tryz.underlying168
 a77:=Tryz.isAgg168
 z77:=Tryz.sizeOf168
 v77:=Tryz.zeroValue168 }
end Go.Proofs
set_option linter.all false
namespace Go.Proofs.YtpjchngjhijgmaaGreat
open Go.RowKit Go.Sort Go.Shelf Go.Lib Go.Proofs
set_option maxRecDepth 4000 in
set_option maxHeartbeats 2000000 in
theorem Zq610 (a b:K4) (w:World):Calls Tryz.prog 77 #[a.val,b.val] w fun e w'=>e=.returned (.int .i64 (cmpK a b))∧∃ q os,w'=Sort.grow (w.drewN q) os:=by
 obtain ⟨a0,a1,a2,a3⟩:=a
 obtain ⟨b0,b1,b2,b3⟩:=b
 unfold K4.val
 go_enter Tryz.func77,Tryz.ntmps77
 go_wp2_with fail
 obtain ⟨X,hX⟩:∃ X:Obj,X=.cells #[.int .i64 a0,.int .i64 a1,.int .i64 a2,.int .i64 a3] 43:=⟨_,rfl⟩
 obtain ⟨Y,hY⟩:∃ Y:Obj,Y=.cells #[.int .i64 b0,.int .i64 b1,.int .i64 b2,.int .i64 b3] 43:=⟨_,rfl⟩
 rw [←hX,←hY]
 have hx:((w.alloc X).alloc Y).heap[w.heap.size]?=some X:=(Below.heap_alloc _ _ _ (by simp)).trans (heap_alloc_new _ _)
 have hy:((w.alloc X).alloc Y).heap[w.heap.size+1]?=some Y:=by
  have:=heap_alloc_new (w.alloc X) Y
  simpa using this
 have hb:∀ Z,(((w.alloc X).alloc Y).drew).alloc Z=Sort.grow (w.drewN 1) #[X,Y,Z]:=fun Z=>by
  rw [Sort.alloc_eq_grow,Sort.alloc_eq_grow,Sort.alloc_eq_grow]
  show Sort.grow (Sort.grow (Sort.grow (w.drewN 1) #[X]) #[Y]) #[Z]=_
  rw [Sort.grow_grow,Sort.grow_grow]
  rfl
 generalize (w.alloc X).alloc Y=w2 at *
 subst hX
 subst hY
 have x0:=Zq1 hx 0
 have x1:=Zq1 hx 1
 have x2:=Zq1 hx 2
 have x3:=Zq1 hx 3
 have y0:=Zq1 hy 0
 have y1:=Zq1 hy 1
 have y2:=Zq1 hy 2
 have y3:=Zq1 hy 3
 simp at x0 x1 x2 x3 y0 y1 y2 y3
 have HB:=Zh hb
 clear hx hy hb
 go_still_tail 20,(by kernel_rfl)
 still_call (Zq55 _ _ _)
 repeat still_step
 still_call (Zq55 _ _ _)
 repeat still_step
 still_call (Zq55 _ _ _)
 repeat still_step
 still_call (Zq55 _ _ _)
 refine wpStill_nil ?_
 change wpList _ _ _ _ _ w2.drew
 have HB2:=HB
 clear x0 x1 x2 x3 y0 y1 y2 y3
 generalize w2.drew=w3 at *
 go_wp2_with fail
 refine (Zq844 w3.heap.size (fun k=>match k with|0=>cmpI a0 b0|1=>cmpI a1 b1|2=>cmpI a2 b2|_=>cmpI a3 b3) _ ?_).mono ?_
 ·intro k hk
  match k,hk with
  | 0,_=>exact Zq1 (heap_alloc_new w3 _) 0
  | 1,_=>exact Zq1 (heap_alloc_new w3 _) 1
  | 2,_=>exact Zq1 (heap_alloc_new w3 _) 2
  | 3,_=>exact Zq1 (heap_alloc_new w3 _) 3
 ·rintro e w4 ⟨rfl,rfl⟩
  go_wp2_with fail
  go_ret
  exact ⟨rfl,1,_,HB2.out _⟩
instance:Inhabited K4:=⟨⟨0,0,0,0⟩⟩
theorem lt_of (a b:K4):ltOf cmpK a b=a.lt b:=by
 unfold ltOf
 rw [Bool.eq_iff_iff,decide_eq_true_eq]
 exact Zq801
theorem swoK:Sort.SWO (ltOf cmpK) where
 irrefl x:=by rw [lt_of,Bool.eq_false_iff];simp only [K4.lt,ne_eq,decide_eq_true_eq];omega
 trans x y z h1 h2:=by rw [lt_of] at *;exact Zq333 h1 h2
 ntrans x y z h1 h2:=by
  rw [lt_of] at *
  rw [Bool.eq_false_iff] at *
  simp only [K4.lt,ne_eq,decide_eq_true_eq] at *
  omega
theorem Zq611 (d:Array K4) (t:Nat) (h:t<d.size*4):(flatK K4.vals 4 d)[t]! = (kflat d.toList)[t]! := by
 rw [get_flatK _ _ _ _ h]
 have h4:t / 4<d.size:=by omega
 have e:=Zq331 d.toList (t / 4) (t % 4) (by omega)
 rw [show t / 4*4+t % 4=t by omega] at e
 rw [List.getElem!_eq_getElem?_getD,List.getElem!_eq_getElem?_getD,e]
 simp [h4]
theorem Zq850 (d:Array K4):(flatK K4.vals 4 d).toList=kflat d.toList:=by
 apply List.ext_getElem
 ·simp [Zq37]
 ·intro t h1 h2
  have h3:t<d.size*4:=by simpa using h1
  have:=Zq611 d t h3
  rw [getElem!_pos _ t (by simpa using h1),getElem!_pos _ t h2] at this
  simpa using this
theorem Zq612 {w:World} {base g c n m:Nat} {ks:List K4} {d':Array K4} {os:Array Obj} (ho:w.ownsRow base 43 4 (.slice (some ⟨g,0,none⟩) n c) n (kflat ks)) (hk:ks.length=n) (hs:d'.size=n) :
  (sortWorldK K4.vals 4 w g 0 m d' os).ownsRow base 43 4 (.slice (some ⟨g,0,none⟩) n c) n (kflat d'.toList)∧∀ B,B≤g→B≤w.heap.size→Below B w (sortWorldK K4.vals 4 w g 0 m d' os):=by
 have hlen:(flatK K4.vals 4 d').size=n*4:=by simp [hs]
 rcases ho.2 with ⟨e1,_⟩|⟨g',cap,cur,e1,hb,hg,h1,h2,h3,h4⟩
 ·cases e1
 ·simp only [Value.slice.injEq,Option.some.injEq,Addr.mk.injEq,and_true,true_and] at e1
  obtain ⟨rfl,rfl⟩:=e1
  have hlt:=(Array.getElem?_eq_some_iff.1 hg).1
  obtain ⟨_,hgg⟩:=Array.getElem?_eq_some_iff.1 hg
  have hsz:(mapBlock (Sort.ahead w m) g (putCells id 0 (flatK K4.vals 4 d'))).heap.size=w.heap.size:=by simp [mapBlock,Sort.ahead]
  have hold:∀ k,k<w.heap.size→(sortWorldK K4.vals 4 w g 0 m d' os).heap[k]?=(mapBlock (Sort.ahead w m) g (putCells id 0 (flatK K4.vals 4 d'))).heap[k]?:=fun k hk=>by
   show ((mapBlock (Sort.ahead w m) g (putCells id 0 (flatK K4.vals 4 d'))).heap++os)[k]?=_
   rw [Array.getElem?_append_left (by rw [hsz];exact hk)]
  have hother:∀ k,k<w.heap.size→k≠g→(sortWorldK K4.vals 4 w g 0 m d' os).heap[k]?=w.heap[k]?:=fun k hk hne=>by
   rw [hold k hk]
   show (w.heap.modify g _)[k]?=_
   rw [Array.getElem?_modify,if_neg (Ne.symm hne)]
  have hnew:(sortWorldK K4.vals 4 w g 0 m d' os).heap[g]?=some (.cells (putCells id 0 (flatK K4.vals 4 d') cur) 43 (0,0)):=by
   rw [hold g hlt]
   show (w.heap.modify g _)[g]?=_
   rw [Array.getElem?_modify,if_pos rfl,hg]
   rfl
  refine ⟨⟨by rw [Zq37];simp [hs],.inr ⟨g,c,_,rfl,hb,hnew,h1,h2,by simp [putCells,h3],?_⟩⟩,fun B hB hB2=>⟨rfl,rfl,rfl,?_,fun k hk=>hother k (by omega) (by omega)⟩⟩
  ·rw [←Zq850]
   apply List.ext_getElem?
   intro t
   rw [List.getElem?_take]
   by_cases ht:t<n*4
   ·rw [if_pos ht]
    have hc:t<cur.size:=by rw [h3];omega
    simp only [putCells,Array.getElem?_toList,Array.getElem?_mapIdx,hc,Array.getElem?_eq_getElem,Option.map_some,Nat.zero_le,true_and,Nat.zero_add,hlen,ht,if_true,Nat.sub_zero,id]
    rw [getElem!_pos _ t (by rw [hlen];exact ht)]
   ·rw [if_neg ht]
    exact (List.getElem?_eq_none (by rw [Array.length_toList,hlen];omega)).symm
  ·show w.heap.size≤((mapBlock (Sort.ahead w m) g (putCells id 0 (flatK K4.vals 4 d'))).heap++os).size
   rw [Array.size_append,hsz]
   omega
theorem Zq714 {w:World} {base g c n:Nat} {ks:List K4} (ho:w.ownsRow base 43 4 (.slice (some ⟨g,0,none⟩) n c) n (kflat ks)) (hk:ks.length=n):HoldsK K4.vals 4 w g 0 ks.toArray:=fun j hj=>by
 have hj':j<ks.length*4:=by simpa using hj
 have hg:∃ cur,w.heap[g]?=some (.cells cur 43 (0,0)):=by
  rcases ho.2 with ⟨e1,_⟩|⟨g',cap,cur,e1,hb,hg,h1,h2,h3,h4⟩
  ·cases e1
  ·simp only [Value.slice.injEq,Option.some.injEq,Addr.mk.injEq,and_true,true_and] at e1
   obtain ⟨rfl,rfl⟩:=e1
   exact ⟨cur,hg⟩
 obtain ⟨cur,hg⟩:=hg
 refine ⟨?_,by simp [World.frozen?,hg]⟩
 have hl:j<(kflat ks).length:=by rw [Zq37];exact hj'
 have:=ho.cells (g:=g) rfl j _ (List.getElem?_eq_getElem hl)
 rw [add_plain,Nat.zero_add] at this
 rw [Nat.zero_add,this,Zq611 ks.toArray j (by simpa using hj'),getElem!_pos _ j hl]
 rfl
theorem Zq184 {w:World} {b b':Nat} {e:TypeId} {size:Nat} {v:Value} {n:Nat} {xs:List Value} (h:w.ownsRow b e size v n xs) (hb:b'≤b):w.ownsRow b' e size v n xs:=by
 obtain ⟨h1,h2⟩:=h
 refine ⟨h1,?_⟩
 rcases h2 with h2|⟨g,cap,cur,e1,hb2,h3⟩
 ·exact .inl h2
 ·exact .inr ⟨g,cap,cur,e1,Nat.le_trans hb hb2,h3⟩
theorem Zq715 {ks:List K4} {d:Array K4} (hn:ks.Nodup) (hp:PermIn 0 ks.toArray.size ks.toArray d) (hs:SortedIn (ltOf cmpK) 0 ks.toArray.size d):Zq90 d.toList∧d.toList.Perm ks∧d.size=ks.length:=by
 have hsz:d.size=ks.length:=by simpa using hp.1
 have hperm:d.toList.Perm ks:=by
  have h:=hp.2.2
  have e1:d.extract 0 ks.toArray.size=d:=by simp [←hsz]
  have e2:ks.toArray.extract 0 ks.toArray.size=ks.toArray:=by simp
  rw [e1,e2] at h
  simpa using h
 refine ⟨?_,hperm,hsz⟩
 refine List.pairwise_iff_getElem.2 fun i j hi hj hij=>?_
 have hnd:d.toList.Nodup:=hperm.nodup_iff.2 hn
 have h1:=hs i j (Nat.zero_le _) hij (by simpa [←hsz] using hj)
 have hi':i<d.size:=by simpa using hi
 have hj':j<d.size:=by simpa using hj
 rw [getElem!_pos d i hi',getElem!_pos d j hj',lt_of] at h1
 have hne:d[i]≠d[j]:=fun e=>by
  have:=(List.nodup_iff_pairwise_ne.1 hnd)
  exact List.pairwise_iff_getElem.1 this i j hi hj hij (by simpa using e)
 simp only [Array.getElem_toList]
 cases hlt:d[i].lt d[j] with
 | true=>rfl
 | false =>
  exfalso
  apply hne
  rw [Bool.eq_false_iff] at h1 hlt
  generalize d[i]=a at *
  generalize d[j]=b at *
  obtain ⟨a0,a1,a2,a3⟩:=a
  obtain ⟨b0,b1,b2,b3⟩:=b
  simp only [K4.lt,ne_eq,decide_eq_true_eq] at h1 hlt
  simp only [K4.mk.injEq]
  omega
set_option maxHeartbeats 2000000 in
theorem Zq716 (Bm m:Nat) (L:List (K4 × Value)) (w:World) (hBm:Bm<w.heap.size) (hmlt:m<w.heap.size) (hm:w.cell? ⟨Bm,0,none⟩=some (.map (some m))) (hL:(HP.map keyKT m L).p Hp.nil w.hp) (hN:L.length≤1000000) (hnd:(L.map (·.1)).Nodup) :
  Calls Tryz.prog 75 #[.func (.func 136) #[] #[.pointer (some ⟨Bm,0,none⟩)],.func (.func 77) #[] #[]] w fun e w'=>∃ (v:Value) (ss:List K4),e=.returned v∧Zq90 ss∧ss.Perm (L.map (·.1))∧w'.ownsRow w.heap.size 43 4 v ss.length (kflat ss)∧Below w.heap.size w w':=by
 have HC:=Zh (Zq444 Bm m L w hBm hmlt hm hL hN)
 clear hm hL
 go_enter Tryz.func75,Tryz.ntmps75
 go_wp2_with fail
 refine HC.out.mono ?_
 rintro e w1 ⟨v,ss,rfl,hp,ho,hb⟩
 have hlen:ss.length≤1000000:=by have:=hp.length_eq;simp at this;omega
 rcases ho.2 with ⟨e1,e2⟩|⟨g,c,cur,e1,hb0,hg,_⟩
 ·subst e1
  have h0:ss=[]:=List.eq_nil_of_length_eq_zero e2
  subst h0
  have hcon:=AnyF.slices_SortFunc_none Tryz.sortK none 0 (.func (.func 77) #[] #[]) w1
  change Calls Tryz.prog 135 _ _ _ at hcon
  have HCON:=Zh hcon
  have HP':=Zh hp
  have HO:=Zh ho
  have HB:=Zh hb
  clear hp ho hb hcon
  go_wp2_with fail
  refine HCON.out.mono ?_
  rintro e w2 ⟨rfl,rfl⟩
  go_wp2_with fail
  go_ret
  exact ⟨_,[],rfl,List.Pairwise.nil,HP'.out,HO.out,HB.out⟩
 ·subst e1
  have hglt:=(Array.getElem?_eq_some_iff.1 hg).1
  have eg:∀ args w,(callFunc 77 args).run Tryz.prog w=.ok (.enter 77 args) w:=enters_of Tryz.func77 (by kernel_rfl) rfl
  have hcon:=AnyQ.slices_SortFunc Tryz.sortK 4 (fun w=>by kernel_rfl) (fun w=>by kernel_rfl) K4.vals (fun _=>rfl) (fun x v hv=>by simp [K4.vals] at hv;rcases hv with rfl|rfl|rfl|rfl <;> rfl) cmpK swoK 77 #[] g 0 c ss.toArray w1 eg (fun m os dk _ x y=>Zq610 x y _) (Zq714 ho rfl) hglt (by simp;omega)
  change Calls Tryz.prog 135 _ _ _ at hcon
  simp only [List.size_toArray] at hcon
  have HCON:=Zh hcon
  have HP':=Zh hp
  have HO:=Zh ho
  have HB:=Zh hb
  clear hp ho hb hcon hg
  go_wp2_with fail
  refine HCON.out.mono ?_
  rintro e w2 ⟨rfl,d',n,os,hpi,hsi,rfl⟩
  have hnds:ss.Nodup:=HP'.out.nodup_iff.2 hnd
  have hri:=Zq715 hnds (by simpa using hpi) (by simpa using hsi)
  have hsw:=Zq612 (m:=n) (os:=os) HO.out rfl hri.2.2
  have HRI:=Zh hri
  have HSW:=Zh hsw
  clear hpi hsi hri hsw
  go_wp2_with fail
  go_ret
  refine ⟨_,d'.toList,rfl,HRI.out.1,HRI.out.2.1.trans HP'.out,?_,HB.out.trans (HSW.out.2 _ hb0 HB.out.size)⟩
  have e3:d'.toList.length=ss.length:=by simpa using HRI.out.2.2
  rw [e3]
  exact HSW.out.1
end Go.Proofs.YtpjchngjhijgmaaGreat
