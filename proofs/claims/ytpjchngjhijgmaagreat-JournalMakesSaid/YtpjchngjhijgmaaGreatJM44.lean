import Derived.Test.YtpjchngjhijgmaaGreatJM07
import Derived.Test.YtpjchngjhijgmaaGreatJM43
set_option linter.all false
namespace Go.Proofs.YtpjchngjhijgmaaGreat
open Go.RowKit
structure RJ where
 c:Rg
 sets:List Int
 fill:Fl
 l:List En
 en:Int
 safe:Int
 chain:List Tag
 cls:List Cl
structure RV where
 vs:Value
 vl:Value
 vt:Value
 vc:Value
def Zq433 (R:RJ) (V:RV):Array Value :=
 #[.int .i64 R.c.splay,.int .i64 R.c.sets,.int .i64 R.c.size,V.vs,.int .i64 R.fill.set,.int .i64 R.fill.u0,.int .i64 R.fill.u1,.int .i64 R.fill.u2,.int .i64 R.fill.u3,V.vl,.int .i64 R.en,.int .i64 R.safe,V.vt,V.vc]
def rjI (R:RJ) (V:RV) (I:Hp):Prop:=RowI I 1 V.vs R.sets.length (R.sets.map intV)∧RowI I 4 V.vt R.chain.length (flat R.chain)∧RowI I 3 V.vc R.cls.length (R.cls.flatMap Cl.vals)
theorem rjI.mono {R:RJ} {V:RV} {I I':Hp} (s:I.sub I') (h:rjI R V I):rjI R V I':=⟨h.1.mono s,h.2.1.mono s,h.2.2.mono s⟩
def rjBlk (q:Nat) (R:RJ) (V:RV):HP:=HP.pt q (.cells (Zq433 R V) 162)
def rjHP (q:Nat) (R:RJ):HP:=HP.ex fun V:RV=>HP.all [rjBlk q R V,HP.imm ⟨rjI R V,fun s h=>h.mono s⟩,Zq23 V.vl R.l]
def Zq218 (c:Rg) (at':Int) (ts:List Tag):RJ:=⟨c,[at'+1],Fl.zero,[],at',at',ts,[]⟩
theorem Zq787 {α:Type} {p:α→Bool}:∀ {l:List α} {x:α},x ∈ l.takeWhile p→p x=true
 | [],_,h=>by cases h
 | a::l,x,h=>by
  rw [List.takeWhile_cons] at h
  split at h
  ·rename_i q
   rcases List.mem_cons.1 h with rfl|h
   ·exact q
   ·exact Zq787 h
  ·cases h
theorem Zq879 {α:Type} {p:α→Bool}:∀ {l:List α},(∀ x ∈ l,p x=true)→l.takeWhile p=l
 | [],_=>rfl
 | a::l,h=>by rw [List.takeWhile_cons,if_pos (h a (List.mem_cons_self ..)),Zq879 fun x hx=>h x (List.mem_cons_of_mem _ hx)]
theorem Zq318 {l:List Tag}:∀ k,k≤l.length→Zq98 l k=true→∀ t ∈ l.take k,t.at_≤Zq124 (l.take k)
 | 0,_,_,t,ht=>by simp at ht
 | k+1,hk,h,t,ht=>by
  obtain ⟨x,hx⟩:∃ x,l[k]?=some x:=⟨_,List.getElem?_eq_getElem (by omega)⟩
  unfold Zq98 at h
  rw [hx,Bool.and_eq_true] at h
  obtain ⟨h1,h2⟩:=h
  have ih:=Zq318 k (by omega) h1
  simp only [tagOk,Bool.and_eq_true,decide_eq_true_eq] at h2
  have hf:=h2.2.2.1
  rw [Zq249 hx] at ht ⊢
  rw [Zq221]
  rcases List.mem_append.1 ht with ht|ht
  ·have:=ih t ht
   omega
  ·rw [List.mem_singleton.1 ht]
   exact Int.le_refl _
theorem Zq564 {l:List Tag} (h:Zq43 l=true):∀ t ∈ l,t.at_≤Zq124 l:=by
 unfold Zq43 at h
 have:=Zq318 l.length (Nat.le_refl _) (Bool.and_eq_true_iff.1 h).2
 rwa [List.take_length] at this
theorem Zq754 {l:List Tag} {e:Int} (h:Zq43 l=true):l.length≤(Zq36 l e).length↔Zq124 l≤e:=by
 have hne:l≠[]:=fun q=>by subst q;simp [Zq43] at h
 constructor
 ·intro hl
  have hp:Zq36 l e<+:l:=List.takeWhile_prefix _
  have hle:=hp.length_le
  have hall:Zq36 l e=l:=hp.eq_of_length (by omega)
  have hmem:l.getLast hne ∈ Zq36 l e:=by rw [hall];exact List.getLast_mem hne
  have hx:=Zq787 (show l.getLast hne ∈ l.takeWhile (fun t=>decide (t.at_≤e)) from hmem)
  have hla:Zq124 l=(l.getLast hne).at_:=by unfold Zq124;rw [List.getLast?_eq_some_getLast hne];rfl
  rw [hla]
  simpa using hx
 ·intro hl
  have hall:∀ t ∈ l,(decide (t.at_≤e))=true:=fun t ht=>by
   rw [decide_eq_true_eq]
   exact Int.le_trans (Zq564 h t ht) hl
  unfold Zq36
  rw [Zq879 hall]
  exact Nat.le_refl _
section
variable {W w w' : World} {I : Hp} {l : List HP} {q : Nat} {R : RJ}
theorem St.rj_open (h:St W I w (rjHP q R::l)):∃ V:RV,rjI R V I∧St W I w (rjBlk q R V::Zq23 V.vl R.l::l):=by
 obtain ⟨V,h1⟩:=h.ex_open
 obtain ⟨hr,h2⟩:=((h1.all_open).pull 1 _ rfl).imm_open
 exact ⟨V,hr,h2⟩
theorem St.rj_shut {V:RV} (hr:rjI R V I) (h:St W I w (rjBlk q R V::Zq23 V.vl R.l::l)):St W I w (rjHP q R::l):=by
 refine St.ex_shut V ?_
 refine St.all_shut ?_
 exact ((St.imm_shut (A:=⟨rjI R V,fun s h=>h.mono s⟩) hr h).pull 1 _ rfl)
theorem Zq123 {V:RV} (h:St W I w (rjBlk q R V::l)) (i:Nat):w.cell? ⟨q,i,none⟩=(Zq433 R V)[i]?:=Zq1 h.heap i
theorem Zq897 {V:RV} (h:St W I w (rjBlk q R V::l)):w.cell? ⟨q,0,none⟩=some (.int .i64 R.c.splay)∧w.cell? ⟨q,1,none⟩=some (.int .i64 R.c.sets)∧w.cell? ⟨q,2,none⟩=some (.int .i64 R.c.size)∧w.cell? ⟨q,3,none⟩=some V.vs∧w.cell? ⟨q,9,none⟩=some V.vl∧w.cell? ⟨q,10,none⟩=some (.int .i64 R.en)∧w.cell? ⟨q,11,none⟩=some (.int .i64 R.safe)∧w.cell? ⟨q,12,none⟩=some V.vt∧w.cell? ⟨q,13,none⟩=some V.vc∧q<w.heap.size :=
 ⟨Zq123 h 0,Zq123 h 1,Zq123 h 2,Zq123 h 3,Zq123 h 9,Zq123 h 10,Zq123 h 11,Zq123 h 12,Zq123 h 13,h.lt⟩
set_option maxRecDepth 4000
set_option maxHeartbeats 8000000
theorem Zq565 {V:RV} (h1:St W I w (rjBlk q R V::l)) (hr:rjI R V I) {a:Int} (ha:R.sets[0]?=some a):Calls Tryz.prog 97 #[.pointer (some ⟨q,0,none⟩)] w fun e w'=>e=.returned (.int .i64 a)∧w=w':=by
 obtain ⟨As,cs,e2,hln,_⟩:=id hr.1
 have x:w.cell? ⟨q,3,none⟩=some V.vs:=Zq123 h1 3
 have hI:IntsI I V.vs R.sets:=hr.1
 rw [e2] at x hI
 have hpos:0<R.sets.length:=(List.getElem?_eq_some_iff.1 ha).1
 obtain ⟨b,off,rfl,hc⟩:=hI.cells ha
 have y:=hc (Hp.sub.refl _) h1
 rw [Nat.add_zero] at y
 have lt:=h1.lt
 clear h1 hr hI hc hln e2 ha
 go_enter Tryz.func97,Tryz.ntmps97
 go_wp2_with fail
 go_ret
 exact ⟨rfl,rfl⟩
theorem Zq232 {g:Nat} {x:Int} {t:TypeId} {f:Nat × Nat} (h:St W I w (HP.pt g (.cells #[.int .i64 x] t f)::l)):∃ I',I.sub I'∧RowI I' 1 (.slice (some ⟨g,0,none⟩) 1 1) [x].length ([x].map intV)∧St W I' w l:=by
 obtain ⟨I',hs,hI,h2⟩:=h.freeze
 exact ⟨I',hs,⟨some ⟨g,0,none⟩,1,rfl,rfl,Nat.le_refl _,by unfold maxLen;omega,(fun e=>by cases e),fun _=>⟨g,0,_,_,_,rfl,hI,fun i y hy=>by simpa [intV] using hy⟩⟩,h2⟩
theorem Zq677 (c:Rg) (at':Int) (At:Option Addr) (ct:Nat) (ts:List Tag) (h:St W I w l) (ht:RowI I 4 (.slice At ts.length ct) ts.length (flat ts)) (hn:ts.length≤1000) :
  Calls Tryz.prog 36 #[c.val,.int .i64 at',.slice At ts.length ct] w fun e w'=>(goodM c at' ts=false∧e=.returned (.pointer none)∧St W I w' l)∨(goodM c at' ts=true∧∃ I' q,I.sub I'∧e=.returned (.pointer (some ⟨q,0,none⟩))∧St W I' w' (rjHP q (Zq218 c at' ts)::l)):=by
 have HT:=Zh ht
 have HTA:=Zh (show ∀ w' L,St W I w' L→TagsAt w' At ts.length ts from fun w' L h1=>by
  obtain ⟨A,c,e,_,h9⟩:=Zq152 h1 ht
  simp only [Value.slice.injEq] at e
  obtain ⟨rfl,_,_⟩:=e
  exact h9)
 have h1:=h.alloc (.cells #[.int .i64 c.splay,.int .i64 c.sets,.int .i64 c.size] 26)
 have HRI:=Zh (fun w1=>Zq531 c w1)
 simp only [Rg.val] at HRI ⊢
 have H1:=Zh h1
 obtain ⟨g3,hg3⟩:∃ g,g=w.heap.size:=⟨_,rfl⟩
 obtain ⟨w1,hw1⟩:∃ x,x=w.alloc (.cells #[.int .i64 c.splay,.int .i64 c.sets,.int .i64 c.size] 26):=⟨_,rfl⟩
 rw [←hg3,←hw1] at H1
 have hn1:(ts.length:Int)≤1000:=by omega
 clear h ht h1
 go_enter Tryz.func36,Tryz.ntmps36
 go_upto_region 1 with fail
 rw [←hg3,←hw1]
 clear hg3 hw1
 obtain ⟨c0,c1,c2⟩:=Zq40 H1.out
 go_wp2_with fail
 refine (HRI.out _).mono ?_
 rintro e w2 ⟨rfl,hb2⟩
 have h2:=H1.out.keep hb2
 have H2:=Zh h2
 obtain ⟨k0,hk0⟩:∃ k,k=c.okB:=⟨_,rfl⟩
 rw [←hk0]
 have HK0:=Zh hk0
 clear hb2 h2 hk0 HRI H1 c0 c1 c2
 cases k0 with
 | false =>
  have HG:=Zh (Zq95 (c:=c) (at':=at') (ts:=ts) (.inl HK0.out.symm))
  go_wp2_with fail
  go_ret
  exact .inl ⟨HG.out,rfl,H2.out.drop⟩
 | true =>
 by_cases h0:at'<0
 ·have d0:decide (at'<0)=true:=decide_eq_true h0
  have HG:=Zh (Zq95 (c:=c) (at':=at') (ts:=ts) (.inr (.inl h0)))
  go_wp2_with fail
  go_ret
  exact .inl ⟨HG.out,rfl,H2.out.drop⟩
 have d0:decide (at'<0)=false:=decide_eq_false h0
 by_cases h4:1099511627776<at'
 ·have d4:decide (1099511627776<at')=true:=decide_eq_true h4
  have HG:=Zh (Zq95 (c:=c) (at':=at') (ts:=ts) (.inr (.inr (.inl h4))))
  go_wp2_with fail
  go_ret
  exact .inl ⟨HG.out,rfl,H2.out.drop⟩
 have d4:decide (1099511627776<at')=false:=decide_eq_false h4
 have HRC:=Zh (Zq330 At ts.length ct ts w2 (HTA.out _ _ H2.out) (by omega))
 obtain ⟨k1,hk1⟩:∃ k,k=Zq43 ts:=⟨_,rfl⟩
 rw [←hk1] at HRC
 have HK1:=Zh hk1
 clear hk1
 go_wp2_with fail
 refine HRC.out.mono ?_
 rintro e w3 ⟨rfl,hb3⟩
 have h3:=H2.out.keep hb3
 have H3:=Zh h3
 clear hb3 h3 HRC H2
 cases k1 with
 | false =>
  have HG:=Zh (Zq95 (c:=c) (at':=at') (ts:=ts) (.inr (.inr (.inr (.inl HK1.out.symm)))))
  go_wp2_with fail
  go_ret
  exact .inl ⟨HG.out,rfl,H3.out.drop⟩
 | true =>
 obtain ⟨m,hm⟩:∃ m,ts.length=m+1:=⟨ts.length - 1,by
  have:=HK1.out.symm
  unfold Zq43 at this
  have:=(Bool.and_eq_true_iff.1 this).1
  rw [decide_eq_true_eq] at this
  omega⟩
 obtain ⟨b,off,t,rfl,hbl,htm,_,_,_,y3⟩:=(HTA.out _ _ H3.out).at_ (k:=m) (by omega)
 have hla:Zq124 ts=t.at_:=Zq524 hm htm
 have hcw:=Zq754 (e:=at') HK1.out.symm
 rw [hla] at hcw
 have HCW:=Zh hcw
 obtain ⟨n,hnn⟩:∃ n,n=ts.length:=⟨_,rfl⟩
 have HT3:=HT
 rw [←hnn] at HT3 hm ⊢
 have HNN:=Zh hnn
 have hwm:IntKind.i64.wrap ((n:Int) - 1)=(m:Int):=by rw [IntKind.wrap_i64];omega
 have hmn:m<n:=by omega
 clear hla htm hcw hnn hm
 by_cases h5:at'<t.at_
 ·have d5:decide (at'<t.at_)=true:=decide_eq_true h5
  have HG:=Zh (Zq95 (c:=c) (at':=at') (ts:=ts) (.inr (.inr (.inr (.inr (by
   apply Classical.byContradiction
   intro hc
   have:=HCW.out.1 (by omega)
   omega))))))
  go_wp2_with fail
  go_ret
  exact .inl ⟨HG.out,rfl,H3.out.drop⟩
 have d5:decide (at'<t.at_)=false:=decide_eq_false h5
 have HG:=Zh (show goodM c at' ts=true by
  unfold goodM
  rw [←HK0.out,←HK1.out]
  simp only [Bool.and_eq_true,decide_eq_true_eq]
  exact ⟨⟨⟨⟨trivial,by omega⟩,by omega⟩,trivial⟩,HCW.out.2 (by omega)⟩)
 have hw9:IntKind.i64.wrap (at'+1)=at'+1:=by rw [IntKind.wrap_i64];omega
 go_upto_region 3 with fail
 clear y3 d0 d4 d5 h5 hwm
 refine Zq179 (fun w'=>w'.cell? ⟨g3,0,none⟩=some (.int .i64 c.splay)∧w'.cell? ⟨g3,1,none⟩=some (.int .i64 c.sets)∧w'.cell? ⟨g3,2,none⟩=some (.int .i64 c.size)) [0,1,2,3,4,5,6,7,8,9] (Tp.pull [0,1,2,3,5,6,8] (Tp.two 4 (Tp.one 7 (Tp.one 9 Tp.leaf)) 7 (Tp.two 4 (Tp.one 9 Tp.leaf) 9 (Tp.one 4 Tp.leaf)))) [10,11,12] (by kernel_rfl) (by kernel_rfl) (by (exact Zq40 H3.out.drew)) ?_
 have H4:=Zh H3.out.drew
 obtain ⟨w0,hw0⟩:∃ x,x=w3.drew:=⟨_,rfl⟩
 rw [←hw0] at H4 ⊢
 clear hw0 H3
 unfold wpTp
 (try simp only [pickL,Zl6,Zl7])
 repeat (first|(refine Zq5 _ (Or.inl ⟨by rfl,by (intro w hSw;(try dsimp only at hSw);go_simp;try with_reducible rfl)⟩) ?_;(try simp only [Act.put,List.setIfInBounds_toArray,Zl4,Zl5]))|(refine Zq5 _ (Or.inr ⟨by rfl,rfl⟩) ?_;(try simp only [Act.put,List.setIfInBounds_toArray,Zl4,Zl5]))|fail)
 refine Zq9 ?_
 unfold wpTp
 (try simp only [pickL,Zl6,Zl7])
 refine ⟨?_,?_⟩
 ·have h5:=H4.out.alloc (.cells #[.int .i64 (at'+1)] 159)
  obtain ⟨g5,hg5⟩:∃ g,g=w0.heap.size:=⟨_,rfl⟩
  obtain ⟨w5,hw5⟩:∃ x,x=w0.alloc (.cells #[.int .i64 (at'+1)] 159):=⟨_,rfl⟩
  rw [←hg5,←hw5] at h5
  have H5:=Zh h5
  clear h5 H4
  go_wp2_with fail
  rw [←hg5,←hw5]
  clear hg5 hw5
  refine Zq0 (Zq40 (H5.out.pull 1 _ rfl)) ?_
  unfold wpTp
  (try simp only [pickL,Zl6,Zl7])
  have h7:=H5.out.row_bare 80 4
  obtain ⟨g7,hg7⟩:∃ g,g=w5.heap.size:=⟨_,rfl⟩
  obtain ⟨w7,hw7⟩:∃ x,x=w5.alloc (.cells #[] 80):=⟨_,rfl⟩
  rw [←hg7,←hw7] at h7
  have H7:=Zh h7
  clear h7 H5
  go_wp2_with fail
  rw [←hg7,←hw7]
  clear hg7 hw7
  refine Zq0 (Zq40 (H7.out.pull 2 _ rfl)) ?_
  unfold wpTp
  (try simp only [pickL,Zl6,Zl7])
  have h8:=H7.out
  obtain ⟨v9,w9,hr9,h9⟩:=St.tags_append 65 h8 (RowI.src HT3.out h8.imm (Zq322 ts) (by have:=HNN.out;omega)) (by have:=HNN.out;omega)
  rw [Nat.zero_add,Zl3] at h9
  obtain ⟨A9,c9,rfl⟩:=Zq17 h9.row_owns
  have HR9:=Zh hr9
  have H9a:=Zh h9
  clear h8 hr9 h9 H7
  go_wp2_with (at_builtin;refine Lib.wpList_append_run _ rfl (.tmp 41) (.tmp 42) 65 65 rfl _ _ rfl rfl _ _ HR9.out ?_)
  clear HR9
  refine Zq0 (Zq40 (H9a.out.pull 2 _ rfl)) ?_
  unfold wpTp
  (try simp only [pickL,Zl6,Zl7])
  obtain ⟨I1,s1,r1,h1⟩:=(H9a.out).freeze_row
  obtain ⟨I2,s2,r2,h2⟩:=Zq232 (h1)
  have H9:=Zh ((h2.drop.alloc (.cells (Zq433 (Zq218 c at' ts) ⟨.slice (some ⟨g5,0,none⟩) 1 1,.slice none 0 0,.slice A9 n c9,.slice none 0 0⟩) 162)).ents_nil.pull 1 _ rfl)
  have HI:=Zh (show rjI (Zq218 c at' ts) ⟨.slice (some ⟨g5,0,none⟩) 1 1,.slice none 0 0,.slice A9 n c9,.slice none 0 0⟩ I2 from ⟨r2,by rw [HNN.out] at r1;exact RowI.mono s2 (by rw [HNN.out];exact r1),Zq352 _ _⟩)
  have HSS:=Zh (s1.trans s2)
  clear r1 r2 h1 h2 s1 s2 H9a
  go_wp2_with fail
  refine NoPanic.normal ?_
  go_wp2_with fail
  go_ret
  exact .inr ⟨HG.out,I2,_,HSS.out,rfl,St.rj_shut HI.out H9.out⟩
 ·have h7:=H4.out.row_bare 80 4
  obtain ⟨g7,hg7⟩:∃ g,g=w0.heap.size:=⟨_,rfl⟩
  obtain ⟨w7,hw7⟩:∃ x,x=w0.alloc (.cells #[] 80):=⟨_,rfl⟩
  rw [←hg7,←hw7] at h7
  have H7:=Zh h7
  clear h7 H4
  go_wp2_with fail
  rw [←hg7,←hw7]
  clear hg7 hw7
  refine Zq0 (Zq40 (H7.out.pull 1 _ rfl)) ?_
  unfold wpTp
  (try simp only [pickL,Zl6,Zl7])
  refine ⟨?_,?_⟩
  ·have h5:=H7.out.alloc (.cells #[.int .i64 (at'+1)] 159)
   obtain ⟨g5,hg5⟩:∃ g,g=w7.heap.size:=⟨_,rfl⟩
   obtain ⟨w5,hw5⟩:∃ x,x=w7.alloc (.cells #[.int .i64 (at'+1)] 159):=⟨_,rfl⟩
   rw [←hg5,←hw5] at h5
   have H5:=Zh h5
   clear h5 H7
   go_wp2_with fail
   rw [←hg5,←hw5]
   clear hg5 hw5
   refine Zq0 (Zq40 (H5.out.pull 2 _ rfl)) ?_
   unfold wpTp
   (try simp only [pickL,Zl6,Zl7])
   have h8:=H5.out.pull 1 _ rfl
   obtain ⟨v9,w9,hr9,h9⟩:=St.tags_append 65 h8 (RowI.src HT3.out h8.imm (Zq322 ts) (by have:=HNN.out;omega)) (by have:=HNN.out;omega)
   rw [Nat.zero_add,Zl3] at h9
   obtain ⟨A9,c9,rfl⟩:=Zq17 h9.row_owns
   have HR9:=Zh hr9
   have H9a:=Zh h9
   clear h8 hr9 h9 H5
   go_wp2_with (at_builtin;refine Lib.wpList_append_run _ rfl (.tmp 41) (.tmp 42) 65 65 rfl _ _ rfl rfl _ _ HR9.out ?_)
   clear HR9
   refine Zq0 (Zq40 (H9a.out.pull 2 _ rfl)) ?_
   unfold wpTp
   (try simp only [pickL,Zl6,Zl7])
   obtain ⟨I1,s1,r1,h1⟩:=(H9a.out).freeze_row
   obtain ⟨I2,s2,r2,h2⟩:=Zq232 (h1)
   have H9:=Zh ((h2.drop.alloc (.cells (Zq433 (Zq218 c at' ts) ⟨.slice (some ⟨g5,0,none⟩) 1 1,.slice none 0 0,.slice A9 n c9,.slice none 0 0⟩) 162)).ents_nil.pull 1 _ rfl)
   have HI:=Zh (show rjI (Zq218 c at' ts) ⟨.slice (some ⟨g5,0,none⟩) 1 1,.slice none 0 0,.slice A9 n c9,.slice none 0 0⟩ I2 from ⟨r2,by rw [HNN.out] at r1;exact RowI.mono s2 (by rw [HNN.out];exact r1),Zq352 _ _⟩)
   have HSS:=Zh (s1.trans s2)
   clear r1 r2 h1 h2 s1 s2 H9a
   go_wp2_with fail
   refine NoPanic.normal ?_
   go_wp2_with fail
   go_ret
   exact .inr ⟨HG.out,I2,_,HSS.out,rfl,St.rj_shut HI.out H9.out⟩
  ·have h8:=H7.out
   obtain ⟨v9,w9,hr9,h9⟩:=St.tags_append 65 h8 (RowI.src HT3.out h8.imm (Zq322 ts) (by have:=HNN.out;omega)) (by have:=HNN.out;omega)
   rw [Nat.zero_add,Zl3] at h9
   obtain ⟨A9,c9,rfl⟩:=Zq17 h9.row_owns
   have HR9:=Zh hr9
   have H9b:=Zh h9
   clear h8 hr9 h9 H7
   go_wp2_with (at_builtin;refine Lib.wpList_append_run _ rfl (.tmp 41) (.tmp 42) 65 65 rfl _ _ rfl rfl _ _ HR9.out ?_)
   clear HR9
   refine Zq0 (Zq40 (H9b.out.pull 1 _ rfl)) ?_
   unfold wpTp
   (try simp only [pickL,Zl6,Zl7])
   have h5:=H9b.out.alloc (.cells #[.int .i64 (at'+1)] 159)
   obtain ⟨g5,hg5⟩:∃ g,g=w9.heap.size:=⟨_,rfl⟩
   obtain ⟨w5,hw5⟩:∃ x,x=w9.alloc (.cells #[.int .i64 (at'+1)] 159):=⟨_,rfl⟩
   rw [←hg5,←hw5] at h5
   have H5:=Zh h5
   clear h5 H9b
   go_wp2_with fail
   rw [←hg5,←hw5]
   clear hg5 hw5
   refine Zq0 (Zq40 (H5.out.pull 2 _ rfl)) ?_
   unfold wpTp
   (try simp only [pickL,Zl6,Zl7])
   obtain ⟨I1,s1,r1,h1⟩:=(H5.out.pull 1 _ rfl).freeze_row
   obtain ⟨I2,s2,r2,h2⟩:=Zq232 (h1)
   have H9:=Zh ((h2.drop.alloc (.cells (Zq433 (Zq218 c at' ts) ⟨.slice (some ⟨g5,0,none⟩) 1 1,.slice none 0 0,.slice A9 n c9,.slice none 0 0⟩) 162)).ents_nil.pull 1 _ rfl)
   have HI:=Zh (show rjI (Zq218 c at' ts) ⟨.slice (some ⟨g5,0,none⟩) 1 1,.slice none 0 0,.slice A9 n c9,.slice none 0 0⟩ I2 from ⟨r2,by rw [HNN.out] at r1;exact RowI.mono s2 (by rw [HNN.out];exact r1),Zq352 _ _⟩)
   have HSS:=Zh (s1.trans s2)
   clear r1 r2 h1 h2 s1 s2 H5
   go_wp2_with fail
   refine NoPanic.normal ?_
   go_wp2_with fail
   go_ret
   exact .inr ⟨HG.out,I2,_,HSS.out,rfl,St.rj_shut HI.out H9.out⟩
end
end Go.Proofs.YtpjchngjhijgmaaGreat
namespace Go.Proofs.YtpjchngjhijgmaaGreat
open Go.RowKit
theorem Zq755:Tryz.prog.underlying 212=some (.struct (Tryz.prog.fieldsOf 212)):=by kernel_rfl
theorem Zq756:Tryz.prog.stoodInHeld 212=false:=by kernel_rfl
theorem Zq757:Tryz.prog.eqGuardType Tryz.prog.depth 212=false:=by kernel_rfl
theorem Zq678:(Tryz.prog.fieldsOf 212).toList.map (fun f=>(f.name == "_",f.type,f.offset))=[(false,3,0),(false,3,1),(false,4,2)]:=by kernel_rfl
theorem Zq566 (op:BinOp) (x y:Operand) (xs ys:Array Value) (w:World):(eqGuard op 212 x y (.agg xs) (.agg ys)).run Tryz.prog w=.ok () w:=run_eqGuard_agg _ _ _ _ _ _ _ Zq757
set_option maxRecDepth 100000 in
theorem Zq758 (a0 a1:Int) (a2:Bool) (w:World):(Op.equalIn 10000 212 (.agg #[.int .i64 a0,.int .i64 a1,.bool a2]) (.agg #[.int .i64 a0,.int .i64 a1,.bool a2])).run Tryz.prog w=.ok true w:=by
 rw [run_equalIn_struct w 9999 _ _ _ Zq755 Zq756]
 obtain ⟨fs,hfs⟩:∃ fs,(Tryz.prog.fieldsOf 212).toList=fs:=⟨_,rfl⟩
 have h:=Zq678
 rw [hfs] at h ⊢
 match fs,h with
 | [f0,f1,f2],h =>
  simp only [List.map_cons,List.map_nil,List.cons.injEq,Prod.mk.injEq,beq_eq_false_iff_ne,and_true] at h
  obtain ⟨⟨n0,t0,o0⟩,⟨n1,t1,o1⟩,⟨n2,t2,o2⟩⟩:=h
  simp only [Op.eqFields,n0,n1,n2,t0,t1,t2,o0,o1,o2,ne_eq,not_false_eq_true,if_true]
  simp [go_sem]
section
variable {W w : World} {I : Hp} {l : List HP}
set_option maxRecDepth 4000
set_option maxHeartbeats 8000000
theorem Zq467 (A B:Option Addr) (ca cb:Nat) (cs:List Cl) (h:St W I w l) (hA:RowI I 3 (.slice A cs.length ca) cs.length (cs.flatMap Cl.vals)) (hB:RowI I 3 (.slice B cs.length cb) cs.length (cs.flatMap Cl.vals)) (hn:cs.length≤1000) :
  Calls Tryz.prog 100 #[.slice A cs.length ca,.slice B cs.length cb] w fun e w'=>e=.returned (.bool true)∧St W I w' l:=by
 have H:=Zh h
 have HA:=Zh hA
 have HB:=Zh hB
 have hn1:(cs.length:Int)≤1000:=by omega
 clear h hA hB
 go_enter Tryz.func100,Tryz.ntmps100
 go_wp2_with fail
 go_loopw [5] (fun a5 wr=>∃ (i:Nat),a5=.int .i64 i∧i≤cs.length∧St W I wr l) (fun a5 _=>cs.length - (intOf a5).toNat)
 case atStart=>exact ⟨0,rfl,Nat.zero_le _,H.out⟩
 case round =>
  obtain ⟨i,rfl,hi,h2⟩:=hrel
  have HBL:=Zh h2
  clear H
  by_cases hlt:i<cs.length
  ·have d0:decide ((i:Int)<(cs.length:Int))=true:=decide_eq_true (by omega)
   obtain ⟨e,he⟩:∃ e,cs[i]?=some e:=⟨_,List.getElem?_eq_getElem hlt⟩
   obtain ⟨b1,o1,e1,hc1⟩:=Zq115 (mk:=Cl.vals) (k:=3) (i:=i) (l:=cs) HA.out (Hp.sub.refl _) h2 (fun _=>rfl) he
   obtain ⟨b2,o2,e2,hc2⟩:=Zq115 (mk:=Cl.vals) (k:=3) (i:=i) (l:=cs) HB.out (Hp.sub.refl _) h2 (fun _=>rfl) he
   simp only [Value.slice.injEq] at e1 e2
   obtain ⟨rfl,hx1,hx2⟩:=e1
   obtain ⟨rfl,hx3,hx4⟩:=e2
   clear hx1 hx2 hx3 hx4
   have x0:wr.cell? ⟨b1,o1+i*3,none⟩=some (.int .i64 e.id):=hc1 0 (by omega)
   have x1:wr.cell? ⟨b1,o1+i*3+1,none⟩=some (.int .i64 e.pos):=hc1 1 (by omega)
   have x2:wr.cell? ⟨b1,o1+i*3+2,none⟩=some (.bool e.off):=hc1 2 (by omega)
   have y0:wr.cell? ⟨b2,o2+i*3,none⟩=some (.int .i64 e.id):=hc2 0 (by omega)
   have y1:wr.cell? ⟨b2,o2+i*3+1,none⟩=some (.int .i64 e.pos):=hc2 1 (by omega)
   have y2:wr.cell? ⟨b2,o2+i*3+2,none⟩=some (.bool e.off):=hc2 2 (by omega)
   have hg:=Zq566
   have hr:=Zq758
   clear hc1 hc2 he h2
   go_upto_region 6 with fail
   go_quiet (fail)
   have HB9:=Zh (HBL.out.drewN nq)
   go_wp2_with fail
   go_roundw
   case rel=>exact ⟨i+1,by go_num,by omega,HB9.out⟩
   case measure=>first|(simp [intOf];done)|(simp [intOf];omega)|fail
  ·obtain rfl:i=cs.length:=by omega
   have d0:decide (((cs.length:Nat):Int)<(cs.length:Int))=false:=decide_eq_false (by omega)
   clear h2
   go_wp2_with fail
   go_ret
   exact ⟨rfl,HBL.out⟩
end
end Go.Proofs.YtpjchngjhijgmaaGreat
namespace Go.Proofs.YtpjchngjhijgmaaGreat
open Go.RowKit
section
variable {W w : World} {I : Hp} {l : List HP}
set_option maxRecDepth 4000
set_option maxHeartbeats 8000000
theorem Zq424 (A B:Option Addr) (ca cb:Nat) (es:List En) (h:St W I w (Zq23 (.slice A es.length ca) es::Zq23 (.slice B es.length cb) es::l)) (hn:es.length≤1000000) :
  Calls Tryz.prog 31 #[.slice A es.length ca,.slice B es.length cb] w fun e w'=>e=.returned (.bool true)∧St W I w' (Zq23 (.slice A es.length ca) es::Zq23 (.slice B es.length cb) es::l):=by
 have H:=Zh h
 have hn1:(es.length:Int)≤1000000:=by omega
 clear h
 go_enter Tryz.func31,Tryz.ntmps31
 go_wp2_with fail
 go_loopw [5] (fun a5 wr=>∃ (i:Nat),a5=.int .i64 i∧i≤es.length∧St W I wr (Zq23 (.slice A es.length ca) es::Zq23 (.slice B es.length cb) es::l)) (fun a5 _=>es.length - (intOf a5).toNat)
 case atStart=>exact ⟨0,rfl,Nat.zero_le _,H.out⟩
 case round =>
  obtain ⟨i,rfl,hi,h2⟩:=hrel
  clear H
  by_cases hlt:i<es.length
  ·have d0:decide ((i:Int)<(es.length:Int))=true:=decide_eq_true (by omega)
   obtain ⟨e,he⟩:∃ e,es[i]?=some e:=⟨_,List.getElem?_eq_getElem hlt⟩
   obtain ⟨g1,q1,c1,v1,e1,hg1,hb1,hy1,x0,x1,x2⟩:=h2.ents_cell he
   obtain ⟨g2,q2,c2,v2,e2,hg2,hb2,hy2,y0,y1,y2⟩:=(h2.pull 1 _ rfl).ents_cell he
   simp only [Value.slice.injEq] at e1 e2
   obtain ⟨rfl,hx1,hx2⟩:=e1
   obtain ⟨rfl,hx3,hx4⟩:=e2
   clear hx1 hx2 hx3 hx4
   have H2:=Zh h2
   have HE:=Zh he
   have HB1:=Zh hb1
   have HB2:=Zh hb2
   have HMK:=Zh (show ∀ w',Below wr.heap.size wr w'→(w'.cell? ⟨g1,q1+i*3,none⟩=some (.int .i64 e.tag)∧w'.cell? ⟨g1,q1+i*3+1,none⟩=some (.int .i64 e.seq)∧w'.cell? ⟨g1,q1+i*3+2,none⟩=some v1∧w'.cell? ⟨g2,q2+i*3,none⟩=some (.int .i64 e.tag)∧w'.cell? ⟨g2,q2+i*3+1,none⟩=some (.int .i64 e.seq)∧w'.cell? ⟨g2,q2+i*3+2,none⟩=some v2∧(convert 46 9 v1).run Tryz.prog w'=.ok (.string (strOfNums e.data)) w'∧(convert 46 9 v2).run Tryz.prog w'=.ok (.string (strOfNums e.data)) w') from fun w' hb=>by
    have hc:∀ g o,g<wr.heap.size→w'.cell? ⟨g,o,none⟩=wr.cell? ⟨g,o,none⟩:=fun g o hg=>hb.cell (p:=⟨g,o,none⟩) hg
    have h3:=H2.out.keep hb
    rw [hc _ _ hg1,hc _ _ hg1,hc _ _ hg1,hc _ _ hg2,hc _ _ hg2,hc _ _ hg2]
    exact ⟨x0,x1,x2,y0,y1,y2,Zq156 (Zq29 h3 HB1.out),Zq156 (Zq29 h3 HB2.out)⟩)
   obtain ⟨A1,k1,rfl⟩:=hb1.isSl
   obtain ⟨A2,k2,rfl⟩:=hb2.isSl
   obtain ⟨w2,hw2⟩:∃ x,x=wr:=⟨_,rfl⟩
   rw [←hw2] at H2 HMK ⊢
   clear h2 he hb1 hb2 hy1 hy2 hg1 hg2 x0 x1 x2 y0 y1 y2 hw2
   go_upto_region 6 with fail
   refine Zq42 (fun w'=>w'.cell? ⟨g1,q1+i*3,none⟩=some (.int .i64 e.tag)∧w'.cell? ⟨g1,q1+i*3+1,none⟩=some (.int .i64 e.seq)∧w'.cell? ⟨g1,q1+i*3+2,none⟩=some (.slice A1 e.data.length k1)∧w'.cell? ⟨g2,q2+i*3,none⟩=some (.int .i64 e.tag)∧w'.cell? ⟨g2,q2+i*3+1,none⟩=some (.int .i64 e.seq)∧w'.cell? ⟨g2,q2+i*3+2,none⟩=some (.slice A2 e.data.length k2)∧(convert 46 9 (.slice A1 e.data.length k1)).run Tryz.prog w'=.ok (.string (strOfNums e.data)) w'∧(convert 46 9 (.slice A2 e.data.length k2)).run Tryz.prog w'=.ok (.string (strOfNums e.data)) w') [(0,false),(1,false),(2,false),(3,false),(4,false),(5,false),(6,false),(7,false),(8,false),(9,false),(10,false),(11,false),(12,false),(13,false),(14,false),(15,false),(16,false),(17,false),(18,false),(19,false),(20,false),(21,false),(22,false),(23,false),(24,false),(25,false),(26,false),(27,false),(28,false),(29,false),(30,false),(31,false),(32,false),(33,false),(34,false),(35,false),(36,false),(37,false),(38,false)] [] [] (by kernel_rfl) (by kernel_rfl) (by (intro w' hb;exact HMK.out _ (((Below.refl _ _).drew).trans hb))) ?_
   repeat (first|(refine Zq60 (by rfl) _ (by rfl) (by intro w;go_simp;try with_reducible rfl) ?_;(try simp only [Act.put,List.setIfInBounds_toArray,Zl4,Zl5]))|(refine Zq146 (by rfl) _ (by rfl) (by (intro w hSw;(try dsimp only at hSw);go_simp;try with_reducible rfl)) ?_;(try simp only [Act.put,List.setIfInBounds_toArray,Zl4,Zl5]))|(refine Zq79 (by rfl) (by rfl) ?_;(try simp only [Act.put,List.setIfInBounds_toArray,Zl4,Zl5]))|fail)
   refine Zq345 ?_
   refine Zq547 ?_
   rintro w9 hz9
   have H9:=Zh (H2.out.drew.keep hz9.below)
   clear hz9 H2 HMK HB1 HB2
   go_wp2_with fail
   refine NoPanic.normal ?_
   go_wp2_with fail
   go_roundw
   case rel=>exact ⟨i+1,by go_num,by omega,H9.out⟩
   case measure=>first|(simp [intOf];done)|(simp [intOf];omega)|fail
  ·obtain rfl:i=es.length:=by omega
   have d0:decide (((es.length:Nat):Int)<(es.length:Int))=false:=decide_eq_false (by omega)
   have H2:=Zh h2
   clear h2
   go_wp2_with fail
   go_ret
   exact ⟨rfl,H2.out⟩
end
end Go.Proofs.YtpjchngjhijgmaaGreat
namespace Go.Proofs.YtpjchngjhijgmaaGreat
open Go.RowKit
set_option maxHeartbeats 1000000 in
theorem Zq468 (A B:Option Addr) (n c m d:Nat) (l r:List Tag) (w:World) (hl:TagsAt w A n l) (hr:TagsAt w B m r) (hn:n≤1000000) (hm:m≤1000000) :
  Calls Tryz.prog 99 #[.slice A n c,.slice B m d] w fun e w'=>e=.returned (.bool (sameB l r))∧Below w.heap.size w w':=by
 by_cases hnm:n=m
 ·subst hnm
  go_enter Tryz.func99,Tryz.ntmps99
  go_wp2
  go_loopw [5] (fun v5 wr=>∃ k:Nat,k≤n∧v5=.int .i64 k∧sameB (l.take k) (r.take k)=true∧Below w.heap.size w wr) (fun v5 _=>n - (intOf v5).toNat)
  case atStart=>exact ⟨0,Nat.zero_le _,rfl,rfl,Below.refl _ _⟩
  case round =>
   obtain ⟨k,hk,rfl,hs,hb⟩:=hrel
   have HS:=Zh hs
   clear hs
   by_cases hlt:k<n
   ·obtain ⟨b,off,x,rfl,hB,hx,c0,c1,c2,c3⟩:=hl.at_ hlt
    obtain ⟨b',off',y,rfl,hB',hy,d0,d1,d2,d3⟩:=hr.at_ hlt
    have hcell:∀ o,wr.cell? ⟨b,o,none⟩=w.cell? ⟨b,o,none⟩:=fun o=>hb.cell (p:=⟨b,o,none⟩) hB
    have hcell':∀ o,wr.cell? ⟨b',o,none⟩=w.cell? ⟨b',o,none⟩:=fun o=>hb.cell (p:=⟨b',o,none⟩) hB'
    rw [←hcell] at c0 c1 c2 c3
    rw [←hcell'] at d0 d1 d2 d3
    have HX:=Zh hx
    have HY:=Zh hy
    clear hx hy hcell hcell'
    have hk0:(0:Int)≤k:=by omega
    have hk1:(k:Int)<n:=by omega
    have heq:=Zq793 x y
    have hgd:=Zq525
    go_wp2
    go_quiet (fail)
    go_wp2
    ·go_ret
     exact ⟨ret_bool (Zq791 HX.out HY.out ((Bool.not_eq_true' _).mp ‹_›)).symm,below_drewN hb _⟩
    ·go_roundw
     case rel=>exact ⟨k+1,by omega,by go_num,Zq577 HX.out HY.out HS.out ((Bool.not_eq_false' _).mp ‹_›),below_drewN hb _⟩
     case measure=>simp [intOf];omega
   ·go_wp2
    go_ret
    exact ⟨ret_bool (Zq522 hl.1 hr.1 hk hlt HS.out).symm,hb⟩
 ·have hf:sameB l r=false:=Zq474 l r (by rw [hl.1,hr.1];exact hnm)
  rw [hf]
  go_enter Tryz.func99,Tryz.ntmps99
  go_wp2
  go_ret
  exact ⟨rfl,Below.refl _ _⟩
end Go.Proofs.YtpjchngjhijgmaaGreat
