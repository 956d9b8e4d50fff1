import Derived.Test.YtpjchngjhijgmaaGreatJM44
import Derived.Test.YtpjchngjhijgmaaGreatJM45
set_option linter.all false
namespace Go.Proofs.YtpjchngjhijgmaaGreat
open Go.RowKit
theorem Zq760:Tryz.prog.underlying 26=some (.struct (Tryz.prog.fieldsOf 26)):=by kernel_rfl
theorem Zq761:Tryz.prog.stoodInHeld 26=false:=by kernel_rfl
theorem Zq762:Tryz.prog.eqGuardType Tryz.prog.depth 26=false:=by kernel_rfl
theorem Zq682:(Tryz.prog.fieldsOf 26).toList.map (fun f=>(f.name == "_",f.type,f.offset))=[(false,3,0),(false,3,1),(false,3,2)]:=by kernel_rfl
theorem Zq568 (op:BinOp) (x y:Operand) (xs ys:Array Value) (w:World):(eqGuard op 26 x y (.agg xs) (.agg ys)).run Tryz.prog w=.ok () w:=run_eqGuard_agg _ _ _ _ _ _ _ Zq762
set_option maxRecDepth 100000 in
theorem Zq763 (a0 a1 a2:Int) (w:World):(Op.equalIn 10000 26 (.agg #[.int .i64 a0,.int .i64 a1,.int .i64 a2]) (.agg #[.int .i64 a0,.int .i64 a1,.int .i64 a2])).run Tryz.prog w=.ok true w:=by
 rw [run_equalIn_struct w 9999 _ _ _ Zq760 Zq761]
 obtain ⟨fs,hfs⟩:∃ fs,(Tryz.prog.fieldsOf 26).toList=fs:=⟨_,rfl⟩
 have h:=Zq682
 rw [hfs] at h ⊢
 match fs,h with
 | [f0,f1,f2],h =>
  simp only [List.map_cons,List.map_nil,List.cons.injEq,Prod.mk.injEq,beq_eq_false_iff_ne,and_true] at h
  obtain ⟨⟨n0,t0,o0⟩,⟨n1,t1,o1⟩,⟨n2,t2,o2⟩⟩:=h
  simp only [Op.eqFields,n0,n1,n2,t0,t1,t2,o0,o1,o2,ne_eq,not_false_eq_true,if_true]
  simp [go_sem]
theorem Zq683 (l:List Tag):sameB l l=true:=by
 induction l with
 | nil=>rfl
 | cons a l ih=>simp [sameB,ih,Tag.same]
structure Sim16 (J:Jn) (R:RJ):Prop where
 first:R.sets[0]?=some J.r.first
 sets:(R.sets.length:Int)=setsJ J
 c:R.c=J.r.shape
 en:R.en=endJ J
 safe:R.safe=J.safe
 chain:R.chain=J.r.tags
 cls:R.cls=J.r.cls
 l:R.l=J.l
theorem Zq569 {S:Str} {J:Jn} (h:JOK S J) (hl:J.l.length≤100000):readJ S J (J.r.first - 1) 1073741824=(J.l,0):=by
 have hw:Zq432 S J (J.r.first - 1) 1073741824=0:=by
  have:=h.ok.first
  unfold Zq432
  rw [if_neg (by simp [h.may]),if_neg (by unfold endJ;omega),if_neg (by omega)]
 unfold readJ readL
 rw [hw,if_pos rfl,show (J.r.first - 1 - J.r.first+1).toNat=0 by omega,List.drop_zero,List.take_of_length_le (by show J.l.length≤1073741824;omega)]
section
variable {W w : World} {I : Hp} {l : List HP} {p q q2 : Nat} {S : Str} {J : Jn} {R : RJ}
set_option maxRecDepth 4000
set_option maxHeartbeats 8000000
theorem Zq570 (h:St W I w (Zq10 p S::jnHP q p J::rjHP q2 R::l)) (hj:JOK S J) (hs:Sim16 J R) (hl:J.l.length≤1000) (ht:J.r.tags.length≤1000) (hc:J.r.cls.length≤1000) :
  Calls Tryz.prog 37 #[.pointer (some ⟨q,0,none⟩),.pointer (some ⟨q2,0,none⟩)] w fun e w'=>∃ I',I.sub I'∧e=.returned (.bool true)∧St W I' w' (Zq10 p S::jnHP q p J::rjHP q2 R::l):=by
 obtain ⟨f0,f1,f2,f3,f4,f5,f6,f7⟩:=hs
 obtain ⟨c,sets,fill,rl,en,sf,ch,cl⟩:=R
 simp only at f0 f1 f2 f3 f4 f5 f6 f7
 subst f2 f3 f4 f5 f6 f7
 have HFI:=Zh (fun (I1:Hp) (w1:World) (L:List HP) (h1:St W I1 w1 (Zq10 p S::jnHP q p J::L))=>Zq304 (h1.pull 1 _ rfl) hj.jb)
 have HEN:=Zh (fun (I1:Hp) (w1:World) (L:List HP) (h1:St W I1 w1 (Zq10 p S::jnHP q p J::L))=>Zq148 (h1.pull 1 _ rfl) hj.jb)
 have HSA:=Zh (fun (I1:Hp) (w1:World) (L:List HP) (h1:St W I1 w1 (Zq10 p S::jnHP q p J::L))=>Zq393 (h1.pull 1 _ rfl) hj.jb)
 have HSE:=Zh (fun (I1:Hp) (w1:World) (L:List HP) (h1:St W I1 w1 (Zq10 p S::jnHP q p J::L))=>Zq394 (h1.pull 1 _ rfl) hj.jb)
 have HSH:=Zh (fun (I1:Hp) (w1:World) (L:List HP) (h1:St W I1 w1 (Zq10 p S::jnHP q p J::L))=>Zq549 (h1.pull 1 _ rfl))
 have hb:=hj.ok.first
 have hrd:=fun (I1:Hp) (w1:World) (L:List HP) (h1:St W I1 w1 (Zq10 p S::jnHP q p J::L))=>Zq667 (J.r.first - 1) 1073741824 h1 hj.jb (by omega) hj.okB
 rw [Zq569 hj (by omega),hj.may2] at hrd
 have HRD:=Zh hrd
 obtain ⟨V,hr,h1⟩:=(h.pull 2 _ rfl).rj_open
 obtain ⟨vs,vl,vt,vc⟩:=V
 obtain ⟨As,cs,e2,_⟩:=id hr.1
 obtain ⟨At,ct,e3,_⟩:=id hr.2.1
 obtain ⟨Ac,cc,e4,_⟩:=id hr.2.2
 obtain ⟨Al,kl,e5,_⟩:=(h1.pull 1 _ rfl).ents_slice
 simp only at e2 e3 e4 e5
 subst e2 e3 e4 e5
 have HR:=Zh hr
 have HJ:=Zh hj
 have HF0:=Zh f0
 have H0:=Zh (h1.pull 3 _ rfl |>.pull 3 _ rfl)
 obtain ⟨fs,hfs⟩:∃ x,x=J.r.first:=⟨_,rfl⟩
 obtain ⟨en,hen⟩:∃ x,x=endJ J:=⟨_,rfl⟩
 obtain ⟨se,hse⟩:∃ x,x=setsJ J:=⟨_,rfl⟩
 rw [←hse] at f1 HSE
 rw [←hfs] at HFI HRD HF0 hb
 rw [←hen] at HEN
 have HENE:=Zh hen
 have hw1:IntKind.i64.wrap (fs - 1)=fs - 1:=by rw [IntKind.wrap_i64];omega
 have HT:=Zh ht
 have HC:=Zh hc
 have HL:=Zh hl
 have hg:=Zq568
 have hq:=Zq763
 obtain ⟨ns,hns⟩:∃ n,n=sets.length:=⟨_,rfl⟩
 clear h hj hl ht hc hr h1 f0 hrd hfs hse hb
 go_enter Tryz.func37,Tryz.ntmps37
 go_wp2_with fail
 refine (HFI.out _ _ _ H0.out).mono ?_
 rintro e w1 ⟨rfl,hb1⟩
 have H1:=Zh (H0.out.keep hb1)
 clear hb1 H0
 go_wp2_with fail
 refine (HRD.out _ _ _ H1.out).mono ?_
 rintro e w2 ⟨I2,v2,hs2,rfl,h2⟩
 obtain ⟨Av,cv,rfl,_⟩:=h2.ents_slice
 have H2:=Zh (h2.pull 1 _ rfl |>.pull 2 _ rfl |>.pull 1 _ rfl)
 have HS2:=Zh hs2
 have HR2:=Zh (HR.out.mono hs2)
 clear h2 hs2 H1 HRD HR
 have HMK:=Zh (show ∀ (I':Hp) (w':World) (L:List HP),St W I' w' (rjBlk q2 ⟨J.r.shape,sets,fill,J.l,endJ J,J.safe,J.r.tags,J.r.cls⟩ ⟨.slice As sets.length cs,.slice Al J.l.length kl,.slice At J.r.tags.length ct,.slice Ac J.r.cls.length cc⟩::L)→(w'.cell? ⟨q2,0,none⟩=some (.int .i64 J.r.shape.splay)∧w'.cell? ⟨q2,1,none⟩=some (.int .i64 J.r.shape.sets)∧w'.cell? ⟨q2,2,none⟩=some (.int .i64 J.r.shape.size)∧w'.cell? ⟨q2,3,none⟩=some (.slice As ns cs)∧w'.cell? ⟨q2,9,none⟩=some (.slice Al J.l.length kl)∧w'.cell? ⟨q2,10,none⟩=some (.int .i64 en)∧w'.cell? ⟨q2,11,none⟩=some (.int .i64 J.safe)∧w'.cell? ⟨q2,12,none⟩=some (.slice At J.r.tags.length ct)∧w'.cell? ⟨q2,13,none⟩=some (.slice Ac J.r.cls.length cc)) from fun I' w' L h'=>by
  obtain ⟨k0,k1,k2,k3,k9,k10,k11,k12,k13,_⟩:=Zq897 h'
  exact ⟨k0,k1,k2,by rw [hns];exact k3,k9,by rw [HENE.out];exact k10,k11,k12,k13⟩)
 rw [←hns] at f1
 subst f1
 go_upto_region 2 with fail
 simp only [List.append_eq,Zl2,Zl3]
 refine Zq179 (fun w'=>w'.cell? ⟨q2,0,none⟩=some (.int .i64 J.r.shape.splay)∧w'.cell? ⟨q2,1,none⟩=some (.int .i64 J.r.shape.sets)∧w'.cell? ⟨q2,2,none⟩=some (.int .i64 J.r.shape.size)∧w'.cell? ⟨q2,3,none⟩=some (.slice As ns cs)∧w'.cell? ⟨q2,9,none⟩=some (.slice Al J.l.length kl)∧w'.cell? ⟨q2,10,none⟩=some (.int .i64 en)∧w'.cell? ⟨q2,11,none⟩=some (.int .i64 J.safe)∧w'.cell? ⟨q2,12,none⟩=some (.slice At J.r.tags.length ct)∧w'.cell? ⟨q2,13,none⟩=some (.slice Ac J.r.cls.length cc)) [0,1,2,3,4,5,6,7,8,9,10,11,12,13,14,15,16,17,18,19,20,21,22,23,24,25,26,27,28,29,30,31,32,33,34,35,36,37,38,39,40,41,42,43,44,45,46,47,48,49,50,51,52,53,54,55,56,57,58,59,60,61,62,63,64,65,66,67,68,69,70,71] (Tp.pull [0,2] (Tp.one 1 (Tp.one 3 (Tp.pull [4,5,6,8,9,10,11] (Tp.one 7 (Tp.pull [12,13,14,15,17,18,19,20] (Tp.one 16 (Tp.pull [21,22,23,24,26,27,28,29,30] (Tp.one 25 (Tp.pull [31,32,33,34,36,37,38,39] (Tp.one 35 (Tp.pull [40,41,42,43,45,46,47,48] (Tp.one 44 (Tp.one 49 (Tp.pull [50,51,52,54,55,56,57] (Tp.one 53 (Tp.one 58 (Tp.pull [59,60,61,62,63,64,65,66,67,68,69] (Tp.one 70 (Tp.pull [71] Tp.leaf)))))))))))))))))))) [72] (by kernel_rfl) (by kernel_rfl) (by (exact HMK.out _ _ _ (H2.out.drew.pull 3 _ rfl))) ?_
 have H3:=Zh H2.out.drew
 obtain ⟨w3,hw3⟩:∃ x,x=w2.drew:=⟨_,rfl⟩
 rw [←hw3] at H3 ⊢
 clear hw3 H2
 unfold wpTp
 (try simp only [pickL,Zl6,Zl7])
 repeat (first|(refine Zq5 _ (Or.inl ⟨by rfl,by (intro w hSw;(try dsimp only at hSw);go_simp;try with_reducible rfl)⟩) ?_;(try simp only [Act.put,List.setIfInBounds_toArray,Zl4,Zl5]))|(refine Zq5 _ (Or.inr ⟨by rfl,rfl⟩) ?_;(try simp only [Act.put,List.setIfInBounds_toArray,Zl4,Zl5]))|fail)
 refine Zq9 ?_
 unfold wpTp
 (try simp only [pickL,Zl6,Zl7])
 go_wp2_with fail
 refine (HFI.out _ _ _ H3.out).mono ?_
 rintro e w4 ⟨rfl,hb4⟩
 have H4:=Zh (H3.out.keep hb4)
 clear hb4 H3 HFI
 go_wp2_with fail
 refine Zq0 (HMK.out _ _ _ (H4.out.pull 3 _ rfl)) ?_
 unfold wpTp
 (try simp only [pickL,Zl6,Zl7])
 have HRF:=Zh (Zq565 (H4.out.pull 3 _ rfl) HR2.out HF0.out)
 go_wp2_with fail
 refine HRF.out.mono ?_
 rintro e w5 ⟨rfl,rfl⟩
 clear HRF
 go_wp2_with fail
 refine Zq0 (HMK.out _ _ _ (H4.out.pull 3 _ rfl)) ?_
 unfold wpTp
 (try simp only [pickL,Zl6,Zl7])
 repeat (first|(refine Zq5 _ (Or.inl ⟨by rfl,by (intro w hSw;(try dsimp only at hSw);go_simp;try with_reducible rfl)⟩) ?_;(try simp only [Act.put,List.setIfInBounds_toArray,Zl4,Zl5]))|(refine Zq5 _ (Or.inr ⟨by rfl,rfl⟩) ?_;(try simp only [Act.put,List.setIfInBounds_toArray,Zl4,Zl5]))|fail)
 refine Zq9 ?_
 unfold wpTp
 (try simp only [pickL,Zl6,Zl7])
 go_wp2_with fail
 refine (HEN.out _ _ _ H4.out).mono ?_
 rintro e w5 ⟨rfl,hb5⟩
 have H5:=Zh (H4.out.keep hb5)
 clear hb5 H4 HEN
 go_wp2_with fail
 refine Zq0 (HMK.out _ _ _ (H5.out.pull 3 _ rfl)) ?_
 unfold wpTp
 (try simp only [pickL,Zl6,Zl7])
 repeat (first|(refine Zq5 _ (Or.inl ⟨by rfl,by (intro w hSw;(try dsimp only at hSw);go_simp;try with_reducible rfl)⟩) ?_;(try simp only [Act.put,List.setIfInBounds_toArray,Zl4,Zl5]))|(refine Zq5 _ (Or.inr ⟨by rfl,rfl⟩) ?_;(try simp only [Act.put,List.setIfInBounds_toArray,Zl4,Zl5]))|fail)
 refine Zq9 ?_
 unfold wpTp
 (try simp only [pickL,Zl6,Zl7])
 go_wp2_with fail
 refine (HSA.out _ _ _ H5.out).mono ?_
 rintro e w6 ⟨rfl,hb6⟩
 have H6:=Zh (H5.out.keep hb6)
 clear hb6 H5 HSA
 go_wp2_with fail
 refine Zq0 (HMK.out _ _ _ (H6.out.pull 3 _ rfl)) ?_
 unfold wpTp
 (try simp only [pickL,Zl6,Zl7])
 repeat (first|(refine Zq5 _ (Or.inl ⟨by rfl,by (intro w hSw;(try dsimp only at hSw);go_simp;try with_reducible rfl)⟩) ?_;(try simp only [Act.put,List.setIfInBounds_toArray,Zl4,Zl5]))|(refine Zq5 _ (Or.inr ⟨by rfl,rfl⟩) ?_;(try simp only [Act.put,List.setIfInBounds_toArray,Zl4,Zl5]))|fail)
 refine Zq9 ?_
 unfold wpTp
 (try simp only [pickL,Zl6,Zl7])
 go_wp2_with fail
 refine (HSE.out _ _ _ H6.out).mono ?_
 rintro e w7 ⟨rfl,hb7⟩
 have H7:=Zh (H6.out.keep hb7)
 clear hb7 H6 HSE
 go_wp2_with fail
 refine Zq0 (HMK.out _ _ _ (H7.out.pull 3 _ rfl)) ?_
 unfold wpTp
 (try simp only [pickL,Zl6,Zl7])
 repeat (first|(refine Zq5 _ (Or.inl ⟨by rfl,by (intro w hSw;(try dsimp only at hSw);go_simp;try with_reducible rfl)⟩) ?_;(try simp only [Act.put,List.setIfInBounds_toArray,Zl4,Zl5]))|(refine Zq5 _ (Or.inr ⟨by rfl,rfl⟩) ?_;(try simp only [Act.put,List.setIfInBounds_toArray,Zl4,Zl5]))|fail)
 refine Zq9 ?_
 unfold wpTp
 (try simp only [pickL,Zl6,Zl7])
 go_wp2_with fail
 refine (HSH.out _ _ _ H7.out).mono ?_
 rintro e w8 ⟨rfl,hb8⟩
 have H8:=Zh (H7.out.keep hb8)
 unfold Rg.val
 clear hb8 H7 HSH
 go_wp2_with fail
 refine Zq0 (HMK.out _ _ _ (H8.out.pull 3 _ rfl)) ?_
 unfold wpTp
 (try simp only [pickL,Zl6,Zl7])
 repeat (first|(refine Zq5 _ (Or.inl ⟨by rfl,by (intro w hSw;(try dsimp only at hSw);go_simp;try with_reducible rfl)⟩) ?_;(try simp only [Act.put,List.setIfInBounds_toArray,Zl4,Zl5]))|(refine Zq5 _ (Or.inr ⟨by rfl,rfl⟩) ?_;(try simp only [Act.put,List.setIfInBounds_toArray,Zl4,Zl5]))|fail)
 refine Zq9 ?_
 unfold wpTp
 (try simp only [pickL,Zl6,Zl7])
 go_wp2_with fail
 refine (Zq552 (H8.out.pull 1 _ rfl) (by have:=HT.out;omega)).mono ?_
 rintro e w9 ⟨I9,v9,hs9,rfl,hr9,h9⟩
 obtain ⟨A9,c9,rfl,_⟩:=id hr9
 have H9:=Zh (h9.pull 1 _ rfl)
 have HS9:=Zh hs9
 have HR9:=Zh (HR2.out.mono hs9)
 have HST:=Zh (show Calls Tryz.prog 99 #[.slice A9 J.r.tags.length c9,.slice At J.r.tags.length ct] w9 fun e w'=>e=.returned (.bool true)∧Below w9.heap.size w9 w' by
  obtain ⟨A',c',e',_,t1⟩:=Zq152 H9.out hr9
  obtain ⟨B',d',e'',_,t2⟩:=Zq152 H9.out (show RowI I9 4 (.slice At J.r.tags.length ct) J.r.tags.length (flat J.r.tags) from HR9.out.2.1)
  simp only [Value.slice.injEq] at e' e''
  obtain ⟨rfl,_,_⟩:=e'
  obtain ⟨rfl,_,_⟩:=e''
  have:=Zq468 A9 At J.r.tags.length c9 J.r.tags.length ct J.r.tags J.r.tags w9 t1 t2 (by have:=HT.out;omega) (by have:=HT.out;omega)
  rwa [Zq683] at this)
 clear h9 hs9 hr9 H8 HR2
 go_wp2_with fail
 refine Zq0 (HMK.out _ _ _ (H9.out.pull 3 _ rfl)) ?_
 unfold wpTp
 (try simp only [pickL,Zl6,Zl7])
 go_wp2_with fail
 refine HST.out.mono ?_
 rintro e w10 ⟨rfl,hb10⟩
 have H10:=Zh (H9.out.keep hb10)
 clear hb10 H9 HST
 go_wp2_with fail
 refine Zq0 (HMK.out _ _ _ (H10.out.pull 3 _ rfl)) ?_
 unfold wpTp
 (try simp only [pickL,Zl6,Zl7])
 repeat (first|(refine Zq5 _ (Or.inl ⟨by rfl,by (intro w hSw;(try dsimp only at hSw);go_simp;try with_reducible rfl)⟩) ?_;(try simp only [Act.put,List.setIfInBounds_toArray,Zl4,Zl5]))|(refine Zq5 _ (Or.inr ⟨by rfl,rfl⟩) ?_;(try simp only [Act.put,List.setIfInBounds_toArray,Zl4,Zl5]))|fail)
 refine Zq9 ?_
 unfold wpTp
 (try simp only [pickL,Zl6,Zl7])
 go_wp2_with fail
 refine (Zq396 (H10.out.pull 1 _ rfl) (by have:=HC.out;omega)).mono ?_
 rintro e w11 ⟨I11,v11,hs11,rfl,hr11,h11⟩
 obtain ⟨A11,c11,rfl,_⟩:=id hr11
 have H11:=Zh (h11.pull 1 _ rfl)
 have HS11:=Zh hs11
 have HR11:=Zh (HR9.out.mono hs11)
 have HSC:=Zh (Zq467 A11 Ac c11 cc J.r.cls H11.out hr11 (show RowI I11 3 (.slice Ac J.r.cls.length cc) J.r.cls.length (J.r.cls.flatMap Cl.vals) from HR11.out.2.2) HC.out)
 clear h11 hs11 hr11 H10 HR9
 go_wp2_with fail
 refine Zq0 (HMK.out _ _ _ (H11.out.pull 3 _ rfl)) ?_
 unfold wpTp
 (try simp only [pickL,Zl6,Zl7])
 go_wp2_with fail
 refine HSC.out.mono ?_
 rintro e w12 ⟨rfl,h12⟩
 have H12:=Zh h12
 have HSN:=Zh (Zq424 Av Al cv kl J.l (h12.pull 4 _ rfl |>.pull 3 _ rfl) (by have:=HL.out;omega))
 clear h12 H11 HSC
 go_wp2_with fail
 refine Zq0 (HMK.out _ _ _ (H12.out.pull 3 _ rfl)) ?_
 unfold wpTp
 (try simp only [pickL,Zl6,Zl7])
 repeat (first|(refine Zq5 _ (Or.inl ⟨by rfl,by (intro w hSw;(try dsimp only at hSw);go_simp;try with_reducible rfl)⟩) ?_;(try simp only [Act.put,List.setIfInBounds_toArray,Zl4,Zl5]))|(refine Zq5 _ (Or.inr ⟨by rfl,rfl⟩) ?_;(try simp only [Act.put,List.setIfInBounds_toArray,Zl4,Zl5]))|fail)
 refine Zq9 ?_
 unfold wpTp
 (try simp only [pickL,Zl6,Zl7])
 go_wp2_with fail
 refine HSN.out.mono ?_
 rintro e w13 ⟨rfl,h13⟩
 have H13:=Zh h13
 clear h13 HSN H12
 go_wp2_with fail
 refine Zq0 (HMK.out _ _ _ (H13.out.pull 4 _ rfl)) ?_
 unfold wpTp
 (try simp only [pickL,Zl6,Zl7])
 repeat (first|(refine Zq5 _ (Or.inl ⟨by rfl,by (intro w hSw;(try dsimp only at hSw);go_simp;try with_reducible rfl)⟩) ?_;(try simp only [Act.put,List.setIfInBounds_toArray,Zl4,Zl5]))|(refine Zq5 _ (Or.inr ⟨by rfl,rfl⟩) ?_;(try simp only [Act.put,List.setIfInBounds_toArray,Zl4,Zl5]))|fail)
 refine Zq9 ?_
 unfold wpTp
 (try simp only [pickL,Zl6,Zl7])
 go_wp2_with fail
 refine NoPanic.normal ?_
 go_wp2_with fail
 go_ret
 exact ⟨I11,HS2.out.trans (HS9.out.trans HS11.out),rfl,(St.rj_shut HR11.out (H13.out.drop.pull 3 _ rfl)).pull 2 _ rfl |>.pull 2 _ rfl⟩
end
end Go.Proofs.YtpjchngjhijgmaaGreat
namespace Go.Proofs.YtpjchngjhijgmaaGreat
open Go.RowKit
section
variable {S : Str}
theorem Zq319 (h:S.on=false) (k:K4):whyS S k=7:=by unfold whyS mayS;rw [h];simp
theorem Zq684 (h:S.on=false) (k:K4):makeS S k=(7,S):=by unfold makeS;rw [Zq319 h,if_neg (by decide),if_pos (by decide)]
theorem Zq356 (h:S.on=false):Zq51 S=(7,S):=by
 unfold Zq51 Zq21
 rw [if_neg (by simp [h])]
 show Zq14 S=_
 unfold Zq14
 rw [if_pos h]
theorem Zq469 (h:S.on=false):(attrS S kJ nmJ).2=7:=by unfold attrS;rw [if_neg (by rw [Zq319 h];decide),Zq319 h]
theorem Zq829 (h:S.on=false) (r:Rc):(saveJ S r).1=7:=by
 unfold saveJ
 rw [if_neg (fun e=>by have:=Zq469 h;rw [e] at this;cases this)]
 have e:setS S kJ nmJ (recB r)=(7,S):=by rw [Zq620 (by rw [Zq319 h];decide),Zq319 h]
 rw [e]
 rfl
theorem Zq830 (h:S.on=false):wipeJ S=(7,S):=by unfold wipeJ;rw [if_pos h]
theorem Zq764 (h:S.on=false) (c:Rg) (at':Int) (ts:List Tag) (b:Bool):makeJ S c at' ts b=(7,S):=by unfold makeJ;rw [if_pos h]
end
theorem LiveJ.none4 {S:Str} (h:LiveJ UJn S) (hn:get kJ S.seen=none):(attrS S kJ nmJ).2=4:=by
 have hw:whyS S kJ=4:=by rw [h.why kJ_ok,hn];rfl
 unfold attrS
 rw [if_neg (by rw [hw];decide),hw]
theorem LiveJ.norec {S:Str} (h:LiveJ UJn S) (hn:get kJ S.seen=none):JRec S none:=by show (attrS S kJ nmJ).2≠0;rw [h.none4 hn];decide
theorem Zq831 {S:Str} {m:Nat} (h:LiveJ UJn S) (ha:S.armed=false) (hk:Keeps S (m+70)) :
  (whyS S kJ=0→(dropS S kJ).1=0→(Zq14 (dropS S kJ).2).1=0→Keeps (Zq14 (dropS S kJ).2).2 (m+2*(Zq21 (Zq14 (dropS S kJ).2).2 ⟨2,0⟩).length)∧(Zq18 (Zq14 (dropS S kJ).2).2 ⟨2,0⟩).length≤1000000) ∧
  (whyS S kJ≠0→Keeps S (m+2*(Zq21 S ⟨2,0⟩).length)∧(Zq18 S ⟨2,0⟩).length≤1000000)∧Keeps (wipeJ S).2 m:=by
 have hk1:Keeps (Zq14 (dropS S kJ).2).2 (m+68):=Zq76 (Zq108 hk)
 have hto:=h.told
 have key:whyS S kJ=0→(Zq21 (Zq14 (dropS S kJ).2).2 ⟨2,0⟩).length≤32∧(Zq18 (Zq14 (dropS S kJ).2).2 ⟨2,0⟩).length≤32:=fun hw=>by
  have hs:(get kJ S.seen).isSome=true:=by
   cases hg:get kJ S.seen with
   | none=>rw [h.why kJ_ok,hg] at hw;cases hw
   | some t=>rfl
  have hd:=h.drop kJ_ok hs
  rw [hd]
  have hb:(Zq32 S).1=false:=by simp [Zq32,ha]
  have e0:(stepE S (.deed kJ goneD)).1=0:=Zq118 _ h.on h.inv.coh hb
  obtain ⟨h1,_⟩:=Zq313 h Zq69 Zq418 (.inr (.inl rfl)) e0
  have ha1:=(Zq129 (.deed kJ goneD) ha h.on).1
  have hb1:(Zq32 (stepE S (.deed kJ goneD)).2).1=false:=by simp [Zq32,ha1]
  have e1:(stepE (stepE S (.deed kJ goneD)).2 .bar).1=0:=Zq118 _ h1.on h1.inv.coh hb1
  obtain ⟨h3,_⟩:=Zq242 h1 Zq69 (s:=.bar) trivial e1
  exact ⟨LiveJ.told h3,h3.inv.keyCount⟩
 refine ⟨fun hw _ _=>?_,fun _=>⟨hk.fewer (by omega),by have:=h.inv.keyCount;omega⟩,?_⟩
 ·obtain ⟨k1,k2⟩:=key hw
  exact ⟨hk1.fewer (by omega),by omega⟩
 ·unfold wipeJ
  split
  ·exact hk.fewer (by omega)
  ·split
   ·rename_i hw
    split
    ·exact (Zq108 (m:=m+68) hk).fewer (by omega)
    ·split
     ·exact hk1.fewer (by omega)
     ·have:=(key hw).1
      exact Zq110 (hk1.fewer (by omega))
   ·exact Zq110 (hk.fewer (by omega))
theorem Zq765 {c:Rg} {at':Int} {ts:List Tag} (hg:goodM c at' ts=true):Sim16 (Zq66 (Zq107 c at' ts)) (Zq218 c at' ts):=by
 have hct:Zq36 ts (at'+1 - 1)=ts:=by
  rw [show at'+1 - 1=at' by omega]
  unfold goodM at hg
  simp only [Bool.and_eq_true,decide_eq_true_eq] at hg
  have hp:Zq36 ts at'<+:ts:=List.takeWhile_prefix _
  have:=hp.length_le
  exact hp.eq_of_length (by omega)
 have he:endJ (Zq107 c at' ts)=at'+1 - 1:=by unfold endJ Zq107 newR;simp
 refine ⟨rfl,?_,rfl,?_,?_,?_,rfl,rfl⟩
 ·show ((1:Nat):Int)=0 - 0+1
  rfl
 ·show at'=endJ (Zq107 c at' ts)
  rw [he];omega
 ·show at'=endJ (Zq107 c at' ts)
  rw [he];omega
 ·show ts=Zq36 ts (endJ (Zq107 c at' ts))
  rw [he,hct]
section
variable {W w : World} {I : Hp} {l : List HP} {p : Nat} {S : Str}
theorem Zq234 {m:Nat} (h:St W I w (Zq10 p S::l)) (hl:LiveJ UJn S) (ha:S.armed=false) (hk:Keeps S (m+70)) :
  Calls Tryz.prog 35 #[.pointer (some ⟨p,0,none⟩)] w fun e w'=>∃ I' S',I.sub I'∧e=.returned (.int .i64 0)∧St W I' w' (Zq10 p S'::l)∧LiveJ UJn S'∧S'.armed=false∧get kJ S'.seen=none∧Keeps S' m:=by
 obtain ⟨p1,p2,p3⟩:=Zq831 (m:=m) hl ha hk
 obtain ⟨a,b,c,d⟩:=Zq753 hl ha
 have hs:=Zq416 (m:=m) h (hk.fewer (by omega)) p1 p2
 rw [a] at hs
 exact hs.mono fun e w' ⟨I',h1,h2,h3⟩=>⟨I',_,h1,h2,h3,b,c,d,p3⟩
theorem Zq320 (c:Rg) (at':Int) (vt:Value) (ts:List Tag) {m:Nat} (h:St W I w (Zq10 p S::l)) (ht:RowI I 4 vt ts.length (flat ts)) (htn:ts.length≤1000000) (hl:LiveJ UJn S) (ha:S.armed=false) (hn:get kJ S.seen=none) (hk:Keeps S (m+80)) (hg:goodM c at' ts=true) :
  Calls Tryz.prog 34 #[.pointer (some ⟨p,0,none⟩),c.val,.int .i64 at',vt] w fun e w'=>∃ I' S',I.sub I'∧e=.returned (.int .i64 0)∧St W I' w' (Zq10 p S'::l)∧JOK S' (Zq107 c at' ts)∧S'.armed=false∧Keeps S' m:=by
 obtain ⟨p1,p2,p3,p4,p5,p6⟩:=Zq466 (c:=c) (at':=at') (ts:=ts) hl ha hn hg
 have hto:=hl.told
 have hs:=Zq128 (m:=m) c at' vt ts none none h ht htn (hk.fewer (by omega)) (by have:=hl.inv.keyCount;omega) p1 (fun _ _=>⟨p2,p3,p4⟩)
 have hk2:=Zq315 (c:=c) (at':=at') (ts:=ts) (b:=false) (m:=m) (hk.fewer (show m+4+2*(Zq21 S ⟨2,0⟩).length≤m+80 by omega))
 rw [show (none:Option Rc).isSome=false from rfl,p5] at hs
 exact hs.mono fun e w' ⟨I',h1,h2,h3⟩=>⟨I',_,h1,h2,h3,Zq673 hl hg hn p5,p6,hk2⟩
theorem Zq685 (c:Rg) (at':Int) (vt:Value) (ts:List Tag) (h:St W I w (Zq10 p S::l)) (ht:RowI I 4 vt ts.length (flat ts)) (htn:ts.length≤1000000) (hl:LiveJ UJn S) (hn:get kJ S.seen=none) (hk:Keeps S 80) (hg:goodM c at' ts=false) :
  Calls Tryz.prog 34 #[.pointer (some ⟨p,0,none⟩),c.val,.int .i64 at',vt] w fun e w'=>∃ I',I.sub I'∧e=.returned (.int .i64 1)∧St W I' w' (Zq10 p S::l):=by
 have hto:=hl.told
 have hs:=Zq128 (m:=0) c at' vt ts none none h ht htn (hk.fewer (by omega)) (by have:=hl.inv.keyCount;omega) (hl.norec hn) (fun hg'=>by rw [hg] at hg';cases hg')
 rw [show (none:Option Rc).isSome=false from rfl,show makeJ S c at' ts false=(1,S) by unfold makeJ;rw [if_neg (by simp [hl.on]),if_pos hg]] at hs
 exact hs
theorem Zq470 (c:Rg) (at':Int) (vt:Value) (ts:List Tag) {r:Rc} (h:St W I w (Zq10 p S::l)) (ht:RowI I 4 vt ts.length (flat ts)) (htn:ts.length≤1000000) (hl:LiveJ UJn S) (hj:JRec S (some r)) (hk:Keeps S 80) (hg:goodM c at' ts=true) :
  Calls Tryz.prog 34 #[.pointer (some ⟨p,0,none⟩),c.val,.int .i64 at',vt] w fun e w'=>∃ I',I.sub I'∧e=.returned (.int .i64 5)∧St W I' w' (Zq10 p S::l):=by
 have hto:=hl.told
 have hs:=Zq128 (m:=0) c at' vt ts (some r) none h ht htn (hk.fewer (by omega)) (by have:=hl.inv.keyCount;omega) hj (fun _ e=>by cases e)
 rw [show (some r).isSome=true from rfl,show makeJ S c at' ts true=(5,S) by unfold makeJ;rw [if_neg (by simp [hl.on]),if_neg (by rw [hg];simp),if_pos rfl]] at hs
 exact hs
theorem Zq686 (c:Rg) (at':Int) (vt:Value) (ts:List Tag) (h:St W I w (Zq10 p S::l)) (ht:RowI I 4 vt ts.length (flat ts)) (htn:ts.length≤1000000) (ho:S.on=false) (hk:Keeps S 80) :
  Calls Tryz.prog 34 #[.pointer (some ⟨p,0,none⟩),c.val,.int .i64 at',vt] w fun e w'=>∃ I',I.sub I'∧e=.returned (.int .i64 7)∧St W I' w' (Zq10 p S::l):=by
 have hto:(Zq21 S ⟨2,0⟩).length=0:=by unfold Zq21;rw [if_neg (by simp [ho])];rfl
 have hs:=Zq128 (m:=0) c at' vt ts none none h ht htn (hk.fewer (by omega)) (by have:=hk.inv.many ⟨2,0⟩;omega) (by show (attrS S kJ nmJ).2≠0;rw [Zq469 ho];decide) (fun _ _=>⟨(by rw [Zq356 ho];intro e;cases e),(by rw [Zq356 ho,Zq684 ho];show (attrS S kJ nmJ).2≠0;rw [Zq469 ho];decide),(by rw [Zq356 ho,Zq684 ho,Zq829 ho];decide)⟩)
 rw [Zq764 ho] at hs
 exact hs
theorem Zq687 (h:St W I w (Zq10 p S::l)) (ho:S.on=false) (hk:Keeps S 80) :
  Calls Tryz.prog 35 #[.pointer (some ⟨p,0,none⟩)] w fun e w'=>∃ I',I.sub I'∧e=.returned (.int .i64 7)∧St W I' w' (Zq10 p S::l):=by
 have hto:(Zq21 S ⟨2,0⟩).length=0:=by unfold Zq21;rw [if_neg (by simp [ho])];rfl
 have hs:=Zq416 (m:=0) h (hk.fewer (by omega)) (fun e=>by rw [Zq319 ho] at e;cases e) (fun _=>⟨hk.fewer (by omega),by have:=hk.inv.many ⟨2,0⟩;omega⟩)
 rw [Zq830 ho] at hs
 exact hs
end
end Go.Proofs.YtpjchngjhijgmaaGreat
