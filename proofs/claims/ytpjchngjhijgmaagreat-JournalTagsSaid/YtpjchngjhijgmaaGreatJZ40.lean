import Derived.Test.YtpjchngjhijgmaaGreatJZ39
set_option linter.all false
namespace Go.Proofs.YtpjchngjhijgmaaGreat
open Go.RowKit
section
set_option maxRecDepth 4000
set_option maxHeartbeats 8000000
theorem Zq308 {W w:World} {I:Hp} {l:List HP} {g:Nat} {x:Int} {f:Nat × Nat} (h:St W I w (HP.pt g (.cells #[.int .u8 x] 5 f)::l)):∃ I',I.sub I'∧BytesI I' (.slice (some ⟨g,0,none⟩) 1 1) [x]∧St W I' w l:=by
 obtain ⟨I',hs,hI,h2⟩:=h.freeze
 exact ⟨I',hs,⟨some ⟨g,0,none⟩,1,rfl,rfl,Nat.le_refl _,by unfold maxLen;omega,(fun e=>by cases e),fun _=>⟨g,0,_,_,_,rfl,hI,fun i x hx=>by simpa [byteV] using hx⟩⟩,h2⟩
theorem Zq64 (w:World):Calls Tryz.prog 13 #[] w fun e w'=>e=.returned (.bool true)∧Below w.heap.size w w':=by
 go_enter Tryz.func13,Tryz.ntmps13
 go_wp2_with fail
 refine (Zq635 10000 (St.init w)).mono ?_
 rintro e w1 ⟨p,rfl,h1⟩
 have hjr:JRec (newS 10000) none:=by show (attrS (newS 10000) kJ nmJ).2≠0;rw [Zq704];decide
 have ho:=Zq693 h1 rfl (Zq270 10000).inv hjr
 rw [Zq704] at ho
 have HO:=Zh ho
 clear h1 ho
 go_wp2_with fail
 refine HO.out.mono ?_
 rintro e w2 ⟨rfl,h2⟩
 have HT:=Zh (Zq240 h2)
 clear h2 HO
 go_wp2_with fail
 refine HT.out.mono ?_
 rintro e w3 ⟨I3,g3,hs3,rfl,hr3,h3⟩
 have hm:=Zq451 (m:=99990) ⟨0,0,0⟩ 0 _ [tag1] none none h3 hr3 (by decide) ((Zq270 10000).fewer (by show 99990+4+2*0≤_;omega)) (by show 0≤_;omega) hjr (fun _=>by rw [Zq898];decide) (by show (attrS _ kJ nmJ).2≠0;rw [Zq781];decide) (by rw [Zq899];decide)
 rw [show (none:Option Rc).isSome=false from rfl,Zq855] at hm
 simp only [Rg.val] at hm
 have HM:=Zh hm
 have HS3:=Zh hs3
 clear h3 hm hs3 hr3 HT hjr
 go_wp2_with fail
 refine HM.out.mono ?_
 rintro e w4 ⟨I4,hs4,rfl,h4⟩
 have HT:=Zh (Zq240 h4)
 have HS4:=Zh (HS3.out.trans hs4)
 clear h4 hs4 HM
 go_wp2_with fail
 refine HT.out.mono ?_
 rintro e w5 ⟨I5,g5,hs5,rfl,hr5,h5⟩
 have hop:=Zq351 ⟨1,4,512⟩ 5 _ [tag1] h5 hr5 (by decide) Zq900
 simp only [Rg.val] at hop
 have HOP:=Zh hop
 have HS5:=Zh (HS4.out.trans hs5)
 clear h5 hop hs5 hr5 HT
 go_wp2_with fail
 refine HOP.out.mono ?_
 rintro e w6 ⟨I6,p6,q6,S6,hs6,rfl,h6,hj6,ha6,hk6⟩
 have HB:=Zh hj6.jb
 have HF:=Zh (Zq577 (h6.pull 1 _ rfl) hj6.jb)
 have H6:=Zh h6
 have HJ6:=Zh hj6
 have HA6:=Zh ha6
 have HK6:=Zh hk6
 have HS6:=Zh (HS5.out.trans hs6)
 clear h6 hj6 ha6 hk6 hs6 HOP
 go_wp2_with fail
 refine HF.out.mono ?_
 rintro e w7 ⟨rfl,hb7⟩
 have h7:=H6.out.keep hb7
 have HE:=Zh (Zq93 (h7.pull 1 _ rfl) HB.out)
 have H7:=Zh h7
 rw [show (Zq40 (Zq120 ⟨1,4,512⟩ 5 [tag1])).r.first=6 from by kernel_rfl]
 clear h7 hb7 HF H6
 go_wp2_with fail
 refine HE.out.mono ?_
 rintro e w8 ⟨rfl,hb8⟩
 have h8:=H7.out.keep hb8
 rw [show endJ (Zq40 (Zq120 ⟨1,4,512⟩ 5 [tag1]))=5 from Zq902]
 have hcv:=Zq641
 obtain ⟨I9,hs9,hb9,h9⟩:=Zq308 (h8.alloc (.cells #[.int .u8 97] 5 (1,2)))
 obtain ⟨S10,J10,a1,a2,a3,a4,a5⟩:=Zq705 HJ6.out HA6.out
 have hap:=Zq156 (m:=98000) [97] _ _ h9 (HK6.out.fewer (by omega)) HB.out hb9 (by intro y hy;rw [List.mem_singleton.1 hy];unfold isByte;omega) a5
 have a1':Zq44 S6 (Zq40 (Zq120 ⟨1,4,512⟩ 5 [tag1])) [97]=((6,0),S10,J10):=a1
 rw [a1'] at hap
 have HAP:=Zh hap
 have HA2:=Zh a2
 have HA3:=Zh a3
 have HA4:=Zh a4
 have HS9:=Zh (HS6.out.trans hs9)
 clear h8 hb8 hs9 hb9 h9 a1 a2 a3 a4 a5 hap a1' HE H7
 go_wp2_with fail
 refine HAP.out.mono ?_
 rintro e w10 ⟨I10,hs10,rfl,h10⟩
 have HSE:=Zh (Zq299 (h10.pull 1 _ rfl) HA2.out.jb)
 have H10:=Zh h10
 clear h10 hs10 HAP hcv
 go_wp2_with fail
 refine HSE.out.mono ?_
 rintro e w11 ⟨rfl,hb11⟩
 have h11:=H10.out.keep hb11
 have HSF:=Zh (Zq428 (h11.pull 1 _ rfl) HA2.out.jb)
 have H11:=Zh h11
 clear h11 hb11 H10 HSE
 rw [HA3.out]
 go_wp2_with fail
 refine HSF.out.mono ?_
 rintro e w12 ⟨rfl,hb12⟩
 have H12:=Zh (H11.out.keep hb12)
 rw [HA4.out]
 clear hb12 H11 HSF
 go_wp2_with fail
 go_ret
 exact ⟨rfl,H12.out.below⟩
end
end Go.Proofs.YtpjchngjhijgmaaGreat
namespace Go.Proofs.YtpjchngjhijgmaaGreat
open Go.RowKit
section
variable {W w : World} {I : Hp} {l : List HP}
set_option maxRecDepth 4000
set_option maxHeartbeats 8000000
theorem RowsI.cells {A:Option Addr} {c:Nat} {ls:List (List Int)} {i:Nat} {p:List Int} (h:RowsI I (.slice A ls.length c) ls) (hi:ls[i]?=some p):∃ b off A' c',A=some ⟨b,off,none⟩∧BytesI I (.slice A' p.length c') p∧∀ {W' w':World} {I':Hp} {l':List HP},I.sub I'→St W' I' w' l'→w'.cell? ⟨b,off+i,none⟩=some (.slice A' p.length c'):=by
 obtain ⟨vs,h1,⟨A1,c1,e,h2,h3,h4,h5,h6⟩,h7,h8⟩:=h
 have hil:=(List.getElem?_eq_some_iff.1 hi).1
 obtain ⟨x,hx⟩:∃ x,vs[i]?=some x:=⟨_,List.getElem?_eq_getElem (by omega)⟩
 have hb:=h7 i x p hx hi
 obtain ⟨A',c',e2,_⟩:=id hb
 obtain ⟨b,off,cs,t,f,e3,e4,e5⟩:=h6 (by omega)
 simp only [Value.slice.injEq] at e
 obtain ⟨rfl,_,_⟩:=e
 refine ⟨b,off,A',c',e3,by rw [←e2];exact hb,fun hs hst=>?_⟩
 have h9:=hst.imm _ _ (hs _ _ e4)
 rw [Zq0 h9,e5 i x hx,e2]
theorem Zq594 (v:Value) (ls:List (List Int)) (h:St W I w l) (hv:RowsI I v ls) (hn:ls.length≤1000) :
  Calls Tryz.prog 15 #[v] w fun e w'=>∃ I' A4 c4 A5 c5,I.sub I'∧e=.returned (.tuple #[.slice A4 ls.length c4,.slice A5 ls.length c5])∧St W I' w' (Zq126 (.slice A4 ls.length c4) (ls.map rowOf)::HP.row 3 1 (.slice A5 ls.length c5) ls.length ((Zq104 (ls.map rowOf)).map intV)::l):=by
 obtain ⟨A0,c0,rfl,hc0,hcm,_⟩:=hv.slice
 have H0:=Zh hv
 have HBY:=Zh (show ∀ p ∈ ls,∀ y ∈ p,isByte y by obtain ⟨_,_,_,_,hq⟩:=hv;exact fun p hp=>(hq p hp).1)
 have H1:=Zh ((h.row_nil 3 1).rows_nil)
 have hn1:(ls.length:Int)≤1000:=by omega
 clear h hv hcm hc0
 go_enter Tryz.func15,Tryz.ntmps15
 go_wp2_with fail
 go_loopw [4,5,6,7] (fun a4 a5 a6 a7 wr=>∃ (i:Nat) (I':Hp) (A4:Option Addr) (c4:Nat) (A5:Option Addr) (c5:Nat),a6=.int .i64 i∧a4=.slice A4 i c4∧a5=.slice A5 i c5∧i≤ls.length∧I.sub I'∧St W I' wr (Zq126 (.slice A4 i c4) ((ls.take i).map rowOf)::HP.row 3 1 (.slice A5 i c5) i ((Zq104 ((ls.take i).map rowOf)).map intV)::l)) (fun _ _ a6 _ _=>ls.length - (intOf a6).toNat)
 case atStart=>exact ⟨0,I,none,0,none,0,rfl,rfl,rfl,Nat.zero_le _,Hp.sub.refl _,by simpa [Zq104] using H1.out⟩
 case round =>
  obtain ⟨i,I2,A4,c4,A5,c5,rfl,rfl,rfl,hi,hs2,h2⟩:=hrel
  clear H1
  by_cases hlt:i<ls.length
  ·obtain ⟨p,hp⟩:∃ p,ls[i]?=some p:=⟨_,List.getElem?_eq_getElem hlt⟩
   obtain ⟨b,off,A',c',rfl,y0,hbp⟩:=(H0.out.mono hs2).cell h2 hp
   have HP2:=Zh hbp
   have HBP:=Zh (HBY.out p (List.mem_of_getElem? hp))
   have htk:(ls.take (i+1)).map rowOf=(ls.take i).map rowOf++[rowOf p]:=by rw [List.take_add_one,hp,List.map_append];rfl
   have HTK:=Zh htk
   have H2:=Zh h2
   have HS2:=Zh hs2
   obtain ⟨w2,hw2⟩:∃ x,x=wr:=⟨_,rfl⟩
   rw [←hw2] at H2 y0 ⊢
   clear hbp hp h2 hs2 htk hw2
   go_upto_if 20 with fail
   go_cut [7] from 8 to 35 (fun s7 wc=>∃ (A6:Option Addr) (c6:Nat) (P:List Int) (I3:Hp),s7=.slice A6 P.length c6∧I2.sub I3∧BytesI I3 (.slice A6 P.length c6) P∧rowOf p=P.take (min P.length 90)∧(∀ y ∈ P,isByte y)∧St W I3 wc (Zq126 (.slice A4 i c4) ((ls.take i).map rowOf)::HP.row 3 1 (.slice A5 i c5) i ((Zq104 ((ls.take i).map rowOf)).map intV)::l))
   case first =>
    by_cases hp0:p=[]
    ·subst hp0
     obtain ⟨I3,hs3,hb3,h3⟩:=Zq308 (x:=7) (H2.out.alloc (.cells #[.int .u8 7] 5))
     have H3:=Zh h3
     have HB3:=Zh hb3
     have HS3:=Zh hs3
     clear h3 hb3 hs3
     go_wp2_with fail
     go_meet
     exact ⟨_,_,[7],I3,rfl,HS3.out,HB3.out,rfl,(by intro y hy;rw [List.mem_singleton.1 hy];unfold isByte;omega),H3.out⟩
    ·have hpl:=List.length_pos_iff.2 hp0
     have d1:((p.length:Int)==0)=false:=by simp;exact hp0
     have d2:¬ p.length=0:=by omega
     have HX:=Zh (show rowOf p=p.take (min p.length 90) by unfold rowOf;rw [if_neg hp0,List.take_eq_take_iff];omega)
     go_wp2_with fail
     go_meet
     exact ⟨_,_,p,I2,rfl,Hp.sub.refl _,HP2.out,HX.out,HBP.out,H2.out⟩
   case rest =>
    obtain ⟨A6,c6,P,I3,rfl,hs3,hb3,hrow,hby,h3⟩:=hcut
    obtain ⟨w3,hw3⟩:∃ x,x=wc:=⟨_,rfl⟩
    rw [←hw3] at h3 ⊢
    clear hw3 y0
    obtain ⟨m,hm⟩:∃ m,m=min P.length 90:=⟨_,rfl⟩
    have hbm:=Zq642 hb3 (m:=m) (by omega)
    rw [←hm] at hrow
    have hml:(rowOf p).length=m:=by rw [hrow,List.length_take];omega
    rw [←hrow] at hbm
    have hil:((ls.take i).map rowOf).length=i:=by rw [List.length_map,List.length_take];omega
    obtain ⟨A7,c7,w7,hr7,h7⟩:=St.rows_append (g:=w3.heap.size) rfl h3 hbm (fun y hy=>hby y (by rw [hrow] at hy;exact List.mem_of_mem_take hy)) (by rw [hil];omega)
    rw [hil] at hr7 h7
    have h7':=h7.pull 1 _ rfl
    obtain ⟨v8,w8,hr8,h8⟩:=St.ints_append 28 (h7'.keep (Zq6 w7 (.cells #[.int .i64 m] 3))) (Zq811 w7 (.int .i64 m) 3 rfl) (by omega)
    obtain ⟨A8,c8,rfl⟩:=Zq17 h8.row_owns
    have hlens:(Zq104 ((ls.take i).map rowOf)).map intV++[.int .i64 m]=(Zq104 ((ls.take (i+1)).map rowOf)).map intV:=by
     rw [HTK.out]
     unfold Zq104
     rw [List.map_append,List.map_append,List.map_singleton,List.map_singleton,hml]
     rfl
    rw [hlens] at h8
    rw [←HTK.out] at h8
    have H8:=Zh (h8.pull 1 _ rfl)
    have HR7:=Zh hr7
    have HR8:=Zh hr8
    have HS3:=Zh (HS2.out.trans hs3)
    have hmin:min (P.length:Int) 90=(m:Int):=by omega
    have hmle:m≤P.length:=by omega
    have hc6:P.length≤c6:=by
     obtain ⟨_,_,e,_,hc,_⟩:=hb3
     simp only [Value.slice.injEq] at e
     obtain ⟨_,_,rfl⟩:=e
     exact hc
    clear hb3 hbm hrow hml h3 h7 h7' h8 hr7 hr8 hs3 hlens hil hby HP2 HTK hm
    go_upto_region 11 with (at_builtin;refine Lib.wpList_append_run _ rfl (.tmp 27) (.tmp 29) 22 22 rfl _ _ rfl rfl _ _ HR7.out ?_)
    go_wp2_with (at_builtin;refine Lib.wpList_append_run _ rfl (.tmp 31) (.tmp 34) 28 28 rfl _ _ rfl rfl _ _ HR8.out ?_)
    go_roundw
    case rel=>exact ⟨i+1,I3,A7,c7,A8,c8,by go_num,rfl,rfl,by omega,HS3.out,H8.out⟩
    case measure=>first|(simp [intOf];done)|(simp [intOf];omega)|fail
  ·obtain rfl:i=ls.length:=by omega
   rw [List.take_length] at h2
   have H2:=Zh h2
   have HS2:=Zh hs2
   clear h2 hs2
   go_wp2_with fail
   go_ret2
   exact ⟨I2,A4,c4,A5,c5,HS2.out,rfl,H2.out⟩
theorem St.freeze_win {e:TypeId} {size:Nat} {v:Value} {n:Nat} {xs:List Value} (h:St W I w (HP.win e size v n xs::l)):∃ I':Hp,I.sub I'∧RowI I' size v n xs∧St W I' w l:=by
 obtain ⟨hl,p⟩:=h.win_open
 rcases p with ⟨rfl,rfl,s⟩|⟨g,q,cap,cur,rfl,p3,p4,p5,p6,s⟩
 ·exact ⟨I,Hp.sub.refl _,⟨none,0,rfl,hl,Nat.le_refl _,Nat.zero_le _,fun _=>rfl,fun h=>absurd h (by omega)⟩,s⟩
 ·obtain ⟨I',hs,hI,s⟩:=s.freeze
  refine ⟨I',hs,⟨some ⟨g,q,none⟩,cap,rfl,hl,p3,p4,(fun e=>by cases e),fun _=>⟨g,q,cur,e,(0,0),rfl,hI,fun i x hx=>?_⟩⟩,s⟩
  rw [←p6,List.getElem?_take] at hx
  split at hx
  ·rw [List.getElem?_drop] at hx
   simpa using hx
  ·cases hx
theorem St.rows_freeze {v:Value} {rs:List (List Int)} (h:St W I w (Zq126 v rs::l)) (hr:∀ r ∈ rs,r.length≤1000000):∃ I',I.sub I'∧RowsI I' v rs∧St W I' w l:=by
 obtain ⟨vs,h1⟩:=h.ex_open
 obtain ⟨hd,h2⟩:=((h1.all_open).pull 1 _ rfl).imm_open
 have hl:=h2.win_len
 obtain ⟨I',hs,hI,h3⟩:=h2.freeze_win
 refine ⟨I',hs,⟨vs,by omega,hI,fun i x q hx hq=>?_,fun q hq=>?_⟩,h3⟩
 ·obtain ⟨x',h5,h6,_⟩:=hd i q hq
  rw [hx] at h5
  obtain rfl:=Option.some.inj h5
  exact RowI.mono hs h6
 ·obtain ⟨i,hi⟩:=List.getElem?_of_mem hq
  obtain ⟨_,_,_,h7⟩:=hd i q hi
  exact ⟨h7,by have:=hr q hq;unfold maxLen;omega⟩
theorem Zq241 (v:Value) (ls:List (List Int)) (h:St W I w l) (hv:RowsI I v ls) (hn:ls.length≤1000) :
  Calls Tryz.prog 15 #[v] w fun e w'=>∃ (I':Hp) (A4:Option Addr) (c4:Nat) (A5:Option Addr) (c5:Nat) (ps:List (List Int)) (ns:List Int),I.sub I'∧ps=ls.map rowOf∧ns=Zq104 ps∧e=.returned (.tuple #[.slice A4 ps.length c4,.slice A5 ns.length c5])∧RowsI I' (.slice A4 ps.length c4) ps∧IntsI I' (.slice A5 ns.length c5) ns∧St W I' w' l:=by
 refine (Zq594 v ls h hv hn).mono ?_
 rintro e w' ⟨I1,A4,c4,A5,c5,hs1,rfl,h1⟩
 obtain ⟨I2,hs2,hr2,h2⟩:=h1.rows_freeze (by
  intro r hr
  obtain ⟨p,_,rfl⟩:=List.mem_map.1 hr
  have:=Zq555 p;omega)
 obtain ⟨I3,hs3,hr3,h3⟩:=h2.freeze_row
 have e1:(ls.map rowOf).length=ls.length:=List.length_map _
 have e2:(Zq104 (ls.map rowOf)).length=ls.length:=by unfold Zq104;rw [List.length_map,List.length_map]
 refine ⟨I3,A4,c4,A5,c5,ls.map rowOf,Zq104 (ls.map rowOf),(hs1.trans hs2).trans hs3,rfl,rfl,by rw [e1,e2],?_,?_,h3⟩
 ·rw [e1];exact hr2.mono hs3
 ·unfold IntsI
  rw [e2]
  exact hr3
theorem Zq242 {ls:List (List Int)} (h:∀ p ∈ ls,∀ y ∈ p,isByte y):∀ p ∈ ls.map rowOf,(1≤p.length∧p.length≤90)∧∀ y ∈ p,isByte y:=by
 intro p hp
 obtain ⟨q,hq,rfl⟩:=List.mem_map.1 hp
 exact ⟨Zq555 q,Zq593 (h q hq)⟩
theorem Zq352 {ps:List (List Int)} (h:∀ p ∈ ps,(1≤p.length∧p.length≤90)∧∀ y ∈ p,isByte y):∀ n ∈ Zq104 ps,1≤n∧n≤90:=by
 intro n hn
 obtain ⟨q,hq,rfl⟩:=List.mem_map.1 hn
 have:=(h q hq).1
 omega
theorem Zq224 (ps:List (List Int)):(Zq104 ps).length=ps.length:=List.length_map _
end
end Go.Proofs.YtpjchngjhijgmaaGreat
