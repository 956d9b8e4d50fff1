import Derived.Test.YtpjchngjhijgmaaGreatJZ40
set_option linter.all false
namespace Go.Proofs.YtpjchngjhijgmaaGreat
open Go.RowKit
section
variable {W w : World} {I : Hp} {l : List HP}
set_option maxRecDepth 4000
set_option maxHeartbeats 8000000
theorem Zq260 (c:Rg) (at':Int) (v:Value) (ps:List (List Int)) (vs:List Value) (h:St W I w l) (hv:RowI I 1 v ps.length vs) (hvs:∀ (i:Nat) (p:List Int),ps[i]?=some p→∃ x,vs[i]?=some x∧BytesI I x p)
  (hp:∀ p ∈ ps,(1≤p.length∧p.length≤90)∧∀ y ∈ p,isByte y) (hn:ps.length≤100) (hg:goodM c at' [tag1]=true) :
  Calls Tryz.prog 16 #[c.val,.int .i64 at',v] w fun e w'=>∃ I' p q S J k,I.sub I'∧e=.returned (.tuple #[.pointer (some ⟨p,0,none⟩),.pointer (some ⟨q,0,none⟩),.int .i64 (k:Nat)])∧St W I' w' (Zq11 p S::jnHP q p J::l)∧JOK S J∧S.armed=false∧Keeps S 90000 ∧
   ∃ S0,JOK S0 (Zq40 (Zq120 c at' [tag1]))∧S0.armed=false∧Zq87 ps S0 (Zq40 (Zq120 c at' [tag1]))=(S,J,k):=by
 have h1:=h.alloc (.cells #[.int .i64 c.splay,.int .i64 c.sets,.int .i64 c.size] 26)
 have HOPEN:=Zh (fun (I1:Hp) (w1:World) (vt:Value) (l1:List HP) (h2:St W I1 w1 l1) (ht:RowI I1 4 vt 1 (flat [tag1]))=>Zq351 c at' vt [tag1] h2 ht (by decide) hg)
 simp only [Rg.val] at HOPEN ⊢
 obtain ⟨A0,c0,rfl,hvr⟩:=id hv
 clear hvr
 have HV:=Zh hv
 have HVS:=Zh hvs
 have HPS:=Zh hp
 have H1:=Zh h1
 have HRC:=Zh (show ∀ (w':World) (L:List HP),St W I w' (HP.pt w.heap.size (.cells #[.int .i64 c.splay,.int .i64 c.sets,.int .i64 c.size] 26)::L)→w'.cell? ⟨w.heap.size,0,none⟩=some (.int .i64 c.splay)∧w'.cell? ⟨w.heap.size,1,none⟩=some (.int .i64 c.sets)∧w'.cell? ⟨w.heap.size,2,none⟩=some (.int .i64 c.size) from fun w' L h1=>Zq41 h1)
 have HRC2:=Zh (show ∀ (I':Hp) (w':World) (L:List HP),St W I' w' (HP.pt w.heap.size (.cells #[.int .i64 c.splay,.int .i64 c.sets,.int .i64 c.size] 26)::L)→w'.cell? ⟨w.heap.size,0,none⟩=some (.int .i64 c.splay)∧w'.cell? ⟨w.heap.size,1,none⟩=some (.int .i64 c.sets)∧w'.cell? ⟨w.heap.size,2,none⟩=some (.int .i64 c.size) from fun I' w' L h1=>Zq41 h1)
 have HT:=Zh (Zq240 h1.drew)
 have hn1:(ps.length:Int)≤100:=by omega
 have hat:0≤at'∧at'≤1099511627776:=by
  unfold goodM at hg
  simp only [Bool.and_eq_true,decide_eq_true_eq] at hg
  exact ⟨hg.1.1.1.2,hg.1.1.2⟩
 have HAT:=Zh hat
 clear hat
 clear h h1 hv hvs hp
 go_enter Tryz.func16,Tryz.ntmps16
 go_wp2_with fail
 refine Zq160 (fun w'=>w'.cell? ⟨w.heap.size,0,none⟩=some (.int .i64 c.splay)∧w'.cell? ⟨w.heap.size,1,none⟩=some (.int .i64 c.sets)∧w'.cell? ⟨w.heap.size,2,none⟩=some (.int .i64 c.size)) [0,1] [2] [3] [4,5,6] [7,8] (by kernel_rfl) (by kernel_rfl) (by (exact HRC.out _ _ H1.out.drew)) ?_
 simp only [pickL,Zl6,Zl7]
 repeat (refine Zq8 _ (Or.inl ⟨by rfl,by (intro w hSw;(try dsimp only at hSw);go_simp;try with_reducible rfl)⟩) ?_;(try simp only [Act.put,List.setIfInBounds_toArray,Zl4,Zl5]))
 refine Zq10 ?_
 unfold Zq14
 go_wp2_with fail
 refine HT.out.mono ?_
 rintro e w3 ⟨I3,g3,hs3,rfl,hr3,h3⟩
 obtain ⟨y0,y1,y2⟩:=HRC2.out _ _ _ h3
 have HOP:=Zh (HOPEN.out _ _ _ _ h3 hr3)
 have HS3:=Zh hs3
 clear h3 hs3 hr3 HT
 go_wp2_with fail
 refine Zq1 ⟨y0,y1,y2⟩ ?_
 unfold Zq14
 unfold Zq14
 clear y0 y1 y2
 go_wp2_with fail
 refine HOP.out.mono ?_
 rintro e w4 ⟨I4,p,q,S4,hs4,rfl,h4,hj4,ha4,hk4⟩
 have H4:=Zh h4
 have HJ4:=Zh hj4
 have HA4:=Zh ha4
 have HK4:=Zh hk4
 have HS4:=Zh (HS3.out.trans hs4)
 clear h4 hj4 ha4 hk4 hs4 HOP
 go_wp2_with fail
 refine Zq1 (S:=fun _=>True) trivial ?_
 unfold Zq14
 repeat (refine Zq13 _ (Or.inl ⟨by rfl,by intro w;go_simp;try with_reducible rfl⟩) ?_;(try simp only [Act.put,List.setIfInBounds_toArray,Zl4,Zl5]))
 refine Zq15 ?_
 go_wp2_with fail
 refine NoPanic.normal ?_
 go_wp2_with fail
 have HL4:=Zh ((H4.out.pull 2 _ rfl).drop)
 go_loopw [11] (fun a11 wr=>∃ (i:Nat) (I':Hp) (S:Str) (J:Jn),a11=.int .i64 i∧i≤ps.length∧I.sub I'∧St W I' wr (Zq11 p S::jnHP q p J::l)∧JOK S J∧S.armed=false∧Keeps S (99000 - 10*i)∧J.r=(Zq40 (Zq120 c at' [tag1])).r∧J.l.length=i ∧
   Zq87 ps S4 (Zq40 (Zq120 c at' [tag1]))=((Zq87 (ps.drop i) S J).1,(Zq87 (ps.drop i) S J).2.1,(Zq87 (ps.drop i) S J).2.2+i)) (fun a11 _=>ps.length - (intOf a11).toNat)
 case atStart=>exact ⟨0,I4,S4,_,rfl,Nat.zero_le _,HS4.out,HL4.out,HJ4.out,HA4.out,HK4.out,rfl,rfl,rfl⟩
 case round =>
  obtain ⟨i,I5,S,J,rfl,hi,hs5,h5,hj5,ha5,hk5,hr5,hl5,hf5⟩:=hrel
  have H5:=Zh h5
  have HJ5:=Zh hj5
  have HA5:=Zh ha5
  have HK5:=Zh hk5
  have HR5:=Zh hr5
  have HL5:=Zh hl5
  have HF5:=Zh hf5
  have HS5:=Zh hs5
  clear h5 hj5 ha5 hk5 hr5 hl5 hf5 hs5
  by_cases hlt:i<ps.length
  ·obtain ⟨d,hd⟩:∃ d,ps[i]?=some d:=⟨_,List.getElem?_eq_getElem hlt⟩
   obtain ⟨x,hx,hxb⟩:=HVS.out i d hd
   obtain ⟨hd1,hd2⟩:=HPS.out d (List.mem_of_getElem? hd)
   have hvl:vs.length=ps.length:=by
    obtain ⟨_,_,_,e,_⟩:=HV.out
    omega
   obtain ⟨b,off,e1,hc⟩:=Zq116 (mk:=fun x:Value=>[x]) (k:=1) (i:=i) (l:=vs) (by rw [hvl,List.flatMap_singleton'];exact HV.out) HS5.out H5.out (fun _=>rfl) hx
   simp only [Value.slice.injEq] at e1
   obtain ⟨rfl,hx1,hx2⟩:=e1
   clear hx1 hx2
   have y0:=hc 0 (by omega)
   simp only [Zl6,Nat.mul_one,Nat.add_zero] at y0
   obtain ⟨Ax,cx,rfl,hxr⟩:=id hxb
   clear hxr
   have hap:=Zq156 (m:=98990 - 10*i) d Ax cx H5.out (HK5.out.fewer (by omega)) HJ5.out.jb (RowI.mono HS5.out hxb) hd2 (HJ5.out.six HA5.out (by omega) _)
   have hkp:=Zq259 (J:=J) (d:=d) (m:=99000 - 10*(i+1)) (HK5.out.fewer (by omega))
   have hfl:Zq87 (ps.drop i) S J=if fitsJ J [(d.length:Int)]=false then (S,J,0) else ((Zq87 (ps.drop (i+1)) (Zq44 S J d).2.1 (Zq44 S J d).2.2).1,(Zq87 (ps.drop (i+1)) (Zq44 S J d).2.1 (Zq44 S J d).2.2).2.1,(Zq87 (ps.drop (i+1)) (Zq44 S J d).2.1 (Zq44 S J d).2.2).2.2+1):=by
    obtain ⟨hil,he⟩:=List.getElem?_eq_some_iff.1 hd
    rw [List.drop_eq_getElem_cons hil,he]
    rfl
   have hno:fitsJ J [(d.length:Int)]=false→Zq44 S J d=((0,6),S,J):=fun hf=>by
    unfold Zq44
    rw [if_neg (by simp [HJ5.out.may]),if_neg (by omega),if_pos hf]
   have hyes:fitsJ J [(d.length:Int)]=true→∃ S' J',Zq44 S J d=((at'+1+i,0),S',J')∧JOK S' J'∧S'.armed=false∧J'.r=(Zq40 (Zq120 c at' [tag1])).r∧J'.l.length=i+1:=fun hf=>by
    have hse:J.r.set=0:=by rw [HR5.out];rfl
    obtain ⟨S',g,pl,nx,_,e1,e2,e3,_⟩:=HJ5.out.append_calm (d:=d) HA5.out hd1 hd2 hf (by rw [hse,HL5.out];omega)
    refine ⟨S',_,?_,e2,e3,HR5.out,?_⟩
    ·rw [e1]
     have:endJ J+1=at'+1+i:=by
      unfold endJ
      rw [HL5.out,HR5.out]
      show at'+1 - 1+(i:Int)+1=_
      omega
     rw [this]
    ·show (J.l++[newE J d]).length=i+1
     rw [List.length_append,HL5.out];rfl
   obtain ⟨⟨⟨rn,re⟩,RS,RJ⟩,hR⟩:∃ x,x=Zq44 S J d:=⟨_,rfl⟩
   rw [←hR] at hap hkp hfl hno hyes
   simp only at hap hkp hfl
   have HAP:=Zh hap
   have HKP:=Zh hkp
   have HFL:=Zh hfl
   have HNO:=Zh hno
   have HYES:=Zh hyes
   clear hap hkp hfl hno hyes hR hd hx hxb hd1 hd2 hvl hc
   clear HR5 HL5
   go_wp2_with fail
   refine HAP.out.mono ?_
   rintro e w6 ⟨I6,hs6,rfl,h6⟩
   have H6:=Zh h6
   have HS6:=Zh (HS5.out.trans hs6)
   clear h6 hs6 HAP y0
   cases hfit:fitsJ J [(d.length:Int)] with
   | false =>
    have hq:=HNO.out hfit
    simp only [Prod.mk.injEq] at hq
    obtain ⟨⟨rfl,rfl⟩,rfl,rfl⟩:=hq
    have HX:=Zh (show Zq87 ps S4 (Zq40 (Zq120 c at' [tag1]))=(RS,RJ,i) by
     rw [HF5.out,HFL.out,if_pos hfit]
     show (RS,RJ,0+i)=_
     rw [Nat.zero_add])
    clear hfit
    go_wp2_with fail
    go_ret3
    exact ⟨I6,p,q,RS,RJ,i,HS6.out,rfl,H6.out,HJ5.out,HA5.out,HK5.out.fewer (by omega),S4,HJ4.out,HA4.out,HX.out⟩
   | true =>
    obtain ⟨S',J',hq,hj',ha',hr',hl'⟩:=HYES.out hfit
    simp only [Prod.mk.injEq] at hq
    obtain ⟨⟨rfl,rfl⟩,rfl,rfl⟩:=hq
    have HX:=Zh (show Zq87 ps S4 (Zq40 (Zq120 c at' [tag1]))=((Zq87 (ps.drop (i+1)) RS RJ).1,(Zq87 (ps.drop (i+1)) RS RJ).2.1,(Zq87 (ps.drop (i+1)) RS RJ).2.2+(i+1)) by
     rw [HF5.out,HFL.out,if_neg (by rw [hfit];simp)]
     simp only
     rw [Nat.add_assoc,Nat.add_comm 1 i])
    have HJ6:=Zh hj'
    have HA6:=Zh ha'
    have HR6:=Zh hr'
    have HL6:=Zh hl'
    clear hfit hj' ha' hr' hl'
    have hat:=HAT.out
    have hw1:IntKind.i64.wrap (at'+1)=at'+1:=by rw [IntKind.wrap_i64];omega
    have hw2:IntKind.i64.wrap (at'+1+i)=at'+1+i:=by rw [IntKind.wrap_i64];omega
    go_wp2_with fail
    go_roundw
    case rel=>exact ⟨i+1,I6,RS,RJ,by go_num,by omega,HS6.out,H6.out,HJ6.out,HA6.out,HKP.out,HR6.out,HL6.out,HX.out⟩
    case measure=>first|(simp [intOf];done)|(simp [intOf];omega)|fail
  ·obtain rfl:i=ps.length:=by omega
   have HFX:=Zh (show Zq87 ps S4 (Zq40 (Zq120 c at' [tag1]))=(S,J,ps.length) by
    rw [HF5.out,List.drop_length]
    show (S,J,0+ps.length)=_
    rw [Nat.zero_add])
   go_wp2_with fail
   go_ret3
   exact ⟨I5,p,q,S,J,ps.length,HS5.out,rfl,H5.out,HJ5.out,HA5.out,HK5.out.fewer (by omega),S4,HJ4.out,HA4.out,HFX.out⟩
end
end Go.Proofs.YtpjchngjhijgmaaGreat
