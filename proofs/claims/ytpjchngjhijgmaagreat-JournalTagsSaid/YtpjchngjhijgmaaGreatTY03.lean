import Derived.Test.YtpjchngjhijgmaaGreatTY02
set_option linter.all false
namespace Go.Proofs.YtpjchngjhijgmaaGreat
open Go.RowKit
section
variable {W w : World} {I : Hp} {l : List HP}
set_option maxRecDepth 4000
set_option maxHeartbeats 8000000
theorem nextID16 (A:Option Addr) (n c:Nat) (l:List Tag) (s:Int) (w:World) (hl:TagsAt w A n l) (hn:n≤1000000) :
  Calls Tryz.prog 103 #[.slice A n c,.int .i64 s] w fun e w'=>e=.returned (.int .i64 (nextId l s))∧w=w':=by
 go_enter Tryz.func103,Tryz.ntmps103
 go_wp2
 go_loop [5,6] (fun v5 v10=>∃ (k:Nat) (m:Int),k≤n∧v10=.int .i64 k∧v5=.int .i64 m∧m=Zq925 (l.take k)∧0≤m∧m≤1073741824∧Zq926 (l.take k)=false) (fun _ v10=>n - (intOf v10).toNat)
 case atStart=>exact ⟨0,0,Nat.zero_le _,rfl,rfl,rfl,by omega,by omega,rfl⟩
 case round =>
  obtain ⟨k,m,hk,rfl,rfl,hm,hm0,hm1,hh⟩:=hrel
  have HM:=Zh hm
  have HH:=Zh hh
  clear hm hh
  by_cases hlt:k<n
  ·obtain ⟨b,off,x,rfl,hB,hx,c0,c1,c2,c3⟩:=hl.at_ hlt
   have HX:=Zh hx
   clear hx
   by_cases hmx:m<x.id
   all_goals
    go_wp2
    all_goals first
     |(go_ret
       exact ⟨ret_int (nextId_high HX.out (by assumption) s),rfl⟩)
     |(go_round
       case rel=>exact ⟨k+1,_,by omega,by go_num,rfl,by rw [maxIds_more HX.out,←HM.out];omega,by omega,by omega,by rw [highId_more HX.out HH.out];simp;omega⟩
       case measure=>simp [intOf];omega)
     | fail
  ·go_wp2
   go_ways
   ·go_ret
    exact ⟨ret_int (nextId_low hl.1 hk hlt HH.out HM.out (nextOdd_step ((Bool.not_eq_true' _).mp ‹_›))),rfl⟩
   ·go_ret
    exact ⟨ret_int (nextId_low hl.1 hk hlt HH.out HM.out (nextOdd_stay ((Bool.not_eq_false' _).mp ‹_›))),rfl⟩
theorem flat_snoc (ts:List Tag) (t:Tag):flat ts++t.vals=flat (ts++[t]):=by simp [flat]
theorem grown16_spec (At:Option Addr) (ct:Nat) (ts:List Tag) (e0 n m:Int) (h:St W I w l) (ht:RowI I 4 (.slice At ts.length ct) ts.length (flat ts)) (hn:ts.length≤1000) (he:0≤e0∧e0≤4611686018427387904) :
  Calls Tryz.prog 42 #[.slice At ts.length ct,.int .i64 e0,.int .i64 n,.int .i64 m] w fun e w'=>∃ I' A' c',I.sub I'∧e=.returned (.slice A' (grownT ts e0 n m).length c')∧RowI I' 4 (.slice A' (grownT ts e0 n m).length c') (grownT ts e0 n m).length (flat (grownT ts e0 n m))∧St W I' w' l:=by
 obtain ⟨s,hs⟩:∃ s,s=1+m % 2:=⟨_,rfl⟩
 obtain ⟨m2,hm2⟩:∃ x,m % 2=x:=⟨_,rfl⟩
 obtain ⟨n2,hn2⟩:∃ x,n % 2=x:=⟨_,rfl⟩
 have ha1:bits .and .i64 m 1=m2:=(i64_and1 m).trans hm2
 have ha2:bits .and .i64 n 1=n2:=(i64_and1 n).trans hn2
 have w1:IntKind.i64.wrap (1+m2)=s:=by rw [IntKind.wrap_i64];omega
 obtain ⟨d,hd⟩:∃ d,d=e0 - n2:=⟨_,rfl⟩
 have w2:IntKind.i64.wrap (e0 - n2)=d:=by rw [IntKind.wrap_i64];omega
 obtain ⟨mx,hmx⟩:∃ x,x=max 0 d:=⟨_,rfl⟩
 have HG:=Zh (show grownT ts e0 n m=ts++[⟨nextId ts s,s,0,mx⟩] by unfold grownT;rw [hmx,hd,hs,hn2])
 have h0:=h.row_bare 80 4
 obtain ⟨v1,x1,hr1,h1⟩:=St.tags_append 65 h0 (RowI.src ht h0.imm (Zq818 ts) (by omega)) (by omega)
 rw [Nat.zero_add,Zl3] at h1
 obtain ⟨A1,c1,rfl⟩:=Zq17 h1.row_owns
 obtain ⟨At',ct',e1,hnc,hat⟩:=Zq253 h1 ht
 simp only [Value.slice.injEq] at e1
 obtain ⟨rfl,_,rfl⟩:=e1
 have HN:=Zh (nextID16 At ts.length ct ts s x1 hat (by omega))
 obtain ⟨nid,hnid⟩:∃ x,x=nextId ts s:=⟨_,rfl⟩
 rw [←hnid] at HG HN
 have h2:=h1.keep (Zq6 x1 (.cells #[.int .i64 nid,.int .i64 s,.int .i64 0,.int .i64 mx] 80))
 obtain ⟨v3,x3,hr3,h3⟩:=St.tags_append 65 h2 (Zq888 x1 ⟨nid,s,0,mx⟩) (by omega)
 obtain ⟨A3,c3,rfl⟩:=Zq17 h3.row_owns
 rw [flat_snoc] at h3
 obtain ⟨I4,hs4,hr4,h4⟩:=h3.freeze_row
 have HR1:=Zh hr1
 have HR3:=Zh hr3
 have HS4:=Zh hs4
 have HR4:=Zh hr4
 have H4:=Zh h4
 have HMX:=Zh hmx
 clear h h0 h1 h2 h3 h4 hr1 hr3 hs4 hr4 ht hat hnc hs hm2 hn2 hd hnid hmx
 have hmx2:max 0 d=mx:=HMX.out.symm
 go_enter Tryz.func42,Tryz.ntmps42
 go_wp2_with (at_builtin;refine Lib.wpList_append_run _ rfl (.tmp 13) (.tmp 14) 65 65 rfl _ _ rfl rfl _ _ HR1.out ?_)
 refine HN.out.mono ?_
 rintro e w5 ⟨rfl,rfl⟩
 go_wp2_with (at_builtin;refine Lib.wpList_append_run _ rfl (.tmp 15) (.tmp 26) 65 65 rfl _ _ rfl rfl _ _ HR3.out ?_)
 go_ret
 rw [HG.out]
 exact ⟨I4,A3,c3,HS4.out,by simp,by simpa using HR4.out,H4.out⟩
theorem cutTags_pre (ts:List Tag) (e:Int):Zq48 ts e=ts.take (Zq48 ts e).length:=List.prefix_iff_eq_take.1 (List.takeWhile_prefix _)
theorem cutTags_lt {ts:List Tag} {e:Int} {i:Nat} {t:Tag} (hi:i<(Zq48 ts e).length) (ht:ts[i]?=some t):t.at_≤e:=by
 have h1:(Zq48 ts e)[i]?=some t:=by rw [cutTags_pre,List.getElem?_take_of_lt hi];exact ht
 have h2:=List.mem_of_getElem? h1
 unfold Zq48 at h2
 have:=Zq906 h2
 simpa using this
theorem cutTags_ge {ts:List Tag} {e:Int} {t:Tag} (ht:ts[(Zq48 ts e).length]?=some t):e<t.at_:=by
 have h1:=List.takeWhile_append_dropWhile (p:=fun t:Tag=>decide (t.at_≤e)) (l:=ts)
 have h2:ts.dropWhile (fun t:Tag=>decide (t.at_≤e))=ts.drop (Zq48 ts e).length:=by
  have h3:=List.take_append_drop (Zq48 ts e).length ts
  rw [←cutTags_pre] at h3
  exact List.append_cancel_left (h1.trans h3.symm)
 obtain ⟨hil,hie⟩:=List.getElem?_eq_some_iff.1 ht
 rw [List.drop_eq_getElem_cons hil,hie] at h2
 have h3:=List.head?_dropWhile_not (fun t:Tag=>decide (t.at_≤e)) ts
 rw [h2] at h3
 simp only [List.head?_cons,decide_eq_false_iff_not] at h3
 omega
theorem cutc_spec (At:Option Addr) (ct:Nat) (ts:List Tag) (e0:Int) (h:St W I w l) (ht:RowI I 4 (.slice At ts.length ct) ts.length (flat ts)) (hn:ts.length≤1000) :
  Calls Tryz.prog 43 #[.slice At ts.length ct,.int .i64 e0] w fun e w'=>∃ A' c',e=.returned (.slice A' (Zq48 ts e0).length c')∧St W I w' (HP.row 80 4 (.slice A' (Zq48 ts e0).length c') (Zq48 ts e0).length (flat (Zq48 ts e0))::l):=by
 obtain ⟨m,hm⟩:∃ m,m=(Zq48 ts e0).length:=⟨_,rfl⟩
 have HCT:=Zh (show Zq48 ts e0=ts.take m by rw [hm];exact cutTags_pre ts e0)
 have HLT:=Zh (fun (i:Nat) (t:Tag) (hi:i<m) (ht:ts[i]?=some t)=>cutTags_lt (ts:=ts) (e:=e0) (by rw [←hm];exact hi) ht)
 have HGE:=Zh (fun (t:Tag) (ht:ts[m]?=some t)=>cutTags_ge (ts:=ts) (e:=e0) (by rw [←hm];exact ht))
 have hml:m≤ts.length:=by rw [hm];unfold Zq48;exact (List.takeWhile_prefix _).length_le
 rw [←hm]
 have H0:=Zh (h.row_nil 80 4)
 have HT:=Zh ht
 have hn1:(ts.length:Int)≤1000:=by omega
 clear h ht hm
 go_enter Tryz.func43,Tryz.ntmps43
 go_wp2_with fail
 go_loopw [5,6] (fun a5 a6 wr=>∃ (i:Nat) (A5:Option Addr) (c5:Nat),a6=.int .i64 i∧a5=.slice A5 i c5∧i≤m∧St W I wr (HP.row 80 4 (.slice A5 i c5) i (flat (ts.take i))::l)) (fun _ a6 _=>m - (intOf a6).toNat)
 case atStart=>exact ⟨0,none,0,rfl,rfl,Nat.zero_le _,by simpa [flat] using H0.out⟩
 case round =>
  obtain ⟨i,A5,c5,rfl,rfl,hi,h2⟩:=hrel
  clear H0
  by_cases hlt:i<ts.length
  ·have d0:decide ((i:Int)<(ts.length:Int))=true:=decide_eq_true (by omega)
   obtain ⟨t,hti⟩:∃ t,ts[i]?=some t:=⟨_,List.getElem?_eq_getElem hlt⟩
   obtain ⟨A,c,e1,_,hat⟩:=Zq253 h2 HT.out
   simp only [Value.slice.injEq] at e1
   obtain ⟨rfl,hx1,hx2⟩:=e1
   clear hx1 hx2
   obtain ⟨b,off,x,rfl,hB,hx,k0,k1,k2,k3⟩:=hat.at_ hlt
   rw [hti] at hx
   obtain rfl:=Option.some.inj hx
   clear hx hat
   by_cases him:i<m
   ·have hle:=HLT.out i t him hti
    have d1:decide (t.at_≤e0)=true:=decide_eq_true hle
    have h3:=h2.keep (Zq6 wr (.cells #[.int .i64 t.id,.int .i64 t.own,.int .i64 t.heir,.int .i64 t.at_] 80))
    obtain ⟨v4,w4,hr4,h4⟩:=St.tags_append 65 h3 (Zq888 wr t) (by omega)
    obtain ⟨A4,c4,rfl⟩:=Zq17 h4.row_owns
    have htk:flat (ts.take i)++t.vals=flat (ts.take (i+1)):=by rw [flat_snoc,List.take_add_one,hti];rfl
    rw [htk] at h4
    have H4:=Zh h4
    have HR4:=Zh hr4
    clear h2 h3 h4 hr4 htk hti hle
    go_wp2_with (at_builtin;refine Lib.wpList_append_run _ rfl (.tmp 22) (.tmp 27) 65 65 rfl _ _ rfl rfl _ _ HR4.out ?_)
    go_roundw
    case rel=>exact ⟨i+1,A4,c4,by go_num,rfl,by omega,H4.out⟩
    case measure=>first|(simp [intOf];done)|(simp [intOf];omega)|fail
   ·obtain rfl:i=m:=by omega
    have hge:=HGE.out t hti
    have d1:decide (t.at_≤e0)=false:=decide_eq_false (by omega)
    have H2:=Zh h2
    clear h2 hti hge
    go_wp2_with fail
    go_ret
    rw [HCT.out]
    exact ⟨A5,c5,rfl,H2.out⟩
  ·obtain rfl:i=m:=by omega
   have d0:decide ((i:Int)<(ts.length:Int))=false:=decide_eq_false (by omega)
   have H2:=Zh h2
   clear h2
   go_wp2_with fail
   go_ret
   rw [HCT.out]
   exact ⟨A5,c5,rfl,H2.out⟩
end
end Go.Proofs.YtpjchngjhijgmaaGreat
