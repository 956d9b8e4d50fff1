import Derived.Test.YtpjchngjhijgmaaGreatJZ35
set_option linter.all false
namespace Go.Proofs.YtpjchngjhijgmaaGreat
open Go.RowKit
def Zq42 (cs:List Cl):List Value:=cs.flatMap Cl.vals
def Zq113 (v:Value) (cs:List Cl):HP:=HP.row 212 3 v cs.length (Zq42 cs)
theorem Zq47 (cs:List Cl):(Zq42 cs).length=cs.length*3:=Zq273 (mk:=Cl.vals) (k:=3) (fun _=>rfl) cs
theorem Zq385 (cs:List Cl):∀ u ∈ Zq42 cs,u.oneCell'=true:=Zq805 cs
section
variable {W w : World} {I : Hp} {l : List HP}
theorem Zq183 (ks:List Cl) (i:Nat):(Zq42 ks).take (i*3)=Zq42 (ks.take i):=by
 induction ks generalizing i with
 | nil=>simp [Zq42]
 | cons t ks ih =>
  cases i with
  | zero=>simp [Zq42]
  | succ i =>
   have:=ih i
   simp only [Zq42,List.flatMap_cons,List.take_succ_cons] at this ⊢
   rw [List.take_append,show t.vals.length=3 from rfl,List.take_of_length_le (by show 3≤_;omega),show (i+1)*3 - 3=i*3 by omega,this]
theorem Zq237 (ks:List Cl) (i:Nat):(Zq42 ks).drop (i*3)=Zq42 (ks.drop i):=by
 induction ks generalizing i with
 | nil=>simp [Zq42]
 | cons t ks ih =>
  cases i with
  | zero=>simp [Zq42]
  | succ i =>
   have:=ih i
   simp only [Zq42,List.flatMap_cons,List.drop_succ_cons] at this ⊢
   rw [List.drop_append,show t.vals.length=3 from rfl,List.drop_of_length_le (by show 3≤_;omega),show (i+1)*3 - 3=i*3 by omega,Zl3,this]
theorem Zq168 (a b:List Cl):Zq42 (a++b)=Zq42 a++Zq42 b:=by simp [Zq42]
theorem Zq304:(Tryz.prog.info? 212).map (fun i=>(i.zero,i.size,i.bytes))=some (some (.agg #[.int .i64 0,.int .i64 0,.bool false]),3,24):=by kernel_rfl
theorem Zq454 {g n c i:Nat} {ks:List Cl} (h:St W I w (HP.row 212 3 (.slice (some ⟨g,0,none⟩) n c) n (Zq42 ks)::l)) (hk:ks.length=n) (hi:i<n) (A:Addr) (hA:n - (i+1)=0∨A=⟨g,(i+1)*3,none⟩) (cx:Nat) (ty:TypeId) :
  ∃ w' cur,(Builtin.append_ #[103,103] ty #[.slice (some ⟨g,0,none⟩) i c,.slice (some A) (n - (i+1)) cx]).run Tryz.prog w=.ok (.slice (some ⟨g,0,none⟩) (n - 1) c) w'∧w'.heap.size=w.heap.size ∧
   n≤c∧c≤maxLen∧cur.size=c*3∧cur.toList.take ((n - 1)*3)=Zq42 (ks.eraseIdx i)∧St W I w' (HP.pt g (.cells cur 212 (0,0))::l):=by
 obtain ⟨hl,p⟩:=h.row_open
 rcases p with ⟨e1,_⟩|⟨g',cap',cur,e1,p3,p4,p5,p6,s⟩
 ·cases e1
 ·simp only [Value.slice.injEq,Option.some.injEq,Addr.mk.injEq,and_true,true_and] at e1
  obtain ⟨rfl,rfl⟩:=e1
  obtain ⟨i0,hi0,hz0,hz1,hz2⟩:=info_parts Zq304
  have hown:=h.row_owns
  have hnl:(Zq42 (ks.drop (i+1))).length=(n - (i+1))*3:=by rw [Zq47,List.length_drop,hk]
  have hnews:∀ j u,(Zq42 (ks.drop (i+1)))[j]?=some u→w.cell? (A.add j)=some u:=fun j u hu=>by
   have hj:=(List.getElem?_eq_some_iff.1 hu).1
   rcases hA with e|rfl
   ·rw [hnl,e] at hj;omega
   ·rw [←Zq237,List.getElem?_drop] at hu
    have:=hown.cells (g:=g) rfl _ _ hu
    rw [add_plain] at this ⊢
    rwa [Nat.zero_add] at this
  have hr:=run_append_room (P:=Tryz.prog) w 103 ty 212 i0 Tryz.underlying103 hi0 g i c cur s.heap A (n - (i+1)) cx (Zq42 (ks.drop (i+1))) (by rw [hz1];exact hnl) hnews (fun u hu=>Zq385 _ u hu) (by omega) (by rw [hz1,hnl,p5];omega)
  rw [show i+(n - (i+1))=n - 1 by omega,hz1] at hr
  have hcl:cur.toList.length=c*3:=by simpa using p5
  refine ⟨_,_,hr,by simp [World.setRow],p3,p4,?_,?_,Zq173 s⟩
  ·simp only [List.size_toArray,List.length_append,List.length_take,List.length_drop,hnl]
   omega
  ·have e1:cur.toList.take (i*3)=Zq42 (ks.take i):=by
    rw [←Zq183,←p6,List.take_take,show min (i*3) (n*3)=i*3 by omega]
   rw [e1,List.eraseIdx_eq_take_drop_succ,Zq168]
   have e2:(Zq42 (ks.take i)++Zq42 (ks.drop (i+1))).length=(n - 1)*3:=by rw [List.length_append,hnl,Zq47,List.length_take,hk];omega
   rw [←e2]
   exact List.take_left
def Zq600:List Value:=[.int .i64 0,.int .i64 0,.bool false]
theorem Zq257 {g n c:Nat} {ks:List Cl} {cur:Array Value} (h:St W I w (HP.pt g (.cells cur 212 (0,0))::l)) (hn:0<n) (h1:n≤c) (h2:c≤maxLen) (h3:cur.size=c*3) (h4:cur.toList.take ((n - 1)*3)=Zq42 ks) (hk:ks.length=n - 1) (cc:Nat) (ty:TypeId) :
  ∃ w',(Builtin.clear_ #[103] ty #[.slice (some ⟨g,(n - 1)*3,none⟩) 1 cc]).run Tryz.prog w=.ok (.tuple #[]) w'∧w'.heap.size=w.heap.size∧St W I w' (Zq113 (.slice (some ⟨g,0,none⟩) (n - 1) c) ks::l):=by
 have hst:=run_storeCells_at Tryz.prog g ((n - 1)*3) 212 Zq600 0 cur w h.heap (by show _+0+3≤_;omega) (by intro u hu;simp only [Zq600,List.mem_cons,List.not_mem_nil,or_false] at hu;rcases hu with rfl|rfl|rfl <;> rfl)
 have hz:(zeroValue 212).run Tryz.prog w=.ok (.agg #[.int .i64 0,.int .i64 0,.bool false]) w:=by kernel_rfl
 have hr:(Builtin.clear_ #[103] ty #[.slice (some ⟨g,(n - 1)*3,none⟩) 1 cc]).run Tryz.prog w=.ok (.tuple #[]) (w.setRow g (cur.toList.take ((n - 1)*3+0)++Zq600++cur.toList.drop ((n - 1)*3+0+3)).toArray):=by
  have hzc:(Builtin.zeroCells (Value.agg #[.int .i64 0,.int .i64 0,.bool false]).cells 1).toList=Zq600:=by kernel_rfl
  simp only [Builtin.clear_]
  simp [run_underlying Tryz.underlying103,hz,hzc,Result.andThen]
  have hst2:=hst
  simp at hst2
  rw [hst2]
  rfl
 have hcl:cur.toList.length=c*3:=by simpa using h3
 refine ⟨_,hr,by simp [World.setRow],?_⟩
 have s:=Zq173 (cs:=(cur.toList.take ((n - 1)*3+0)++Zq600++cur.toList.drop ((n - 1)*3+0+3)).toArray) h
 have hs2:St W I _ (HP.row 212 3 (.slice (some ⟨g,0,none⟩) (n - 1) c) (n - 1) (Zq42 ks)::l):=s.row_shut (by rw [Zq47,hk]) (by omega) h2 (by simp only [List.size_toArray,List.length_append,List.length_take,List.length_drop,Zq600,List.length_cons,List.length_nil];omega) (by
  rw [List.append_assoc]
  have e1:(cur.toList.take ((n - 1)*3+0)).length=(n - 1)*3:=by rw [List.length_take];omega
  rw [List.take_append,e1,Nat.sub_self,List.take_zero,List.append_nil,List.take_of_length_le (by omega),Nat.add_zero,h4])
 unfold Zq113
 rw [hk]
 exact hs2
set_option maxRecDepth 4000 in
set_option maxHeartbeats 2000000 in
theorem cdelete_spec {v:Value} {ks:List Cl} {i:Nat} (h:St W I w (Zq113 v ks::l)) (hn:ks.length≤1000000) (hi:i<ks.length) :
  Calls Tryz.prog 188 #[v,.int .i64 i,.int .i64 ((i:Int)+1)] w fun e w'=>∃ v',e=.returned v'∧St W I w' (Zq113 v' (ks.eraseIdx i)::l):=by
 obtain ⟨n,hnn⟩:∃ n,n=ks.length:=⟨_,rfl⟩
 have hown:=h.row_owns
 obtain ⟨g,c,rfl,hnc⟩:∃ g c,v=.slice (some ⟨g,0,none⟩) ks.length c∧ks.length≤c:=by
  rcases hown.2 with ⟨_,e2⟩|⟨g,cap,cur,e1,_,_,h1,_⟩
  ·omega
  ·exact ⟨g,cap,e1,h1⟩
 have hs:St W I w (HP.row 212 3 (.slice (some ⟨g,0,none⟩) n c) n (Zq42 ks)::l):=by rw [hnn];exact h
 rw [←hnn] at hnc hi hn ⊢
 obtain ⟨q,rfl⟩:∃ q,n=q+1:=⟨n - 1,by omega⟩
 have HS:=Zh hs
 have HN:=Zh hnn
 clear h hown hs hnn
 have hne:((i:Int)==(i:Int)+1)=false:=by simp;omega
 have hI1:((i:Int)+1)≤((q:Int)+1):=by omega
 have hic:i<c:=by omega
 have hicl:i≤c:=by omega
 have hin1:i≤q:=by omega
 have h0i:(0:Int)≤(i:Int)+1:=by omega
 have hi0:¬ c=0:=by omega
 have hqc:¬ c=q:=by omega
 by_cases hc:i+1=c
 ·obtain rfl:i=q:=by omega
  subst hc
  clear hne hI1 hic hicl hin1 h0i hi0 hqc
  have hne:((i:Int)==(i:Int)+1)=false:=by simp;omega
  have h0i:(0:Int)≤(i:Int)+1:=by omega
  have hI1:(i:Int)≤(i:Int)+1:=by omega
  go_enter Tryz.func188,Tryz.ntmps188
  go_wp2_with fail
  obtain ⟨hl,p⟩:=HS.out.drew.row_open
  obtain ⟨g',cap',cur,e1,p3,p4,p5,p6,s⟩:∃ g' cap cur,Value.slice (some ⟨g,0,none⟩) (i+1) (i+1)=.slice (some ⟨g',0,none⟩) (i+1) cap∧(i+1)≤cap∧cap≤maxLen∧cur.size=cap*3∧cur.toList.take ((i+1)*3)=Zq42 ks∧St W I w.drew (HP.pt g' (.cells cur 212 (0,0))::l):=by
   rcases p with ⟨e1,_⟩|h1
   ·cases e1
   ·exact h1
  simp only [Value.slice.injEq,Option.some.injEq,Addr.mk.injEq,and_true,true_and] at e1
  obtain ⟨rfl,rfl⟩:=e1
  obtain ⟨w6,hr6,hs6,h6⟩:=Zq257 (ks:=ks.eraseIdx i) s (by omega) p3 p4 p5 (by rw [Nat.add_sub_cancel,List.eraseIdx_eq_take_drop_succ,List.drop_of_length_le (by have:=HN.out;omega),List.append_nil,←Zq183,←p6,List.take_take,show min (i*3) ((i+1)*3)=i*3 by omega]) (by rw [List.length_eraseIdx,←HN.out,if_pos hi]) 1 0
  rw [show i+1 - 1=i by omega] at hr6 h6
  have H6:=Zh h6
  clear hl p p3 p4 p5 p6 s h6
  go_still_tail 6,(by kernel_rfl)
  change wpList _ _ _ _ _ w.drew
  generalize w.drew=w2 at *
  all_goals
   go_wp2_with fail
   go_ret
   exact ⟨_,rfl,H6.out⟩
 ·have hcc:¬ (c=i+1):=fun e=>hc e.symm
  go_enter Tryz.func188,Tryz.ntmps188
  go_wp2_with fail
  obtain ⟨w5,cur,hr5,hs5,h51,h52,h53,h54,h55⟩:=Zq454 HS.out.drew HN.out.symm hi ⟨g,(i+1)*3,none⟩ (.inr rfl) (c - (i+1)) 103
  rw [show q+1 - (i+1)=q - i by omega,show q+1 - 1=q by omega] at hr5
  obtain ⟨w6,hr6,hs6,h6⟩:=Zq257 h55 (by omega) h51 h52 h53 h54 (by rw [List.length_eraseIdx,←HN.out,if_pos hi]) (c - q) 0
  rw [show q+1 - 1=q by omega] at hr6 h6
  have H6:=Zh h6
  have HR5:=Zh hr5
  clear h55 hr5 h6 h51 h52 h53 h54
  go_region_law (refine Zq189 (by rfl) (.tmp 22) (.tmp 25) 103 103 (by rfl) (.slice (some ⟨g,0,none⟩) i c) (.slice (some ⟨g,(i+1)*3,none⟩) (q - i) (c - (i+1))) (by rfl) (by rfl) (.slice (some ⟨g,0,none⟩) q c) w5 HR5.out ?_)
  all_goals
   go_wp2_with fail
   go_ret
   exact ⟨_,rfl,H6.out⟩
end
end Go.Proofs.YtpjchngjhijgmaaGreat
namespace Go.Proofs.YtpjchngjhijgmaaGreat
open Go.RowKit
def cinsK (i:Nat) (k:Cl) (ks:List Cl):List Cl:=ks.take i++k::ks.drop i
section
variable {P : Program} {W w : World} {I : Hp} {l : List HP}
theorem Zq695 {X v ys R:List Value} {a:Nat} (hv:v.length=3) (h:a+3≤X.length) :
  (((X.take (a+3)++ys++R).take a++v++(X.take (a+3)++ys++R).drop (a+v.length)).take (a+3+ys.length))=X.take a++(v++ys):=by
 rw [hv,Zq328 h,Zq329 (a:=a+3) h]
 have e:X.take a++v++(ys++R)=(X.take a++(v++ys))++R:=by simp [List.append_assoc]
 rw [e,List.take_left' (by simp only [List.length_append,List.length_take,hv];omega)]
theorem Zq345 (i:Nat) (k:Cl) (ks:List Cl):Zq42 (cinsK i k ks)=Zq42 (ks.take i)++(k.vals++Zq42 (ks.drop i)):=by
 unfold cinsK
 rw [Zq168]
 rfl
set_option maxRecDepth 4000 in
set_option maxHeartbeats 2000000 in
theorem cinsert_end {v:Value} {ks:List Cl} {gv:Nat} {k0 k1:Int} {k2:Bool} (h:St W I w (HP.pt gv (.cells #[.int .i64 k0,.int .i64 k1,.bool k2] 212)::Zq113 v ks::l)) (hn:ks.length≤1000000) :
  Calls Tryz.prog 160 #[v,.int .i64 ks.length,.slice (some ⟨gv,0,none⟩) 1 1] w fun e w'=>∃ v',e=.returned v'∧St W I w' (Zq113 v' (ks++[⟨k0,k1,k2⟩])::l):=by
 obtain ⟨i0,hi0,hz0,hz1,hz2⟩:=info_parts Zq304
 have hg:=h.heap
 have h2:=h.pull 1 _ rfl
 have hown:=h2.row_owns
 have hsrc:SrcAt w 3 (some ⟨gv,0,none⟩) 1 [.int .i64 k0,.int .i64 k1,.bool k2]:=⟨rfl,fun _=>⟨_,rfl,fun j u hu=>by
  rw [add_plain,Nat.zero_add]
  have hj:=(List.getElem?_eq_some_iff.1 hu).1
  have:=Zq0 hg j
  simp only [List.length_cons,List.length_nil] at hj
  rw [this]
  simpa using hu⟩,by simp [Value.oneCell']⟩
 obtain ⟨v',w',hr,ho',hgr,hv'⟩:=Zq51 (P:=Tryz.prog) w 0 103 103 212 i0 _ 3 24 Tryz.underlying103 hi0 hz0 hz1 hz2 rfl (by decide) v ks.length _ hown (some ⟨gv,0,none⟩) 1 1 _ hsrc (by intro h;cases h) (by unfold maxLen;omega) (by omega) (Nat.zero_le _)
 have h3:=(h2.row_grown ho' hgr hv').pull 1 _ rfl
 have h4:St W I w' (Zq113 v' (ks++[⟨k0,k1,k2⟩])::l):=by
  have h5:=h3.drop
  have e:Zq42 (ks++[⟨k0,k1,k2⟩])=Zq42 ks++[.int .i64 k0,.int .i64 k1,.bool k2]:=Zq168 _ _
  have e2:(ks++[(⟨k0,k1,k2⟩:Cl)]).length=ks.length+1:=by simp
  unfold Zq113
  rw [e2]
  show St W I w' (HP.row _ 3 v' _ (Zq42 _)::l)
  rw [e]
  exact h5
 obtain ⟨A,c,rfl,hA⟩:∃ A c,v=.slice A ks.length c∧((A=none∧c=0∧ks.length=0)∨∃ g,A=some ⟨g,0,none⟩∧ks.length≤c):=by
  rcases hown.2 with ⟨e1,e2⟩|⟨g,cap,cur,e1,_,_,h1,_⟩
  ·exact ⟨none,0,by rw [e1,e2],.inl ⟨rfl,rfl,e2⟩⟩
  ·exact ⟨_,_,e1,.inr ⟨g,rfl,h1⟩⟩
 obtain ⟨n,hnn⟩:∃ n,n=ks.length:=⟨_,rfl⟩
 rw [←hnn] at hr hA hn ⊢
 have H4:=Zh h4
 have HR:=Zh hr
 clear h4 h3 ho' hgr hv' hsrc hown h2 hg h hz0 hz1 hz2 hi0 hnn hr
 rcases hA with ⟨rfl,rfl,rfl⟩|⟨g,rfl,hnc⟩
 ·go_enter Tryz.func160,Tryz.ntmps160
  go_wp2_with (at_builtin;refine Lib.wpList_append_run _ rfl (.tmp 23) (.tmp 24) 103 103 rfl _ _ rfl rfl v' w' HR.out ?_)
  go_ret
  exact ⟨_,rfl,H4.out⟩
 ·by_cases hcn:c=n
  ·subst hcn
   go_enter Tryz.func160,Tryz.ntmps160
   go_wp2_with (at_builtin;refine Lib.wpList_append_run _ rfl (.tmp 23) (.tmp 24) 103 103 rfl _ _ rfl rfl v' w' HR.out ?_)
   go_ret
   exact ⟨_,rfl,H4.out⟩
  ·go_enter Tryz.func160,Tryz.ntmps160
   go_wp2_with (at_builtin;refine Lib.wpList_append_run _ rfl (.tmp 23) (.tmp 24) 103 103 rfl _ _ rfl rfl v' w' HR.out ?_)
   go_ret
   exact ⟨_,rfl,H4.out⟩
set_option maxRecDepth 4000 in
set_option maxHeartbeats 2000000 in
theorem cinsert_room {v:Value} {ks:List Cl} {i gv g c:Nat} {k0 k1:Int} {k2:Bool} (h:St W I w (HP.pt gv (.cells #[.int .i64 k0,.int .i64 k1,.bool k2] 212)::Zq113 v ks::l)) (hn:ks.length≤1000000) (hi:i<ks.length) (hv:v=.slice (some ⟨g,0,none⟩) ks.length c) (hc:ks.length<c) :
  Calls Tryz.prog 160 #[v,.int .i64 i,.slice (some ⟨gv,0,none⟩) 1 1] w fun e w'=>∃ v',e=.returned v'∧St W I w' (Zq113 v' (cinsK i ⟨k0,k1,k2⟩ ks)::l):=by
 subst hv
 obtain ⟨n,hnn⟩:∃ n,n=ks.length:=⟨_,rfl⟩
 rw [←hnn] at hn hi hc ⊢
 have hg:=h.heap
 obtain ⟨hl,p⟩:=(h.pull 1 _ rfl).row_open
 obtain ⟨cur,p3,p4,p5,p6,s⟩:∃ cur,ks.length≤c∧c≤maxLen∧cur.size=c*3∧cur.toList.take (ks.length*3)=Zq42 ks∧St W I w (HP.pt g (.cells cur 212 (0,0))::HP.pt gv (.cells #[.int .i64 k0,.int .i64 k1,.bool k2] 212)::l):=by
  rcases p with ⟨e1,_⟩|⟨g',cap',cur,e1,h2,h3,h4,h5,h6⟩
  ·cases e1
  ·simp only [Value.slice.injEq,Option.some.injEq,Addr.mk.injEq,and_true,true_and] at e1
   obtain ⟨rfl,rfl⟩:=e1
   exact ⟨cur,h2,h3,h4,h5,h6⟩
 have hne:=s.ne
 have S:=Zh s
 have P6:=Zh p6
 have HN:=Zh hnn
 obtain ⟨w1,hr1,hs1,s1⟩:=s.drew.copy_run (P:=Tryz.prog) (g:=g) (o:=(i+1)*3) (dLen:=n - i) (dCap:=c - (i+1)) (n:=n - i) (sLen:=n+1 - i) (sCap:=c - i) (size:=3) (a:=⟨g,i*3,none⟩) (dT:=103) (sT:=103) (ty:=3) (cs:=Zq42 (ks.drop i)) Tryz.underlying103 (by kernel_rfl) (by show min _ _=_;omega) (by rw [Zq47,List.length_drop,←hnn])
  (by
    intro j v hj
    rw [add_plain]
    rw [←Zq237,←p6,List.getElem?_drop,List.getElem?_take] at hj
    split at hj
    ·have:=Zq0 s.drew.heap (i*3+j)
     rw [this]
     simpa using hj
    ·cases hj) (by rw [Zq47,List.length_drop,←hnn,p5];omega) (fun u hu=>Zq385 _ u hu)
 have hX:ks.length*3≤cur.toList.length:=by simp [p5];omega
 have hl1:(cur.toList.take ((i+1)*3)++Zq42 (ks.drop i)++cur.toList.drop ((i+1)*3+(Zq42 (ks.drop i)).length)).length=c*3:=by
  simp only [List.length_append,List.length_take,List.length_drop,Zq47,Array.length_toList,p5,←hnn];omega
 obtain ⟨w2,hr2,hs2,s2⟩:=s1.copy_run (P:=Tryz.prog) (g:=g) (o:=i*3) (dLen:=n+1 - i) (dCap:=c - i) (n:=1) (sLen:=1) (sCap:=1) (size:=3) (a:=⟨gv,0,none⟩) (dT:=103) (sT:=103) (ty:=3) (cs:=[.int .i64 k0,.int .i64 k1,.bool k2]) Tryz.underlying103 (by kernel_rfl) (by show min _ _=_;omega) rfl
  (by
    intro j v hj
    rw [add_plain,Nat.zero_add]
    have:=Zq0 (s1.pull 1 _ rfl).heap j
    rw [this]
    simpa using hj) (by rw [List.size_toArray,hl1];simp;omega) (by simp [Value.oneCell'])
 have h3:St W I w2 (Zq113 (.slice (some ⟨g,0,none⟩) (n+1) c) (cinsK i ⟨k0,k1,k2⟩ ks)::l):=by
  have h4:=((s2.pull 1 _ rfl).drop)
  simp only [Zl0,Zl1] at h4
  have e:(cinsK i ⟨k0,k1,k2⟩ ks).length=n+1:=by simp [cinsK];omega
  unfold Zq113
  rw [e]
  refine h4.row_shut (xs:=Zq42 (cinsK i ⟨k0,k1,k2⟩ ks)) (by rw [Zq47,e]) (by omega) p4 ?_ ?_
  ·simp only [List.size_toArray,List.length_append,List.length_take,List.length_drop,hl1,List.length_cons,List.length_nil]
   omega
  ·have e2:cur.toList.take (i*3)=Zq42 (ks.take i):=by
    rw [←Zq183,←p6,List.take_take,show min (i*3) (ks.length*3)=i*3 by omega]
   have e3:=Zq695 (X:=cur.toList) (v:=[.int .i64 k0,.int .i64 k1,.bool k2]) (ys:=Zq42 (ks.drop i)) (R:=cur.toList.drop ((i+1)*3+(Zq42 (ks.drop i)).length)) (a:=i*3) rfl (by omega)
   rw [e2,Zq47,List.length_drop,←hnn] at e3
   rw [Zq345,Zq47,List.length_drop,←hnn]
   rw [show (n+1)*3=i*3+3+(n - i)*3 by omega]
   rw [show (i+1)*3=i*3+3 by omega] at e3 ⊢
   exact e3
 have H3:=Zh h3
 have HR1:=Zh hr1
 have HR2:=Zh hr2
 clear h3 hr1 hr2 hs1 hs2 s1 s2 hX hl1
 have hov:(callFunc 186 #[.slice (some ⟨gv,0,none⟩) 1 1,.slice (some ⟨g,(i+1)*3,none⟩) (n - i) (c - (i+1))]).run Tryz.prog w=.ok (.value (.bool false)) w:=by
  have hgg:=s.heap
  rw [run_callFunc_extern Tryz.func186 (by kernel_rfl) (by kernel_rfl) (by kernel_rfl) (e:=Extern.SlicesOverlaps.overlaps #[103,103] #[4]) (by kernel_rfl),
   Lib.run_overlaps_apart w 103 4 212 Tryz.underlying103 3 (fun w=>by kernel_rfl) ⟨gv,0,none⟩ ⟨g,(i+1)*3,none⟩ 1 1 (n - i) (c - (i+1)) (Ne.symm hne) 212 212 3 (c*3) (by simp [World.shape?,hg]) (by simp [World.shape?,hgg,p5]) (by omega) (by simp [World.frozen?,hg]) (by simp [World.frozen?,hg])]
  rfl
 clear h hl p p6 s p5 hnn p3
 have h1:((i:Int)==(n:Int))=false:=by simp;omega
 have h2:((n:Int)+1)≤(c:Int):=by omega
 have h3:(n:Int)≤(c:Int):=by omega
 have h4:¬ (i=n):=by omega
 have h5:n+1≤c:=by omega
 have h6:i≤n:=by omega
 have h7:¬ (c=i):=by omega
 have h8:¬ (c=i+1):=by omega
 have h9:((i:Int)+1)≤(n:Int)+1:=by omega
 have h10:((i:Int))≤(n:Int)+1:=by omega
 have h11:((i:Int))≤(n:Int):=by omega
 go_enter Tryz.func160,Tryz.ntmps160
 go_wp2_with fail
 have z1:IntKind.i64.wrap ((i:Int)+1)=(i:Int)+1:=by rw [IntKind.wrap_i64];omega
 have z2:(0:Int)≤(i:Int)+1:=by omega
 have z3:((i:Int)+1).toNat=i+1:=by omega
 go_still_tail 8,(by kernel_rfl)
 change wpList _ _ _ _ _ w.drew
 refine Zq68 rfl (.tmp 73) (.tmp 76) 103 103 rfl _ _ rfl rfl _ _ HR1.out ?_
 have hr2:=HR2.out
 clear z1 z2 z3
 go_wp2_with fail
 go_ret
 exact ⟨_,rfl,H3.out⟩
end
end Go.Proofs.YtpjchngjhijgmaaGreat
namespace Go.Proofs.YtpjchngjhijgmaaGreat
open Go.RowKit
section
variable {W w : World} {I : Hp} {l : List HP}
theorem Zq696 {X v ys Z:List Value} {a:Nat} (hv:v.length=3) (ha:X.length=a) (h:3+ys.length≤Z.length) :
  ((((X++Z).take a++v++(X++Z).drop (a+v.length)).take (a+3)++ys++((X++Z).take a++v++(X++Z).drop (a+v.length)).drop (a+3+ys.length)).take (a+3+ys.length))=X++(v++ys):=by
 have e1:(X++Z).take a=X:=by rw [←ha];exact List.take_left
 rw [e1]
 have e2:(X++v++(X++Z).drop (a+v.length)).take (a+3)=X++v:=by
  rw [List.take_left' (by rw [List.length_append,ha,hv])]
 rw [e2,List.take_left' (by simp only [List.length_append,hv,ha]),List.append_assoc]
set_option maxRecDepth 4000 in
set_option maxHeartbeats 2000000 in
theorem cinsert_grow {v:Value} {ks:List Cl} {i gv g:Nat} {k0 k1:Int} {k2:Bool} (h:St W I w (HP.pt gv (.cells #[.int .i64 k0,.int .i64 k1,.bool k2] 212)::Zq113 v ks::l)) (hn:ks.length≤1000000) (hi:i<ks.length) (hv:v=.slice (some ⟨g,0,none⟩) ks.length ks.length) :
  Calls Tryz.prog 160 #[v,.int .i64 i,.slice (some ⟨gv,0,none⟩) 1 1] w fun e w'=>∃ v',e=.returned v'∧St W I w' (Zq113 v' (cinsK i ⟨k0,k1,k2⟩ ks)::l):=by
 obtain ⟨i0,hi0,hz0,hz1,hz2⟩:=info_parts Zq304
 subst hv
 obtain ⟨n,hnn⟩:∃ n,n=ks.length:=⟨_,rfl⟩
 have hown:=(h.pull 1 _ rfl).row_owns
 rw [←hnn] at hn hi ⊢
 have hold:∀ j u,(Zq42 (ks.take i))[j]?=some u→w.cell? ((⟨g,0,none⟩:Addr).add j)=some u:=fun j u hu=>by
  rw [←Zq183,List.getElem?_take] at hu
  split at hu
  ·exact hown.cells (g:=g) rfl j u hu
  ·cases hu
 have hr:=Lib.run_append_grow_zeros (P:=Tryz.prog) w 103 3 103 212 i0 _ .i64 .i64 Tryz.underlying103 Tryz.underlying3 hi0 hz0 (some ⟨g,0,none⟩) i n (Zq42 (ks.take i))
  (by rw [hz1];exact run_firstCells_some w.drew 3 i _ i n _ (by rw [Zq47,List.length_take];omega) hold) (n+1 - i) (by omega) (by omega) (by omega) (by omega) (by rw [hz2];omega) (growslice_fits (by omega) (by rw [hz2];omega))
 rw [show i+(n+1 - i)=n+1 by omega] at hr
 have hge:=grownCap_ge w (n+1) n 212
 have hcm:grownCap w (n+1) n 212≤maxLen:=grownCap_le_maxLen w (n+1) n 212 (by unfold maxLen;omega)
 generalize grownCap w (n+1) n 212=c at hr hge hcm
 obtain ⟨Z,hZ⟩:∃ Z:Array Value,Z=Builtin.zeroCells (Value.agg #[.int .i64 0,.int .i64 0,.bool false]).cells (n+1 - i)++Builtin.zeroCells (Value.agg #[.int .i64 0,.int .i64 0,.bool false]).cells (c - (n+1)):=⟨_,rfl⟩
 have hZs:Z.size=(c - i)*3:=by
  rw [hZ,Array.size_append,size_zeroCells,size_zeroCells]
  show (n+1 - i)*3+(c - (n+1))*3=_
  omega
 rw [Array.append_assoc,←hZ] at hr
 have s0:St W I (w.drew.alloc (.cells ((Zq42 (ks.take i)).toArray++Z) 212)) (HP.pt w.heap.size (.cells ((Zq42 (ks.take i)).toArray++Z) 212 (0,0))::_):=h.drew.alloc _
 have hlt:∀ b o,w.heap[b]?=some o→(w.drew.alloc (.cells ((Zq42 (ks.take i)).toArray++Z) 212)).heap[b]?=some o:=fun b o hb=>(Below.heap_alloc w.drew _ _ (Array.getElem?_eq_some_iff.1 hb).1).trans hb
 have hX:(Zq42 (ks.take i)).length=i*3:=by rw [Zq47,List.length_take];omega
 obtain ⟨w1,hr1,hs1,s1⟩:=s0.copy_run (P:=Tryz.prog) (g:=w.heap.size) (o:=i*3) (dLen:=n+1 - i) (dCap:=c - i) (n:=1) (sLen:=1) (sCap:=1) (size:=3) (a:=⟨gv,0,none⟩) (dT:=103) (sT:=103) (ty:=3) (cs:=[.int .i64 k0,.int .i64 k1,.bool k2]) Tryz.underlying103 (by kernel_rfl) (by show min _ _=_;omega) rfl
  (by
    intro j v hj
    rw [add_plain,Nat.zero_add]
    have:=Zq0 (hlt _ _ h.heap) j
    rw [this]
    simpa using hj) (by simp [hZs,hX];omega) (by simp [Value.oneCell'])
 have hrow:=s1.pull 2 _ rfl
 rw [←hnn] at hrow
 obtain ⟨w2,hr2,hs2,s2⟩:=s1.drew.copy_run (P:=Tryz.prog) (g:=w.heap.size) (o:=(i+1)*3) (dLen:=n - i) (dCap:=c - (i+1)) (n:=n - i) (sLen:=n - i) (sCap:=n - i) (size:=3) (a:=⟨g,i*3,none⟩) (dT:=103) (sT:=103) (ty:=3) (cs:=Zq42 (ks.drop i)) Tryz.underlying103 (by kernel_rfl) (by show min _ _=_;omega) (by rw [Zq47,List.length_drop,←hnn])
  (by
    intro j v hj
    rw [add_plain]
    rw [←Zq237,List.getElem?_drop] at hj
    have:=hrow.drew.row_owns.cells (g:=g) rfl _ _ hj
    rwa [add_plain,Nat.zero_add] at this) (by simp [hZs,hX,Zq47];omega) (fun u hu=>Zq385 _ u hu)
 have h3:St W I w2 (Zq113 (.slice (some ⟨w.heap.size,0,none⟩) (n+1) c) (cinsK i ⟨k0,k1,k2⟩ ks)::l):=by
  have h4:St W I w2 (HP.pt w.heap.size _::l):=((s2.pull 1 _ rfl).drop.pull 1 _ rfl).drop
  have e:(cinsK i ⟨k0,k1,k2⟩ ks).length=n+1:=by simp [cinsK];omega
  unfold Zq113
  rw [e]
  refine h4.row_shut (xs:=Zq42 (cinsK i ⟨k0,k1,k2⟩ ks)) (by rw [Zq47,e]) (by omega) hcm ?_ ?_
  ·simp [hZs,hX,Zq47];omega
  ·have e3:=Zq696 (X:=Zq42 (ks.take i)) (v:=[.int .i64 k0,.int .i64 k1,.bool k2]) (ys:=Zq42 (ks.drop i)) (Z:=Z.toList) (a:=i*3) rfl hX (by simp [hZs,Zq47];omega)
   rw [Zq345]
   rw [Zq47,List.length_drop,←hnn] at e3 ⊢
   rw [show (n+1)*3=i*3+3+(n - i)*3 by omega,show (i+1)*3=i*3+3 by omega]
   have e4:((Zq42 (ks.take i)).toArray++Z).toList=Zq42 (ks.take i)++Z.toList:=by simp
   rw [←e4] at e3
   exact e3
 rw [show ((n+1 - i:Nat):Int)=(n:Int)+1 - (i:Int) by omega] at hr
 have H3:=Zh h3
 have HR:=Zh hr
 have HR1:=Zh hr1
 have HR2:=Zh hr2
 generalize w.drew.alloc (.cells ((Zq42 (ks.take i)).toArray++Z) 212)=w0 at *
 clear h3 hr hr1 hr2 hs1 hs2 s1 s2 hX hrow hlt s0 hZs hZ hold hown h hi0 hz0 hz1 hz2 hnn
 have h1:((i:Int)==(n:Int))=false:=by simp;omega
 have h2:((n:Int)+1)≤(c:Int):=by omega
 have h4:¬ (i=n):=by omega
 have h6:i≤n:=by omega
 have h7:¬ (c=i):=by omega
 have h8:¬ (c=i+1):=by omega
 have h7':¬ (n=i):=by omega
 have h9:((i:Int)+1)≤(n:Int)+1:=by omega
 have h10:((i:Int))≤(n:Int)+1:=by omega
 have h11:((i:Int))≤(n:Int):=by omega
 go_enter Tryz.func160,Tryz.ntmps160
 go_wp2_with (at_builtin;refine Lib.wpList_append_run _ rfl (.tmp 34) (.tmp 39) 103 3 rfl _ _ rfl rfl _ _ HR.out ?_;have hr1:=HR1.out)
 have z1:IntKind.i64.wrap ((i:Int)+1)=(i:Int)+1:=by rw [IntKind.wrap_i64];omega
 have z2:(0:Int)≤(i:Int)+1:=by omega
 have z3:((i:Int)+1).toNat=i+1:=by omega
 clear hr1
 go_still_tail 8,(by kernel_rfl)
 change wpList _ _ _ _ _ w1.drew
 have e5:n+1 - (i+1)=n - i:=by omega
 first
  | refine Zq68 rfl (.tmp 50) (.tmp 53) 103 103 rfl _ _ rfl rfl _ _ HR2.out ?_
  |(rw [←e5] at HR2;refine Zq68 rfl (.tmp 50) (.tmp 53) 103 103 rfl _ _ rfl rfl _ _ HR2.out ?_)
 clear z1 z2 z3
 go_wp2_with fail
 go_ret
 exact ⟨_,rfl,H3.out⟩
end
end Go.Proofs.YtpjchngjhijgmaaGreat
namespace Go.Proofs.YtpjchngjhijgmaaGreat
open Go.RowKit
section
variable {W w w' : World} {I : Hp} {l : List HP}
set_option maxRecDepth 4000
set_option maxHeartbeats 4000000
end
end Go.Proofs.YtpjchngjhijgmaaGreat
namespace Go.Proofs.YtpjchngjhijgmaaGreat
open Go.RowKit
section
variable {W w w' : World} {I : Hp} {l : List HP} {p q : Nat} {J : Jn} {S : Str}
set_option maxRecDepth 4000
set_option maxHeartbeats 4000000
def addJ2 (S:Str) (J:Jn) (id pos:Int):Int × Str × Jn:=if uptoJ S J id pos≠0 then (uptoJ S J id pos,S,mayJ2 S J) else withJ S J (addC J.r.cls id pos).1 (addC J.r.cls id pos).2
def Zq933 (S:Str) (J:Jn) (id pos:Int):Int × Str × Jn:=if uptoJ S J id pos≠0 then (uptoJ S J id pos,S,mayJ2 S J) else withJ S J (Zq815 J.r.cls id pos).1 (Zq815 J.r.cls id pos).2
def dropJ (S:Str) (J:Jn) (id:Int):Int × Str × Jn:=if mayJ S J≠0 then (mayJ S J,S,mayJ2 S J) else withJ S J (dropC J.r.cls id).1 (dropC J.r.cls id).2
def turnJ (S:Str) (J:Jn) (id:Int) (off:Bool):Int × Str × Jn:=if mayJ S J≠0 then (mayJ S J,S,mayJ2 S J) else withJ S J (turnC J.r.cls id off).1 (turnC J.r.cls id off).2
end
end Go.Proofs.YtpjchngjhijgmaaGreat
namespace Go.Proofs.YtpjchngjhijgmaaGreat
open Go.RowKit
def posD (J:Jn):Int:=if (slowC J.r.cls).2=true then min J.safe (slowC J.r.cls).1 else J.safe
def Zq867 (pos:Int):List En→List Pl→Nat→Int→Nat × Int→Nat × Int
 | e::es,p::ps,i,q,r=>if p.set=r.2 then Zq867 pos es ps (i+1) e.seq r else if pos<q then r else Zq867 pos es ps (i+1) e.seq (i,p.set)
 | _,_,_,_,r=>r
def doneJ (J:Jn):Nat × Int:=Zq867 (posD J) J.l J.at_ 0 0 (0,J.r.set)
section
variable {W w w' : World} {I : Hp} {l : List HP} {p q : Nat} {J : Jn} {S : Str}
set_option maxRecDepth 4000
set_option maxHeartbeats 8000000
end
end Go.Proofs.YtpjchngjhijgmaaGreat
namespace Go.Proofs.YtpjchngjhijgmaaGreat
open Go.RowKit
def goneR (r:Rc) (n set:Int):Rc:=⟨r.shape,r.first+n,set,r.tags,r.cls⟩
def goneJ (J:Jn) (n:Nat):Jn:=lJ J (J.l.drop n) (J.at_.drop n) J.fill
def Zq934 (S:Str) (J:Jn):(Int × Int) × Str × Jn :=
 if mayJ S J≠0 then ((0,mayJ S J),S,mayJ2 S J)
 else if (doneJ J).1=0 then ((0,(Zq16 S).1),(Zq16 S).2,endsJ J (Zq16 S).1)
 else if (keepJ S J (goneR J.r (doneJ J).1 (doneJ J).2)).1≠0 then ((0,(keepJ S J (goneR J.r (doneJ J).1 (doneJ J).2)).1),(keepJ S J (goneR J.r (doneJ J).1 (doneJ J).2)).2.1,(keepJ S J (goneR J.r (doneJ J).1 (doneJ J).2)).2.2)
 else if (trimJ (keepJ S J (goneR J.r (doneJ J).1 (doneJ J).2)).2.1 (goneJ (recJ J (goneR J.r (doneJ J).1 (doneJ J).2)) (doneJ J).1)).1≠0 then
  ((0,(trimJ (keepJ S J (goneR J.r (doneJ J).1 (doneJ J).2)).2.1 (goneJ (recJ J (goneR J.r (doneJ J).1 (doneJ J).2)) (doneJ J).1)).1),
    (trimJ (keepJ S J (goneR J.r (doneJ J).1 (doneJ J).2)).2.1 (goneJ (recJ J (goneR J.r (doneJ J).1 (doneJ J).2)) (doneJ J).1)).2,
    endsJ (goneJ (recJ J (goneR J.r (doneJ J).1 (doneJ J).2)) (doneJ J).1) (trimJ (keepJ S J (goneR J.r (doneJ J).1 (doneJ J).2)).2.1 (goneJ (recJ J (goneR J.r (doneJ J).1 (doneJ J).2)) (doneJ J).1)).1)
 else (((doneJ J).1,0),(trimJ (keepJ S J (goneR J.r (doneJ J).1 (doneJ J).2)).2.1 (goneJ (recJ J (goneR J.r (doneJ J).1 (doneJ J).2)) (doneJ J).1)).2,goneJ (recJ J (goneR J.r (doneJ J).1 (doneJ J).2)) (doneJ J).1)
section
variable {W w w' : World} {I : Hp} {l : List HP} {p q : Nat} {J : Jn} {S : Str}
set_option maxRecDepth 8000
set_option maxHeartbeats 8000000
end
end Go.Proofs.YtpjchngjhijgmaaGreat
namespace Go.Proofs.YtpjchngjhijgmaaGreat
open Go.RowKit
def sumS (L:List (K4 × TS)):Int:=(L.map fun x=>x.2.size).sum
theorem Zq776 (t:TS):0≤t.size:=by
 unfold TS.size Zq110
 have:∀ l:List (ByteArray × List Int),0≤(l.map fun x=>(x.1.size:Int)+x.2.length).sum:=fun l=>by
  induction l with
  | nil=>simp
  | cons a l ih=>simp only [List.map_cons,List.sum_cons];omega
 have:=this t.attr
 omega
theorem Zq346:∀ L:List (K4 × TS),0≤sumS L
 | []=>by simp [sumS]
 | x::L=>by
  have:=Zq346 L
  have h:=Zq776 x.2
  have e:sumS (x::L)=x.2.size+sumS L:=by simp [sumS]
  omega
theorem Zq849 {l k:List Int} (h:l.Perm k):l.sum=k.sum:=by
 induction h with
 | nil=>rfl
 | cons a _ ih=>simp [ih]
 | swap a b l=>simp only [List.sum_cons];omega
 | trans _ _ i j=>exact i.trans j
theorem Zq697 {L:List (K4 × TS)} (hn:(L.map (·.1)).Nodup) (k:K4):sumS L=sizeO (get k L)+sumS (del k L):=by
 cases hg:get k L with
 | none=>rw [Zq61 hg];simp [sizeO]
 | some t =>
  have h:=Zq849 ((Zq88 hn hg).map fun x=>x.2.size)
  unfold sumS
  rw [h]
  simp [sizeO]
end Go.Proofs.YtpjchngjhijgmaaGreat
