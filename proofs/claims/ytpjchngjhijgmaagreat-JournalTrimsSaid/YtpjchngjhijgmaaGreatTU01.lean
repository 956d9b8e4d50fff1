import Derived.Test.YtpjchngjhijgmaaGreatTU00
set_option linter.all false
namespace Go.Proofs.YtpjchngjhijgmaaGreat
open Go.RowKit
theorem ckflat_len (cs:List Cl):(Zq849 cs).length=cs.length*3:=Zq313 (mk:=Cl.vals) (k:=3) (fun _=>rfl) cs
theorem ckeys_one (cs:List Cl):∀ u ∈ Zq849 cs,u.oneCell'=true:=Zq812 cs
section
variable {W w : World} {I : Hp} {l : List HP}
theorem ckflat_take (ks:List Cl) (i:Nat):(Zq849 ks).take (i*3)=Zq849 (ks.take i):=by
 induction ks generalizing i with
 | nil=>simp [Zq849]
 | cons t ks ih =>
  cases i with
  | zero=>simp [Zq849]
  | succ i =>
   have:=ih i
   simp only [Zq849,List.flatMap_cons,List.take_succ_cons] at this ⊢
   rw [List.take_append,show t.vals.length=3 from rfl,List.take_of_length_le (by show 3≤_;omega),show (i+1)*3 - 3=i*3 by omega,this]
theorem ckflat_drop (ks:List Cl) (i:Nat):(Zq849 ks).drop (i*3)=Zq849 (ks.drop i):=by
 induction ks generalizing i with
 | nil=>simp [Zq849]
 | cons t ks ih =>
  cases i with
  | zero=>simp [Zq849]
  | succ i =>
   have:=ih i
   simp only [Zq849,List.flatMap_cons,List.drop_succ_cons] at this ⊢
   rw [List.drop_append,show t.vals.length=3 from rfl,List.drop_of_length_le (by show 3≤_;omega),show (i+1)*3 - 3=i*3 by omega,Zl3,this]
theorem ckflat_append (a b:List Cl):Zq849 (a++b)=Zq849 a++Zq849 b:=by simp [Zq849]
theorem ckeyB_info:(Tryz.prog.info? 212).map (fun i=>(i.zero,i.size,i.bytes))=some (some (.agg #[.int .i64 0,.int .i64 0,.bool false]),3,24):=by kernel_rfl
end
end Go.Proofs.YtpjchngjhijgmaaGreat
namespace Go.Proofs.YtpjchngjhijgmaaGreat
open Go.RowKit
section
variable {P : Program} {W w : World} {I : Hp} {l : List HP}
theorem croom_list {X v ys R:List Value} {a:Nat} (hv:v.length=3) (h:a+3≤X.length) :
  (((X.take (a+3)++ys++R).take a++v++(X.take (a+3)++ys++R).drop (a+v.length)).take (a+3+ys.length))=X.take a++(v++ys):=by
 rw [hv,Zq496 h,Zq497 (a:=a+3) h]
 have e:X.take a++v++(ys++R)=(X.take a++(v++ys))++R:=by simp [List.append_assoc]
 rw [e,List.take_left' (by simp only [List.length_append,List.length_take,hv];omega)]
theorem ckflat_insK (i:Nat) (k:Cl) (ks:List Cl):Zq849 (cinsK i k ks)=Zq849 (ks.take i)++(k.vals++Zq849 (ks.drop i)):=by
 unfold cinsK
 rw [ckflat_append]
 rfl
set_option maxRecDepth 4000 in
set_option maxHeartbeats 2000000 in
theorem cinsert_end {v:Value} {ks:List Cl} {gv:Nat} {k0 k1:Int} {k2:Bool} (h:St W I w (HP.pt gv (.cells #[.int .i64 k0,.int .i64 k1,.bool k2] 212)::Zq855 v ks::l)) (hn:ks.length≤1000000) :
  Calls Tryz.prog 160 #[v,.int .i64 ks.length,.slice (some ⟨gv,0,none⟩) 1 1] w fun e w'=>∃ v',e=.returned v'∧St W I w' (Zq855 v' (ks++[⟨k0,k1,k2⟩])::l):=by
 obtain ⟨i0,hi0,hz0,hz1,hz2⟩:=info_parts ckeyB_info
 have hg:=h.heap
 have h2:=h.pull 1 _ rfl
 have hown:=h2.row_owns
 have hsrc:SrcAt w 3 (some ⟨gv,0,none⟩) 1 [.int .i64 k0,.int .i64 k1,.bool k2]:=⟨rfl,fun _=>⟨_,rfl,fun j u hu=>by
  rw [add_plain,Nat.zero_add]
  have hj:=(List.getElem?_eq_some_iff.1 hu).1
  have:=Zq1 hg j
  simp only [List.length_cons,List.length_nil] at hj
  rw [this]
  simpa using hu⟩,by simp [Value.oneCell']⟩
 obtain ⟨v',w',hr,ho',hgr,hv'⟩:=Zq49 (P:=Tryz.prog) w 0 103 103 212 i0 _ 3 24 Tryz.underlying103 hi0 hz0 hz1 hz2 rfl (by decide) v ks.length _ hown (some ⟨gv,0,none⟩) 1 1 _ hsrc (by intro h;cases h) (by unfold maxLen;omega) (by omega) (Nat.zero_le _)
 have h3:=(h2.row_grown ho' hgr hv').pull 1 _ rfl
 have h4:St W I w' (Zq855 v' (ks++[⟨k0,k1,k2⟩])::l):=by
  have h5:=h3.drop
  have e:Zq849 (ks++[⟨k0,k1,k2⟩])=Zq849 ks++[.int .i64 k0,.int .i64 k1,.bool k2]:=ckflat_append _ _
  have e2:(ks++[(⟨k0,k1,k2⟩:Cl)]).length=ks.length+1:=by simp
  unfold Zq855
  rw [e2]
  show St W I w' (HP.row _ 3 v' _ (Zq849 _)::l)
  rw [e]
  exact h5
 obtain ⟨A,c,rfl,hA⟩:∃ A c,v=.slice A ks.length c∧((A=none∧c=0∧ks.length=0)∨∃ g,A=some ⟨g,0,none⟩∧ks.length≤c):=by
  rcases hown.2 with ⟨e1,e2⟩|⟨g,cap,cur,e1,_,_,h1,_⟩
  ·exact ⟨none,0,by rw [e1,e2],.inl ⟨rfl,rfl,e2⟩⟩
  ·exact ⟨_,_,e1,.inr ⟨g,rfl,h1⟩⟩
 obtain ⟨n,hnn⟩:∃ n,n=ks.length:=⟨_,rfl⟩
 rw [←hnn] at hr hA hn ⊢
 have H4:=Zh h4
 have HR:=Zh hr
 clear h4 h3 ho' hgr hv' hsrc hown h2 hg h hz0 hz1 hz2 hi0 hnn hr
 rcases hA with ⟨rfl,rfl,rfl⟩|⟨g,rfl,hnc⟩
 ·go_enter Tryz.func160,Tryz.ntmps160
  go_wp2_with (at_builtin;refine Lib.wpList_append_run _ rfl (.tmp 23) (.tmp 24) 103 103 rfl _ _ rfl rfl v' w' HR.out ?_)
  go_ret
  exact ⟨_,rfl,H4.out⟩
 ·by_cases hcn:c=n
  ·subst hcn
   go_enter Tryz.func160,Tryz.ntmps160
   go_wp2_with (at_builtin;refine Lib.wpList_append_run _ rfl (.tmp 23) (.tmp 24) 103 103 rfl _ _ rfl rfl v' w' HR.out ?_)
   go_ret
   exact ⟨_,rfl,H4.out⟩
  ·go_enter Tryz.func160,Tryz.ntmps160
   go_wp2_with (at_builtin;refine Lib.wpList_append_run _ rfl (.tmp 23) (.tmp 24) 103 103 rfl _ _ rfl rfl v' w' HR.out ?_)
   go_ret
   exact ⟨_,rfl,H4.out⟩
set_option maxRecDepth 4000 in
set_option maxHeartbeats 2000000 in
theorem cinsert_room {v:Value} {ks:List Cl} {i gv g c:Nat} {k0 k1:Int} {k2:Bool} (h:St W I w (HP.pt gv (.cells #[.int .i64 k0,.int .i64 k1,.bool k2] 212)::Zq855 v ks::l)) (hn:ks.length≤1000000) (hi:i<ks.length) (hv:v=.slice (some ⟨g,0,none⟩) ks.length c) (hc:ks.length<c) :
  Calls Tryz.prog 160 #[v,.int .i64 i,.slice (some ⟨gv,0,none⟩) 1 1] w fun e w'=>∃ v',e=.returned v'∧St W I w' (Zq855 v' (cinsK i ⟨k0,k1,k2⟩ ks)::l):=by
 subst hv
 obtain ⟨n,hnn⟩:∃ n,n=ks.length:=⟨_,rfl⟩
 rw [←hnn] at hn hi hc ⊢
 have hg:=h.heap
 obtain ⟨hl,p⟩:=(h.pull 1 _ rfl).row_open
 obtain ⟨cur,p3,p4,p5,p6,s⟩:∃ cur,ks.length≤c∧c≤maxLen∧cur.size=c*3∧cur.toList.take (ks.length*3)=Zq849 ks∧St W I w (HP.pt g (.cells cur 212 (0,0))::HP.pt gv (.cells #[.int .i64 k0,.int .i64 k1,.bool k2] 212)::l):=by
  rcases p with ⟨e1,_⟩|⟨g',cap',cur,e1,h2,h3,h4,h5,h6⟩
  ·cases e1
  ·simp only [Value.slice.injEq,Option.some.injEq,Addr.mk.injEq,and_true,true_and] at e1
   obtain ⟨rfl,rfl⟩:=e1
   exact ⟨cur,h2,h3,h4,h5,h6⟩
 have hne:=s.ne
 have S:=Zh s
 have P6:=Zh p6
 have HN:=Zh hnn
 obtain ⟨w1,hr1,hs1,s1⟩:=s.drew.copy_run (P:=Tryz.prog) (g:=g) (o:=(i+1)*3) (dLen:=n - i) (dCap:=c - (i+1)) (n:=n - i) (sLen:=n+1 - i) (sCap:=c - i) (size:=3) (a:=⟨g,i*3,none⟩) (dT:=103) (sT:=103) (ty:=3) (cs:=Zq849 (ks.drop i)) Tryz.underlying103 (by kernel_rfl) (by show min _ _=_;omega) (by rw [ckflat_len,List.length_drop,←hnn])
  (by
    intro j v hj
    rw [add_plain]
    rw [←ckflat_drop,←p6,List.getElem?_drop,List.getElem?_take] at hj
    split at hj
    ·have:=Zq1 s.drew.heap (i*3+j)
     rw [this]
     simpa using hj
    ·cases hj) (by rw [ckflat_len,List.length_drop,←hnn,p5];omega) (fun u hu=>ckeys_one _ u hu)
 have hX:ks.length*3≤cur.toList.length:=by simp [p5];omega
 have hl1:(cur.toList.take ((i+1)*3)++Zq849 (ks.drop i)++cur.toList.drop ((i+1)*3+(Zq849 (ks.drop i)).length)).length=c*3:=by
  simp only [List.length_append,List.length_take,List.length_drop,ckflat_len,Array.length_toList,p5,←hnn];omega
 obtain ⟨w2,hr2,hs2,s2⟩:=s1.copy_run (P:=Tryz.prog) (g:=g) (o:=i*3) (dLen:=n+1 - i) (dCap:=c - i) (n:=1) (sLen:=1) (sCap:=1) (size:=3) (a:=⟨gv,0,none⟩) (dT:=103) (sT:=103) (ty:=3) (cs:=[.int .i64 k0,.int .i64 k1,.bool k2]) Tryz.underlying103 (by kernel_rfl) (by show min _ _=_;omega) rfl
  (by
    intro j v hj
    rw [add_plain,Nat.zero_add]
    have:=Zq1 (s1.pull 1 _ rfl).heap j
    rw [this]
    simpa using hj) (by rw [List.size_toArray,hl1];simp;omega) (by simp [Value.oneCell'])
 have h3:St W I w2 (Zq855 (.slice (some ⟨g,0,none⟩) (n+1) c) (cinsK i ⟨k0,k1,k2⟩ ks)::l):=by
  have h4:=((s2.pull 1 _ rfl).drop)
  simp only [Zl0,Zl1] at h4
  have e:(cinsK i ⟨k0,k1,k2⟩ ks).length=n+1:=by simp [cinsK];omega
  unfold Zq855
  rw [e]
  refine h4.row_shut (xs:=Zq849 (cinsK i ⟨k0,k1,k2⟩ ks)) (by rw [ckflat_len,e]) (by omega) p4 ?_ ?_
  ·simp only [List.size_toArray,List.length_append,List.length_take,List.length_drop,hl1,List.length_cons,List.length_nil]
   omega
  ·have e2:cur.toList.take (i*3)=Zq849 (ks.take i):=by
    rw [←ckflat_take,←p6,List.take_take,show min (i*3) (ks.length*3)=i*3 by omega]
   have e3:=croom_list (X:=cur.toList) (v:=[.int .i64 k0,.int .i64 k1,.bool k2]) (ys:=Zq849 (ks.drop i)) (R:=cur.toList.drop ((i+1)*3+(Zq849 (ks.drop i)).length)) (a:=i*3) rfl (by omega)
   rw [e2,ckflat_len,List.length_drop,←hnn] at e3
   rw [ckflat_insK,ckflat_len,List.length_drop,←hnn]
   rw [show (n+1)*3=i*3+3+(n - i)*3 by omega]
   rw [show (i+1)*3=i*3+3 by omega] at e3 ⊢
   exact e3
 have H3:=Zh h3
 have HR1:=Zh hr1
 have HR2:=Zh hr2
 clear h3 hr1 hr2 hs1 hs2 s1 s2 hX hl1
 have hov:(callFunc 186 #[.slice (some ⟨gv,0,none⟩) 1 1,.slice (some ⟨g,(i+1)*3,none⟩) (n - i) (c - (i+1))]).run Tryz.prog w=.ok (.value (.bool false)) w:=by
  have hgg:=s.heap
  rw [run_callFunc_extern Tryz.func186 (by kernel_rfl) (by kernel_rfl) (by kernel_rfl) (e:=Extern.SlicesOverlaps.overlaps #[103,103] #[4]) (by kernel_rfl),
   Lib.run_overlaps_apart w 103 4 212 Tryz.underlying103 3 (fun w=>by kernel_rfl) ⟨gv,0,none⟩ ⟨g,(i+1)*3,none⟩ 1 1 (n - i) (c - (i+1)) (Ne.symm hne) 212 212 3 (c*3) (by simp [World.shape?,hg]) (by simp [World.shape?,hgg,p5]) (by omega) (by simp [World.frozen?,hg]) (by simp [World.frozen?,hg])]
  rfl
 clear h hl p p6 s p5 hnn p3
 have h1:((i:Int)==(n:Int))=false:=by simp;omega
 have h2:((n:Int)+1)≤(c:Int):=by omega
 have h3:(n:Int)≤(c:Int):=by omega
 have h4:¬ (i=n):=by omega
 have h5:n+1≤c:=by omega
 have h6:i≤n:=by omega
 have h7:¬ (c=i):=by omega
 have h8:¬ (c=i+1):=by omega
 have h9:((i:Int)+1)≤(n:Int)+1:=by omega
 have h10:((i:Int))≤(n:Int)+1:=by omega
 have h11:((i:Int))≤(n:Int):=by omega
 go_enter Tryz.func160,Tryz.ntmps160
 go_wp2_with fail
 have z1:IntKind.i64.wrap ((i:Int)+1)=(i:Int)+1:=by rw [IntKind.wrap_i64];omega
 have z2:(0:Int)≤(i:Int)+1:=by omega
 have z3:((i:Int)+1).toNat=i+1:=by omega
 go_still_tail 8,(by kernel_rfl)
 change wpList _ _ _ _ _ w.drew
 refine Zq113 rfl (.tmp 73) (.tmp 76) 103 103 rfl _ _ rfl rfl _ _ HR1.out ?_
 have hr2:=HR2.out
 clear z1 z2 z3
 go_wp2_with fail
 go_ret
 exact ⟨_,rfl,H3.out⟩
end
end Go.Proofs.YtpjchngjhijgmaaGreat
namespace Go.Proofs.YtpjchngjhijgmaaGreat
open Go.RowKit
section
variable {W w : World} {I : Hp} {l : List HP}
theorem cgrow_list {X v ys Z:List Value} {a:Nat} (hv:v.length=3) (ha:X.length=a) (h:3+ys.length≤Z.length) :
  ((((X++Z).take a++v++(X++Z).drop (a+v.length)).take (a+3)++ys++((X++Z).take a++v++(X++Z).drop (a+v.length)).drop (a+3+ys.length)).take (a+3+ys.length))=X++(v++ys):=by
 have e1:(X++Z).take a=X:=by rw [←ha];exact List.take_left
 rw [e1]
 have e2:(X++v++(X++Z).drop (a+v.length)).take (a+3)=X++v:=by
  rw [List.take_left' (by rw [List.length_append,ha,hv])]
 rw [e2,List.take_left' (by simp only [List.length_append,hv,ha]),List.append_assoc]
set_option maxRecDepth 4000 in
set_option maxHeartbeats 2000000 in
theorem cinsert_grow {v:Value} {ks:List Cl} {i gv g:Nat} {k0 k1:Int} {k2:Bool} (h:St W I w (HP.pt gv (.cells #[.int .i64 k0,.int .i64 k1,.bool k2] 212)::Zq855 v ks::l)) (hn:ks.length≤1000000) (hi:i<ks.length) (hv:v=.slice (some ⟨g,0,none⟩) ks.length ks.length) :
  Calls Tryz.prog 160 #[v,.int .i64 i,.slice (some ⟨gv,0,none⟩) 1 1] w fun e w'=>∃ v',e=.returned v'∧St W I w' (Zq855 v' (cinsK i ⟨k0,k1,k2⟩ ks)::l):=by
 obtain ⟨i0,hi0,hz0,hz1,hz2⟩:=info_parts ckeyB_info
 subst hv
 obtain ⟨n,hnn⟩:∃ n,n=ks.length:=⟨_,rfl⟩
 have hown:=(h.pull 1 _ rfl).row_owns
 rw [←hnn] at hn hi ⊢
 have hold:∀ j u,(Zq849 (ks.take i))[j]?=some u→w.cell? ((⟨g,0,none⟩:Addr).add j)=some u:=fun j u hu=>by
  rw [←ckflat_take,List.getElem?_take] at hu
  split at hu
  ·exact hown.cells (g:=g) rfl j u hu
  ·cases hu
 have hr:=Lib.run_append_grow_zeros (P:=Tryz.prog) w 103 3 103 212 i0 _ .i64 .i64 Tryz.underlying103 Tryz.underlying3 hi0 hz0 (some ⟨g,0,none⟩) i n (Zq849 (ks.take i))
  (by rw [hz1];exact run_firstCells_some w.drew 3 i _ i n _ (by rw [ckflat_len,List.length_take];omega) hold) (n+1 - i) (by omega) (by omega) (by omega) (by omega) (by rw [hz2];omega) (growslice_fits (by omega) (by rw [hz2];omega))
 rw [show i+(n+1 - i)=n+1 by omega] at hr
 have hge:=grownCap_ge w (n+1) n 212
 have hcm:grownCap w (n+1) n 212≤maxLen:=grownCap_le_maxLen w (n+1) n 212 (by unfold maxLen;omega)
 generalize grownCap w (n+1) n 212=c at hr hge hcm
 obtain ⟨Z,hZ⟩:∃ Z:Array Value,Z=Builtin.zeroCells (Value.agg #[.int .i64 0,.int .i64 0,.bool false]).cells (n+1 - i)++Builtin.zeroCells (Value.agg #[.int .i64 0,.int .i64 0,.bool false]).cells (c - (n+1)):=⟨_,rfl⟩
 have hZs:Z.size=(c - i)*3:=by
  rw [hZ,Array.size_append,size_zeroCells,size_zeroCells]
  show (n+1 - i)*3+(c - (n+1))*3=_
  omega
 rw [Array.append_assoc,←hZ] at hr
 have s0:St W I (w.drew.alloc (.cells ((Zq849 (ks.take i)).toArray++Z) 212)) (HP.pt w.heap.size (.cells ((Zq849 (ks.take i)).toArray++Z) 212 (0,0))::_):=h.drew.alloc _
 have hlt:∀ b o,w.heap[b]?=some o→(w.drew.alloc (.cells ((Zq849 (ks.take i)).toArray++Z) 212)).heap[b]?=some o:=fun b o hb=>(Below.heap_alloc w.drew _ _ (Array.getElem?_eq_some_iff.1 hb).1).trans hb
 have hX:(Zq849 (ks.take i)).length=i*3:=by rw [ckflat_len,List.length_take];omega
 obtain ⟨w1,hr1,hs1,s1⟩:=s0.copy_run (P:=Tryz.prog) (g:=w.heap.size) (o:=i*3) (dLen:=n+1 - i) (dCap:=c - i) (n:=1) (sLen:=1) (sCap:=1) (size:=3) (a:=⟨gv,0,none⟩) (dT:=103) (sT:=103) (ty:=3) (cs:=[.int .i64 k0,.int .i64 k1,.bool k2]) Tryz.underlying103 (by kernel_rfl) (by show min _ _=_;omega) rfl
  (by
    intro j v hj
    rw [add_plain,Nat.zero_add]
    have:=Zq1 (hlt _ _ h.heap) j
    rw [this]
    simpa using hj) (by simp [hZs,hX];omega) (by simp [Value.oneCell'])
 have hrow:=s1.pull 2 _ rfl
 rw [←hnn] at hrow
 obtain ⟨w2,hr2,hs2,s2⟩:=s1.drew.copy_run (P:=Tryz.prog) (g:=w.heap.size) (o:=(i+1)*3) (dLen:=n - i) (dCap:=c - (i+1)) (n:=n - i) (sLen:=n - i) (sCap:=n - i) (size:=3) (a:=⟨g,i*3,none⟩) (dT:=103) (sT:=103) (ty:=3) (cs:=Zq849 (ks.drop i)) Tryz.underlying103 (by kernel_rfl) (by show min _ _=_;omega) (by rw [ckflat_len,List.length_drop,←hnn])
  (by
    intro j v hj
    rw [add_plain]
    rw [←ckflat_drop,List.getElem?_drop] at hj
    have:=hrow.drew.row_owns.cells (g:=g) rfl _ _ hj
    rwa [add_plain,Nat.zero_add] at this) (by simp [hZs,hX,ckflat_len];omega) (fun u hu=>ckeys_one _ u hu)
 have h3:St W I w2 (Zq855 (.slice (some ⟨w.heap.size,0,none⟩) (n+1) c) (cinsK i ⟨k0,k1,k2⟩ ks)::l):=by
  have h4:St W I w2 (HP.pt w.heap.size _::l):=((s2.pull 1 _ rfl).drop.pull 1 _ rfl).drop
  have e:(cinsK i ⟨k0,k1,k2⟩ ks).length=n+1:=by simp [cinsK];omega
  unfold Zq855
  rw [e]
  refine h4.row_shut (xs:=Zq849 (cinsK i ⟨k0,k1,k2⟩ ks)) (by rw [ckflat_len,e]) (by omega) hcm ?_ ?_
  ·simp [hZs,hX,ckflat_len];omega
  ·have e3:=cgrow_list (X:=Zq849 (ks.take i)) (v:=[.int .i64 k0,.int .i64 k1,.bool k2]) (ys:=Zq849 (ks.drop i)) (Z:=Z.toList) (a:=i*3) rfl hX (by simp [hZs,ckflat_len];omega)
   rw [ckflat_insK]
   rw [ckflat_len,List.length_drop,←hnn] at e3 ⊢
   rw [show (n+1)*3=i*3+3+(n - i)*3 by omega,show (i+1)*3=i*3+3 by omega]
   have e4:((Zq849 (ks.take i)).toArray++Z).toList=Zq849 (ks.take i)++Z.toList:=by simp
   rw [←e4] at e3
   exact e3
 rw [show ((n+1 - i:Nat):Int)=(n:Int)+1 - (i:Int) by omega] at hr
 have H3:=Zh h3
 have HR:=Zh hr
 have HR1:=Zh hr1
 have HR2:=Zh hr2
 generalize w.drew.alloc (.cells ((Zq849 (ks.take i)).toArray++Z) 212)=w0 at *
 clear h3 hr hr1 hr2 hs1 hs2 s1 s2 hX hrow hlt s0 hZs hZ hold hown h hi0 hz0 hz1 hz2 hnn
 have h1:((i:Int)==(n:Int))=false:=by simp;omega
 have h2:((n:Int)+1)≤(c:Int):=by omega
 have h4:¬ (i=n):=by omega
 have h6:i≤n:=by omega
 have h7:¬ (c=i):=by omega
 have h8:¬ (c=i+1):=by omega
 have h7':¬ (n=i):=by omega
 have h9:((i:Int)+1)≤(n:Int)+1:=by omega
 have h10:((i:Int))≤(n:Int)+1:=by omega
 have h11:((i:Int))≤(n:Int):=by omega
 go_enter Tryz.func160,Tryz.ntmps160
 go_wp2_with (at_builtin;refine Lib.wpList_append_run _ rfl (.tmp 34) (.tmp 39) 103 3 rfl _ _ rfl rfl _ _ HR.out ?_;have hr1:=HR1.out)
 have z1:IntKind.i64.wrap ((i:Int)+1)=(i:Int)+1:=by rw [IntKind.wrap_i64];omega
 have z2:(0:Int)≤(i:Int)+1:=by omega
 have z3:((i:Int)+1).toNat=i+1:=by omega
 clear hr1
 go_still_tail 8,(by kernel_rfl)
 change wpList _ _ _ _ _ w1.drew
 have e5:n+1 - (i+1)=n - i:=by omega
 first
  | refine Zq113 rfl (.tmp 50) (.tmp 53) 103 103 rfl _ _ rfl rfl _ _ HR2.out ?_
  |(rw [←e5] at HR2;refine Zq113 rfl (.tmp 50) (.tmp 53) 103 103 rfl _ _ rfl rfl _ _ HR2.out ?_)
 clear z1 z2 z3
 go_wp2_with fail
 go_ret
 exact ⟨_,rfl,H3.out⟩
theorem cinsert_spec {v:Value} {ks:List Cl} {i gv:Nat} (k:Cl) (h:St W I w (HP.pt gv (.cells #[.int .i64 k.id,.int .i64 k.pos,.bool k.off] 212)::Zq855 v ks::l)) (hn:ks.length≤1000000) (hi:i≤ks.length) :
  Calls Tryz.prog 160 #[v,.int .i64 i,.slice (some ⟨gv,0,none⟩) 1 1] w fun e w'=>∃ v',e=.returned v'∧St W I w' (Zq855 v' (cinsK i k ks)::l):=by
 obtain ⟨k0,k1,k2⟩:=k
 by_cases hin:i=ks.length
 ·subst hin
  have e:cinsK ks.length ⟨k0,k1,k2⟩ ks=ks++[⟨k0,k1,k2⟩]:=by simp [cinsK]
  rw [e]
  exact cinsert_end h hn
 ·rcases (h.pull 1 _ rfl).row_owns.2 with ⟨e1,e2⟩|⟨g,cap,cur,e1,_,_,h1,_⟩
  ·omega
  ·by_cases hc:cap=ks.length
   ·subst hc;exact cinsert_grow h hn (by omega) e1
   ·exact cinsert_room h hn (by omega) e1 (by omega)
end
end Go.Proofs.YtpjchngjhijgmaaGreat
