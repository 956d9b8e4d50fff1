import Derived.Test.YtpjchngjhijgmaaGreatJM24
set_option linter.all false
namespace Go.Proofs.YtpjchngjhijgmaaGreat
open Go.RowKit
section
variable {W w w' : World} {I : Hp} {l : List HP} {p q : Nat} {S : Str} {J : Jn}
theorem Zq551:(Tryz.prog.info? 212).map (fun i=>(i.zero,i.size,i.bytes))=some (some (.agg #[.int .i64 0,.int .i64 0,.bool false]),3,24):=by kernel_rfl
set_option maxHeartbeats 1000000 in
theorem Zq305 (v:Value) (n:Nat) (xs:List Value) (w:World) (hs:SliceSrc w 3 v n xs) (hn:n≤1000000) :
  Calls Tryz.prog 152 #[v] w fun e w'=>∃ v',e=.returned v'∧w'.ownsRow w.heap.size 212 3 v' n xs∧Below w.heap.size w w':=by
 obtain ⟨A,c,rfl,hsrc,hA⟩:=hs
 cases A with
 | none =>
  have h0:n=0:=by
   rcases Nat.eq_zero_or_pos n with h|h
   ·exact h
   ·obtain ⟨_,e,_⟩:=hsrc.cells h;cases e
  subst h0
  have hx:xs=[]:=List.eq_nil_of_length_eq_zero (by rw [hsrc.len,Nat.zero_mul])
  subst hx
  obtain rfl:=hA rfl
  have hq:=@Lib.run_eql_slice_nil Tryz.prog
  go_enter Tryz.func152,Tryz.ntmps152
  go_wp2
  go_ret
  exact ⟨_,rfl,World.ownsRow_nil _ _ _ _,Below.refl _ _⟩
 | some ad =>
  obtain ⟨i0,hi0,hz0,hz1,hz2⟩:=info_parts Zq551
  have hq:=@Lib.run_eql_slice_nil Tryz.prog
  go_enter Tryz.func152,Tryz.ntmps152
  have hown:=World.ownsRow_made (base:=w.heap.size) (e:=212) (size:=3) w #[] 0 (Nat.le_refl _) (Nat.zero_le _) rfl
  go_wp2_with (at_builtin
               refine Zq62 _ rfl (.tmp 5) (.tmp 6) _ rfl w.heap.size 212 i0 _ 3 24 Tryz.underlying103 hi0 hz0 hz1 hz2 rfl (by omega) _ 0 [] rfl hown (some ad) n c xs rfl
                (hsrc.below (Zq7 _ _)) (fun h=>by cases h) (by simp only [maxLen];omega) (by omega) (by simp) ?_
               intro v1 w1 hown1 hg1 hat1)
  go_ret
  refine ⟨_,rfl,by simpa using hown1,((Below.refl _ _).alloc (Nat.le_refl _) _).grown hg1 (by simp) (fun k hk=>?_)⟩
  have hk':some w.heap.size=some k:=hk
  injection hk' with hk'
  omega
set_option maxRecDepth 4000
set_option maxHeartbeats 4000000
theorem Zq501 (pl:Pl) (h:St W I w (jnHP q p J::l)):Calls Tryz.prog 70 #[.pointer (some ⟨q,0,none⟩),pl.val] w fun e w'=>e=.returned (.agg #[.int .i64 2,.int .i64 0,.int .i64 (rnum J.r.shape pl),.int .i64 0])∧Below w.heap.size w w':=by
 obtain ⟨V,hr,h1⟩:=h.jn_open
 obtain ⟨x1,x2,x3⟩:=Zq147 h1
 have ltq:=h1.lt
 obtain ⟨s,o⟩:=pl
 obtain ⟨r,hrr⟩:∃ r,r=rnum J.r.shape ⟨s,o⟩:=⟨_,rfl⟩
 have HN:=Zh (fun w=>(hrr ▸ Zq800 J.r.shape ⟨s,o⟩ w:Calls Tryz.prog 131 #[J.r.shape.val,Pl.val ⟨s,o⟩] w fun e w'=>e=.returned (.int .i64 r)∧Below w.heap.size w w'))
 rw [←hrr]
 obtain ⟨⟨a,b,c⟩,hsh⟩:∃ x,x=J.r.shape:=⟨_,rfl⟩
 rw [←hsh] at x1 x2 x3 HN
 simp only at x1 x2 x3
 clear h h1 hr hrr hsh
 simp only [Pl.val]
 have h4:=(((St.init w).alloc (.cells #[.int .i64 s,.int .i64 o] 41)).alloc (.cells #[.int .i64 0,.int .i64 0,.int .i64 0,.int .i64 0] 43))
 simp only [World.size_alloc] at h4
 have H4:=Zh h4
 clear h4
 go_enter Tryz.func70,Tryz.ntmps70
 go_upto_region 1 with fail
 have h4:=H4.out
 generalize (World.alloc _ _:World)=w4 at h4 ⊢
 have HMK:=Zh (show ∀ w',St w w.hp w' [HP.pt (w.heap.size+1) (.cells #[.int .i64 0,.int .i64 0,.int .i64 0,.int .i64 0] 43),HP.pt w.heap.size (.cells #[.int .i64 s,.int .i64 o] 41)]→(w'.cell? ⟨q,1,none⟩=some (.int .i64 a)∧w'.cell? ⟨q,2,none⟩=some (.int .i64 b)∧w'.cell? ⟨q,3,none⟩=some (.int .i64 c)∧w'.cell? ⟨w.heap.size,0,none⟩=some (.int .i64 s)∧w'.cell? ⟨w.heap.size,1,none⟩=some (.int .i64 o)) from fun w' h => 
  ⟨(h.below.cell ltq).trans x1,(h.below.cell ltq).trans x2,(h.below.cell ltq).trans x3,Zq47 (h.pull 1 _ rfl)⟩)
 have H5:=Zh h4
 clear h4 H4 x1 x2 x3
 refine Zq42 (fun w'=>w'.cell? ⟨q,1,none⟩=some (.int .i64 a)∧w'.cell? ⟨q,2,none⟩=some (.int .i64 b)∧w'.cell? ⟨q,3,none⟩=some (.int .i64 c)∧w'.cell? ⟨w.heap.size,0,none⟩=some (.int .i64 s)∧w'.cell? ⟨w.heap.size,1,none⟩=some (.int .i64 o)) [(0,false),(1,false),(2,false),(3,false),(4,false),(5,false),(6,false),(7,false)] [] [8] (by kernel_rfl) (by kernel_rfl) (by (intro w' hb;exact HMK.out _ (H5.out.drew.keep hb))) ?_
 repeat (first|(refine Zq60 (by rfl) _ (by rfl) (by intro w;go_simp;try with_reducible rfl) ?_;(try simp only [Act.put,List.setIfInBounds_toArray,Zl4,Zl5]))|(refine Zq146 (by rfl) _ (by rfl) (by (intro w hSw;(try dsimp only at hSw);go_simp;try with_reducible rfl)) ?_;(try simp only [Act.put,List.setIfInBounds_toArray,Zl4,Zl5]))|(refine Zq79 (by rfl) (by rfl) ?_;(try simp only [Act.put,List.setIfInBounds_toArray,Zl4,Zl5]))|fail)
 refine Zq178 (by rfl) (.int .i64 r) (131) (#[.agg #[.int .i64 a,.int .i64 b,.int .i64 c],.agg #[.int .i64 s,.int .i64 o]]) (by rfl) (by intro w;go_simp;try with_reducible rfl) (by (rintro w1 _;exact HN.out w1)) ?_
 (try simp only [Act.put,List.setIfInBounds_toArray,Zl4,Zl5])
 repeat (first|(refine Zq60 (by rfl) _ (by rfl) (by intro w;go_simp;try with_reducible rfl) ?_;(try simp only [Act.put,List.setIfInBounds_toArray,Zl4,Zl5]))|(refine Zq146 (by rfl) _ (by rfl) (by (intro w hSw;(try dsimp only at hSw);go_simp;try with_reducible rfl)) ?_;(try simp only [Act.put,List.setIfInBounds_toArray,Zl4,Zl5]))|(refine Zq79 (by rfl) (by rfl) ?_;(try simp only [Act.put,List.setIfInBounds_toArray,Zl4,Zl5]))|fail)
 refine Zq345 ?_
 refine Zq547 ?_
 rintro w9 hz9
 have h9:=H5.out.drew.keep hz9.below
 clear hz9
 have f9:=frozen_of_row h9.heap
 have k9:=Zq1 h9.heap
 have y0:=k9 0
 have y1:=k9 1
 have y2:=k9 2
 have y3:=k9 3
 simp at y0 y1 y2 y3
 have lt9:=h9.lt
 have H9:=Zh h9
 clear h9 k9
 go_wp2_with fail
 refine NoPanic.normal ?_
 have h10:=(((H9.out.setCell 0 (.int .i64 2)).setCell 1 (.int .i64 0)).setCell 2 (.int .i64 r)).setCell 3 (.int .i64 0)
 generalize (World.setCell _ _ _:World)=w10 at h10 ⊢
 clear y0 y1 y2 y3 f9 lt9 H9
 have k9:=Zq1 h10.heap
 have y0:=k9 0
 have y1:=k9 1
 have y2:=k9 2
 have y3:=k9 3
 simp at y0 y1 y2 y3
 have HB:=Zh h10.below
 clear h10 k9
 go_wp2_with fail
 refine bodyPost_ret (v:=.agg #[.int .i64 2,.int .i64 0,.int .i64 r,.int .i64 0]) (by simp [results,Tryz.results70,go_sem,y0,y1,y2,y3]) rfl ?_
 exact ⟨rfl,HB.out⟩
theorem Zq778 (cs:List Cl):∀ u ∈ cs.flatMap Cl.vals,u.oneCell'=true:=by
 intro u hu
 simp only [List.mem_flatMap,Cl.vals,List.mem_cons,List.not_mem_nil,or_false] at hu
 obtain ⟨c,_,rfl|rfl|rfl⟩:=hu <;> rfl
theorem Zq502 {w2:World} {e:TypeId} {size n:Nat} {v:Value} {xs:List Value} (h:St W I w l) (ho:w2.ownsRow w.heap.size e size v n xs) (hb:Below w.heap.size w w2):∃ I',I.sub I'∧RowI I' size v n xs∧St W I' w2 l :=
 (h.row_fresh hb ho).freeze_row
theorem Zq552 (h:St W I w (jnHP q p J::l)) (hn:J.r.tags.length≤1000000):Calls Tryz.prog 40 #[.pointer (some ⟨q,0,none⟩)] w fun e w'=>∃ I' v,I.sub I'∧e=.returned v∧RowI I' 4 v J.r.tags.length (flat J.r.tags)∧St W I' w' (jnHP q p J::l):=by
 obtain ⟨V,hr,h1⟩:=h.jn_open
 have x6:=jn_c6 h1
 obtain ⟨A,c,hv,_,hat⟩:=Zq152 h1 hr.1
 rw [hv] at x6
 have HC:=Zh (Zq250 A J.r.tags.length c J.r.tags w hat hn)
 have H:=Zh h
 obtain ⟨n,hnn⟩:∃ n,n=J.r.tags.length:=⟨_,rfl⟩
 rw [←hnn] at x6 HC
 rw [←hnn]
 have HNN:=Zh hnn
 clear h h1 hr hv hat hnn
 go_enter Tryz.func40,Tryz.ntmps40
 go_wp2_with fail
 refine HC.out.mono ?_
 rintro e w2 ⟨v,rfl,ho,hb⟩
 obtain ⟨I2,s2,hR,h2⟩:=Zq502 H.out ho hb
 have HR:=Zh hR
 have H2:=Zh h2
 clear ho hb hR h2 x6
 obtain ⟨A2,c2,rfl,_⟩:=HR.out
 go_wp2_with fail
 go_ret
 exact ⟨I2,_,s2,rfl,HR.out,H2.out⟩
theorem Zq396 (h:St W I w (jnHP q p J::l)) (hn:J.r.cls.length≤1000000):Calls Tryz.prog 101 #[.pointer (some ⟨q,0,none⟩)] w fun e w'=>∃ I' v,I.sub I'∧e=.returned v∧RowI I' 3 v J.r.cls.length (J.r.cls.flatMap Cl.vals)∧St W I' w' (jnHP q p J::l):=by
 obtain ⟨V,hr,h1⟩:=h.jn_open
 have x7:=jn_c7 h1
 have HC:=Zh (Zq305 V.vc J.r.cls.length (J.r.cls.flatMap Cl.vals) w (hr.2.src h1.imm (Zq778 _) (by omega)) hn)
 have H:=Zh h
 obtain ⟨A,c,hv,_⟩:=hr.2
 rw [hv] at x7 HC
 obtain ⟨n,hnn⟩:∃ n,n=J.r.cls.length:=⟨_,rfl⟩
 rw [←hnn] at x7 HC
 rw [←hnn]
 have HNN:=Zh hnn
 clear h h1 hr hv hnn
 go_enter Tryz.func101,Tryz.ntmps101
 go_wp2_with fail
 refine HC.out.mono ?_
 rintro e w2 ⟨v,rfl,ho,hb⟩
 obtain ⟨I2,s2,hR,h2⟩:=Zq502 H.out ho hb
 have HR:=Zh hR
 have H2:=Zh h2
 clear ho hb hR h2 x7
 obtain ⟨A2,c2,rfl,_⟩:=HR.out
 go_wp2_with fail
 go_ret
 exact ⟨I2,_,s2,rfl,HR.out,H2.out⟩
def safeJ (J:Jn):Jn:={ J with safe:=endJ J }
theorem St.jn_safe (x:Int) (h:St W I w (jnHP q p J::l)) (hx:x=endJ J):St W I (w.setCell ⟨q,15,none⟩ (.int .i64 x)) (jnHP q p (safeJ J)::l):=by
 subst hx
 obtain ⟨V,hr,h1⟩:=h.jn_open
 exact St.jn_shut (J:=safeJ J) (V:=V) hr (h1.setCell 15 (.int .i64 (endJ J)))
def Zq914 (S:Str) (J:Jn):Int × Str × Jn :=
 if mayJ S J≠0 then (mayJ S J,S,mayJ2 S J) else if (Zq14 S).1≠0 then ((Zq14 S).1,(Zq14 S).2,endsJ J (Zq14 S).1) else (0,(Zq14 S).2,safeJ J)
theorem Zq348 {S:Str} {J:Jn} (h:mayJ S J=0):mayJ2 S J=J:=by
 unfold mayJ at h
 unfold mayJ2
 by_cases hc:J.dead=true∨S.on=false
 ·rw [if_pos hc] at h;cases h
 ·rw [if_neg hc]
end
end Go.Proofs.YtpjchngjhijgmaaGreat
namespace Go.Proofs.YtpjchngjhijgmaaGreat
open Go.RowKit
section
variable {W w w' : World} {I : Hp} {l : List HP} {p q : Nat} {S : Str} {J : Jn}
def recJ (J:Jn) (r:Rc):Jn:={ J with r:=r }
def keepJ (S:Str) (J:Jn) (r:Rc):Int × Str × Jn:=((saveJ S r).1,(saveJ S r).2,endsJ (if (saveJ S r).1=0 then recJ J r else J) (saveJ S r).1)
set_option maxRecDepth 4000
set_option maxHeartbeats 4000000
theorem St.jn_rec {r:Rc} {vt vc:Value} (hI:recI I r vt vc) (h:St W I w (jnHP q p J::l)):St W I (((((((w.setCell ⟨q,1,none⟩ (.int .i64 r.shape.splay)).setCell ⟨q,2,none⟩ (.int .i64 r.shape.sets)).setCell ⟨q,3,none⟩ (.int .i64 r.shape.size)).setCell ⟨q,4,none⟩ (.int .i64 r.first)).setCell ⟨q,5,none⟩ (.int .i64 r.set)).setCell ⟨q,6,none⟩ vt).setCell ⟨q,7,none⟩ vc) (jnHP q p (recJ J r)::l):=by
 obtain ⟨V,hr,h1⟩:=h.jn_open
 have h2:=((((((h1.setCell 1 (.int .i64 r.shape.splay)).setCell 2 (.int .i64 r.shape.sets)).setCell 3 (.int .i64 r.shape.size)).setCell 4 (.int .i64 r.first)).setCell 5 (.int .i64 r.set)).setCell 6 vt).setCell 7 vc
 simp only [Zq135,List.setIfInBounds_toArray,Zl4,Zl5] at h2
 exact St.jn_shut (J:=recJ J r) (V:={ V with vt:=vt,vc:=vc }) hI h2
def clsR (r:Rc) (cs:List Cl):Rc:=⟨r.shape,r.first,r.set,r.tags,cs⟩
def withJ (S:Str) (J:Jn) (cs:List Cl) (why:Int):Int × Str × Jn:=if why≠0 then (why,S,J) else keepJ S J (clsR J.r cs)
def uptoJ (S:Str) (J:Jn) (id pos:Int):Int:=if mayJ S J≠0 then mayJ S J else if mayC id pos=false then 1 else if endJ J<pos then 3 else 0
end
end Go.Proofs.YtpjchngjhijgmaaGreat
namespace Go.Proofs.YtpjchngjhijgmaaGreat
open Go.RowKit
theorem Zq241 {l:List Tag} {end_:Int} {i:Nat} (h1:∀ j t,j<i→l[j]?=some t→t.at_≤end_) (h2:∀ t,l[i]?=some t→¬ t.at_≤end_) (hi:i≤l.length):Zq36 l end_=l.take i:=by
 unfold Zq36
 induction l generalizing i with
 | nil=>simp
 | cons a l ih =>
  cases i with
  | zero =>
   have:=h2 a rfl
   rw [List.takeWhile_cons_of_neg (by simpa using this)]
   rfl
  | succ i =>
   have:=h1 0 a (by omega) rfl
   rw [List.takeWhile_cons_of_pos (by simpa using this),ih (i:=i) (fun j t hj ht=>h1 (j+1) t (by omega) (by simpa using ht)) (fun t ht=>h2 t (by simpa using ht)) (by simpa using hi)]
   rfl
section
set_option maxRecDepth 4000
set_option maxHeartbeats 4000000
theorem Zq503 (A:Option Addr) (n c:Nat) (l:List Tag) (end_:Int) (w:World) (hl:TagsAt w A n l) (hn:n≤1000000) (hnc:n≤c) :
  Calls Tryz.prog 90 #[.slice A n c,.int .i64 end_] w fun e w'=>∃ v,e=.returned v∧w'.ownsRow w.heap.size 80 4 v (Zq36 l end_).length (flat (Zq36 l end_))∧Below w.heap.size w w':=by
 have HL:=Zh hl
 have hlen:=hl.len
 clear hl
 go_enter Tryz.func90,Tryz.ntmps90
 go_wp2_with fail
 go_loopw [5] (fun a5 wr=>∃ i:Nat,a5=.int .i64 i∧i≤n∧(∀ j t,j<i→l[j]?=some t→t.at_≤end_)∧wr=w) (fun a5 _=>n - (intOf a5).toNat)
 case atStart=>exact ⟨0,rfl,Nat.zero_le _,fun j t h=>by omega,rfl⟩
 case round =>
  obtain ⟨i,rfl,hi,hall,rfl⟩:=hrel
  have done:(∀ t,l[i]?=some t→¬ t.at_≤end_)→∃ v,True:=fun _=>⟨Value.bool true,trivial⟩
  clear done
  by_cases hlt:i<n
  ·have d0:decide ((i:Int)<(n:Int))=true:=by rw [decide_eq_true_eq];omega
   obtain ⟨b,off,t,rfl,hbl,hti,c0,c1,c2,c3⟩:=HL.out.at_ hlt
   have hin:(i:Int)<(n:Int):=by omega
   by_cases hb:t.at_≤end_
   ·have d1:decide (t.at_≤end_)=true:=decide_eq_true hb
    have HA:=Zh (show ∀ j u,j<i+1→l[j]?=some u→u.at_≤end_ from fun j u hj hu=>by
     by_cases e:j=i
     ·subst e;rw [hti] at hu;cases hu;exact hb
     ·exact hall j u (by omega) hu)
    clear hall hti
    go_wp2_with fail
    go_roundw
    case rel=>exact ⟨i+1,by go_num,by omega,HA.out,trivial⟩
    case measure=>first|(simp [intOf];done)|(simp [intOf];omega)|fail
   ·have d1:decide (t.at_≤end_)=false:=decide_eq_false hb
    have HC:=Zh (Zq241 hall (fun u hu=>by rw [hti] at hu;cases hu;exact hb) (by omega))
    have hic:i≤c:=by omega
    have HCL:=Zh (Zq250 (some ⟨b,off,none⟩) i c (l.take i) wr (HL.out.take (by omega)) (by omega))
    clear hall hti
    go_wp2_with fail
    refine HCL.out.mono ?_
    rintro e w2 ⟨v,rfl,ho,hb2⟩
    have HO:=Zh ho
    have HB2:=Zh hb2
    clear ho hb2
    go_wp2_with fail
    go_ret
    refine ⟨v,rfl,?_,HB2.out⟩
    rw [HC.out,List.length_take,show min i l.length=i by omega]
    exact HO.out
  ·obtain rfl:i=n:=by omega
   have d0:decide (((i:Nat):Int)<(i:Int))=false:=by rw [decide_eq_false_iff_not];omega
   have HC:=Zh (Zq241 (i:=i) hall (fun u hu=>by rw [List.getElem?_eq_none (by omega)] at hu;cases hu) (by omega))
   have HCL:=Zh (Zq250 A i c (l.take i) wr (HL.out.take (by omega)) (by omega))
   clear hall
   go_wp2_with fail
   refine HCL.out.mono ?_
   rintro e w2 ⟨v,rfl,ho,hb2⟩
   have HO:=Zh ho
   have HB2:=Zh hb2
   clear ho hb2
   go_wp2_with fail
   go_ret
   refine ⟨v,rfl,?_,HB2.out⟩
   rw [HC.out,List.length_take,show min i l.length=i by omega]
   exact HO.out
end
end Go.Proofs.YtpjchngjhijgmaaGreat
