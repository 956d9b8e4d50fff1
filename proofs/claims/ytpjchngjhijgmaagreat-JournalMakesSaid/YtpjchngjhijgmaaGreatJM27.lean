import Derived.Test.YtpjchngjhijgmaaGreatJM22
set_option linter.all false
namespace Go.Proofs.YtpjchngjhijgmaaGreat
open Go.RowKit
def intKT:KT Tryz.prog 3 Int where
 kv:=Value.int .i64
 inj:=fun {a b} h=>by simpa using h
 check:=fun w em a=>MapKept.run_checkKey (d:=.int .i64) Tryz.underlying3 (by simp [MapKept.IsKey]) em 9999
 find:=fun w a L es h=>by
  have now:∀ (L:List (Int × Value)) (es:List MapEntry) (i:Nat),es.map (fun x=>(x.key,x.val))=L.map (fun p=>(Value.int .i64 p.1,p.2))→Instr.findNow (.int .i64) (.int .i64 a) es i=some (at_ a L i):=by
   intro L
   induction L with
   | nil =>
    intro es i h
    have:es=[]:=by simpa using h
    subst this
    rfl
   | cons p L ih =>
    intro es i h
    match es,h with
    | e::es,h =>
     simp only [List.map_cons,List.cons.injEq,Prod.mk.injEq] at h
     obtain ⟨⟨h1,h2⟩,h3⟩:=h
     obtain ⟨c,v⟩:=p
     simp only at h1 h2
     simp only [Instr.findNow,h1,Instr.sameNow,at_]
     by_cases e1:a=c
     ·simp [e1,h2]
     ·have e2:(a==c)=false:=by simpa using e1
      simp [e1,e2,ih es (i+1) h3]
  exact MapKept.run_findKey Tryz.underlying3 (now L es 0 h)
 stays:=fun w a=>MapKept.run_keyThatStays (d:=.int .i64) (by simp [MapKept.IsKey])
def Zq49 (m:List (Int × En)) (e:En):List (Int × En):=if (get e.seq m).isSome then m else put e.seq e m
def Zq50 (rs:List (List Int)):List (Int × En):=rs.foldl (fun m r=>(allB r).1.foldl Zq49 m) []
def cntM (m:List (Int × En)) (s:Int):Nat:=(m.filter fun x=>decide (s≤x.1)).length
def runGo:Nat→List (Int × En)→Int→List En
 | 0,_,_=>[]
 | f+1,m,s=>match get s m with
  | none=>[]
  | some e=>e::runGo f m (s+1)
def runM (m:List (Int × En)) (s:Int):List En:=runGo (cntM m s) m s
def Zq177 (rs:List (List Int)) (s:Int):List En:=if s<1 then [] else runM (Zq50 rs) s
theorem Zq208 {m:List (Int × En)} {s:Int} {e:En} (h:get s m=some e):cntM m (s+1)<cntM m s:=by
 have hm:=get_mem h
 unfold cntM
 have hsub:(m.filter fun x=>decide (s+1≤x.1))=(m.filter fun x=>decide (s≤x.1)).filter fun x=>decide (s+1≤x.1):=by
  rw [List.filter_filter]
  congr 1
  funext x
  rw [Bool.eq_iff_iff]
  simp only [Bool.and_eq_true,decide_eq_true_eq]
  omega
 rw [hsub]
 have hlt:=List.length_filter_lt_length_iff_exists (p:=fun x:Int × En=>decide (s+1≤x.1)) (l:=m.filter fun x=>decide (s≤x.1))
 exact hlt.2 ⟨(s,e),List.mem_filter.2 ⟨hm,by simp⟩,by simp;omega⟩
theorem Zq399 {m:List (Int × En)}:∀ (f:Nat) (s:Int),cntM m s≤f→runGo f m s=runM m s:=by
 intro f
 induction f with
 | zero =>
  intro s h
  unfold runM
  rw [show cntM m s=0 by omega]
 | succ f ih =>
  intro s h
  unfold runM
  cases hg:get s m with
  | none =>
   cases hc:cntM m s with
   | zero=>simp [runGo,hg]
   | succ n=>simp [runGo,hg]
  | some e =>
   have h1:=Zq208 hg
   obtain ⟨n,hn⟩:∃ n,cntM m s=n+1:=⟨cntM m s - 1,by omega⟩
   rw [hn]
   simp only [runGo,hg]
   rw [ih (s+1) (by omega)]
   unfold runM
   congr 1
   have h2:∀ g,cntM m (s+1)≤g→g≤f→runGo g m (s+1)=runM m (s+1):=by
    intro g hg1 hg2
    have h3:=ih (s+1) (by omega)
    have:∀ (a b:Nat) (q:Int),cntM m q≤a→cntM m q≤b→runGo a m q=runGo b m q:=by
     intro a
     induction a with
     | zero =>
      intro b q h4 h5
      cases b with
      | zero=>rfl
      | succ b =>
       cases hq:get q m with
       | none=>simp [runGo,hq]
       | some e=>have:=Zq208 hq;omega
     | succ a iha =>
      intro b q h4 h5
      cases hq:get q m with
      | none=>cases b <;> simp [runGo,hq]
      | some e =>
       have h6:=Zq208 hq
       cases b with
       | zero=>omega
       | succ b =>
        simp only [runGo,hq]
        rw [iha b (q+1) (by omega) (by omega)]
    exact this _ _ _ hg1 (Nat.le_refl _)
   exact (h2 n (by omega) (by omega)).symm
theorem Zq506 (m:List (Int × En)) (s:Int):runM m s=match get s m with
  | none=>[]
  | some e=>e::runM m (s+1):=by
 have h:=Zq399 (m:=m) (cntM m s+1) s (by omega)
 rw [←h]
 cases hg:get s m with
 | none=>simp [runGo,hg]
 | some e =>
  have h1:=Zq208 hg
  simp only [runGo,hg]
  rw [Zq399 _ _ (by omega)]
def Zq280 (v:Value) (rs:List (List Int)):HP :=
 HP.ex fun vs:List Value=>HP.all [HP.win 46 1 v rs.length vs,HP.imm ⟨fun I=>∀ (i:Nat) (r:List Int),rs[i]?=some r→∃ x,vs[i]?=some x∧BytesI I x r∧∀ y ∈ r,isByte y,fun s h i r hr=>by
  obtain ⟨x,h1,h2,h3⟩:=h i r hr
  exact ⟨x,h1,(Zq103 x r).mono s h2,h3⟩⟩]
def evV (x:En × Value):Value:=.agg #[.int .i64 x.1.tag,.int .i64 x.1.seq,x.2]
section
variable {W w w' : World} {I : Hp} {l : List HP}
theorem St.rows_cell {v:Value} {rs:List (List Int)} {i:Nat} {r:List Int} (h:St W I w (Zq280 v rs::l)) (hi:rs[i]?=some r):∃ g q c x,v=.slice (some ⟨g,q,none⟩) rs.length c∧g<w.heap.size∧BytesI I x r∧(∀ y ∈ r,isByte y)∧w.cell? ⟨g,q+i,none⟩=some x:=by
 obtain ⟨vs,h1⟩:=h.ex_open
 obtain ⟨hd,h2⟩:=((h1.all_open).pull 1 _ rfl).imm_open
 obtain ⟨x,hx,hb,hy⟩:=hd i r hi
 have hil:=(List.getElem?_eq_some_iff.1 hx).1
 obtain ⟨g,q,c,e1,hg,hnc,hc⟩:=h2.win_cell (by omega)
 exact ⟨g,q,c,x,e1,hg,hb,hy,hc i x hx⟩
theorem St.rows_slice {v:Value} {rs:List (List Int)} (h:St W I w (Zq280 v rs::l)):∃ A c,v=.slice A rs.length c∧rs.length≤c:=by
 obtain ⟨vs,h1⟩:=h.ex_open
 obtain ⟨hd,h2⟩:=((h1.all_open).pull 1 _ rfl).imm_open
 obtain ⟨A,c,e,hc,_⟩:=h2.win_slice
 exact ⟨A,c,e,hc⟩
theorem get_map {K V U:Type} [DecidableEq K] (f:V→U) (a:K):∀ L:List (K × V),get a (L.map fun x=>(x.1,f x.2))=(get a L).map f
 | []=>rfl
 |(b,v)::L=>by
  by_cases e:a=b
  ·simp [get,e]
  ·simp only [List.map_cons,get,e,if_false]
   exact get_map f a L
theorem Zq779 {K V U:Type} [DecidableEq K] (f:V→U) (a:K) (v:V) (L:List (K × V)):put a (f v) (L.map fun x=>(x.1,f x.2))=(put a v L).map fun x=>(x.1,f x.2):=by
 unfold put del
 rw [List.map_cons,List.filter_map]
 rfl
theorem Zq648 (w:World):(zeroValue 50).run Tryz.prog w=.ok (.agg #[.int .i64 0,.int .i64 0,.slice none 0 0]) w:=by kernel_rfl
def mapIP (M:List (Int × En × Value)):IP:=⟨fun I=>∀ x ∈ M,BytesI I x.2.2 x.2.1.data∧∀ y ∈ x.2.1.data,isByte y,fun s h x hx=>⟨(Zq103 x.2.2 x.2.1.data).mono s (h x hx).1,(h x hx).2⟩⟩
def Zq358 (b:Nat) (m:List (Int × En)):HP :=
 HP.ex fun M:List (Int × En × Value)=>HP.all [HP.pure (M.map (fun x=>(x.1,x.2.1))=m),HP.map intKT b (M.map fun x=>(x.1,evV x.2)),HP.imm (mapIP M)]
theorem St.emap_open {b:Nat} {m:List (Int × En)} (h:St W I w (Zq358 b m::l)):∃ M:List (Int × En × Value),M.map (fun x=>(x.1,x.2.1))=m∧(mapIP M).p I∧St W I w (HP.map intKT b (M.map fun x=>(x.1,evV x.2))::l):=by
 obtain ⟨M,h1⟩:=h.ex_open
 obtain ⟨e,h2⟩:=(h1.all_open).pure_open
 obtain ⟨d,h3⟩:=(h2.pull 1 _ rfl).imm_open
 exact ⟨M,e,d,h3⟩
theorem St.emap_shut {b:Nat} {M:List (Int × En × Value)} (hd:(mapIP M).p I) (h:St W I w (HP.map intKT b (M.map fun x=>(x.1,evV x.2))::l)):St W I w (Zq358 b (M.map fun x=>(x.1,x.2.1))::l):=by
 refine St.ex_shut M ?_
 refine St.all_shut ?_
 refine St.pure_shut rfl ?_
 exact ((St.imm_shut hd h).pull 1 _ rfl)
theorem St.emap_made {b:Nat} (h:St W I w (HP.pt b (.map #[] 0)::l)):St W I w (Zq358 b []::l) :=
 St.emap_shut (M:=[]) (fun x hx=>by cases hx) h.map_made
theorem St.emap_look {b:Nat} {m:List (Int × En)} (h:St W I w (Zq358 b m::l)) (s:Int):∃ vd,BytesI I vd ((get s m).getD enZ).data∧(∀ y ∈ ((get s m).getD enZ).data,isByte y)∧∀ {w2:World},Below w.heap.size w w2 →
  (Instr.lookup 202 (.map (some b)) (.int .i64 s) true).run Tryz.prog w2=.ok (.tuple #[.agg #[.int .i64 ((get s m).getD enZ).tag,.int .i64 ((get s m).getD enZ).seq,vd],.bool (get s m).isSome]) w2:=by
 obtain ⟨M,rfl,hd,h1⟩:=h.emap_open
 have hl:=fun {w2:World} (hw:Below w.heap.size w w2)=>h1.map_look Tryz.underlying202 Zq648 s true hw
 have g1:=get_map evV s M
 have g2:=get_map (fun x:En × Value=>x.1) s M
 rw [g1] at hl
 rw [g2]
 cases hg:get s M with
 | none =>
  rw [hg] at hl
  exact ⟨.slice none 0 0,Zq254 I,by simp [enZ],fun hw=>hl hw⟩
 | some x =>
  rw [hg] at hl
  exact ⟨x.2,(hd _ (get_mem hg)).1,(hd _ (get_mem hg)).2,fun hw=>hl hw⟩
theorem St.emap_put {b:Nat} {m:List (Int × En)} {e:En} {vd:Value} (h:St W I w (Zq358 b m::l)) (hd:BytesI I vd e.data) (hb:∀ y ∈ e.data,isByte y) (s:Int):∃ w',(Instr.mapUpdate 202 (.map (some b)) (.int .i64 s) (.agg #[.int .i64 e.tag,.int .i64 e.seq,vd])).run Tryz.prog w=.ok () w'∧w'.heap.size=w.heap.size∧St W I w' (Zq358 b (put s e m)::l):=by
 obtain ⟨M,rfl,hM,h1⟩:=h.emap_open
 obtain ⟨w',hr,hs,h2⟩:=h1.map_put Tryz.underlying202 s (evV (e,vd))
 refine ⟨w',hr,hs,?_⟩
 rw [Zq779 evV s (e,vd) M] at h2
 have h3:=h2.emap_shut (by
  intro x hx
  rcases List.mem_cons.1 hx with rfl|hx
  ·exact ⟨hd,hb⟩
  ·exact hM x (List.mem_filter.1 hx).1)
 rw [←Zq779 (fun x:En × Value=>x.1) s (e,vd) M] at h3
 exact h3
theorem Zq400 {rs:List (List Int)} {i:Nat} {r:List Int} (h:rs[i]?=some r):Zq50 (rs.take (i+1))=(allB r).1.foldl Zq49 (Zq50 (rs.take i)):=by
 unfold Zq50
 rw [List.take_add_one,h,List.foldl_append]
 rfl
theorem Zq349 {es:List En} {j:Nat} {e:En} (h:es[j]?=some e) (m:List (Int × En)):(es.take (j+1)).foldl Zq49 m=Zq49 ((es.take j).foldl Zq49 m) e:=by
 rw [List.take_add_one,h,List.foldl_append]
 rfl
theorem Zq507:∀ (f:Nat) (r:List Int),23*(allGo f r).1.length≤r.length
 | 0,r=>by simp [allGo]
 | f+1,r=>by
  unfold allGo
  split
  ·simp
  ·rename_i h
   have h1:=Zq346 (r:=r) (by simpa using h)
   have h2:=Zq507 f (r.drop (takeR r).2.1)
   rw [List.length_drop] at h2
   simp only [List.length_cons]
   omega
theorem Zq649 (b:List Int):23*(allB b).1.length≤b.length:=Zq507 _ _
theorem Zq455 (es:List En):∀ m:List (Int × En),(es.foldl Zq49 m).length≤m.length+es.length:=by
 induction es with
 | nil=>intro m;simp
 | cons e es ih =>
  intro m
  rw [List.foldl_cons]
  have h1:=ih (Zq49 m e)
  have h2:(Zq49 m e).length≤m.length+1:=by
   unfold Zq49
   split
   ·omega
   ·exact Zq774 _ _ _
  simp only [List.length_cons]
  omega
theorem Zq186:∀ (rs:List (List Int)) (m:List (Int × En)),(∀ r ∈ rs,r.length≤23000)→(rs.foldl (fun m r=>(allB r).1.foldl Zq49 m) m).length≤m.length+1000*rs.length
 | [],m,_=>by simp
 | r::rs,m,h=>by
  rw [List.foldl_cons]
  have h1:=Zq186 rs ((allB r).1.foldl Zq49 m) (fun q hq=>h q (List.mem_cons_of_mem _ hq))
  have h2:=Zq455 (allB r).1 m
  have h3:=Zq649 r
  have h4:=h r (List.mem_cons_self ..)
  simp only [List.length_cons]
  omega
theorem Zq780 (m:List (Int × En)) (s:Int):cntM m s≤m.length:=List.length_filter_le ..
set_option maxRecDepth 4000
set_option maxHeartbeats 8000000
theorem Zq650 (v:Value) (rs:List (List Int)) (from_:Int) (h:St W I w (Zq280 v rs::l)) (hn:rs.length≤1000) (hbl:∀ r ∈ rs,r.length≤23000) (hf:from_≤2199023255552) :
  Calls Tryz.prog 85 #[v,.int .i64 from_] w fun e w'=>∃ I' v',I.sub I'∧e=.returned v'∧St W I' w' (Zq23 v' (Zq177 rs from_)::Zq280 v rs::l):=by
 by_cases h1:from_<1
 ·have d0:decide (from_<1)=true:=decide_eq_true h1
  have he:Zq177 rs from_=[]:=by unfold Zq177;rw [if_pos h1]
  rw [he]
  have H:=Zh h
  clear h hn hbl he
  go_enter Tryz.func85,Tryz.ntmps85
  go_wp2_with fail
  go_ret
  exact ⟨I,_,Hp.sub.refl _,rfl,H.out.ents_nil⟩
 ·have d0:decide (from_<1)=false:=decide_eq_false h1
  have he:Zq177 rs from_=runM (Zq50 rs) from_:=by unfold Zq177;rw [if_neg h1]
  obtain ⟨m,hmr⟩:∃ m,Zq50 rs=m:=⟨_,rfl⟩
  rw [he,hmr]
  have HMR:=Zh hmr
  obtain ⟨A,c,rfl,hnc⟩:=h.rows_slice
  have hst:=((h.alloc (.map #[] 0)).emap_made)
  obtain ⟨gm,hgm⟩:∃ g,w.heap.size=g:=⟨_,rfl⟩
  rw [hgm] at hst
  have H:=Zh hst
  have HGM:=Zh hgm
  have HBL:=Zh hbl
  have hml:=Zq186 rs [] hbl
  have HML:=Zh (show m.length≤1000000 by rw [←hmr];unfold Zq50;simp only [List.length_nil] at hml;omega)
  have hmm:=@run_makeMap Tryz.prog
  clear h hbl he hst hgm hml hmr
  go_enter Tryz.func85,Tryz.ntmps85
  go_wp2_with fail
  rw [HGM.out]
  clear hmm
  go_loopw [22] (fun a22 wr=>∃ (i:Nat) (I1:Hp),a22=.int .i64 i∧i≤rs.length∧I.sub I1∧St W I1 wr (Zq358 gm (Zq50 (rs.take i))::Zq280 (.slice A rs.length c) rs::l)) (fun a22 _=>rs.length - (intOf a22).toNat)
  case atStart=>exact ⟨0,I,rfl,Nat.zero_le _,Hp.sub.refl _,H.out⟩
  case round =>
   obtain ⟨i,I1,rfl,hi,hsub,hst⟩:=hrel
   by_cases hlt:i<rs.length
   ·have d1:decide ((i:Int)<(rs.length:Int))=true:=by rw [decide_eq_true_eq];omega
    obtain ⟨r,hr⟩:∃ r,rs[i]?=some r:=⟨_,List.getElem?_eq_getElem hlt⟩
    obtain ⟨g,q,c0,x,e1,hg,hbx,hbb,hcell⟩:=(hst.pull 1 _ rfl).rows_cell hr
    simp only [Value.slice.injEq,true_and] at e1
    obtain ⟨rfl,rfl⟩:=e1
    have hall:=Zq737 x r hst hbx hbb (by have:=HBL.out r (List.mem_of_getElem? hr);omega)
    have hms:=Zq400 hr
    have hel:=Zq649 r
    have hrl:=HBL.out r (List.mem_of_getElem? hr)
    obtain ⟨⟨es,an⟩,hes⟩:∃ z,allB r=z:=⟨_,rfl⟩
    rw [hes] at hall hms hel
    have HALL:=Zh hall
    have HMS:=Zh hms
    have HSUB:=Zh hsub
    have hin:(i:Int)<(rs.length:Int):=by omega
    simp only at hel
    have hel2:es.length≤1000:=by omega
    clear hel hrl
    obtain ⟨Ax,cx,rfl⟩:=hbx.isSl
    clear hall hms hes hsub hst hr hbx hbb
    go_wp2_with fail
    refine HALL.out.mono ?_
    rintro e w2 ⟨I2,v2,hs2,rfl,h2⟩
    obtain ⟨A2,c2,rfl,hc2,_⟩:=h2.ents_slice
    have HS2:=Zh (HSUB.out.trans hs2)
    have H2:=Zh h2
    clear h2 hs2 HALL HSUB hcell
    go_wp2_with fail
    go_loopw [33] (fun a33 wr=>∃ (j:Nat) (I3:Hp),a33=.int .i64 j∧j≤es.length∧I.sub I3∧St W I3 wr (Zq23 (.slice A2 es.length c2) es::Zq358 gm ((es.take j).foldl Zq49 (Zq50 (rs.take i)))::Zq280 (.slice (some ⟨g,q,none⟩) rs.length c) rs::l)) (fun a33 _=>es.length - (intOf a33).toNat)
    case atStart=>exact ⟨0,I2,rfl,Nat.zero_le _,HS2.out,H2.out⟩
    case round =>
     obtain ⟨j,I3,rfl,hj,hsub3,hst3⟩:=hrel
     clear H2 HS2
     by_cases hjl:j<es.length
     ·have d2:decide ((j:Int)<(es.length:Int))=true:=by rw [decide_eq_true_eq];omega
      obtain ⟨e,he⟩:∃ e,es[j]?=some e:=⟨_,List.getElem?_eq_getElem hjl⟩
      obtain ⟨g2,q2,c3,vd,e2,hg2,hbd,hbb,y0,y1,y2⟩:=hst3.ents_cell he
      simp only [Value.slice.injEq,true_and] at e2
      obtain ⟨rfl,rfl⟩:=e2
      have HF:=Zh (Zq349 he (Zq50 (rs.take i)))
      obtain ⟨mj,hmj⟩:∃ m,(es.take j).foldl Zq49 (Zq50 (rs.take i))=m:=⟨_,rfl⟩
      rw [hmj] at hst3 HF
      obtain ⟨tg,sq,d⟩:=e
      simp only at y0 y1 y2
      have h4:=hst3.keep (Zq7 wr (.cells #[.int .i64 tg,.int .i64 sq,vd] 50))
      obtain ⟨vz,hbz,hbzb,hlk⟩:=(h4.pull 1 _ rfl).emap_look sq
      have hlk1:=hlk (Below.refl _ _)
      have hin2:(j:Int)<(es.length:Int):=by omega
      obtain ⟨Ad,cd,rfl⟩:=hbd.isSl
      obtain ⟨Az,cz,rfl⟩:=hbz.isSl
      obtain ⟨z,hz⟩:∃ z,(get sq mj).getD enZ=z:=⟨_,rfl⟩
      obtain ⟨bi,hbi⟩:∃ b,(get sq mj).isSome=b:=⟨_,rfl⟩
      rw [hz,hbi] at hlk1
      obtain ⟨ztg,zsq,zd⟩:=z
      simp only at hlk1
      have h5:=h4.keep (Zq7 _ (.cells #[.int .i64 ztg,.int .i64 zsq,.slice Az ((get sq mj).getD enZ).data.length cz] 50))
      rw [hz] at h5
      simp only at h5
      cases bi with
      | true =>
       have HM:=Zh (show (es.take (j+1)).foldl Zq49 (Zq50 (rs.take i))=mj by
        rw [HF.out]
        unfold Zq49
        rw [hbi,if_pos rfl])
       have H5:=Zh h5
       have HSUB3:=Zh hsub3
       clear h4 h5 hlk hbz hbzb hbd hbb hst3 he hmj hz hbi hsub3
       go_wp2_with fail
       go_roundw
       case rel=>exact ⟨j+1,I3,by go_num,by omega,HSUB3.out,by rw [HM.out];exact H5.out⟩
       case measure=>first|(simp [intOf];done)|(simp [intOf];omega)|fail
      | false =>
       obtain ⟨w6,hr6,hs6,h6⟩:=(h5.pull 1 _ rfl).emap_put (e:=⟨tg,sq,d⟩) hbd hbb sq
       have HM:=Zh (show (es.take (j+1)).foldl Zq49 (Zq50 (rs.take i))=put sq ⟨tg,sq,d⟩ mj by
        rw [HF.out]
        unfold Zq49
        rw [hbi,if_neg (by simp)])
       have H6:=Zh (h6.pull 1 _ rfl)
       have HSUB3:=Zh hsub3
       have HS6:=Zh hs6
       clear h4 h5 h6 hlk hbz hbzb hbd hbb hst3 he hmj hz hbi hsub3 hs6
       go_wp2_with fail
       go_roundw
       case rel=>exact ⟨j+1,I3,by go_num,by omega,HSUB3.out,by rw [HM.out];exact H6.out⟩
       case measure=>first|(simp [intOf];done)|(simp [intOf];omega)|fail
     ·obtain rfl:j=es.length:=by omega
      have d2:decide (((es.length:Nat):Int)<(es.length:Int))=false:=by rw [decide_eq_false_iff_not];omega
      rw [List.take_length] at hst3
      have HST3:=Zh hst3.drop
      have HSUB3:=Zh hsub3
      clear hst3 hsub3
      go_wp2_with fail
      go_roundw
      case rel=>exact ⟨i+1,I3,by go_num,by omega,HSUB3.out,by rw [HMS.out];exact HST3.out⟩
      case measure=>first|(simp [intOf];done)|(simp [intOf];omega)|fail
   ·obtain rfl:i=rs.length:=by omega
    have d1:decide (((rs.length:Nat):Int)<(rs.length:Int))=false:=by rw [decide_eq_false_iff_not];omega
    rw [List.take_length] at hst
    rw [HMR.out] at hst
    obtain ⟨vz,hbz,hbzb,hlk⟩:=hst.emap_look from_
    have hlk1:=hlk (Below.refl _ _)
    obtain ⟨Az,cz,rfl⟩:=hbz.isSl
    have h3:=hst.alloc (.cells #[.int .i64 ((get from_ m).getD enZ).tag,.int .i64 ((get from_ m).getD enZ).seq,.slice Az ((get from_ m).getD enZ).data.length cz] 50)
    have H3:=Zh (h3.ents_nil)
    have HBZ:=Zh hbz
    have HBZB:=Zh hbzb
    have HSUB:=Zh hsub
    clear hst hlk h3 hbz hbzb hsub H
    go_wp2_with fail
    go_loopw [1,14,15,16] (fun a1 a14 a15 a16 wr=>∃ (s:Int) (out:List En) (I3:Hp) (g:Nat) (A':Option Addr) (c':Nat) (e:En) (vd:Value) (b:Bool),a1=.int .i64 s∧a14=.slice A' out.length c'∧a15=.pointer (some ⟨g,0,none⟩)∧a16=.bool b∧b=(get s m).isSome∧e=(get s m).getD enZ∧runM m from_=out++runM m s∧1≤s∧s+cntM m s≤from_+cntM m from_∧out.length+cntM m s≤cntM m from_∧I.sub I3∧BytesI I3 vd e.data∧(∀ y ∈ e.data,isByte y)∧St W I3 wr (Zq23 (.slice A' out.length c') out::HP.pt g (.cells #[.int .i64 e.tag,.int .i64 e.seq,vd] 50)::Zq358 gm m::Zq280 (.slice A rs.length c) rs::l)) (fun a1 _ _ _ _=>cntM m (intOf a1))
    case atStart=>exact ⟨from_,[],I1,wr.heap.size,none,0,_,_,_,rfl,rfl,rfl,rfl,rfl,rfl,by simp,by omega,by omega,by simp,HSUB.out,HBZ.out,HBZB.out,H3.out⟩
    case round =>
     obtain ⟨s,out,I3,g,A',c',e,vd,b,rfl,rfl,rfl,rfl,hb,he,hrun,hs1,hcs,hco,hsub3,hbd,hbb,hst⟩:=hrel
     clear H3 HBZ HBZB HSUB hlk1
     have hcm:=Zq780 m from_
     cases b with
     | false =>
      have HE:=Zh (show runM m from_=out by
       rw [hrun,Zq506]
       cases hg:get s m with
       | none=>simp
       | some x=>rw [hg] at hb;cases hb)
      have HST:=Zh ((((hst.pull 1 _ rfl).drop).pull 1 _ rfl).drop)
      have HSUB3:=Zh hsub3
      clear hst hsub3 hrun hb he hbd hbb hcs hco hcm
      go_wp2_with fail
      go_ret
      rw [HE.out]
      exact ⟨I3,_,HSUB3.out,rfl,HST.out⟩
     | true =>
      obtain ⟨e1,hg⟩:∃ e1,get s m=some e1:=by
       cases hg:get s m with
       | none=>rw [hg] at hb;cases hb
       | some x=>exact ⟨x,rfl⟩
      obtain rfl:e=e1:=by rw [he,hg];rfl
      have hlt3:=Zq208 hg
      have HE:=Zh (show runM m from_=(out++[e])++runM m (s+1) by
       rw [hrun,Zq506 m s,hg,List.append_assoc]
       rfl)
      have HCM:=Zh hcm
      have HML2:=HML.out
      obtain ⟨tg,sq,d⟩:=e
      simp only at hst hbd hbb
      obtain ⟨x0,x1,x2⟩:=Zq40 (hst.pull 1 _ rfl)
      obtain ⟨Ad,cd,rfl⟩:=hbd.isSl
      obtain ⟨A5,c5,w5,hr5,h5⟩:=hst.ents_append (e:=⟨tg,sq,d⟩) rfl hbd hbb (by omega)
      obtain ⟨y0,y1,y2⟩:=Zq40 (h5.pull 1 _ rfl)
      have hlt5:=(h5.pull 1 _ rfl).lt
      have h6:=h5.alloc (.cells #[.int .i64 tg,.int .i64 sq,.slice Ad d.length cd] 50)
      obtain ⟨vz,hbz,hbzb,hlk⟩:=(h6.pull 3 _ rfl).emap_look (s+1)
      have hlk6:=hlk (Below.refl _ _)
      obtain ⟨Az2,cz2,rfl⟩:=hbz.isSl
      obtain ⟨e2,he2⟩:∃ e2,(get (s+1) m).getD enZ=e2:=⟨_,rfl⟩
      obtain ⟨b2,hb2⟩:∃ b2,(get (s+1) m).isSome=b2:=⟨_,rfl⟩
      rw [he2] at hlk6 hbz hbzb
      rw [hb2] at hlk6
      have hout:out.length+1=(out++[(⟨tg,sq,d⟩:En)]).length:=by simp
      obtain ⟨o2,ho2⟩:∃ o2,out++[(⟨tg,sq,d⟩:En)]=o2:=⟨_,rfl⟩
      rw [ho2] at h5 h6 HE hout
      rw [hout] at hr5 h5 h6
      obtain ⟨etg,esq,ed⟩:=e2
      simp only at hlk6 hbz hbzb
      have h7:=h5.alloc (.cells #[.int .i64 etg,.int .i64 esq,.slice Az2 ed.length cz2] 50)
      have H7:=Zh (((h7.pull 2 _ rfl).drop).pull 1 _ rfl)
      have HR5:=Zh hr5
      have HBZ:=Zh hbz
      have HBZB:=Zh hbzb
      have HSUB:=Zh hsub3
      have HCS:=Zh (show s+1+cntM m (s+1)≤from_+cntM m from_∧o2.length+cntM m (s+1)≤cntM m from_ by rw [←hout];omega)
      have HB2:=Zh hb2
      have HE2:=Zh he2
      have HLT3:=Zh hlt3
      have hs2:s≤3299023255552:=by omega
      clear hst h5 h6 h7 hr5 hbz hbzb hbd hbb hsub3 hrun hb he hcs hco hcm hlk hb2 he2 ho2 hout hg hlt3 HML2
      go_wp2_with (at_builtin;refine Lib.wpList_append_run _ rfl (.tmp 65) (.tmp 67) 58 58 rfl _ _ rfl rfl _ _ HR5.out ?_)
      go_roundw
      case rel=>exact ⟨s+1,o2,I3,w5.heap.size,A5,c5,⟨etg,esq,ed⟩,.slice Az2 ed.length cz2,b2,by go_num,rfl,rfl,rfl,HB2.out.symm,HE2.out.symm,HE.out,by omega,HCS.out.1,HCS.out.2,HSUB.out,HBZ.out,HBZB.out,H7.out⟩
      case measure=>exact HLT3.out
end
end Go.Proofs.YtpjchngjhijgmaaGreat
