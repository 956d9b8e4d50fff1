import Derived.Test.YtpjchngjhijgmaaGreatJM19
set_option linter.all false
namespace Go.Proofs.YtpjchngjhijgmaaGreat
open Go.RowKit
def HP.win (e:TypeId) (size:Nat) (v:Value) (n:Nat) (xs:List Value):HP :=
 ⟨fun _ h=>xs.length=n*size∧((v=.slice none 0 0∧n=0) ∨
  ∃ g q cap cur,v=.slice (some ⟨g,q,none⟩) n cap∧h g=some (.cells cur e (0,0))∧n≤cap∧cap≤maxLen∧q+cap*size≤cur.size∧(cur.toList.drop q).take (n*size)=xs),fun _ q=>q⟩
section
variable {W w w' : World} {I : Hp} {l : List HP} {e : TypeId} {size : Nat} {v v' : Value} {n n' : Nat} {xs xs' : List Value}
theorem St.win_open (h:St W I w (HP.win e size v n xs::l)):xs.length=n*size∧((v=.slice none 0 0∧n=0∧St W I w l) ∨
  ∃ g q cap cur,v=.slice (some ⟨g,q,none⟩) n cap∧n≤cap∧cap≤maxLen∧q+cap*size≤cur.size∧(cur.toList.drop q).take (n*size)=xs∧St W I w (HP.pt g (.cells cur e (0,0))::l)):=by
 have hd:=h.drop
 obtain ⟨k,a,d,h1,h2,d',a',b',⟨hl,p⟩,q⟩:=h.own
 refine ⟨hl,?_⟩
 rcases p with ⟨p1,p2⟩|⟨g,o,cap,cur,p1,p2,p3,p4,p5,p6⟩
 ·exact .inl ⟨p1,p2,hd⟩
 ·exact .inr (⟨g,o,cap,cur,p1,p3,p4,p5,p6,h.os,h.tape,h.output,h.base,h.imm,k,a,d,h1,h2,d',a',b',p2,q⟩)
theorem St.win_nil (h:St W I w l) (e:TypeId) (size:Nat):St W I w (HP.win e size (.slice none 0 0) 0 []::l) :=
 h.imp fun k c=>⟨Hp.nil,k,(Hp.disj_nil _).symm,Hp.nil_sub _,Hp.sub.refl _,⟨by simp,.inl ⟨rfl,rfl⟩⟩,c⟩
theorem St.win_shut {g q cap:Nat} {cur:Array Value} (h:St W I w (HP.pt g (.cells cur e (0,0))::l)) (hx:xs.length=n*size) (hn:n≤cap) (hc:cap≤maxLen) (hs:q+cap*size≤cur.size) (ht:(cur.toList.drop q).take (n*size)=xs) :
  St W I w (HP.win e size (.slice (some ⟨g,q,none⟩) n cap) n xs::l) :=
 h.imp fun _ ⟨h1,h2,d',a',b',p2,r⟩=>⟨h1,h2,d',a',b',⟨hx,.inr ⟨g,q,cap,cur,rfl,p2,hn,hc,hs,ht⟩⟩,r⟩
theorem St.win_of_row (h:St W I w (HP.row e size v n xs::l)):St W I w (HP.win e size v n xs::l):=by
 obtain ⟨hl,p⟩:=h.row_open
 rcases p with ⟨rfl,rfl,s⟩|⟨g,cap,cur,rfl,p3,p4,p5,p6,s⟩
 ·simp at hl
  subst hl
  exact s.win_nil e size
 ·exact s.win_shut hl p3 p4 (by omega) (by simpa using p6)
theorem St.win_len (h:St W I w (HP.win e size v n xs::l)):xs.length=n*size:=h.win_open.1
theorem St.win_slice (h:St W I w (HP.win e size v n xs::l)):∃ A c,v=.slice A n c∧n≤c∧c≤maxLen∧(A=none→c=0):=by
 obtain ⟨hl,p⟩:=h.win_open
 rcases p with ⟨rfl,rfl,s⟩|⟨g,q,cap,cur,rfl,p3,p4,p5,p6,s⟩
 ·exact ⟨_,_,rfl,Nat.le_refl _,by unfold maxLen;omega,fun _=>rfl⟩
 ·exact ⟨_,_,rfl,p3,p4,fun e=>by cases e⟩
theorem St.win_cell (h:St W I w (HP.win e size v n xs::l)) (hn:0<xs.length):∃ g q c,v=.slice (some ⟨g,q,none⟩) n c∧g<w.heap.size∧n≤c∧∀ j u,xs[j]?=some u→w.cell? ⟨g,q+j,none⟩=some u:=by
 obtain ⟨hl,p⟩:=h.win_open
 rcases p with ⟨rfl,rfl,s⟩|⟨g,q,cap,cur,rfl,p3,p4,p5,p6,s⟩
 ·simp at hl
  subst hl
  simp at hn
 ·refine ⟨g,q,cap,rfl,s.lt,p3,fun j u hu=>?_⟩
  rw [Zq1 s.heap,←hu,←p6]
  have hj:j<n*size:=by
   have:=(List.getElem?_eq_some_iff.1 hu).1
   omega
  rw [List.getElem?_take_of_lt hj,List.getElem?_drop,Array.getElem?_toList]
theorem St.win_src (h:St W I w (HP.win e size v n xs::l)) (h1:∀ u ∈ xs,u.oneCell'=true) (hs:0<size):SliceSrc w size v n xs:=by
 have hl:=h.win_len
 obtain ⟨A,c,rfl,_,_,hA⟩:=h.win_slice
 refine ⟨A,c,rfl,⟨hl,fun hn=>?_,h1⟩,hA⟩
 obtain ⟨g,q,c',e1,_,_,hc⟩:=h.win_cell (by rw [hl];exact Nat.mul_pos hn hs)
 simp only [Value.slice.injEq] at e1
 refine ⟨_,e1.1,fun j u hu=>?_⟩
 rw [add_plain]
 exact hc j u hu
theorem Zq735 {cur ys xs:List Value} {q a:Nat} (hx:(cur.drop q).take a=xs) (ha:xs.length=a) (hfit:q+a+ys.length≤cur.length) :
  ((cur.take (q+a)++ys++cur.drop (q+a+ys.length)).drop q).take (a+ys.length)=xs++ys:=by
 have h1:cur.take (q+a)=cur.take q++xs:=by rw [List.take_add,hx]
 have h2:(cur.take q).length=q:=by rw [List.length_take];omega
 rw [h1,List.append_assoc,List.append_assoc]
 rw [List.drop_append_of_le_length (by omega),List.drop_eq_nil_of_le (by omega),Zl3,←List.append_assoc]
 rw [List.take_append_of_le_length (by simp;omega),List.take_of_length_le (by simp;omega)]
theorem St.win_append {t ty:TypeId} {i:TypeInfo} {z:Value} {bytes m:Nat} {v2:Value} {ys:List Value} (h:St W I w (HP.win e size v n xs::l)) (ht:Tryz.prog.underlying t=some (.slice e)) (hi:Tryz.prog.info? e=some i) (hz:i.zero=some z)
  (hsize:i.size=size) (hby:i.bytes=bytes) (hzs:z.cells.size=size) (hsz:0<size) (hbb:bytes≤100) (h1:∀ u ∈ xs,u.oneCell'=true) (hs:SliceSrc w size v2 m ys) (hb:n+m≤1000000000) :
  ∃ v' w',(Builtin.append_ #[t,t] ty #[v,v2]).run Tryz.prog w=.ok v' w'∧St W I w' (HP.win e size v' (n+m) (xs++ys)::l):=by
 have hbytes:(n+m)*bytes≤140737488355328:=Nat.le_trans (Nat.mul_le_mul hb hbb) (by omega)
 obtain ⟨hl,p⟩:=h.win_open
 have hsrc0:=h.win_src h1 hsz
 rcases p with ⟨rfl,rfl,s⟩|⟨g,q,cap,cur,rfl,p3,p4,p5,p6,s⟩
 ·simp at hl
  subst hl
  obtain ⟨A,c,rfl,hsrc,hA⟩:=hs
  have h0:=s.row_nil e size
  obtain ⟨v',w',hr,ho',hgr,hv'⟩:=Zq57 (P:=Tryz.prog) w 0 t ty e i z size bytes ht hi hz hsize hby hzs hsz _ 0 [] h0.row_owns A m c ys hsrc hA (by unfold maxLen;omega) hbytes (Nat.zero_le _)
  exact ⟨v',w',hr,(h0.row_grown ho' hgr hv').win_of_row⟩
 ·obtain ⟨A,c,rfl,hsrc,hA⟩:=hs
  subst hsize
  cases A with
  | none =>
   have hm:m=0:=by
    rcases Nat.eq_zero_or_pos m with h|h
    ·exact h
    ·obtain ⟨_,e,_⟩:=hsrc.cells h;cases e
   subst hm
   have hy:ys=[]:=List.eq_nil_of_length_eq_zero (by rw [hsrc.len,Nat.zero_mul])
   subst hy
   refine ⟨_,w,?_,by simpa using h⟩
   have hst:∀ a:Addr,Sem.run Tryz.prog (Go.storeCells a []) w=.ok () w:=fun _=>rfl
   simp [hst,Builtin.append_,run_underlying ht,sizeOf,typeInfo,hi,Builtin.lenOf,Builtin.firstCells,p3]
  | some ad =>
   have hnews:∀ j u,ys[j]?=some u→w.cell? (ad.add j)=some u:=fun j u hu=>by
    have hm:0<m:=by
     rcases Nat.eq_zero_or_pos m with h|h
     ·subst h
      have:ys=[]:=List.eq_nil_of_length_eq_zero (by rw [hsrc.len,Nat.zero_mul])
      subst this;cases hu
     ·exact h
    obtain ⟨_,e,hc⟩:=hsrc.cells hm
    cases e
    exact hc j u hu
   by_cases hroom:n+m≤cap
   ·have hfit:q+n*i.size+ys.length≤cur.size:=by
     have:=Nat.mul_le_mul_right i.size hroom
     rw [Nat.add_mul] at this
     rw [hsrc.len]
     omega
    have hf:=run_firstCells_some (P:=Tryz.prog) w i.size m ad m c ys hsrc.len hnews
    have hst:=run_storeCells_at Tryz.prog g (q+n*i.size) e ys 0 cur w s.heap (by simpa using hfit) hsrc.one
    simp only [Nat.add_zero] at hst
    refine ⟨_,w.setRow g (cur.toList.take (q+n*i.size)++ys++cur.toList.drop (q+n*i.size+ys.length)).toArray,?_,(s.write (w':=w.setRow g (cur.toList.take (q+n*i.size)++ys++cur.toList.drop (q+n*i.size+ys.length)).toArray) (o':=.cells (cur.toList.take (q+n*i.size)++ys++cur.toList.drop (q+n*i.size+ys.length)).toArray e (0,0)) rfl rfl rfl (setRow_heap w g cur _ e _ s.heap) (fun c hc hcg=>setRow_other w g c _ hcg)).win_shut (n:=n+m) (q:=q) (cap:=cap) ?_ hroom p4 ?_ ?_⟩
    ·simp [Builtin.append_,run_underlying ht,sizeOf,typeInfo,hi,Builtin.lenOf,hroom,hf,Addr.add_lit,hst]
    ·rw [List.length_append,hl,hsrc.len,Nat.add_mul]
    ·simp only [List.size_toArray,List.length_append,List.length_take,List.length_drop,Array.length_toList]
     omega
    ·have h9:=Zq735 (ys:=ys) p6 hl (by rw [Array.length_toList];exact hfit)
     rw [hsrc.len] at h9
     rw [Nat.add_mul,hsrc.len]
     exact h9
   ·have hold:∀ j u,xs[j]?=some u→w.cell? ((⟨g,q,none⟩:Addr).add j)=some u:=fun j u hu=>by
     obtain ⟨A0,c0,e1,hc,_⟩:=hsrc0
     have hlt:=(List.getElem?_eq_some_iff.1 hu).1
     have hn0:0<n:=by
      rcases Nat.eq_zero_or_pos n with h|h
      ·subst h
       rw [Nat.zero_mul] at hl
       omega
      ·exact h
     obtain ⟨ad',e2,hc'⟩:=hc.cells hn0
     simp only [Value.slice.injEq] at e1
     rw [←e1.1] at e2
     cases e2
     exact hc' j u hu
    have hr:=run_append_grow (P:=Tryz.prog) w t ty e i z ht hi hz ⟨g,q,none⟩ n cap xs hl hold ad m c ys hsrc.len hnews (by omega) (by omega) (growslice_fits (by omega) (by rw [hby];exact hbytes))
    refine ⟨_,_,hr,?_⟩
    have s2:=(s.drop.drew).alloc (.cells (xs.toArray++ys.toArray++Builtin.zeroCells z.cells (grownCap w (n+m) cap e - (n+m))) e)
    have hge:=grownCap_ge w (n+m) cap e
    have hcm:grownCap w (n+m) cap e≤maxLen:=grownCap_le_maxLen w (n+m) cap e (by unfold maxLen;omega)
    have hlen:(xs++ys).length=(n+m)*i.size:=by rw [List.length_append,hl,hsrc.len,Nat.add_mul]
    refine s2.win_shut (q:=0) hlen hge hcm ?_ ?_
    ·simp only [Array.size_append,List.size_toArray,size_zeroCells,hzs,hl,hsrc.len,←Nat.add_mul,Nat.zero_add]
     exact Nat.mul_le_mul_right _ (by omega)
    ·simp only [Array.toList_append,List.append_assoc,List.drop_zero]
     rw [←List.append_assoc,←hlen]
     exact List.take_left
theorem St.win_take {A:Option Addr} {c k:Nat} (h:St W I w (HP.win e size (.slice A n c) n xs::l)) (hk:k≤n):St W I w (HP.win e size (.slice A k c) k (xs.take (k*size))::l):=by
 obtain ⟨hl,p⟩:=h.win_open
 rcases p with ⟨e1,rfl,s⟩|⟨g,q,cap,cur,e1,p3,p4,p5,p6,s⟩
 ·simp only [Value.slice.injEq] at e1
  obtain ⟨rfl,_,rfl⟩:=e1
  obtain rfl:k=0:=by omega
  simpa using s.win_nil e size
 ·simp only [Value.slice.injEq,true_and] at e1
  obtain ⟨rfl,rfl⟩:=e1
  have hks:=Nat.mul_le_mul_right size hk
  refine s.win_shut ?_ (by omega) p4 p5 ?_
  ·rw [List.length_take,hl]
   omega
  ·rw [←p6,List.take_take,Nat.min_eq_left hks]
end
end Go.Proofs.YtpjchngjhijgmaaGreat
namespace Go.Proofs.YtpjchngjhijgmaaGreat
open Go.RowKit
def mcell (x:En × Value):List Value:=[.int .i64 x.1.tag,.int .i64 x.1.seq,x.2]
theorem Zq207 (x:En × Value):(mcell x).length=3:=rfl
def IsSl (v:Value):Prop:=∃ A n c,v=.slice A n c
def datIP (M:List (En × Value)):IP:=⟨fun I=>∀ x ∈ M,BytesI I x.2 x.1.data∧∀ y ∈ x.1.data,isByte y,fun s h x hx=>⟨(Zq103 x.2 x.1.data).mono s (h x hx).1,(h x hx).2⟩⟩
def Zq23 (v:Value) (es:List En):HP :=
 HP.ex fun M:List (En × Value)=>HP.all [HP.pure (M.map (·.1)=es),HP.win 50 3 v es.length (M.flatMap mcell),HP.imm (datIP M)]
section
variable {W w w' : World} {I : Hp} {l : List HP}
theorem BytesI.isSl {v:Value} {p:List Int} (h:BytesI I v p):∃ A c,v=.slice A p.length c:=by
 obtain ⟨A,c,e,_⟩:=h
 exact ⟨A,c,e⟩
theorem St.ents_open {v:Value} {es:List En} (h:St W I w (Zq23 v es::l)):∃ M:List (En × Value),M.map (·.1)=es∧(datIP M).p I∧St W I w (HP.win 50 3 v es.length (M.flatMap mcell)::l):=by
 obtain ⟨M,h1⟩:=h.ex_open
 obtain ⟨e,h2⟩:=(h1.all_open).pure_open
 obtain ⟨d,h3⟩:=(h2.pull 1 _ rfl).imm_open
 exact ⟨M,e,d,h3⟩
theorem St.ents_shut {v:Value} {M:List (En × Value)} (hd:(datIP M).p I) (h:St W I w (HP.win 50 3 v M.length (M.flatMap mcell)::l)):St W I w (Zq23 v (M.map (·.1))::l):=by
 refine St.ex_shut M ?_
 refine St.all_shut ?_
 refine St.pure_shut rfl ?_
 rw [List.length_map]
 exact ((St.imm_shut hd h).pull 1 _ rfl)
theorem Zq638 {M:List (En × Value)} (hd:(datIP M).p I):∀ u ∈ M.flatMap mcell,u.oneCell'=true:=by
 intro u hu
 obtain ⟨x,hx,hu⟩:=List.mem_flatMap.1 hu
 obtain ⟨A,c,e⟩:=((hd x hx).1).isSl
 simp only [mcell,List.mem_cons,List.not_mem_nil,or_false] at hu
 rcases hu with rfl|rfl|rfl
 ·rfl
 ·rfl
 ·rw [e];rfl
theorem St.ents_nil (h:St W I w l):St W I w (Zq23 (.slice none 0 0) []::l) :=
 St.ents_shut (M:=[]) (by intro x hx;cases hx) (h.win_nil _ _)
theorem St.ents_slice {v:Value} {es:List En} (h:St W I w (Zq23 v es::l)):∃ A c,v=.slice A es.length c∧es.length≤c∧c≤maxLen∧(A=none→c=0):=by
 obtain ⟨M,rfl,hd,h1⟩:=h.ents_open
 exact h1.win_slice
theorem Zq388:(Tryz.prog.info? 50).map (fun i=>(i.zero,i.size,i.bytes))=some (some (.agg #[.int .i64 0,.int .i64 0,.slice none 0 0]),3,40):=by kernel_rfl
theorem Zq736 (w:World) (t s:Int) (v:Value) (hv:v.oneCell'=true):SliceSrc (w.alloc (.cells #[.int .i64 t,.int .i64 s,v] 50)) 3 (.slice (some ⟨w.heap.size,0,none⟩) 1 1) 1 [.int .i64 t,.int .i64 s,v]:=by
 refine ⟨_,_,rfl,⟨rfl,fun _=>⟨_,rfl,fun j u hu=>?_⟩,fun u hu=>?_⟩,fun e=>by cases e⟩
 ·rw [add_plain,Nat.zero_add,Zq1 (heap_alloc_new _ _) j,←hu]
  simp
 ·simp only [List.mem_cons,List.not_mem_nil,or_false] at hu
  rcases hu with rfl|rfl|rfl
  ·rfl
  ·rfl
  ·exact hv
theorem St.ents_append {v vd:Value} {es:List En} {e:En} {g:Nat} (hg:g=w.heap.size) (h:St W I w (Zq23 v es::l)) (hd:BytesI I vd e.data) (hb:∀ y ∈ e.data,isByte y) (hn:es.length+1≤1000000000) :
  ∃ A' c' w',(Builtin.append_ #[58,58] 58 #[v,.slice (some ⟨g,0,none⟩) 1 1]).run Tryz.prog (w.alloc (.cells #[.int .i64 e.tag,.int .i64 e.seq,vd] 50))=.ok (.slice A' (es.length+1) c') w'∧St W I w' (Zq23 (.slice A' (es.length+1) c') (es++[e])::l):=by
 subst hg
 obtain ⟨M,rfl,hM,h1⟩:=h.ents_open
 obtain ⟨i0,hi0,hz0,hz1,hz2⟩:=info_parts Zq388
 obtain ⟨A0,c0,e0⟩:=hd.isSl
 have h2:=h1.keep (Zq7 w (.cells #[.int .i64 e.tag,.int .i64 e.seq,vd] 50))
 obtain ⟨v',w',hr,h3⟩:=h2.win_append (ty:=58) Tryz.underlying58 hi0 hz0 hz1 hz2 rfl (by decide) (by decide) (Zq638 hM) (Zq736 w e.tag e.seq vd (by rw [e0];rfl)) hn
 obtain ⟨A',c',e3,_⟩:=h3.win_slice
 subst e3
 refine ⟨A',c',w',hr,?_⟩
 have h4:St W I w' (HP.win 50 3 (.slice A' ((M.map (·.1)).length+1) c') (M++[(e,vd)]).length ((M++[(e,vd)]).flatMap mcell)::l):=by
  rw [List.flatMap_append,List.length_append,List.length_singleton]
  rw [List.length_map] at h3 ⊢
  exact h3
 have h5:=h4.ents_shut (by
  intro x hx
  rcases List.mem_append.1 hx with hx|hx
  ·exact hM x hx
  ·rw [List.mem_singleton.1 hx]
   exact ⟨hd,hb⟩)
 rw [List.map_append] at h5
 exact h5
theorem St.ents_cell {v:Value} {es:List En} {i:Nat} {e:En} (h:St W I w (Zq23 v es::l)) (hi:es[i]?=some e):∃ g q c vd,v=.slice (some ⟨g,q,none⟩) es.length c∧g<w.heap.size∧BytesI I vd e.data∧(∀ y ∈ e.data,isByte y) ∧
  w.cell? ⟨g,q+i*3,none⟩=some (.int .i64 e.tag)∧w.cell? ⟨g,q+i*3+1,none⟩=some (.int .i64 e.seq)∧w.cell? ⟨g,q+i*3+2,none⟩=some vd:=by
 obtain ⟨M,rfl,hM,h1⟩:=h.ents_open
 obtain ⟨x,hx,rfl⟩:∃ x,M[i]?=some x∧x.1=e:=by
  rw [List.getElem?_map] at hi
  cases hq:M[i]? with
  | none=>rw [hq] at hi;cases hi
  | some x=>rw [hq] at hi;exact ⟨x,rfl,by simpa using hi⟩
 have hil:=(List.getElem?_eq_some_iff.1 hx).1
 have hl:=h1.win_len
 obtain ⟨g,q,c,e1,hg,hnc,hc⟩:=h1.win_cell (by rw [hl,List.length_map];omega)
 have hx2:=hM x (List.mem_of_getElem? hx)
 refine ⟨g,q,c,x.2,e1,hg,hx2.1,hx2.2,?_,?_,?_⟩
 ·exact hc (i*3) _ ((Zq93 Zq207 M i 0 x hx (by decide)).trans rfl)
 ·rw [Nat.add_assoc]
  exact hc (i*3+1) _ ((Zq93 Zq207 M i 1 x hx (by decide)).trans rfl)
 ·rw [Nat.add_assoc]
  exact hc (i*3+2) _ ((Zq93 Zq207 M i 2 x hx (by decide)).trans rfl)
end
def allGo:Nat→List Int→List En × Nat
 | 0,_=>([],0)
 | f+1,r=>if (takeR r).2.2≠0 then ([],0) else ((takeR r).1::(allGo f (r.drop (takeR r).2.1)).1,(takeR r).2.1+(allGo f (r.drop (takeR r).2.1)).2)
def allB (b:List Int):List En × Nat:=allGo b.length b
theorem Zq346 {r:List Int} (h:(takeR r).2.2=0):23≤(takeR r).2.1∧(takeR r).2.1≤r.length∧(takeR r).1.okB=true∧∀ x ∈ (takeR r).1.data,x ∈ r:=by
 unfold takeR at h ⊢
 split at h
 ·cases h
 split at h
 ·cases h
 split at h
 ·cases h
 split at h
 ·cases h
 rename_i h1 h2 h3 h4
 rw [if_neg h1,if_neg h2,if_neg h3,if_neg h4]
 rw [not_or] at h3
 have hm:mayF (tagR r) (seqR r) (lenR r)=true:=by simpa using h3.1
 unfold mayF at hm
 rw [decide_eq_true_eq] at hm
 have h5:=h3.2
 refine ⟨by show 23≤22+_;omega,by show 22+_≤_;omega,?_,fun x hx=>List.mem_of_mem_drop (List.mem_of_mem_take hx)⟩
 unfold En.okB
 rw [decide_eq_true_eq]
 simp only [List.length_take,List.length_drop]
 omega
section
variable {W w : World} {I : Hp} {l : List HP}
set_option maxRecDepth 4000
set_option maxHeartbeats 8000000
theorem Zq737 (v:Value) (b:List Int) (h:St W I w l) (hv:BytesI I v b) (hb:∀ x ∈ b,isByte x) (hbl:b.length≤1000000) :
  Calls Tryz.prog 146 #[v] w fun e w'=>∃ I' v',I.sub I'∧e=.returned (.tuple #[v',.int .i64 (allB b).2])∧St W I' w' (Zq23 v' (allB b).1::l):=by
 have HV:=Zh hv
 have HB:=Zh hb
 have hcap:∃ A c,v=.slice A b.length c∧b.length≤c:=by
  obtain ⟨A,c,e,_,h3,_⟩:=hv
  exact ⟨A,c,e,h3⟩
 obtain ⟨A,c,rfl,hbc⟩:=hcap
 have H:=Zh h
 clear h hv hb
 obtain ⟨n,hn⟩:∃ n,b.length=n:=⟨_,rfl⟩
 rw [hn] at hbl hbc HV ⊢
 have HN:=Zh hn
 clear hn
 go_enter Tryz.func146,Tryz.ntmps146
 go_wp2_with fail
 go_loopw [4,5] (fun a4 a5 wr=>∃ (I1:Hp) (es:List En) (f at':Nat),a5=.int .i64 at'∧at'≤n∧n - at'≤f∧es.length≤at'∧allB b=(es++(allGo f (b.drop at')).1,at'+(allGo f (b.drop at')).2)∧I.sub I1∧St W I1 wr (Zq23 a4 es::l)) (fun _ a5 _=>n+1 - (intOf a5).toNat)
 case atStart=>exact ⟨I,[],b.length,0,rfl,Nat.zero_le _,by rw [HN.out];omega,by simp,by simp [allB],Hp.sub.refl _,H.out.ents_nil⟩
 case round =>
  obtain ⟨I1,es,f,at',rfl,hat,hf,hes,hall,hsub,hst⟩:=hrel
  obtain ⟨Ae,ce,rfl,hec,_⟩:=hst.ents_slice
  have hVn:BytesI I1 (.slice A b.length c) b:=by
   rw [HN.out]
   exact (Zq103 _ _).mono hsub HV.out
  have htk:=Zq634 A c b at' wr (Zq29 hst hVn) (by rw [HN.out];exact hbc) HB.out (by rw [HN.out];exact hat) (by rw [HN.out];exact hbl)
  rw [HN.out] at htk
  obtain ⟨t,ht⟩:∃ t,takeR (b.drop at')=t:=⟨_,rfl⟩
  rw [ht] at htk
  obtain ⟨⟨tg,sq,d⟩,k,er⟩:=t
  have hin:(at':Int)≤1000000:=by omega
  by_cases her:er=0
  ·subst her
   have hok:=Zq346 (r:=b.drop at') (by rw [ht])
   rw [ht] at hok
   simp only at hok
   rw [List.length_drop,HN.out] at hok
   have htt:Zq835 at' (⟨tg,sq,d⟩,k,0)=((at'+k:Nat):Int):=rfl
   rw [htt] at htk
   obtain ⟨f',rfl⟩:∃ f',f=f'+1:=⟨f - 1,by omega⟩
   have HA:=Zh (show allB b=(es++[⟨tg,sq,d⟩]++(allGo f' (b.drop (at'+k))).1,(at'+k)+(allGo f' (b.drop (at'+k))).2) by
    rw [hall]
    simp only [allGo,ht]
    rw [if_neg (by simp),List.drop_drop]
    simp [Nat.add_assoc])
   have hdb:∀ x ∈ d,isByte x:=fun x hx=>HB.out x (List.mem_of_mem_drop (hok.2.2.2 x hx))
   have HDB:=Zh hdb
   have HOK:=Zh (show 23≤k∧k≤n - at' from ⟨hok.1,hok.2.1⟩)
   obtain ⟨dl,hdl⟩:∃ dl,d.length=dl:=⟨_,rfl⟩
   simp only at htk
   have HTK:=Zh htk
   have HST:=Zh hst
   have HSUB:=Zh hsub
   clear htk hst hsub hall ht htt hok hdb hVn hdl dl
   go_wp2_with fail
   refine HTK.out.mono ?_
   rintro e w2 ⟨A2,c2,rfl,h2⟩
   obtain ⟨I2,hs2,hB2,h3⟩:=Zq31 HST.out h2.below h2.row_new
   have h4:=h3.keep (Zq7 w2 (.cells #[.int .i64 tg,.int .i64 sq,.slice A2 d.length c2] 50))
   obtain ⟨A5,c5,w5,hr,h5⟩:=h4.ents_append (e:=⟨tg,sq,d⟩) (g:=w2.heap.size+1) (by simp) hB2 HDB.out (by omega)
   have HR:=Zh hr
   have H5:=Zh h5
   have HS2:=Zh (HSUB.out.trans hs2)
   clear h2 hB2 h3 h4 hr h5 hs2 HTK HST
   go_wp2_with (at_builtin;refine Lib.wpList_append_run _ rfl (.tmp 20) (.tmp 22) 58 58 rfl _ _ rfl rfl _ _ HR.out ?_)
   go_roundw
   case rel=>exact ⟨I2,es++[⟨tg,sq,d⟩],f',at'+k,by go_num,by have:=HOK.out;omega,by have:=HOK.out;omega,by have:=HOK.out;rw [List.length_append,List.length_singleton];omega,HA.out,HS2.out,H5.out⟩
   case measure=>have:=HOK.out;first|(simp [intOf];done)|(simp [intOf];omega)|fail
  ·have HA:=Zh (show allB b=(es,at') by
    rw [hall]
    cases f with
    | zero=>simp [allGo]
    | succ f=>simp only [allGo,ht];rw [if_pos (by simpa using her)];simp)
   have hz:Zq835 at' (⟨tg,sq,d⟩,k,er)=0:=if_neg her
   rw [hz] at htk
   have hne:(er != 0)=true:=by simpa using her
   simp only at htk
   have HTK:=Zh htk
   have HST:=Zh hst
   have HSUB:=Zh hsub
   clear htk hst hsub hall ht hz hVn
   go_wp2_with fail
   refine HTK.out.mono ?_
   rintro e w2 ⟨A2,c2,rfl,h2⟩
   have h3:=HST.out.keep h2.below
   have h4:=h3.keep (Zq7 w2 (.cells #[.int .i64 tg,.int .i64 sq,.slice A2 d.length c2] 50))
   have H4:=Zh h4
   clear h2 h3 h4
   go_wp2_with fail
   go_ret2
   rw [HA.out]
   exact ⟨I1,_,HSUB.out,rfl,H4.out⟩
end
end Go.Proofs.YtpjchngjhijgmaaGreat
