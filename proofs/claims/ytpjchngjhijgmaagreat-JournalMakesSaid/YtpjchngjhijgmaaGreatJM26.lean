import Derived.Test.YtpjchngjhijgmaaGreatJM25
set_option linter.all false
namespace Go.Proofs.YtpjchngjhijgmaaGreat
open Go.RowKit
def layGo (c:Rg) (s0:Int):List En→Fl→List En × List Pl × Fl
 | [],f=>([],[],f)
 | e::es,f=>if (rput c f e.seq e.data.length).1=Fl.zero∨((rput c f e.seq e.data.length).2.2.1=true∧c.sets≤(rput c f e.seq e.data.length).1.set - s0) then ([],[],f)
  else (e::(layGo c s0 es (rput c f e.seq e.data.length).1).1,(rput c f e.seq e.data.length).2.1::(layGo c s0 es (rput c f e.seq e.data.length).1).2.1,(layGo c s0 es (rput c f e.seq e.data.length).1).2.2)
def layF (r:Rc):Fl:=⟨r.set,0,0,0,0⟩
def layX (r:Rc) (es:List En):List En × List Pl × Fl:=layGo r.shape r.set es (layF r)
def lJ (J:Jn) (es:List En) (ps:List Pl) (f:Fl):Jn:={ J with l:=es,at_:=ps,fill:=f }
def layJ (J:Jn):Jn:=lJ J (layX J.r J.l).1 (layX J.r J.l).2.1 (layX J.r J.l).2.2
theorem Zq504 (c:Rg) (s0:Int):∀ (es:List En) (f:Fl),(layGo c s0 es f).2.1.length=(layGo c s0 es f).1.length∧(layGo c s0 es f).1.length≤es.length
 | [],f=>⟨rfl,Nat.le_refl _⟩
 | e::es,f=>by
  unfold layGo
  split
  ·exact ⟨rfl,Nat.zero_le _⟩
  ·have:=Zq504 c s0 es (rput c f e.seq e.data.length).1
   simp only [List.length_cons]
   omega
section
variable {W w w' : World} {I : Hp} {l : List HP} {p q : Nat} {J : Jn}
theorem St.drew_to {v:World} {n:Nat} (e:w.drewN n=v) (h:St W I w l):St W I v l:=e ▸ h.drewN n
theorem Zq397:(Tryz.prog.info? 41).map (fun i=>(i.zero,i.size,i.bytes))=some (some (.agg #[.int .i64 0,.int .i64 0]),2,16):=by kernel_rfl
theorem Zq738 (w:World) (a b:Int):SliceSrc (w.alloc (.cells #[.int .i64 a,.int .i64 b] 41)) 2 (.slice (some ⟨w.heap.size,0,none⟩) 1 1) 1 [.int .i64 a,.int .i64 b]:=by
 refine ⟨_,_,rfl,⟨rfl,fun _=>⟨_,rfl,fun j u hu=>?_⟩,fun u hu=>?_⟩,fun e=>by cases e⟩
 ·rw [add_plain,Nat.zero_add,Zq1 (heap_alloc_new _ _) j,←hu]
  simp
 ·simp only [List.mem_cons,List.not_mem_nil,or_false] at hu
  rcases hu with rfl|rfl <;> rfl
theorem Zq398 (ps:List Pl):∀ u ∈ ps.flatMap Pl.vals,u.oneCell'=true:=by
 intro u hu
 simp only [List.mem_flatMap,Pl.vals,List.mem_cons,List.not_mem_nil,or_false] at hu
 obtain ⟨c,_,rfl|rfl⟩:=hu <;> rfl
theorem St.places_append {v:Value} {ps:List Pl} {g:Nat} (a b:Int) (hg:g=w.heap.size) (h:St W I w (Zq20 v ps::l)) (hn:ps.length+1≤1000000000) :
  ∃ A' c' w',(Builtin.append_ #[38,38] 38 #[v,.slice (some ⟨g,0,none⟩) 1 1]).run Tryz.prog (w.alloc (.cells #[.int .i64 a,.int .i64 b] 41))=.ok (.slice A' (ps.length+1) c') w'∧St W I w' (Zq20 (.slice A' (ps.length+1) c') (ps++[⟨a,b⟩])::l):=by
 subst hg
 obtain ⟨i0,hi0,hz0,hz1,hz2⟩:=info_parts Zq397
 have h2:=h.keep (Zq7 w (.cells #[.int .i64 a,.int .i64 b] 41))
 obtain ⟨v',w',hr,h3⟩:=St.win_append (t:=38) (ty:=38) h2 Tryz.underlying38 hi0 hz0 hz1 hz2 rfl (by decide) (by decide) (Zq398 ps) (Zq738 w a b) hn
 obtain ⟨A',c',e3,_⟩:=h3.win_slice
 subst e3
 refine ⟨A',c',w',hr,?_⟩
 unfold Zq20
 rw [List.length_append,List.flatMap_append]
 exact h3
theorem St.ents_take {A:Option Addr} {n c k:Nat} {es:List En} (h:St W I w (Zq23 (.slice A n c) es::l)) (hk:k≤es.length):St W I w (Zq23 (.slice A k c) (es.take k)::l):=by
 obtain ⟨M,rfl,hM,h1⟩:=h.ents_open
 obtain ⟨A2,c2,e2,hrest⟩:=h1.win_slice
 clear hrest
 simp only [Value.slice.injEq] at e2
 obtain ⟨rfl,rfl,rfl⟩:=e2
 have h2:=h1.win_take hk
 rw [List.length_map] at hk
 have e:(M.flatMap mcell).take (k*3)=(M.take k).flatMap mcell:=by
  clear h h1 h2 hM
  induction M generalizing k with
  | nil=>simp
  | cons x M ih =>
   cases k with
   | zero=>simp
   | succ k =>
    rw [List.flatMap_cons,List.take_succ_cons,List.flatMap_cons,List.take_append,List.take_of_length_le (by rw [Zq207];omega),Zq207,show (k+1)*3 - 3=k*3 by omega,ih (by simpa using hk)]
 rw [e] at h2
 have h3:St W I w (HP.win 50 3 (.slice A k c) (M.take k).length ((M.take k).flatMap mcell)::l):=by
  rw [List.length_take,Nat.min_eq_left hk]
  exact h2
 have h4:=h3.ents_shut (fun x hx=>hM x (List.mem_of_mem_take hx))
 rw [List.map_take] at h4
 exact h4
def fillJ (J:Jn) (F:Fl):Jn:={ J with fill:=F }
theorem St.jb_fill {V:JV} (F:Fl) (h:St W I w (jnBlk q p J V::l)):St W I (((((w.setCell ⟨q,10,none⟩ (.int .i64 F.set)).setCell ⟨q,11,none⟩ (.int .i64 F.u0)).setCell ⟨q,12,none⟩ (.int .i64 F.u1)).setCell ⟨q,13,none⟩ (.int .i64 F.u2)).setCell ⟨q,14,none⟩ (.int .i64 F.u3)) (jnBlk q p (fillJ J F) V::l):=by
 have h2:=((((h.setCell 10 (.int .i64 F.set)).setCell 11 (.int .i64 F.u0)).setCell 12 (.int .i64 F.u1)).setCell 13 (.int .i64 F.u2)).setCell 14 (.int .i64 F.u3)
 simp only [Zq135,List.setIfInBounds_toArray,Zl4,Zl5] at h2
 exact h2
theorem St.jb_at {V:JV} (v:Value) (h:St W I w (jnBlk q p J V::l)):St W I (w.setCell ⟨q,9,none⟩ v) (jnBlk q p J ⟨V.vt,V.vc,V.vl,v⟩::l):=by
 have h2:=h.setCell 9 v
 simp only [Zq135,List.setIfInBounds_toArray,Zl4,Zl5] at h2
 exact h2
theorem St.jb_l {V:JV} (v:Value) (h:St W I w (jnBlk q p J V::l)):St W I (w.setCell ⟨q,8,none⟩ v) (jnBlk q p J ⟨V.vt,V.vc,v,V.va⟩::l):=by
 have h2:=h.setCell 8 v
 simp only [Zq135,List.setIfInBounds_toArray,Zl4,Zl5] at h2
 exact h2
set_option maxRecDepth 4000
set_option maxHeartbeats 4000000
theorem Zq505 (h:St W I w (jnHP q p J::l)) (hr:J.r.Ok) (hn:J.l.length≤100000):Calls Tryz.prog 86 #[.pointer (some ⟨q,0,none⟩)] w fun e w'=>e=.returned (.tuple #[])∧St W I w' (jnHP q p (layJ J)::l):=by
 obtain ⟨V,hrI,h1⟩:=h.jn_open
 obtain ⟨A,c,hvl,hnc,_⟩:=(h1.pull 1 _ rfl).ents_slice
 obtain ⟨vt,vc,vl,va⟩:=V
 simp only at hvl hrI h1
 subst hvl
 have k:=Zq45 h1
 have k5:=jn_c5 h1
 have k8:=jn_c8 h1
 have k9:=jn_c9 h1
 obtain ⟨k10,k11,k12,k13,k14⟩:=Zq392 h1
 have f:=Zq52 h1
 have lq:=h1.lt
 simp only at k8 k9
 have h2:=(((((h1.jb_fill (layF J.r)).jb_at (.slice none 0 0)).pull 2 _ rfl).drop).win_nil 41 2).pull 1 _ rfl
 simp only [layF] at h2
 have HRI:=Zh hrI
 have HSET:=Zh hr.set
 obtain ⟨s0,hs0⟩:∃ x,x=J.r.set:=⟨_,rfl⟩
 have HS0:=Zh hs0
 rw [←hs0] at k5 h2
 obtain ⟨n0,hn0⟩:∃ x,x=J.l.length:=⟨_,rfl⟩
 rw [←hn0] at k8 h2 hn hnc
 have HN0:=Zh hn0
 obtain ⟨X,hX⟩:∃ x,x=layGo J.r.shape s0 J.l ⟨s0,0,0,0,0⟩:=⟨_,rfl⟩
 have HX:=Zh hX
 have HR:=Zh (show layJ J=lJ J X.1 X.2.1 X.2.2 by unfold layJ layX layF;rw [←hs0,←hX])
 have HN:=Zh hn
 have H2:=Zh h2
 clear h h1 hrI hr hs0 hn0 hX h2 k
 go_enter Tryz.func86,Tryz.ntmps86
 go_wp2_with fail
 go_loopw [24] (fun a24 wr=>∃ (i:Nat) (F:Fl) (ps:List Pl) (va':Value),a24=.int .i64 i∧i≤n0∧ps.length=i∧X=((J.l.take i)++(layGo J.r.shape s0 (J.l.drop i) F).1,ps++(layGo J.r.shape s0 (J.l.drop i) F).2.1,(layGo J.r.shape s0 (J.l.drop i) F).2.2)∧St W I wr (jnBlk q p (fillJ J F) ⟨vt,vc,.slice A n0 c,va'⟩::Zq23 (.slice A n0 c) J.l::Zq20 va' ps::l)) (fun a24 _=>n0 - (intOf a24).toNat)
 case atStart=>exact ⟨0,⟨s0,0,0,0,0⟩,[],_,rfl,Nat.zero_le _,rfl,by rw [HX.out];simp,(H2.out.pull 2 _ rfl).pull 1 _ rfl⟩
 case round =>
  obtain ⟨i,⟨s,u0,u1,u2,u3⟩,ps,va',rfl,hi,hpl,hgo,hst⟩:=hrel
  clear k5 k8 k9 k10 k11 k12 k13 k14 f lq H2 HX
  by_cases hlt:i<n0
  ·have hil:i<J.l.length:=by rw [←HN0.out];exact hlt
   obtain ⟨e,he⟩:∃ e,J.l[i]?=some e:=⟨_,List.getElem?_eq_getElem hil⟩
   have hlt2:(i:Int)<(n0:Int):=by omega
   obtain ⟨g,qq,c2,vd,e2,hg,hbd,hbb,y0,y1,y2⟩:=(hst.pull 1 _ rfl).ents_cell he
   simp only [Value.slice.injEq] at e2
   obtain ⟨rfl,hnn,rfl⟩:=e2
   clear hnn
   obtain ⟨Ad,cd,rfl⟩:=hbd.isSl
   have htk:J.l.take (i+1)=J.l.take i++[e]:=by rw [List.take_add_one,he];rfl
   have hdr:J.l.drop i=e::J.l.drop (i+1):=by
    rw [List.drop_eq_getElem_cons hil]
    congr 1
    exact (List.getElem?_eq_some_iff.1 he).2
   rw [hdr] at hgo
   unfold layGo at hgo
   have hps:=Zq645 J.r.shape ⟨s,u0,u1,u2,u3⟩ e.seq e.data.length
   obtain ⟨tg,sq,d⟩:=e
   simp only at y0 y1 y2 hgo hps
   obtain ⟨dl,hdl⟩:∃ x,x=d.length:=⟨_,rfl⟩
   rw [←hdl] at y2 hgo hps
   obtain ⟨⟨⟨s1,v0,v1,v2,v3⟩,⟨pa,po⟩,nx,ok⟩,hrr⟩:∃ r,rput J.r.shape ⟨s,u0,u1,u2,u3⟩ sq dl=r:=⟨_,rfl⟩
   rw [hrr] at hgo hps
   simp only at hgo hps
   have hrp:∀ w,Calls Tryz.prog 69 #[.agg #[.int .i64 J.r.shape.splay,.int .i64 J.r.shape.sets,.int .i64 J.r.shape.size],.agg #[.int .i64 s,.int .i64 u0,.int .i64 u1,.int .i64 u2,.int .i64 u3],.int .i64 sq,.int .i64 dl] w fun e w'=>e=.returned (.tuple #[.agg #[.int .i64 s1,.int .i64 v0,.int .i64 v1,.int .i64 v2,.int .i64 v3],.agg #[.int .i64 pa,.int .i64 po],.bool nx])∧Below w.heap.size w w':=fun w=>by
    have:=Zq440 J.r.shape ⟨s,u0,u1,u2,u3⟩ sq dl w
    rw [hrr] at this
    exact this
   have HRP:=Zh hrp
   have hsb:=HSET.out
   rw [←HS0.out] at hsb
   have w3:IntKind.i64.wrap (s1 - s0)=s1 - s0:=by rw [IntKind.wrap_i64];omega
   obtain ⟨ss,hss⟩:∃ x,x=J.r.shape.sets:=⟨_,rfl⟩
   have HSS:=Zh hss
   rw [←hss] at hgo
   have h3:=hst.alloc (.cells #[.int .i64 tg,.int .i64 sq,.slice Ad dl cd] 50)
   obtain ⟨g3,hg3⟩:∃ x,x=wr.heap.size:=⟨_,rfl⟩
   rw [←hdl] at *
   have H3:=Zh h3
   have HPL:=Zh hpl
   have HGO:=Zh hgo
   have HTK:=Zh htk
   have HG3:=Zh hg3
   clear hst h3 hgo hrp hrr hdr he hil hbd hbb hpl hdl htk hss hg3
   go_upto_region 5 with fail
   have h4:=H3.out
   generalize (World.alloc _ _:World)=w4 at h4 ⊢
   have HMK:=Zh (show ∀ w',St W I w' (HP.pt wr.heap.size (.cells #[.int .i64 tg,.int .i64 sq,.slice Ad dl cd] 50)::jnBlk q p (fillJ J ⟨s,u0,u1,u2,u3⟩) ⟨vt,vc,.slice (some ⟨g,qq,none⟩) n0 c,va'⟩::Zq23 (.slice (some ⟨g,qq,none⟩) n0 c) J.l::Zq20 va' ps::l)→(w'.cell? ⟨q,1,none⟩=some (.int .i64 J.r.shape.splay)∧w'.cell? ⟨q,2,none⟩=some (.int .i64 J.r.shape.sets)∧w'.cell? ⟨q,3,none⟩=some (.int .i64 J.r.shape.size)∧w'.cell? ⟨q,10,none⟩=some (.int .i64 s)∧w'.cell? ⟨q,11,none⟩=some (.int .i64 u0)∧w'.cell? ⟨q,12,none⟩=some (.int .i64 u1)∧w'.cell? ⟨q,13,none⟩=some (.int .i64 u2)∧w'.cell? ⟨q,14,none⟩=some (.int .i64 u3)∧w'.cell? ⟨wr.heap.size,1,none⟩=some (.int .i64 sq)∧w'.cell? ⟨wr.heap.size,2,none⟩=some (.slice Ad dl cd)) from fun w' h1=>by
    obtain ⟨_,z1,z2⟩:=Zq40 h1
    have hq:=h1.pull 1 _ rfl
    obtain ⟨a1,a2,a3⟩:=Zq147 hq
    obtain ⟨b1,b2,b3,b4,b5⟩:=Zq392 hq
    exact ⟨a1,a2,a3,b1,b2,b3,b4,b5,z1,z2⟩)
   have H4:=Zh h4
   clear h4 H3
   refine Zq42 (fun w'=>w'.cell? ⟨q,1,none⟩=some (.int .i64 J.r.shape.splay)∧w'.cell? ⟨q,2,none⟩=some (.int .i64 J.r.shape.sets)∧w'.cell? ⟨q,3,none⟩=some (.int .i64 J.r.shape.size)∧w'.cell? ⟨q,10,none⟩=some (.int .i64 s)∧w'.cell? ⟨q,11,none⟩=some (.int .i64 u0)∧w'.cell? ⟨q,12,none⟩=some (.int .i64 u1)∧w'.cell? ⟨q,13,none⟩=some (.int .i64 u2)∧w'.cell? ⟨q,14,none⟩=some (.int .i64 u3)∧w'.cell? ⟨wr.heap.size,1,none⟩=some (.int .i64 sq)∧w'.cell? ⟨wr.heap.size,2,none⟩=some (.slice Ad dl cd)) [(0,false),(1,false),(2,false),(3,false),(4,false),(5,false),(6,false),(7,false),(8,false),(9,false),(10,false),(11,false),(12,false),(13,false),(14,false),(15,false),(16,false),(17,true),(18,true)] [19,20] [21,22,23] (by kernel_rfl) (by kernel_rfl) (by (intro w' hb;exact HMK.out _ (H4.out.drew.keep hb))) ?_
   repeat (first|(refine Zq60 (by rfl) _ (by rfl) (by intro w;go_simp;try with_reducible rfl) ?_;(try simp only [Act.put,List.setIfInBounds_toArray,Zl4,Zl5]))|(refine Zq146 (by rfl) _ (by rfl) (by (intro w hSw;(try dsimp only at hSw);go_simp;try with_reducible rfl)) ?_;(try simp only [Act.put,List.setIfInBounds_toArray,Zl4,Zl5]))|(refine Zq79 (by rfl) (by rfl) ?_;(try simp only [Act.put,List.setIfInBounds_toArray,Zl4,Zl5]))|fail)
   refine Zq178 (by rfl) (.tuple #[.agg #[.int .i64 s1,.int .i64 v0,.int .i64 v1,.int .i64 v2,.int .i64 v3],.agg #[.int .i64 pa,.int .i64 po],.bool nx]) (69) (#[.agg #[.int .i64 J.r.shape.splay,.int .i64 J.r.shape.sets,.int .i64 J.r.shape.size],.agg #[.int .i64 s,.int .i64 u0,.int .i64 u1,.int .i64 u2,.int .i64 u3],.int .i64 sq,.int .i64 dl]) (by rfl) (by intro w;go_simp;try with_reducible rfl) (by (rintro w1 _;exact HRP.out w1)) ?_
   (try simp only [Act.put,List.setIfInBounds_toArray,Zl4,Zl5])
   repeat (first|(refine Zq60 (by rfl) _ (by rfl) (by intro w;go_simp;try with_reducible rfl) ?_;(try simp only [Act.put,List.setIfInBounds_toArray,Zl4,Zl5]))|(refine Zq146 (by rfl) _ (by rfl) (by (intro w hSw;(try dsimp only at hSw);go_simp;try with_reducible rfl)) ?_;(try simp only [Act.put,List.setIfInBounds_toArray,Zl4,Zl5]))|(refine Zq79 (by rfl) (by rfl) ?_;(try simp only [Act.put,List.setIfInBounds_toArray,Zl4,Zl5]))|fail)
   refine Zq345 ?_
   refine Zq816 (by rfl) (by rfl) (fun g=>.pointer (some ⟨g,0,none⟩)) (fun g=>.pointer (some ⟨g,0,none⟩)) (.cells #[.int .i64 0,.int .i64 0,.int .i64 0,.int .i64 0,.int .i64 0] 108) (.cells #[.int .i64 0,.int .i64 0] 41) (by rfl) (by rfl) (by intro w;go_simp;try with_reducible rfl) (by intro w;go_simp;try with_reducible rfl) ?_
   intro g8 g9
   rintro w9 hz9
   obtain ⟨hb9,l8,l9,hne⟩:=hz9.two (by decide)
   have h9:=H4.out.drew.fresh2 hb9 l8 l9 hne
   clear hz9 hb9 l8 l9 y0 y1 y2 hg
   have f8:=frozen_of_row h9.heap
   have f9:=frozen_of_row (h9.pull 1 _ rfl).heap
   obtain ⟨b5,b6⟩:g8<w9.heap.size∧g9<w9.heap.size:=⟨h9.lt,(h9.pull 1 _ rfl).lt⟩
   obtain ⟨y0,y1,y2,y3,y4⟩:=Zq22 h9
   obtain ⟨z0,z1⟩:=Zq47 (h9.pull 1 _ rfl)
   have H9:=Zh h9
   clear h9
   go_wp2_with fail
   refine NoPanic.normal ?_
   have h10:=((((H9.out.set5 (.int .i64 s1) (.int .i64 v0) (.int .i64 v1) (.int .i64 v2) (.int .i64 v3)).pull 1 _ rfl).set2 (.int .i64 pa) (.int .i64 po)).pull 1 _ rfl)
   generalize (World.setCell _ _ _:World)=w10 at h10 ⊢
   clear y0 y1 y2 y3 y4 z0 z1 f8 f9 H9 b5 b6
   obtain ⟨y0,y1,y2,y3,y4⟩:=Zq22 h10
   have hq10:=h10.pull 3 _ rfl
   have k2:=(Zq147 hq10).2.1
   have k5:=jn_c5 hq10
   simp only [fillJ] at k2 k5
   rw [←HSS.out] at k2
   rw [←HS0.out] at k5
   have lj:=hq10.lt
   have H10:=Zh h10
   clear h10 hq10
   have hq0:∀ b,decide ((⟨s1,v0,v1,v2,v3⟩:Fl)=Fl.zero)=b→∀ w,(Op.equalIn 10000 108 (.agg #[.int .i64 s1,.int .i64 v0,.int .i64 v1,.int .i64 v2,.int .i64 v3]) (.agg #[.int .i64 0,.int .i64 0,.int .i64 0,.int .i64 0,.int .i64 0])).run Tryz.prog w=.ok b w:=fun b hb w=>by
    have:=Zq347 ⟨s1,v0,v1,v2,v3⟩ Fl.zero w
    rw [hb] at this
    exact this
   have HQ:=Zh hq0
   clear hq0
   by_cases hz:(⟨s1,v0,v1,v2,v3⟩:Fl)=Fl.zero
   ·have hq:=HQ.out true (decide_eq_true hz)
    have HEND:=Zh (HGO.out.trans (by rw [if_pos (.inl hz)]:_=(J.l.take i++[],ps++[],(⟨s,u0,u1,u2,u3⟩:Fl))))
    clear hz
    have r8:w10.cell? ⟨q,8,none⟩=some (.slice (some ⟨g,qq,none⟩) n0 c):=jn_c8 (H10.out.pull 3 _ rfl)
    have rf8:w10.frozen? ⟨q,8,none⟩=false:=Zq52 (H10.out.pull 3 _ rfl) 8
    have hic:i≤c:=by omega
    have H11:=Zh H10.out.drop.drop.drop
    clear H10
    go_upto_region 6 with fail
    go_quiet (fail)
    go_wp2_with fail
    have h12:=fun nq=>((((H11.out.drewN nq).jb_l (.slice (some ⟨g,qq,none⟩) i c)).pull 1 _ rfl).ents_take (k:=i) (by rw [←HN0.out];exact hi)).pull 1 _ rfl
    refine bodyPost_ret (results_none rfl _ _ _) rfl ?_
    rw [HR.out,HEND.out]
    rw [List.append_nil,List.append_nil]
    exact ⟨rfl,St.jn_shut (J:=lJ J (J.l.take i) ps ⟨s,u0,u1,u2,u3⟩) (V:=⟨vt,vc,.slice (some ⟨g,qq,none⟩) i c,va'⟩) HRI.out (h12 _)⟩
   ·have hq:=HQ.out false (decide_eq_false hz)
    cases nx with
    | false =>
     have HEND:=Zh (HGO.out.trans (by rw [if_neg (by simp [hz])]))
     clear hz
     go_upto_region 6 with fail
     go_quiet (fail)
     go_upto_region 8 with fail
     have HMK8:=Zh (show ∀ (w':World) (F:Fl) (L:List HP),St W I w' (HP.pt g8 (.cells #[.int .i64 s1,.int .i64 v0,.int .i64 v1,.int .i64 v2,.int .i64 v3] 108)::HP.pt g9 (.cells #[.int .i64 pa,.int .i64 po] 41)::jnBlk q p (fillJ J F) ⟨vt,vc,.slice (some ⟨g,qq,none⟩) n0 c,va'⟩::L)→(w'.cell? ⟨g8,0,none⟩=some (.int .i64 s1)∧w'.cell? ⟨g8,1,none⟩=some (.int .i64 v0)∧w'.cell? ⟨g8,2,none⟩=some (.int .i64 v1)∧w'.cell? ⟨g8,3,none⟩=some (.int .i64 v2)∧w'.cell? ⟨g8,4,none⟩=some (.int .i64 v3)∧w'.cell? ⟨g9,0,none⟩=some (.int .i64 pa)∧w'.cell? ⟨g9,1,none⟩=some (.int .i64 po)∧w'.cell? ⟨q,9,none⟩=some va') from fun w' F L h=>by
      obtain ⟨a1,a2,a3,a4,a5⟩:=Zq22 h
      obtain ⟨b1,b2⟩:=Zq47 (h.pull 1 _ rfl)
      exact ⟨a1,a2,a3,a4,a5,b1,b2,jn_c9 (h.pull 2 _ rfl)⟩)
     have h10:=(H10.out.pull 2 _ rfl).drop
     clear H10 y0 y1 y2 y3 y4 k2 k5 hq
     generalize hw11:(World.drewN _ _:World)=w11
     have h11:=(h10.drew_to hw11).drew
     clear h10 hw11
     obtain ⟨A',c',w12,hrun,h12⟩:=(h11.pull 4 _ rfl).places_append (g:=w11.heap.size) pa po (by simp) (by rw [HPL.out];have:=HN.out;omega)
     rw [HPL.out] at hrun h12
     have h12b:=(((h12.pull 3 _ rfl).pull 3 _ rfl).pull 3 _ rfl)
     have h13:=(((h12.pull 3 _ rfl).jb_fill ⟨s1,v0,v1,v2,v3⟩).pull 3 _ rfl).pull 3 _ rfl
     obtain ⟨As,cs,hva',_⟩:=(h11.pull 4 _ rfl).win_slice
     rw [HPL.out] at hva'
     subst hva'
     have x0:=HMK8.out _ _ _ h11
     have xa:=HMK8.out _ _ _ (h11.keep (Zq7 _ (.cells #[.int .i64 pa,.int .i64 po] 41)))
     have xb:=HMK8.out _ _ _ h12b
     have xc:=HMK8.out _ _ _ h13
     have XB:=Zh xb
     have XC:=Zh xc
     have XA:=Zh xa
     obtain ⟨x0,x1,x2,x3,x4,x5,x6,x7⟩:=x0
     have lq11:=(h11.pull 2 _ rfl).lt
     have H13:=Zh h13
     have HRUN:=Zh hrun
     have H12:=Zh h12b
     clear h11 h12 h12b h13 xa xb xc hrun
     refine Zq8 (fun w'=>w'.cell? ⟨g8,0,none⟩=some (.int .i64 s1)∧w'.cell? ⟨g8,1,none⟩=some (.int .i64 v0)∧w'.cell? ⟨g8,2,none⟩=some (.int .i64 v1)∧w'.cell? ⟨g8,3,none⟩=some (.int .i64 v2)∧w'.cell? ⟨g8,4,none⟩=some (.int .i64 v3)∧w'.cell? ⟨g9,0,none⟩=some (.int .i64 pa)∧w'.cell? ⟨g9,1,none⟩=some (.int .i64 po)∧w'.cell? ⟨q,9,none⟩=some (.slice As i cs)) [0,1,2,3,4,5,6,7] [8,9,10,11,12] [13,14,15] (by kernel_rfl) (by kernel_rfl) (by (exact ⟨x0,x1,x2,x3,x4,x5,x6,x7⟩)) ?_
     simp only [pickL,Zl6,Zl7]
     repeat (refine Zq5 _ (Or.inl ⟨by rfl,by (intro w hSw;(try dsimp only at hSw);go_simp;try with_reducible rfl)⟩) ?_;(try simp only [Act.put,List.setIfInBounds_toArray,Zl4,Zl5]))
     refine Zq9 ?_
     unfold Zq16
     go_wp2_with fail
     refine Zq0 XA.out ?_
     clear x0 x1 x2 x3 x4 x5 x6 x7
     unfold Zq16
     go_wp2_with (at_builtin;refine Lib.wpList_append_run _ rfl (.tmp 86) (.tmp 88) 38 38 rfl _ _ rfl rfl _ _ HRUN.out ?_)
     refine Zq0 XB.out ?_
     unfold Zq16
     have kq:=Zq45 (H12.out.pull 2 _ rfl)
     have k10:=kq 10
     have k11:=kq 11
     have k12:=kq 12
     have k13:=kq 13
     have k14:=kq 14
     have k9:=jn_c9 (H12.out.pull 2 _ rfl)
     have fq:=Zq52 (H12.out.pull 2 _ rfl)
     have lq12:=(H12.out.pull 2 _ rfl).lt
     simp [Zq135,fillJ] at k10 k11 k12 k13 k14
     clear kq
     go_wp2_with fail
     refine Zq0 XB.out ?_
     unfold Zq16
     go_wp2_with fail
     refine Zq0 XB.out ?_
     unfold Zq16
     go_wp2_with fail
     refine Zq0 XC.out ?_
     unfold Zq16
     have h13:=H13.out.pull 2 _ rfl
     generalize (World.setCell _ _ _:World)=w13 at h13 ⊢
     clear k9 k10 k11 k12 k13 k14 fq lq12 XB XC XA H12 HRUN H13
     have k9:=jn_c9 h13
     have f9:=Zq52 h13 9
     have lq13:=h13.lt
     have h14:St W I (w13.setCell ⟨q,9,none⟩ (.slice A' (i+1) c')) (jnBlk q p (fillJ J ⟨s1,v0,v1,v2,v3⟩) ⟨vt,vc,.slice (some ⟨g,qq,none⟩) n0 c,.slice A' (i+1) c'⟩::HP.pt g8 (.cells #[.int .i64 s1,.int .i64 v0,.int .i64 v1,.int .i64 v2,.int .i64 v3] 108)::HP.pt g9 (.cells #[.int .i64 pa,.int .i64 po] 41)::Zq20 (.slice A' (i+1) c') (ps++[⟨pa,po⟩])::Zq23 (.slice (some ⟨g,qq,none⟩) n0 c) J.l::l):=h13.jb_at (.slice A' (i+1) c')
     have h15:St W I (w13.setCell ⟨q,9,none⟩ (.slice A' (i+1) c')) (jnBlk q p (fillJ J ⟨s1,v0,v1,v2,v3⟩) ⟨vt,vc,.slice (some ⟨g,qq,none⟩) n0 c,.slice A' (i+1) c'⟩::Zq23 (.slice (some ⟨g,qq,none⟩) n0 c) J.l::Zq20 (.slice A' (i+1) c') (ps++[⟨pa,po⟩])::l):=((((h14.pull 1 _ rfl).drop.pull 1 _ rfl).drop).pull 2 _ rfl).pull 1 _ rfl
     clear h14
     have H14:=Zh h15
     clear h15
     clear h13
     go_wp2_with fail
     refine NoPanic.normal ?_
     go_wp2_with fail
     go_roundw
     case rel =>
      exact ⟨i+1,⟨s1,v0,v1,v2,v3⟩,ps++[⟨pa,po⟩],.slice A' (i+1) c',by go_num,by omega,by rw [List.length_append,HPL.out];rfl,by rw [HTK.out,List.append_assoc,List.append_assoc];exact HEND.out,H14.out⟩
     case measure=>simp [intOf];omega
    | true =>
     by_cases hss2:ss≤s1 - s0
     ·have dd:decide (ss≤s1 - s0)=true:=decide_eq_true hss2
      have HEND:=Zh (HGO.out.trans (by rw [if_pos (.inr ⟨rfl,hss2⟩)]:_=(J.l.take i++[],ps++[],(⟨s,u0,u1,u2,u3⟩:Fl))))
      clear hz hss2
      have r8:w10.cell? ⟨q,8,none⟩=some (.slice (some ⟨g,qq,none⟩) n0 c):=jn_c8 (H10.out.pull 3 _ rfl)
      have rf8:w10.frozen? ⟨q,8,none⟩=false:=Zq52 (H10.out.pull 3 _ rfl) 8
      have hic:i≤c:=by omega
      have H11:=Zh H10.out.drop.drop.drop
      clear H10
      go_upto_region 6 with fail
      go_quiet (fail)
      go_wp2_with fail
      have h12:=fun nq=>((((H11.out.drewN nq).jb_l (.slice (some ⟨g,qq,none⟩) i c)).pull 1 _ rfl).ents_take (k:=i) (by rw [←HN0.out];exact hi)).pull 1 _ rfl
      refine bodyPost_ret (results_none rfl _ _ _) rfl ?_
      rw [HR.out,HEND.out]
      rw [List.append_nil,List.append_nil]
      exact ⟨rfl,St.jn_shut (J:=lJ J (J.l.take i) ps ⟨s,u0,u1,u2,u3⟩) (V:=⟨vt,vc,.slice (some ⟨g,qq,none⟩) i c,va'⟩) HRI.out (h12 _)⟩
     ·have dd:decide (ss≤s1 - s0)=false:=decide_eq_false hss2
      have HEND:=Zh (HGO.out.trans (by rw [if_neg (by simp [hz];omega)]))
      clear hz hss2
      go_upto_region 6 with fail
      go_quiet (fail)
      go_upto_region 8 with fail
      have HMK8:=Zh (show ∀ (w':World) (F:Fl) (L:List HP),St W I w' (HP.pt g8 (.cells #[.int .i64 s1,.int .i64 v0,.int .i64 v1,.int .i64 v2,.int .i64 v3] 108)::HP.pt g9 (.cells #[.int .i64 pa,.int .i64 po] 41)::jnBlk q p (fillJ J F) ⟨vt,vc,.slice (some ⟨g,qq,none⟩) n0 c,va'⟩::L)→(w'.cell? ⟨g8,0,none⟩=some (.int .i64 s1)∧w'.cell? ⟨g8,1,none⟩=some (.int .i64 v0)∧w'.cell? ⟨g8,2,none⟩=some (.int .i64 v1)∧w'.cell? ⟨g8,3,none⟩=some (.int .i64 v2)∧w'.cell? ⟨g8,4,none⟩=some (.int .i64 v3)∧w'.cell? ⟨g9,0,none⟩=some (.int .i64 pa)∧w'.cell? ⟨g9,1,none⟩=some (.int .i64 po)∧w'.cell? ⟨q,9,none⟩=some va') from fun w' F L h=>by
       obtain ⟨a1,a2,a3,a4,a5⟩:=Zq22 h
       obtain ⟨b1,b2⟩:=Zq47 (h.pull 1 _ rfl)
       exact ⟨a1,a2,a3,a4,a5,b1,b2,jn_c9 (h.pull 2 _ rfl)⟩)
      have h10:=(H10.out.pull 2 _ rfl).drop
      clear H10 y0 y1 y2 y3 y4 k2 k5 hq
      generalize hw11:(World.drewN _ _:World)=w11
      have h11:=(h10.drew_to hw11).drew
      clear h10 hw11
      obtain ⟨A',c',w12,hrun,h12⟩:=(h11.pull 4 _ rfl).places_append (g:=w11.heap.size) pa po (by simp) (by rw [HPL.out];have:=HN.out;omega)
      rw [HPL.out] at hrun h12
      have h12b:=(((h12.pull 3 _ rfl).pull 3 _ rfl).pull 3 _ rfl)
      have h13:=(((h12.pull 3 _ rfl).jb_fill ⟨s1,v0,v1,v2,v3⟩).pull 3 _ rfl).pull 3 _ rfl
      obtain ⟨As,cs,hva',_⟩:=(h11.pull 4 _ rfl).win_slice
      rw [HPL.out] at hva'
      subst hva'
      have x0:=HMK8.out _ _ _ h11
      have xa:=HMK8.out _ _ _ (h11.keep (Zq7 _ (.cells #[.int .i64 pa,.int .i64 po] 41)))
      have xb:=HMK8.out _ _ _ h12b
      have xc:=HMK8.out _ _ _ h13
      have XB:=Zh xb
      have XC:=Zh xc
      have XA:=Zh xa
      obtain ⟨x0,x1,x2,x3,x4,x5,x6,x7⟩:=x0
      have lq11:=(h11.pull 2 _ rfl).lt
      have H13:=Zh h13
      have HRUN:=Zh hrun
      have H12:=Zh h12b
      clear h11 h12 h12b h13 xa xb xc hrun
      refine Zq8 (fun w'=>w'.cell? ⟨g8,0,none⟩=some (.int .i64 s1)∧w'.cell? ⟨g8,1,none⟩=some (.int .i64 v0)∧w'.cell? ⟨g8,2,none⟩=some (.int .i64 v1)∧w'.cell? ⟨g8,3,none⟩=some (.int .i64 v2)∧w'.cell? ⟨g8,4,none⟩=some (.int .i64 v3)∧w'.cell? ⟨g9,0,none⟩=some (.int .i64 pa)∧w'.cell? ⟨g9,1,none⟩=some (.int .i64 po)∧w'.cell? ⟨q,9,none⟩=some (.slice As i cs)) [0,1,2,3,4,5,6,7] [8,9,10,11,12] [13,14,15] (by kernel_rfl) (by kernel_rfl) (by (exact ⟨x0,x1,x2,x3,x4,x5,x6,x7⟩)) ?_
      simp only [pickL,Zl6,Zl7]
      repeat (refine Zq5 _ (Or.inl ⟨by rfl,by (intro w hSw;(try dsimp only at hSw);go_simp;try with_reducible rfl)⟩) ?_;(try simp only [Act.put,List.setIfInBounds_toArray,Zl4,Zl5]))
      refine Zq9 ?_
      unfold Zq16
      go_wp2_with fail
      refine Zq0 XA.out ?_
      clear x0 x1 x2 x3 x4 x5 x6 x7
      unfold Zq16
      go_wp2_with (at_builtin;refine Lib.wpList_append_run _ rfl (.tmp 86) (.tmp 88) 38 38 rfl _ _ rfl rfl _ _ HRUN.out ?_)
      refine Zq0 XB.out ?_
      unfold Zq16
      have kq:=Zq45 (H12.out.pull 2 _ rfl)
      have k10:=kq 10
      have k11:=kq 11
      have k12:=kq 12
      have k13:=kq 13
      have k14:=kq 14
      have k9:=jn_c9 (H12.out.pull 2 _ rfl)
      have fq:=Zq52 (H12.out.pull 2 _ rfl)
      have lq12:=(H12.out.pull 2 _ rfl).lt
      simp [Zq135,fillJ] at k10 k11 k12 k13 k14
      clear kq
      go_wp2_with fail
      refine Zq0 XB.out ?_
      unfold Zq16
      go_wp2_with fail
      refine Zq0 XB.out ?_
      unfold Zq16
      go_wp2_with fail
      refine Zq0 XC.out ?_
      unfold Zq16
      have h13:=H13.out.pull 2 _ rfl
      generalize (World.setCell _ _ _:World)=w13 at h13 ⊢
      clear k9 k10 k11 k12 k13 k14 fq lq12 XB XC XA H12 HRUN H13
      have k9:=jn_c9 h13
      have f9:=Zq52 h13 9
      have lq13:=h13.lt
      have h14:St W I (w13.setCell ⟨q,9,none⟩ (.slice A' (i+1) c')) (jnBlk q p (fillJ J ⟨s1,v0,v1,v2,v3⟩) ⟨vt,vc,.slice (some ⟨g,qq,none⟩) n0 c,.slice A' (i+1) c'⟩::HP.pt g8 (.cells #[.int .i64 s1,.int .i64 v0,.int .i64 v1,.int .i64 v2,.int .i64 v3] 108)::HP.pt g9 (.cells #[.int .i64 pa,.int .i64 po] 41)::Zq20 (.slice A' (i+1) c') (ps++[⟨pa,po⟩])::Zq23 (.slice (some ⟨g,qq,none⟩) n0 c) J.l::l):=h13.jb_at (.slice A' (i+1) c')
      have h15:St W I (w13.setCell ⟨q,9,none⟩ (.slice A' (i+1) c')) (jnBlk q p (fillJ J ⟨s1,v0,v1,v2,v3⟩) ⟨vt,vc,.slice (some ⟨g,qq,none⟩) n0 c,.slice A' (i+1) c'⟩::Zq23 (.slice (some ⟨g,qq,none⟩) n0 c) J.l::Zq20 (.slice A' (i+1) c') (ps++[⟨pa,po⟩])::l):=((((h14.pull 1 _ rfl).drop.pull 1 _ rfl).drop).pull 2 _ rfl).pull 1 _ rfl
      clear h14
      have H14:=Zh h15
      clear h15
      clear h13
      go_wp2_with fail
      refine NoPanic.normal ?_
      go_wp2_with fail
      go_roundw
      case rel =>
       exact ⟨i+1,⟨s1,v0,v1,v2,v3⟩,ps++[⟨pa,po⟩],.slice A' (i+1) c',by go_num,by omega,by rw [List.length_append,HPL.out];rfl,by rw [HTK.out,List.append_assoc,List.append_assoc];exact HEND.out,H14.out⟩
      case measure=>simp [intOf];omega
  ·obtain rfl:i=n0:=by omega
   have hlt2:¬ (i:Int)<(i:Int):=by omega
   rw [HN0.out,List.take_length,List.drop_length] at hgo
   have HGO:=Zh (show X=(J.l,ps,(⟨s,u0,u1,u2,u3⟩:Fl)) by rw [hgo];simp [layGo])
   have HST:=Zh hst
   clear hgo hst hpl
   go_wp2_with fail
   first|refine bodyPost_ret (results_none rfl _ _ _) rfl ?_|refine ⟨rfl,_,results_none rfl _ _ _,?_⟩|fail
   rw [HR.out,HGO.out]
   exact ⟨rfl,St.jn_shut (J:=lJ J J.l ps ⟨s,u0,u1,u2,u3⟩) (V:=⟨vt,vc,.slice A i c,va'⟩) HRI.out HST.out⟩
end
end Go.Proofs.YtpjchngjhijgmaaGreat
