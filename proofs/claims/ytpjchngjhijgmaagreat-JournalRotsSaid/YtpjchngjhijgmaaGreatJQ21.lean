import Derived.Test.YtpjchngjhijgmaaGreatJQ20
set_option linter.all false
namespace Go.Proofs.YtpjchngjhijgmaaGreat
open Go.RowKit
section
variable {W w w' : World} {I : Hp} {l : List HP} {p q : Nat} {J : Jn}
theorem St.fresh2 {b1 b2:Nat} {o1 o2:Obj} (h:St W I w l) (hb:Below w.heap.size w w') (h1:w.heap.size≤b1∧w'.heap[b1]?=some o1) (h2:w.heap.size≤b2∧w'.heap[b2]?=some o2) (hne:b1≠b2):St W I w' (HP.pt b1 o1::HP.pt b2 o2::l):=by
 have h':=h.keep hb
 obtain ⟨k,a,d,c⟩:=h.own
 have none_of:∀ {g:Hp} {b:Nat},w.heap.size≤b→g.sub w.hp→g b=none:=fun {g b} hl s=>by
  cases e:g b with
  | none=>rfl
  | some x =>
   have hc:w.heap[b]?=some x:=s _ _ e
   have:=(Array.getElem?_eq_some_iff.1 hc).1
   omega
 have old:k.sub w'.hp:=fun c x hx=>by
  have hc:w.heap[c]?=some x:=a _ _ hx
  exact (hb.block c (Array.getElem?_eq_some_iff.1 hc).1).trans hc
 have dk:∀ {g:Hp} {b:Nat} {o:Obj},w.heap.size≤b→g.sub w.hp→(Hp.one b o).disj g:=fun {g b o} hl s c=>by
  by_cases e:c=b
  ·subst c;exact .inr (none_of hl s)
  ·exact .inl (by simp [Hp.one,e])
 have d12:(Hp.one b1 o1).disj (Hp.one b2 o2):=fun c=>by
  by_cases e:c=b1
  ·subst c;exact .inr (by simp [Hp.one,hne])
  ·exact .inl (by simp [Hp.one,e])
 have hI:I.sub w.hp:=h.imm
 have d2k:(Hp.one b2 o2).disj k:=dk h2.1 a
 have d1r:(Hp.one b1 o1).disj ((Hp.one b2 o2).join k):=(Hp.disj_join d12.symm.symm (dk h1.1 a))
 refine ⟨h'.os,h'.tape,h'.output,h'.base,h'.imm,(Hp.one b1 o1).join ((Hp.one b2 o2).join k),Hp.join_sub (Hp.one_sub h1.2) (Hp.join_sub (Hp.one_sub h2.2) old),Hp.disj_join (dk h1.1 hI).symm (Hp.disj_join (dk h2.1 hI).symm d),
  Hp.one b1 o1,(Hp.one b2 o2).join k,d1r,Hp.sub_join_left _ _,Hp.sub_join_right d1r,Hp.one_same b1 o1,Hp.one b2 o2,k,d2k,Hp.sub_join_left _ _,Hp.sub_join_right d2k,Hp.one_same b2 o2,c⟩
def Zq262 (c:Rg) (s0:Int):List Int→Fl→Int→Bool
 | [],_,_=>true
 | n::ns,f,seq=>if (rput c f seq n).1=Fl.zero then false else if c.sets≤(rput c f seq n).1.set - s0 then false else Zq262 c s0 ns (rput c f seq n).1 (seq+1)
def fitsJ (J:Jn) (ns:List Int):Bool:=Zq262 J.r.shape J.r.set ns J.fill (endJ J+1)
theorem Zq603 (c:Rg) (f:Fl) (seq n:Int):0≤(rput c f seq n).1.set∧(rput c f seq n).1.set≤1073741824:=by
 unfold rput
 split
 ·simp [Fl.zero]
 ·rename_i h
  have hf:0≤f.set∧f.set<1073741824:=by
   have h2:f.okB c=true:=by
    cases e:f.okB c with
    | true=>rfl
    | false=>exact absurd (.inr (.inl e)) h
   unfold Fl.okB at h2
   rw [decide_eq_true_eq] at h2
   exact h2.2.2.2.2
  have hp:∀ (g:Fl) (o x:Int),(g.put o x).set=g.set:=fun g o x=>by unfold Fl.put;(repeat' split) <;> rfl
  split
  ·simp only [hp];omega
  ·simp only [hp];omega
set_option maxRecDepth 4000
set_option maxHeartbeats 4000000
theorem Zq149 (h:St W I w (jnHP q p J::l)) (hB:JB J) (A:Option Addr) (c:Nat) (ns:List Int) (hn:ns.length≤1000000) (hns:∀ (i:Nat) (x:Int),ns[i]?=some x→∃ g o,A=some ⟨g,o,none⟩∧g<w.heap.size∧w.cell? ⟨g,o+i,none⟩=some (.int .i64 x)) :
  Calls Tryz.prog 44 #[.pointer (some ⟨q,0,none⟩),.slice A ns.length c] w fun e w'=>e=.returned (.bool (fitsJ J ns))∧Below w.heap.size w w':=by
 obtain ⟨V,hr,h1⟩:=h.jn_open
 obtain ⟨x10,x11,x12,x13,x14⟩:=Zq359 h1
 have ltq:=h1.lt
 have H:=Zh h
 have HB:=Zh hB
 have HNS:=Zh hns
 have hend:0≤endJ J∧endJ J≤2199023355552:=by
  have:=hB.first
  have:=hB.len
  unfold endJ
  omega
 have hset:=hB.ok.set
 obtain ⟨e0,he0⟩:∃ x,x=endJ J:=⟨_,rfl⟩
 rw [←he0] at hend
 have HE:=Zh he0
 obtain ⟨s0,hs0⟩:∃ x,x=J.r.set:=⟨_,rfl⟩
 rw [←hs0] at hset
 have HS0:=Zh hs0
 obtain ⟨rt,hrt⟩:∃ x,x=fitsJ J ns:=⟨_,rfl⟩
 rw [←hrt]
 have HRT:=Zh (show rt=Zq262 J.r.shape s0 ns J.fill (e0+1) by rw [hrt,hs0,he0];rfl)
 have hA:=(St.init w).alloc (.cells #[.int .i64 J.fill.set,.int .i64 J.fill.u0,.int .i64 J.fill.u1,.int .i64 J.fill.u2,.int .i64 J.fill.u3] 108)
 have HA:=Zh hA
 have wl:w.heap.size=w.heap.size:=rfl
 clear h h1 hr hB hns he0 hs0 hrt hA wl
 obtain ⟨n0,hn0⟩:∃ x,x=ns.length:=⟨_,rfl⟩
 rw [←hn0] at hn
 rw [←hn0]
 have HN0:=Zh hn0
 clear hn0
 go_enter Tryz.func44,Tryz.ntmps44
 go_wp2_with fail
 go_loopw [19] (fun a19 wr=>∃ (i:Nat) (F:Fl),a19=.int .i64 i∧i≤n0∧rt=Zq262 J.r.shape s0 (ns.drop i) F (e0+1+i)∧St w w.hp wr [HP.pt w.heap.size (.cells #[.int .i64 F.set,.int .i64 F.u0,.int .i64 F.u1,.int .i64 F.u2,.int .i64 F.u3] 108)]) (fun a19 _=>n0 - (intOf a19).toNat)
 case atStart=>exact ⟨0,J.fill,rfl,Nat.zero_le _,by rw [HRT.out];simp,HA.out⟩
 case round =>
  obtain ⟨i,⟨s,u0,u1,u2,u3⟩,rfl,hi,hgo,hst⟩:=hrel
  have hbw:=hst.below
  by_cases hlt:i<n0
  ·have hil:i<ns.length:=by rw [←HN0.out];exact hlt
   obtain ⟨n,hnn⟩:∃ n,ns[i]?=some n:=⟨_,List.getElem?_eq_getElem hil⟩
   obtain ⟨g,o,rfl,hg,hcell⟩:=HNS.out i n hnn
   have y:wr.cell? ⟨g,o+i,none⟩=some (.int .i64 n):=(hbw.cell hg).trans hcell
   have hgl:g<wr.heap.size:=Nat.lt_of_lt_of_le hg hbw.size
   have hdr:ns.drop i=n::ns.drop (i+1):=by
    rw [List.drop_eq_getElem_cons hil]
    congr 1
    exact (List.getElem?_eq_some_iff.1 hnn).2
   rw [hdr] at hgo
   unfold Zq262 at hgo
   have hps:=Zq603 J.r.shape ⟨s,u0,u1,u2,u3⟩ (e0+1+i) n
   obtain ⟨⟨⟨s1,v0,v1,v2,v3⟩,⟨ps,po⟩,nx,ok⟩,hrr⟩:∃ r,rput J.r.shape ⟨s,u0,u1,u2,u3⟩ (e0+1+i) n=r:=⟨_,rfl⟩
   rw [hrr] at hgo hps
   simp only at hgo hps
   have hrp:∀ w,Calls Tryz.prog 69 #[.agg #[.int .i64 J.r.shape.splay,.int .i64 J.r.shape.sets,.int .i64 J.r.shape.size],.agg #[.int .i64 s,.int .i64 u0,.int .i64 u1,.int .i64 u2,.int .i64 u3],.int .i64 (e0+1+i),.int .i64 n] w fun e w'=>e=.returned (.tuple #[.agg #[.int .i64 s1,.int .i64 v0,.int .i64 v1,.int .i64 v2,.int .i64 v3],.agg #[.int .i64 ps,.int .i64 po],.bool nx])∧Below w.heap.size w w':=fun w=>by
    have:=Zq416 J.r.shape ⟨s,u0,u1,u2,u3⟩ (e0+1+i) n w
    rw [hrr] at this
    exact this
   have HRP:=Zh hrp
   have HGO:=Zh hgo
   have w1:IntKind.i64.wrap (e0+1)=e0+1:=by rw [IntKind.wrap_i64];omega
   have w2:IntKind.i64.wrap (e0+1+i)=e0+1+i:=by rw [IntKind.wrap_i64];omega
   have w3:IntKind.i64.wrap (s1 - s0)=s1 - s0:=by rw [IntKind.wrap_i64];omega
   obtain ⟨y0,y1,y2,y3,y4⟩:=Zq22 hst
   have HS:=Zh hst
   have HBW:=Zh hbw
   have HHJ:=Zh (H.out.keep hbw)
   clear hgo hrp hrr hst hbw hcell hdr hnn hil hg
   go_upto_region 7 with fail
   have HMK:=Zh (show ∀ w',St W I w' (jnHP q p J::l)→St w w.hp w' [HP.pt w.heap.size (.cells #[.int .i64 s,.int .i64 u0,.int .i64 u1,.int .i64 u2,.int .i64 u3] 108)]→(St W I w' (jnHP q p J::l)∧w'.cell? ⟨q,1,none⟩=some (.int .i64 J.r.shape.splay)∧w'.cell? ⟨q,2,none⟩=some (.int .i64 J.r.shape.sets)∧w'.cell? ⟨q,3,none⟩=some (.int .i64 J.r.shape.size)∧w'.cell? ⟨w.heap.size,0,none⟩=some (.int .i64 s)∧w'.cell? ⟨w.heap.size,1,none⟩=some (.int .i64 u0)∧w'.cell? ⟨w.heap.size,2,none⟩=some (.int .i64 u1)∧w'.cell? ⟨w.heap.size,3,none⟩=some (.int .i64 u2)∧w'.cell? ⟨w.heap.size,4,none⟩=some (.int .i64 u3)) from fun w' h1 h2=>by
    obtain ⟨V,_,h3⟩:=h1.jn_open
    obtain ⟨z1,z2,z3⟩:=Zq134 h3
    exact ⟨h1,z1,z2,z3,Zq22 h2⟩)
   refine Zq37 (fun w'=>St W I w' (jnHP q p J::l)∧w'.cell? ⟨q,1,none⟩=some (.int .i64 J.r.shape.splay)∧w'.cell? ⟨q,2,none⟩=some (.int .i64 J.r.shape.sets)∧w'.cell? ⟨q,3,none⟩=some (.int .i64 J.r.shape.size)∧w'.cell? ⟨w.heap.size,0,none⟩=some (.int .i64 s)∧w'.cell? ⟨w.heap.size,1,none⟩=some (.int .i64 u0)∧w'.cell? ⟨w.heap.size,2,none⟩=some (.int .i64 u1)∧w'.cell? ⟨w.heap.size,3,none⟩=some (.int .i64 u2)∧w'.cell? ⟨w.heap.size,4,none⟩=some (.int .i64 u3)) [(0,false),(1,false),(2,false),(3,false),(4,false),(5,false),(6,false),(7,false),(8,false),(9,false),(10,false),(11,false),(12,false),(13,false),(14,false),(15,true),(16,true)] [17,18] [19,20,21] (by kernel_rfl) (by kernel_rfl) (by (intro w' hb;exact HMK.out _ (HHJ.out.drew.keep hb) (HS.out.drew.keep hb))) ?_
   repeat (first|(refine Zq41 (by rfl) _ (by rfl) (by intro w;go_simp;try with_reducible rfl) ?_;(try simp only [Act.put,List.setIfInBounds_toArray,Zl4,Zl5]))|(refine Zq98 (by rfl) _ (by rfl) (by (intro w hSw;(try dsimp only at hSw);go_simp;try with_reducible rfl)) ?_;(try simp only [Act.put,List.setIfInBounds_toArray,Zl4,Zl5]))|(refine Zq60 (by rfl) (by rfl) ?_;(try simp only [Act.put,List.setIfInBounds_toArray,Zl4,Zl5]))|fail)
   refine Zq109 (by rfl) (.int .i64 e0) (29) (#[.pointer (some ⟨q,0,none⟩)]) (by rfl) (by intro w;go_simp;try with_reducible rfl) (by (rintro w1 ⟨h1,_⟩;have h2:=Zq111 h1 HB.out;rw [←HE.out] at h2;exact h2)) ?_
   (try simp only [Act.put,List.setIfInBounds_toArray,Zl4,Zl5])
   repeat (first|(refine Zq41 (by rfl) _ (by rfl) (by intro w;go_simp;try with_reducible rfl) ?_;(try simp only [Act.put,List.setIfInBounds_toArray,Zl4,Zl5]))|(refine Zq98 (by rfl) _ (by rfl) (by (intro w hSw;(try dsimp only at hSw);go_simp;try with_reducible rfl)) ?_;(try simp only [Act.put,List.setIfInBounds_toArray,Zl4,Zl5]))|(refine Zq60 (by rfl) (by rfl) ?_;(try simp only [Act.put,List.setIfInBounds_toArray,Zl4,Zl5]))|fail)
   refine Zq109 (by rfl) (.tuple #[.agg #[.int .i64 s1,.int .i64 v0,.int .i64 v1,.int .i64 v2,.int .i64 v3],.agg #[.int .i64 ps,.int .i64 po],.bool nx]) (69) (#[.agg #[.int .i64 J.r.shape.splay,.int .i64 J.r.shape.sets,.int .i64 J.r.shape.size],.agg #[.int .i64 s,.int .i64 u0,.int .i64 u1,.int .i64 u2,.int .i64 u3],.int .i64 (e0+1+i),.int .i64 n]) (by rfl) (by intro w;go_simp;try with_reducible rfl) (by (rintro w1 _;exact HRP.out w1)) ?_
   (try simp only [Act.put,List.setIfInBounds_toArray,Zl4,Zl5])
   repeat (first|(refine Zq41 (by rfl) _ (by rfl) (by intro w;go_simp;try with_reducible rfl) ?_;(try simp only [Act.put,List.setIfInBounds_toArray,Zl4,Zl5]))|(refine Zq98 (by rfl) _ (by rfl) (by (intro w hSw;(try dsimp only at hSw);go_simp;try with_reducible rfl)) ?_;(try simp only [Act.put,List.setIfInBounds_toArray,Zl4,Zl5]))|(refine Zq60 (by rfl) (by rfl) ?_;(try simp only [Act.put,List.setIfInBounds_toArray,Zl4,Zl5]))|fail)
   refine Zq266 ?_
   refine Zq760 (by rfl) (by rfl) (fun g=>.pointer (some ⟨g,0,none⟩)) (fun g=>.pointer (some ⟨g,0,none⟩)) (.cells #[.int .i64 0,.int .i64 0,.int .i64 0,.int .i64 0,.int .i64 0] 108) (.cells #[.int .i64 0,.int .i64 0] 41) (by rfl) (by rfl) (by intro w;go_simp;try with_reducible rfl) (by intro w;go_simp;try with_reducible rfl) ?_
   intro g8 g9
   rintro w9 hz9
   obtain ⟨hb9,l8,l9,hne⟩:=hz9.two (by decide)
   have h9:=HS.out.drew.fresh2 hb9 l8 l9 hne
   clear hz9 hb9 l8 l9 y0 y1 y2 y3 y4 y x10 x11 x12 x13 x14 hgl ltq
   have f8:=frozen_of_row h9.heap
   have f9:=frozen_of_row (h9.pull 1 _ rfl).heap
   obtain ⟨b5,b6⟩:g8<w9.heap.size∧g9<w9.heap.size:=⟨h9.lt,(h9.pull 1 _ rfl).lt⟩
   obtain ⟨y0,y1,y2,y3,y4⟩:=Zq22 h9
   obtain ⟨z0,z1⟩:=Zq48 (h9.pull 1 _ rfl)
   have H9:=Zh h9
   clear h9
   go_wp2_with fail
   refine NoPanic.normal ?_
   have h10:=((((H9.out.set5 (.int .i64 s1) (.int .i64 v0) (.int .i64 v1) (.int .i64 v2) (.int .i64 v3)).pull 1 _ rfl).set2 (.int .i64 ps) (.int .i64 po)).pull 1 _ rfl)
   generalize (World.setCell _ _ _:World)=w10 at h10 ⊢
   clear y0 y1 y2 y3 y4 z0 z1 f8 f9 H9 b5 b6
   obtain ⟨y0,y1,y2,y3,y4⟩:=Zq22 h10
   have hb10:=h10.below
   have hj:=H.out.keep hb10
   obtain ⟨V2,hr2,hj2⟩:=hj.jn_open
   obtain ⟨_,k2,_⟩:=Zq134 hj2
   have k5:=jn_c5 hj2
   rw [←HS0.out] at k5
   obtain ⟨ss,hss⟩:∃ x,x=J.r.shape.sets:=⟨_,rfl⟩
   rw [←hss] at k2
   have HSS:=Zh hss
   have x1:=h10.lt
   have H10:=Zh h10
   have HB10:=Zh hb10
   by_cases hz:(⟨s1,v0,v1,v2,v3⟩:Fl)=Fl.zero
   ·have hq:∀ w,(Op.equalIn 10000 108 (.agg #[.int .i64 s1,.int .i64 v0,.int .i64 v1,.int .i64 v2,.int .i64 v3]) (.agg #[.int .i64 0,.int .i64 0,.int .i64 0,.int .i64 0,.int .i64 0])).run Tryz.prog w=.ok true w:=fun w=>by
     have:=Zq318 ⟨s1,v0,v1,v2,v3⟩ Fl.zero w
     rw [decide_eq_true hz] at this
     exact this
    clear hj hj2 hr2 h10 hb10 hss
    go_upto_region 8 with fail
    go_quiet (fail)
    go_wp2_with fail
    have e1:rt=false:=HGO.out.trans (if_pos hz)
    go_ret
    exact ⟨by rw [e1];rfl,(H10.out.drewN _).below⟩
   ·have hq:∀ w,(Op.equalIn 10000 108 (.agg #[.int .i64 s1,.int .i64 v0,.int .i64 v1,.int .i64 v2,.int .i64 v3]) (.agg #[.int .i64 0,.int .i64 0,.int .i64 0,.int .i64 0,.int .i64 0])).run Tryz.prog w=.ok false w:=fun w=>by
     have:=Zq318 ⟨s1,v0,v1,v2,v3⟩ Fl.zero w
     rw [decide_eq_false hz] at this
     exact this
    have hgo2:=HGO.out.trans (if_neg hz)
    rw [←hss] at hgo2
    have lj:q<w10.heap.size:=hj2.lt
    by_cases hss2:ss≤s1 - s0
    ·have e1:rt=false:=hgo2.trans (if_pos hss2)
     have dd:decide (ss≤s1 - s0)=true:=decide_eq_true hss2
     clear hj hj2 hr2 h10 hb10 hss hgo2 hz HGO
     go_upto_region 8 with fail
     go_quiet (fail)
     go_wp2_with fail
     go_ret
     exact ⟨by rw [e1];rfl,(H10.out.drewN _).below⟩
    ·have e1:rt=Zq262 J.r.shape s0 (ns.drop (i+1)) ⟨s1,v0,v1,v2,v3⟩ (e0+1+i+1):=hgo2.trans (if_neg hss2)
     have dd:decide (ss≤s1 - s0)=false:=decide_eq_false hss2
     have E1:=Zh e1
     clear hj hj2 hr2 h10 hb10 hss hgo2 hz HGO e1
     go_upto_region 8 with fail
     go_quiet (fail)
     obtain ⟨r0,r1,r2,r3,r4⟩:=Zq22 (H10.out.pull 2 _ rfl)
     have rf:=frozen_of_row (H10.out.pull 2 _ rfl).heap
     go_wp2_with fail
     clear hss2 dd hq r0 r1 r2 r3 r4 rf y0 y1 y2 y3 y4
     have h11:=fun nq=>(((H10.out.drewN nq).pull 2 _ rfl).set5 (.int .i64 s1) (.int .i64 v0) (.int .i64 v1) (.int .i64 v2) (.int .i64 v3)).pull 2 _ rfl
     go_roundw
     case rel=>exact ⟨i+1,⟨s1,v0,v1,v2,v3⟩,by go_num,by omega,by rw [E1.out];congr 1;omega,(((h11 _).drop).pull 1 _ rfl).drop⟩
     case measure=>simp [intOf];omega
  ·obtain rfl:i=n0:=by omega
   rw [HN0.out,List.drop_length] at hgo
   have e1:rt=true:=hgo
   clear hgo
   have HBW:=Zh hbw
   clear hst hbw
   go_wp2_with fail
   go_ret
   exact ⟨by rw [e1];rfl,HBW.out⟩
end
end Go.Proofs.YtpjchngjhijgmaaGreat
namespace Go.Proofs.YtpjchngjhijgmaaGreat
open Go.RowKit
theorem Zq360 (l:List Tag) (t:Tag) (seq:Int):tagOf (l++[t]) seq=if t.at_<seq then t.id else tagOf l seq:=by
 unfold tagOf
 rw [List.reverse_append,List.reverse_cons,List.reverse_nil,Zl3,Zl2,Zl3]
 by_cases h:t.at_<seq
 ·rw [if_pos h,List.find?_cons_of_pos (by simpa using h)]
 ·rw [if_neg h,List.find?_cons_of_neg (by simpa using h)]
section
set_option maxRecDepth 4000
set_option maxHeartbeats 4000000
theorem Zq604 (A:Option Addr) (n c:Nat) (l:List Tag) (seq:Int) (w:World) (hl:TagsAt w A n l) (hn:n≤1000000) :
  Calls Tryz.prog 67 #[.slice A n c,.int .i64 seq] w fun e w'=>e=.returned (.int .i64 (tagOf l seq))∧w=w':=by
 have HL:=Zh hl
 have hlen:=hl.len
 have hw0:IntKind.i64.wrap ((n:Int) - 1)=(n:Int) - 1:=by rw [IntKind.wrap_i64];omega
 clear hl
 go_enter Tryz.func67,Tryz.ntmps67
 go_wp2_with fail
 go_loopw [5] (fun a5 wr=>∃ k:Nat,a5=.int .i64 ((k:Int) - 1)∧k≤n∧tagOf l seq=tagOf (l.take k) seq∧wr=w) (fun a5 _=>(intOf a5+1).toNat)
 case atStart=>exact ⟨n,rfl,Nat.le_refl _,by rw [←hlen,List.take_length],rfl⟩
 case round =>
  obtain ⟨k,rfl,hk,ht,rfl⟩:=hrel
  rcases Nat.eq_zero_or_pos k with h0|h0
  ·subst h0
   have HT:=Zh (show tagOf l seq=0 by rw [ht];rfl)
   clear ht
   have d0:decide ((0:Int)≤((0:Nat):Int) - 1)=false:=by decide
   go_wp2_with fail
   go_ret
   rw [HT.out]
   exact ⟨rfl,rfl⟩
  ·obtain ⟨j,rfl⟩:∃ j,k=j+1:=⟨k - 1,by omega⟩
   have e1:(((j+1:Nat):Int) - 1)=(j:Int):=by omega
   rw [e1]
   have d0:decide ((0:Int)≤(j:Int))=true:=by rw [decide_eq_true_eq];omega
   obtain ⟨b,off,t,rfl,hlt,hlt2,c0,c1,c2,c3⟩:=HL.out.at_ (show j<n by omega)
   have hjn:(j:Int)<(n:Int):=by omega
   have hsn:tagOf (l.take (j+1)) seq=if t.at_<seq then t.id else tagOf (l.take j) seq:=by
    obtain ⟨hil,he⟩:=List.getElem?_eq_some_iff.1 hlt2
    rw [List.take_succ_eq_append_getElem hil,he,Zq360]
   rw [hsn] at ht
   have hwj:IntKind.i64.wrap ((j:Int) - 1)=(j:Int) - 1:=by rw [IntKind.wrap_i64];omega
   by_cases hb:t.at_<seq
   ·rw [if_pos hb] at ht
    have HT:=Zh ht
    have d1:decide (t.at_<seq)=true:=decide_eq_true hb
    clear ht hsn hlt2 e1
    go_wp2_with fail
    go_ret
    rw [HT.out]
    exact ⟨rfl,rfl⟩
   ·rw [if_neg hb] at ht
    have HT:=Zh ht
    have d1:decide (t.at_<seq)=false:=decide_eq_false hb
    clear ht hsn hlt2 e1
    go_wp2_with fail
    go_roundw
    case rel=>exact ⟨j,rfl,by omega,HT.out,trivial⟩
    case measure=>first|(simp [intOf];done)|(simp [intOf];omega)|fail
end
end Go.Proofs.YtpjchngjhijgmaaGreat
namespace Go.Proofs.YtpjchngjhijgmaaGreat
open Go.RowKit
section
variable {W w w' : World} {I : Hp} {l : List HP} {p q : Nat} {S : Str} {J : Jn}
theorem Zq515:(Tryz.prog.info? 212).map (fun i=>(i.zero,i.size,i.bytes))=some (some (.agg #[.int .i64 0,.int .i64 0,.bool false]),3,24):=by kernel_rfl
set_option maxHeartbeats 1000000 in
theorem Zq516 (v:Value) (n:Nat) (xs:List Value) (w:World) (hs:SliceSrc w 3 v n xs) (hn:n≤1000000) :
  Calls Tryz.prog 152 #[v] w fun e w'=>∃ v',e=.returned v'∧w'.ownsRow w.heap.size 212 3 v' n xs∧Below w.heap.size w w':=by
 obtain ⟨A,c,rfl,hsrc,hA⟩:=hs
 cases A with
 | none =>
  have h0:n=0:=by
   rcases Nat.eq_zero_or_pos n with h|h
   ·exact h
   ·obtain ⟨_,e,_⟩:=hsrc.cells h;cases e
  subst h0
  have hx:xs=[]:=List.eq_nil_of_length_eq_zero (by rw [hsrc.len,Nat.zero_mul])
  subst hx
  obtain rfl:=hA rfl
  have hq:=@Lib.run_eql_slice_nil Tryz.prog
  go_enter Tryz.func152,Tryz.ntmps152
  go_wp2
  go_ret
  exact ⟨_,rfl,World.ownsRow_nil _ _ _ _,Below.refl _ _⟩
 | some ad =>
  obtain ⟨i0,hi0,hz0,hz1,hz2⟩:=info_parts Zq515
  have hq:=@Lib.run_eql_slice_nil Tryz.prog
  go_enter Tryz.func152,Tryz.ntmps152
  have hown:=World.ownsRow_made (base:=w.heap.size) (e:=212) (size:=3) w #[] 0 (Nat.le_refl _) (Nat.zero_le _) rfl
  go_wp2_with (at_builtin
               refine Zq71 _ rfl (.tmp 5) (.tmp 6) _ rfl w.heap.size 212 i0 _ 3 24 Tryz.underlying103 hi0 hz0 hz1 hz2 rfl (by omega) _ 0 [] rfl hown (some ad) n c xs rfl
                (hsrc.below (Zq3 _ _)) (fun h=>by cases h) (by simp only [maxLen];omega) (by omega) (by simp) ?_
               intro v1 w1 hown1 hg1 hat1)
  go_ret
  refine ⟨_,rfl,by simpa using hown1,((Below.refl _ _).alloc (Nat.le_refl _) _).grown hg1 (by simp) (fun k hk=>?_)⟩
  have hk':some w.heap.size=some k:=hk
  injection hk' with hk'
  omega
set_option maxRecDepth 4000
set_option maxHeartbeats 4000000
theorem Zq466 (pl:Pl) (h:St W I w (jnHP q p J::l)):Calls Tryz.prog 70 #[.pointer (some ⟨q,0,none⟩),pl.val] w fun e w'=>e=.returned (.agg #[.int .i64 2,.int .i64 0,.int .i64 (rnum J.r.shape pl),.int .i64 0])∧Below w.heap.size w w':=by
 obtain ⟨V,hr,h1⟩:=h.jn_open
 obtain ⟨x1,x2,x3⟩:=Zq134 h1
 have ltq:=h1.lt
 obtain ⟨s,o⟩:=pl
 obtain ⟨r,hrr⟩:∃ r,r=rnum J.r.shape ⟨s,o⟩:=⟨_,rfl⟩
 have HN:=Zh (fun w=>(hrr ▸ Zq757 J.r.shape ⟨s,o⟩ w:Calls Tryz.prog 131 #[J.r.shape.val,Pl.val ⟨s,o⟩] w fun e w'=>e=.returned (.int .i64 r)∧Below w.heap.size w w'))
 rw [←hrr]
 obtain ⟨⟨a,b,c⟩,hsh⟩:∃ x,x=J.r.shape:=⟨_,rfl⟩
 rw [←hsh] at x1 x2 x3 HN
 simp only at x1 x2 x3
 clear h h1 hr hrr hsh
 simp only [Pl.val]
 have h4:=(((St.init w).alloc (.cells #[.int .i64 s,.int .i64 o] 41)).alloc (.cells #[.int .i64 0,.int .i64 0,.int .i64 0,.int .i64 0] 43))
 simp only [World.size_alloc] at h4
 have H4:=Zh h4
 clear h4
 go_enter Tryz.func70,Tryz.ntmps70
 go_upto_region 1 with fail
 have h4:=H4.out
 generalize (World.alloc _ _:World)=w4 at h4 ⊢
 have HMK:=Zh (show ∀ w',St w w.hp w' [HP.pt (w.heap.size+1) (.cells #[.int .i64 0,.int .i64 0,.int .i64 0,.int .i64 0] 43),HP.pt w.heap.size (.cells #[.int .i64 s,.int .i64 o] 41)]→(w'.cell? ⟨q,1,none⟩=some (.int .i64 a)∧w'.cell? ⟨q,2,none⟩=some (.int .i64 b)∧w'.cell? ⟨q,3,none⟩=some (.int .i64 c)∧w'.cell? ⟨w.heap.size,0,none⟩=some (.int .i64 s)∧w'.cell? ⟨w.heap.size,1,none⟩=some (.int .i64 o)) from fun w' h => 
  ⟨(h.below.cell ltq).trans x1,(h.below.cell ltq).trans x2,(h.below.cell ltq).trans x3,Zq48 (h.pull 1 _ rfl)⟩)
 have H5:=Zh h4
 clear h4 H4 x1 x2 x3
 refine Zq37 (fun w'=>w'.cell? ⟨q,1,none⟩=some (.int .i64 a)∧w'.cell? ⟨q,2,none⟩=some (.int .i64 b)∧w'.cell? ⟨q,3,none⟩=some (.int .i64 c)∧w'.cell? ⟨w.heap.size,0,none⟩=some (.int .i64 s)∧w'.cell? ⟨w.heap.size,1,none⟩=some (.int .i64 o)) [(0,false),(1,false),(2,false),(3,false),(4,false),(5,false),(6,false),(7,false)] [] [8] (by kernel_rfl) (by kernel_rfl) (by (intro w' hb;exact HMK.out _ (H5.out.drew.keep hb))) ?_
 repeat (first|(refine Zq41 (by rfl) _ (by rfl) (by intro w;go_simp;try with_reducible rfl) ?_;(try simp only [Act.put,List.setIfInBounds_toArray,Zl4,Zl5]))|(refine Zq98 (by rfl) _ (by rfl) (by (intro w hSw;(try dsimp only at hSw);go_simp;try with_reducible rfl)) ?_;(try simp only [Act.put,List.setIfInBounds_toArray,Zl4,Zl5]))|(refine Zq60 (by rfl) (by rfl) ?_;(try simp only [Act.put,List.setIfInBounds_toArray,Zl4,Zl5]))|fail)
 refine Zq109 (by rfl) (.int .i64 r) (131) (#[.agg #[.int .i64 a,.int .i64 b,.int .i64 c],.agg #[.int .i64 s,.int .i64 o]]) (by rfl) (by intro w;go_simp;try with_reducible rfl) (by (rintro w1 _;exact HN.out w1)) ?_
 (try simp only [Act.put,List.setIfInBounds_toArray,Zl4,Zl5])
 repeat (first|(refine Zq41 (by rfl) _ (by rfl) (by intro w;go_simp;try with_reducible rfl) ?_;(try simp only [Act.put,List.setIfInBounds_toArray,Zl4,Zl5]))|(refine Zq98 (by rfl) _ (by rfl) (by (intro w hSw;(try dsimp only at hSw);go_simp;try with_reducible rfl)) ?_;(try simp only [Act.put,List.setIfInBounds_toArray,Zl4,Zl5]))|(refine Zq60 (by rfl) (by rfl) ?_;(try simp only [Act.put,List.setIfInBounds_toArray,Zl4,Zl5]))|fail)
 refine Zq266 ?_
 refine Zq421 ?_
 rintro w9 hz9
 have h9:=H5.out.drew.keep hz9.below
 clear hz9
 have f9:=frozen_of_row h9.heap
 have k9:=Zq1 h9.heap
 have y0:=k9 0
 have y1:=k9 1
 have y2:=k9 2
 have y3:=k9 3
 simp at y0 y1 y2 y3
 have lt9:=h9.lt
 have H9:=Zh h9
 clear h9 k9
 go_wp2_with fail
 refine NoPanic.normal ?_
 have h10:=(((H9.out.setCell 0 (.int .i64 2)).setCell 1 (.int .i64 0)).setCell 2 (.int .i64 r)).setCell 3 (.int .i64 0)
 generalize (World.setCell _ _ _:World)=w10 at h10 ⊢
 clear y0 y1 y2 y3 f9 lt9 H9
 have k9:=Zq1 h10.heap
 have y0:=k9 0
 have y1:=k9 1
 have y2:=k9 2
 have y3:=k9 3
 simp at y0 y1 y2 y3
 have HB:=Zh h10.below
 clear h10 k9
 go_wp2_with fail
 refine bodyPost_ret (v:=.agg #[.int .i64 2,.int .i64 0,.int .i64 r,.int .i64 0]) (by simp [results,Tryz.results70,go_sem,y0,y1,y2,y3]) rfl ?_
 exact ⟨rfl,HB.out⟩
theorem Zq812 (cs:List Cl):∀ u ∈ cs.flatMap Cl.vals,u.oneCell'=true:=by
 intro u hu
 simp only [List.mem_flatMap,Cl.vals,List.mem_cons,List.not_mem_nil,or_false] at hu
 obtain ⟨c,_,rfl|rfl|rfl⟩:=hu <;> rfl
def safeJ (J:Jn):Jn:={ J with safe:=endJ J }
theorem St.jn_safe (x:Int) (h:St W I w (jnHP q p J::l)) (hx:x=endJ J):St W I (w.setCell ⟨q,15,none⟩ (.int .i64 x)) (jnHP q p (safeJ J)::l):=by
 subst hx
 obtain ⟨V,hr,h1⟩:=h.jn_open
 exact St.jn_shut (J:=safeJ J) (V:=V) hr (h1.setCell 15 (.int .i64 (endJ J)))
def Zq399 (S:Str) (J:Jn):Int × Str × Jn :=
 if mayJ S J≠0 then (mayJ S J,S,mayJ2 S J) else if (Zq9 S).1≠0 then ((Zq9 S).1,(Zq9 S).2,endsJ J (Zq9 S).1) else (0,(Zq9 S).2,safeJ J)
theorem Zq319 {S:Str} {J:Jn} (h:mayJ S J=0):mayJ2 S J=J:=by
 unfold mayJ at h
 unfold mayJ2
 by_cases hc:J.dead=true∨S.on=false
 ·rw [if_pos hc] at h;cases h
 ·rw [if_neg hc]
theorem Zq517 {m:Nat} (h:St W I w (Zq8 p S::jnHP q p J::l)) (hk:Keeps S m) (hB:JB J):Calls Tryz.prog 17 #[.pointer (some ⟨q,0,none⟩)] w fun e w'=>∃ I',I.sub I'∧e=.returned (.int .i64 (Zq399 S J).1)∧St W I' w' (Zq8 p (Zq399 S J).2.1::jnHP q p (Zq399 S J).2.2::l):=by
 have HM:=Zh (Zq317 h)
 have HK:=Zh hk
 have HB:=Zh hB
 obtain ⟨e0,he0⟩:∃ x,x=mayJ S J:=⟨_,rfl⟩
 have HSM:=Zh (@Zq319 S J)
 have HX:=Zh (show Zq399 S J=if e0≠0 then (e0,S,mayJ2 S J) else if (Zq9 S).1≠0 then ((Zq9 S).1,(Zq9 S).2,endsJ J (Zq9 S).1) else (0,(Zq9 S).2,safeJ J) by rw [he0];rfl)
 rw [←he0] at HM HSM
 clear h hk hB he0
 by_cases h0:e0=0
 ·subst h0
  have HX2:=Zh (HX.out.trans (if_neg (by simp)))
  have hsame:=HSM.out rfl
  rw [hsame] at HM
  clear HX HSM hsame
  go_enter Tryz.func17,Tryz.ntmps17
  go_wp2_with fail
  refine HM.out.mono ?_
  rintro e w2 ⟨rfl,h2⟩
  obtain ⟨V,hr,h3⟩:=(h2.pull 1 _ rfl).jn_open
  have x0:=jn_c0 h3
  have lt:=h3.lt
  have H2:=Zh h2
  clear h2 hr h3
  go_wp2_with fail
  refine (Zq73 H2.out HK.out).mono ?_
  rintro e w3 ⟨I3,s3,rfl,h3⟩
  obtain ⟨⟨b,S3⟩,hb⟩:∃ x,x=Zq9 S:=⟨_,rfl⟩
  rw [←hb] at h3 HX2
  simp only at h3
  by_cases hb0:b=0
  ·subst hb0
   have HX3:=Zh (HX2.out.trans (if_neg (by simp)))
   have hj:=h3.pull 1 _ rfl
   have HE:=Zh (Zq111 hj HB.out)
   have H3:=Zh h3
   rw [←hb]
   obtain ⟨en,hen⟩:∃ x,x=endJ J:=⟨_,rfl⟩
   rw [←hen] at HE
   have HEN:=Zh hen
   clear h3 hj hb x0 lt HX2 hen
   go_wp2_with fail
   refine HE.out.mono ?_
   rintro e w4 ⟨rfl,hb4⟩
   have h4:=H3.out.keep hb4
   obtain ⟨V4,_,h5⟩:=(h4.pull 1 _ rfl).jn_open
   have x15:=Zq685 h5
   have f:=Zq42 h5
   have lt:=h5.lt
   have H4:=Zh h4
   clear h4 h5 hb4
   go_wp2_with fail
   go_ret
   have h6:=((H4.out.pull 1 _ rfl).jn_safe en HEN.out).pull 1 _ rfl
   rw [HX3.out]
   exact ⟨I3,s3,rfl,h6⟩
  ·have HX3:=Zh (HX2.out.trans (if_pos (by simpa using hb0)))
   have hne:(b != 0)=true:=by simpa using hb0
   have HE:=Zh (Zq70 b (h3.pull 1 _ rfl))
   rw [←hb]
   clear h3 hb x0 lt HX2
   go_wp2_with fail
   refine HE.out.mono ?_
   rintro e w4 ⟨rfl,h4⟩
   have H4:=Zh (h4.pull 1 _ rfl)
   clear h4
   go_wp2_with fail
   go_ret
   rw [HX3.out]
   exact ⟨I3,s3,rfl,H4.out⟩
 ·have HX2:=Zh (HX.out.trans (if_pos h0))
  have hne:(e0 != 0)=true:=by simpa using h0
  clear HX HSM
  go_enter Tryz.func17,Tryz.ntmps17
  go_wp2_with fail
  refine HM.out.mono ?_
  rintro e w2 ⟨rfl,h2⟩
  have H2:=Zh h2
  clear h2
  go_wp2_with fail
  go_ret
  rw [HX2.out]
  exact ⟨I,Hp.sub.refl _,rfl,H2.out⟩
end
end Go.Proofs.YtpjchngjhijgmaaGreat
