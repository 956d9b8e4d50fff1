import Derived.ChangeKeysEq
import Derived.Test.YtpjchngjhijgmaaGreatJM23
set_option linter.all false
namespace Go.Proofs.YtpjchngjhijgmaaGreat
open Go.RowKit
theorem Zq640:Tryz.prog.underlying 108=some (.struct (Tryz.prog.fieldsOf 108)):=by kernel_rfl
theorem Zq641:Tryz.prog.stoodInHeld 108=false:=by kernel_rfl
theorem Zq550:(Tryz.prog.fieldsOf 108).toList.map (fun f=>(f.name == "_",f.type,f.offset))=[(false,3,0),(false,106,1)]:=by kernel_rfl
theorem Zq642:Tryz.prog.underlying 106=some (.array 4 3):=by kernel_rfl
theorem Zq817:(Tryz.prog.info? 3).map (fun i=>i.size)=some 1:=by kernel_rfl
theorem Zq643:Tryz.prog.cellsOf 3=1:=by kernel_rfl
set_option maxRecDepth 100000 in
theorem Zq868 (a1 a2 a3 a4 b1 b2 b3 b4:Int) (w:World):(Op.equalIn 9999 106 (.agg #[.int .i64 a1,.int .i64 a2,.int .i64 a3,.int .i64 a4]) (.agg #[.int .i64 b1,.int .i64 b2,.int .i64 b3,.int .i64 b4])).run Tryz.prog w=.ok (a1==b1&&a2==b2&&a3==b3&&a4==b4) w:=by
 obtain ⟨i,hi,hs⟩:∃ i,Tryz.prog.info? 3=some i∧i.size=1:=by
  have h:=Zq817
  cases hq:Tryz.prog.info? 3 with
  | none=>rw [hq] at h;cases h
  | some i=>rw [hq] at h;exact ⟨i,rfl,by simpa using h⟩
 rw [run_equalIn_array w 9998 _ _ Zq642 hi]
 simp only [show List.range 4=[0,1,2,3] from rfl,Op.eqItems]
 simp [go_sem,hs,Zq643]
 by_cases e1:a1=b1 <;> by_cases e2:a2=b2 <;> by_cases e3:a3=b3 <;> by_cases e4:a4=b4 <;> simp [e1,e2,e3,e4]
set_option maxRecDepth 100000 in
theorem Zq644 (a0 a1 a2 a3 a4 b0 b1 b2 b3 b4:Int) (w:World):(Op.equalIn 10000 108 (.agg #[.int .i64 a0,.int .i64 a1,.int .i64 a2,.int .i64 a3,.int .i64 a4]) (.agg #[.int .i64 b0,.int .i64 b1,.int .i64 b2,.int .i64 b3,.int .i64 b4])).run Tryz.prog w=.ok (a0==b0&&a1==b1&&a2==b2&&a3==b3&&a4==b4) w:=by
 rw [run_equalIn_struct w 9999 _ _ _ Zq640 Zq641]
 obtain ⟨fs,hfs⟩:∃ fs,(Tryz.prog.fieldsOf 108).toList=fs:=⟨_,rfl⟩
 have h:=Zq550
 rw [hfs] at h ⊢
 match fs,h with
 | [f0,f1],h =>
  simp only [List.map_cons,List.map_nil,List.cons.injEq,Prod.mk.injEq,beq_eq_false_iff_ne,and_true] at h
  obtain ⟨⟨n0,t0,o0⟩,⟨n1,t1,o1⟩⟩:=h
  simp only [Op.eqFields,n0,n1,t0,t1,o0,o1,ne_eq,not_false_eq_true,if_true]
  simp [go_sem,Zq868]
  by_cases e0:a0=b0 <;> by_cases e1:a1=b1 <;> by_cases e2:a2=b2 <;> by_cases e3:a3=b3 <;> by_cases e4:a4=b4 <;> simp [e0,e1,e2,e3,e4]
theorem Zq347 (f g:Fl) (w:World):(Op.equalIn 10000 108 f.val g.val).run Tryz.prog w=.ok (decide (f=g)) w:=by
 obtain ⟨a0,a1,a2,a3,a4⟩:=f
 obtain ⟨b0,b1,b2,b3,b4⟩:=g
 have e:decide (Fl.mk a0 a1 a2 a3 a4=Fl.mk b0 b1 b2 b3 b4)=(a0==b0&&a1==b1&&a2==b2&&a3==b3&&a4==b4):=by
  rw [Bool.eq_iff_iff]
  simp [and_assoc]
 rw [e]
 exact Zq644 _ _ _ _ _ _ _ _ _ _ w
end Go.Proofs.YtpjchngjhijgmaaGreat
namespace Go.Proofs.YtpjchngjhijgmaaGreat
open Go.RowKit
section
variable {W w w' : World} {I : Hp} {l : List HP} {p q : Nat} {J : Jn}
theorem St.fresh2 {b1 b2:Nat} {o1 o2:Obj} (h:St W I w l) (hb:Below w.heap.size w w') (h1:w.heap.size≤b1∧w'.heap[b1]?=some o1) (h2:w.heap.size≤b2∧w'.heap[b2]?=some o2) (hne:b1≠b2):St W I w' (HP.pt b1 o1::HP.pt b2 o2::l):=by
 have h':=h.keep hb
 obtain ⟨k,a,d,c⟩:=h.own
 have none_of:∀ {g:Hp} {b:Nat},w.heap.size≤b→g.sub w.hp→g b=none:=fun {g b} hl s=>by
  cases e:g b with
  | none=>rfl
  | some x =>
   have hc:w.heap[b]?=some x:=s _ _ e
   have:=(Array.getElem?_eq_some_iff.1 hc).1
   omega
 have old:k.sub w'.hp:=fun c x hx=>by
  have hc:w.heap[c]?=some x:=a _ _ hx
  exact (hb.block c (Array.getElem?_eq_some_iff.1 hc).1).trans hc
 have dk:∀ {g:Hp} {b:Nat} {o:Obj},w.heap.size≤b→g.sub w.hp→(Hp.one b o).disj g:=fun {g b o} hl s c=>by
  by_cases e:c=b
  ·subst c;exact .inr (none_of hl s)
  ·exact .inl (by simp [Hp.one,e])
 have d12:(Hp.one b1 o1).disj (Hp.one b2 o2):=fun c=>by
  by_cases e:c=b1
  ·subst c;exact .inr (by simp [Hp.one,hne])
  ·exact .inl (by simp [Hp.one,e])
 have hI:I.sub w.hp:=h.imm
 have d2k:(Hp.one b2 o2).disj k:=dk h2.1 a
 have d1r:(Hp.one b1 o1).disj ((Hp.one b2 o2).join k):=(Hp.disj_join d12.symm.symm (dk h1.1 a))
 refine ⟨h'.os,h'.tape,h'.output,h'.base,h'.imm,(Hp.one b1 o1).join ((Hp.one b2 o2).join k),Hp.join_sub (Hp.one_sub h1.2) (Hp.join_sub (Hp.one_sub h2.2) old),Hp.disj_join (dk h1.1 hI).symm (Hp.disj_join (dk h2.1 hI).symm d),
  Hp.one b1 o1,(Hp.one b2 o2).join k,d1r,Hp.sub_join_left _ _,Hp.sub_join_right d1r,Hp.one_same b1 o1,Hp.one b2 o2,k,d2k,Hp.sub_join_left _ _,Hp.sub_join_right d2k,Hp.one_same b2 o2,c⟩
def Zq430 (c:Rg) (s0:Int):List Int→Fl→Int→Bool
 | [],_,_=>true
 | n::ns,f,seq=>if (rput c f seq n).1=Fl.zero then false else if c.sets≤(rput c f seq n).1.set - s0 then false else Zq430 c s0 ns (rput c f seq n).1 (seq+1)
def fitsJ (J:Jn) (ns:List Int):Bool:=Zq430 J.r.shape J.r.set ns J.fill (endJ J+1)
theorem Zq645 (c:Rg) (f:Fl) (seq n:Int):0≤(rput c f seq n).1.set∧(rput c f seq n).1.set≤1073741824:=by
 unfold rput
 split
 ·simp [Fl.zero]
 ·rename_i h
  have hf:0≤f.set∧f.set<1073741824:=by
   have h2:f.okB c=true:=by
    cases e:f.okB c with
    | true=>rfl
    | false=>exact absurd (.inr (.inl e)) h
   unfold Fl.okB at h2
   rw [decide_eq_true_eq] at h2
   exact h2.2.2.2.2
  have hp:∀ (g:Fl) (o x:Int),(g.put o x).set=g.set:=fun g o x=>by unfold Fl.put;(repeat' split) <;> rfl
  split
  ·simp only [hp];omega
  ·simp only [hp];omega
set_option maxRecDepth 4000
set_option maxHeartbeats 4000000
theorem Zq646 (h:St W I w (jnHP q p J::l)) (hB:JB J) (A:Option Addr) (c:Nat) (ns:List Int) (hn:ns.length≤1000000) (hns:∀ (i:Nat) (x:Int),ns[i]?=some x→∃ g o,A=some ⟨g,o,none⟩∧g<w.heap.size∧w.cell? ⟨g,o+i,none⟩=some (.int .i64 x)) :
  Calls Tryz.prog 44 #[.pointer (some ⟨q,0,none⟩),.slice A ns.length c] w fun e w'=>e=.returned (.bool (fitsJ J ns))∧Below w.heap.size w w':=by
 obtain ⟨V,hr,h1⟩:=h.jn_open
 obtain ⟨x10,x11,x12,x13,x14⟩:=Zq392 h1
 have ltq:=h1.lt
 have H:=Zh h
 have HB:=Zh hB
 have HNS:=Zh hns
 have hend:0≤endJ J∧endJ J≤2199023355552:=by
  have:=hB.first
  have:=hB.len
  unfold endJ
  omega
 have hset:=hB.ok.set
 obtain ⟨e0,he0⟩:∃ x,x=endJ J:=⟨_,rfl⟩
 rw [←he0] at hend
 have HE:=Zh he0
 obtain ⟨s0,hs0⟩:∃ x,x=J.r.set:=⟨_,rfl⟩
 rw [←hs0] at hset
 have HS0:=Zh hs0
 obtain ⟨rt,hrt⟩:∃ x,x=fitsJ J ns:=⟨_,rfl⟩
 rw [←hrt]
 have HRT:=Zh (show rt=Zq430 J.r.shape s0 ns J.fill (e0+1) by rw [hrt,hs0,he0];rfl)
 have hA:=(St.init w).alloc (.cells #[.int .i64 J.fill.set,.int .i64 J.fill.u0,.int .i64 J.fill.u1,.int .i64 J.fill.u2,.int .i64 J.fill.u3] 108)
 have HA:=Zh hA
 have wl:w.heap.size=w.heap.size:=rfl
 clear h h1 hr hB hns he0 hs0 hrt hA wl
 obtain ⟨n0,hn0⟩:∃ x,x=ns.length:=⟨_,rfl⟩
 rw [←hn0] at hn
 rw [←hn0]
 have HN0:=Zh hn0
 clear hn0
 go_enter Tryz.func44,Tryz.ntmps44
 go_wp2_with fail
 go_loopw [19] (fun a19 wr=>∃ (i:Nat) (F:Fl),a19=.int .i64 i∧i≤n0∧rt=Zq430 J.r.shape s0 (ns.drop i) F (e0+1+i)∧St w w.hp wr [HP.pt w.heap.size (.cells #[.int .i64 F.set,.int .i64 F.u0,.int .i64 F.u1,.int .i64 F.u2,.int .i64 F.u3] 108)]) (fun a19 _=>n0 - (intOf a19).toNat)
 case atStart=>exact ⟨0,J.fill,rfl,Nat.zero_le _,by rw [HRT.out];simp,HA.out⟩
 case round =>
  obtain ⟨i,⟨s,u0,u1,u2,u3⟩,rfl,hi,hgo,hst⟩:=hrel
  have hbw:=hst.below
  by_cases hlt:i<n0
  ·have hil:i<ns.length:=by rw [←HN0.out];exact hlt
   obtain ⟨n,hnn⟩:∃ n,ns[i]?=some n:=⟨_,List.getElem?_eq_getElem hil⟩
   obtain ⟨g,o,rfl,hg,hcell⟩:=HNS.out i n hnn
   have y:wr.cell? ⟨g,o+i,none⟩=some (.int .i64 n):=(hbw.cell hg).trans hcell
   have hgl:g<wr.heap.size:=Nat.lt_of_lt_of_le hg hbw.size
   have hdr:ns.drop i=n::ns.drop (i+1):=by
    rw [List.drop_eq_getElem_cons hil]
    congr 1
    exact (List.getElem?_eq_some_iff.1 hnn).2
   rw [hdr] at hgo
   unfold Zq430 at hgo
   have hps:=Zq645 J.r.shape ⟨s,u0,u1,u2,u3⟩ (e0+1+i) n
   obtain ⟨⟨⟨s1,v0,v1,v2,v3⟩,⟨ps,po⟩,nx,ok⟩,hrr⟩:∃ r,rput J.r.shape ⟨s,u0,u1,u2,u3⟩ (e0+1+i) n=r:=⟨_,rfl⟩
   rw [hrr] at hgo hps
   simp only at hgo hps
   have hrp:∀ w,Calls Tryz.prog 69 #[.agg #[.int .i64 J.r.shape.splay,.int .i64 J.r.shape.sets,.int .i64 J.r.shape.size],.agg #[.int .i64 s,.int .i64 u0,.int .i64 u1,.int .i64 u2,.int .i64 u3],.int .i64 (e0+1+i),.int .i64 n] w fun e w'=>e=.returned (.tuple #[.agg #[.int .i64 s1,.int .i64 v0,.int .i64 v1,.int .i64 v2,.int .i64 v3],.agg #[.int .i64 ps,.int .i64 po],.bool nx])∧Below w.heap.size w w':=fun w=>by
    have:=Zq440 J.r.shape ⟨s,u0,u1,u2,u3⟩ (e0+1+i) n w
    rw [hrr] at this
    exact this
   have HRP:=Zh hrp
   have HGO:=Zh hgo
   have w1:IntKind.i64.wrap (e0+1)=e0+1:=by rw [IntKind.wrap_i64];omega
   have w2:IntKind.i64.wrap (e0+1+i)=e0+1+i:=by rw [IntKind.wrap_i64];omega
   have w3:IntKind.i64.wrap (s1 - s0)=s1 - s0:=by rw [IntKind.wrap_i64];omega
   obtain ⟨y0,y1,y2,y3,y4⟩:=Zq22 hst
   have HS:=Zh hst
   have HBW:=Zh hbw
   have HHJ:=Zh (H.out.keep hbw)
   clear hgo hrp hrr hst hbw hcell hdr hnn hil hg
   go_upto_region 7 with fail
   have HMK:=Zh (show ∀ w',St W I w' (jnHP q p J::l)→St w w.hp w' [HP.pt w.heap.size (.cells #[.int .i64 s,.int .i64 u0,.int .i64 u1,.int .i64 u2,.int .i64 u3] 108)]→(St W I w' (jnHP q p J::l)∧w'.cell? ⟨q,1,none⟩=some (.int .i64 J.r.shape.splay)∧w'.cell? ⟨q,2,none⟩=some (.int .i64 J.r.shape.sets)∧w'.cell? ⟨q,3,none⟩=some (.int .i64 J.r.shape.size)∧w'.cell? ⟨w.heap.size,0,none⟩=some (.int .i64 s)∧w'.cell? ⟨w.heap.size,1,none⟩=some (.int .i64 u0)∧w'.cell? ⟨w.heap.size,2,none⟩=some (.int .i64 u1)∧w'.cell? ⟨w.heap.size,3,none⟩=some (.int .i64 u2)∧w'.cell? ⟨w.heap.size,4,none⟩=some (.int .i64 u3)) from fun w' h1 h2=>by
    obtain ⟨V,_,h3⟩:=h1.jn_open
    obtain ⟨z1,z2,z3⟩:=Zq147 h3
    exact ⟨h1,z1,z2,z3,Zq22 h2⟩)
   refine Zq42 (fun w'=>St W I w' (jnHP q p J::l)∧w'.cell? ⟨q,1,none⟩=some (.int .i64 J.r.shape.splay)∧w'.cell? ⟨q,2,none⟩=some (.int .i64 J.r.shape.sets)∧w'.cell? ⟨q,3,none⟩=some (.int .i64 J.r.shape.size)∧w'.cell? ⟨w.heap.size,0,none⟩=some (.int .i64 s)∧w'.cell? ⟨w.heap.size,1,none⟩=some (.int .i64 u0)∧w'.cell? ⟨w.heap.size,2,none⟩=some (.int .i64 u1)∧w'.cell? ⟨w.heap.size,3,none⟩=some (.int .i64 u2)∧w'.cell? ⟨w.heap.size,4,none⟩=some (.int .i64 u3)) [(0,false),(1,false),(2,false),(3,false),(4,false),(5,false),(6,false),(7,false),(8,false),(9,false),(10,false),(11,false),(12,false),(13,false),(14,false),(15,true),(16,true)] [17,18] [19,20,21] (by kernel_rfl) (by kernel_rfl) (by (intro w' hb;exact HMK.out _ (HHJ.out.drew.keep hb) (HS.out.drew.keep hb))) ?_
   repeat (first|(refine Zq60 (by rfl) _ (by rfl) (by intro w;go_simp;try with_reducible rfl) ?_;(try simp only [Act.put,List.setIfInBounds_toArray,Zl4,Zl5]))|(refine Zq146 (by rfl) _ (by rfl) (by (intro w hSw;(try dsimp only at hSw);go_simp;try with_reducible rfl)) ?_;(try simp only [Act.put,List.setIfInBounds_toArray,Zl4,Zl5]))|(refine Zq79 (by rfl) (by rfl) ?_;(try simp only [Act.put,List.setIfInBounds_toArray,Zl4,Zl5]))|fail)
   refine Zq178 (by rfl) (.int .i64 e0) (29) (#[.pointer (some ⟨q,0,none⟩)]) (by rfl) (by intro w;go_simp;try with_reducible rfl) (by (rintro w1 ⟨h1,_⟩;have h2:=Zq148 h1 HB.out;rw [←HE.out] at h2;exact h2)) ?_
   (try simp only [Act.put,List.setIfInBounds_toArray,Zl4,Zl5])
   repeat (first|(refine Zq60 (by rfl) _ (by rfl) (by intro w;go_simp;try with_reducible rfl) ?_;(try simp only [Act.put,List.setIfInBounds_toArray,Zl4,Zl5]))|(refine Zq146 (by rfl) _ (by rfl) (by (intro w hSw;(try dsimp only at hSw);go_simp;try with_reducible rfl)) ?_;(try simp only [Act.put,List.setIfInBounds_toArray,Zl4,Zl5]))|(refine Zq79 (by rfl) (by rfl) ?_;(try simp only [Act.put,List.setIfInBounds_toArray,Zl4,Zl5]))|fail)
   refine Zq178 (by rfl) (.tuple #[.agg #[.int .i64 s1,.int .i64 v0,.int .i64 v1,.int .i64 v2,.int .i64 v3],.agg #[.int .i64 ps,.int .i64 po],.bool nx]) (69) (#[.agg #[.int .i64 J.r.shape.splay,.int .i64 J.r.shape.sets,.int .i64 J.r.shape.size],.agg #[.int .i64 s,.int .i64 u0,.int .i64 u1,.int .i64 u2,.int .i64 u3],.int .i64 (e0+1+i),.int .i64 n]) (by rfl) (by intro w;go_simp;try with_reducible rfl) (by (rintro w1 _;exact HRP.out w1)) ?_
   (try simp only [Act.put,List.setIfInBounds_toArray,Zl4,Zl5])
   repeat (first|(refine Zq60 (by rfl) _ (by rfl) (by intro w;go_simp;try with_reducible rfl) ?_;(try simp only [Act.put,List.setIfInBounds_toArray,Zl4,Zl5]))|(refine Zq146 (by rfl) _ (by rfl) (by (intro w hSw;(try dsimp only at hSw);go_simp;try with_reducible rfl)) ?_;(try simp only [Act.put,List.setIfInBounds_toArray,Zl4,Zl5]))|(refine Zq79 (by rfl) (by rfl) ?_;(try simp only [Act.put,List.setIfInBounds_toArray,Zl4,Zl5]))|fail)
   refine Zq345 ?_
   refine Zq816 (by rfl) (by rfl) (fun g=>.pointer (some ⟨g,0,none⟩)) (fun g=>.pointer (some ⟨g,0,none⟩)) (.cells #[.int .i64 0,.int .i64 0,.int .i64 0,.int .i64 0,.int .i64 0] 108) (.cells #[.int .i64 0,.int .i64 0] 41) (by rfl) (by rfl) (by intro w;go_simp;try with_reducible rfl) (by intro w;go_simp;try with_reducible rfl) ?_
   intro g8 g9
   rintro w9 hz9
   obtain ⟨hb9,l8,l9,hne⟩:=hz9.two (by decide)
   have h9:=HS.out.drew.fresh2 hb9 l8 l9 hne
   clear hz9 hb9 l8 l9 y0 y1 y2 y3 y4 y x10 x11 x12 x13 x14 hgl ltq
   have f8:=frozen_of_row h9.heap
   have f9:=frozen_of_row (h9.pull 1 _ rfl).heap
   obtain ⟨b5,b6⟩:g8<w9.heap.size∧g9<w9.heap.size:=⟨h9.lt,(h9.pull 1 _ rfl).lt⟩
   obtain ⟨y0,y1,y2,y3,y4⟩:=Zq22 h9
   obtain ⟨z0,z1⟩:=Zq47 (h9.pull 1 _ rfl)
   have H9:=Zh h9
   clear h9
   go_wp2_with fail
   refine NoPanic.normal ?_
   have h10:=((((H9.out.set5 (.int .i64 s1) (.int .i64 v0) (.int .i64 v1) (.int .i64 v2) (.int .i64 v3)).pull 1 _ rfl).set2 (.int .i64 ps) (.int .i64 po)).pull 1 _ rfl)
   generalize (World.setCell _ _ _:World)=w10 at h10 ⊢
   clear y0 y1 y2 y3 y4 z0 z1 f8 f9 H9 b5 b6
   obtain ⟨y0,y1,y2,y3,y4⟩:=Zq22 h10
   have hb10:=h10.below
   have hj:=H.out.keep hb10
   obtain ⟨V2,hr2,hj2⟩:=hj.jn_open
   obtain ⟨_,k2,_⟩:=Zq147 hj2
   have k5:=jn_c5 hj2
   rw [←HS0.out] at k5
   obtain ⟨ss,hss⟩:∃ x,x=J.r.shape.sets:=⟨_,rfl⟩
   rw [←hss] at k2
   have HSS:=Zh hss
   have x1:=h10.lt
   have H10:=Zh h10
   have HB10:=Zh hb10
   by_cases hz:(⟨s1,v0,v1,v2,v3⟩:Fl)=Fl.zero
   ·have hq:∀ w,(Op.equalIn 10000 108 (.agg #[.int .i64 s1,.int .i64 v0,.int .i64 v1,.int .i64 v2,.int .i64 v3]) (.agg #[.int .i64 0,.int .i64 0,.int .i64 0,.int .i64 0,.int .i64 0])).run Tryz.prog w=.ok true w:=fun w=>by
     have:=Zq347 ⟨s1,v0,v1,v2,v3⟩ Fl.zero w
     rw [decide_eq_true hz] at this
     exact this
    clear hj hj2 hr2 h10 hb10 hss
    go_upto_region 8 with fail
    go_quiet (fail)
    go_wp2_with fail
    have e1:rt=false:=HGO.out.trans (if_pos hz)
    go_ret
    exact ⟨by rw [e1];rfl,(H10.out.drewN _).below⟩
   ·have hq:∀ w,(Op.equalIn 10000 108 (.agg #[.int .i64 s1,.int .i64 v0,.int .i64 v1,.int .i64 v2,.int .i64 v3]) (.agg #[.int .i64 0,.int .i64 0,.int .i64 0,.int .i64 0,.int .i64 0])).run Tryz.prog w=.ok false w:=fun w=>by
     have:=Zq347 ⟨s1,v0,v1,v2,v3⟩ Fl.zero w
     rw [decide_eq_false hz] at this
     exact this
    have hgo2:=HGO.out.trans (if_neg hz)
    rw [←hss] at hgo2
    have lj:q<w10.heap.size:=hj2.lt
    by_cases hss2:ss≤s1 - s0
    ·have e1:rt=false:=hgo2.trans (if_pos hss2)
     have dd:decide (ss≤s1 - s0)=true:=decide_eq_true hss2
     clear hj hj2 hr2 h10 hb10 hss hgo2 hz HGO
     go_upto_region 8 with fail
     go_quiet (fail)
     go_wp2_with fail
     go_ret
     exact ⟨by rw [e1];rfl,(H10.out.drewN _).below⟩
    ·have e1:rt=Zq430 J.r.shape s0 (ns.drop (i+1)) ⟨s1,v0,v1,v2,v3⟩ (e0+1+i+1):=hgo2.trans (if_neg hss2)
     have dd:decide (ss≤s1 - s0)=false:=decide_eq_false hss2
     have E1:=Zh e1
     clear hj hj2 hr2 h10 hb10 hss hgo2 hz HGO e1
     go_upto_region 8 with fail
     go_quiet (fail)
     obtain ⟨r0,r1,r2,r3,r4⟩:=Zq22 (H10.out.pull 2 _ rfl)
     have rf:=frozen_of_row (H10.out.pull 2 _ rfl).heap
     go_wp2_with fail
     clear hss2 dd hq r0 r1 r2 r3 r4 rf y0 y1 y2 y3 y4
     have h11:=fun nq=>(((H10.out.drewN nq).pull 2 _ rfl).set5 (.int .i64 s1) (.int .i64 v0) (.int .i64 v1) (.int .i64 v2) (.int .i64 v3)).pull 2 _ rfl
     go_roundw
     case rel=>exact ⟨i+1,⟨s1,v0,v1,v2,v3⟩,by go_num,by omega,by rw [E1.out];congr 1;omega,(((h11 _).drop).pull 1 _ rfl).drop⟩
     case measure=>simp [intOf];omega
  ·obtain rfl:i=n0:=by omega
   rw [HN0.out,List.drop_length] at hgo
   have e1:rt=true:=hgo
   clear hgo
   have HBW:=Zh hbw
   clear hst hbw
   go_wp2_with fail
   go_ret
   exact ⟨by rw [e1];rfl,HBW.out⟩
end
end Go.Proofs.YtpjchngjhijgmaaGreat
namespace Go.Proofs.YtpjchngjhijgmaaGreat
open Go.RowKit
theorem Zq395 (l:List Tag) (t:Tag) (seq:Int):tagOf (l++[t]) seq=if t.at_<seq then t.id else tagOf l seq:=by
 unfold tagOf
 rw [List.reverse_append,List.reverse_cons,List.reverse_nil,Zl3,Zl2,Zl3]
 by_cases h:t.at_<seq
 ·rw [if_pos h,List.find?_cons_of_pos (by simpa using h)]
 ·rw [if_neg h,List.find?_cons_of_neg (by simpa using h)]
section
set_option maxRecDepth 4000
set_option maxHeartbeats 4000000
theorem Zq647 (A:Option Addr) (n c:Nat) (l:List Tag) (seq:Int) (w:World) (hl:TagsAt w A n l) (hn:n≤1000000) :
  Calls Tryz.prog 67 #[.slice A n c,.int .i64 seq] w fun e w'=>e=.returned (.int .i64 (tagOf l seq))∧w=w':=by
 have HL:=Zh hl
 have hlen:=hl.len
 have hw0:IntKind.i64.wrap ((n:Int) - 1)=(n:Int) - 1:=by rw [IntKind.wrap_i64];omega
 clear hl
 go_enter Tryz.func67,Tryz.ntmps67
 go_wp2_with fail
 go_loopw [5] (fun a5 wr=>∃ k:Nat,a5=.int .i64 ((k:Int) - 1)∧k≤n∧tagOf l seq=tagOf (l.take k) seq∧wr=w) (fun a5 _=>(intOf a5+1).toNat)
 case atStart=>exact ⟨n,rfl,Nat.le_refl _,by rw [←hlen,List.take_length],rfl⟩
 case round =>
  obtain ⟨k,rfl,hk,ht,rfl⟩:=hrel
  rcases Nat.eq_zero_or_pos k with h0|h0
  ·subst h0
   have HT:=Zh (show tagOf l seq=0 by rw [ht];rfl)
   clear ht
   have d0:decide ((0:Int)≤((0:Nat):Int) - 1)=false:=by decide
   go_wp2_with fail
   go_ret
   rw [HT.out]
   exact ⟨rfl,rfl⟩
  ·obtain ⟨j,rfl⟩:∃ j,k=j+1:=⟨k - 1,by omega⟩
   have e1:(((j+1:Nat):Int) - 1)=(j:Int):=by omega
   rw [e1]
   have d0:decide ((0:Int)≤(j:Int))=true:=by rw [decide_eq_true_eq];omega
   obtain ⟨b,off,t,rfl,hlt,hlt2,c0,c1,c2,c3⟩:=HL.out.at_ (show j<n by omega)
   have hjn:(j:Int)<(n:Int):=by omega
   have hsn:tagOf (l.take (j+1)) seq=if t.at_<seq then t.id else tagOf (l.take j) seq:=by
    obtain ⟨hil,he⟩:=List.getElem?_eq_some_iff.1 hlt2
    rw [List.take_succ_eq_append_getElem hil,he,Zq395]
   rw [hsn] at ht
   have hwj:IntKind.i64.wrap ((j:Int) - 1)=(j:Int) - 1:=by rw [IntKind.wrap_i64];omega
   by_cases hb:t.at_<seq
   ·rw [if_pos hb] at ht
    have HT:=Zh ht
    have d1:decide (t.at_<seq)=true:=decide_eq_true hb
    clear ht hsn hlt2 e1
    go_wp2_with fail
    go_ret
    rw [HT.out]
    exact ⟨rfl,rfl⟩
   ·rw [if_neg hb] at ht
    have HT:=Zh ht
    have d1:decide (t.at_<seq)=false:=decide_eq_false hb
    clear ht hsn hlt2 e1
    go_wp2_with fail
    go_roundw
    case rel=>exact ⟨j,rfl,by omega,HT.out,trivial⟩
    case measure=>first|(simp [intOf];done)|(simp [intOf];omega)|fail
end
end Go.Proofs.YtpjchngjhijgmaaGreat
