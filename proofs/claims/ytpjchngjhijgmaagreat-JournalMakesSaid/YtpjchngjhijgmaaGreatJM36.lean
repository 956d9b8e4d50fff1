import Derived.Test.YtpjchngjhijgmaaGreatJM34
import Derived.Test.YtpjchngjhijgmaaGreatJM35
set_option linter.all false
namespace Go.Proofs.YtpjchngjhijgmaaGreat
open Go.RowKit
def addJ (J:Jn) (e:En) (p:Pl) (f:Fl):Jn:=lJ J (J.l++[e]) (J.at_++[p]) f
section
variable {W w w' : World} {I : Hp} {l : List HP} {p q : Nat} {J : Jn} {S : Str}
theorem St.ents_append2 {v vd:Value} {es:List En} {e:En} {g:Nat} (h:St W I w (Zq23 v es::HP.pt g (.cells #[.int .i64 e.tag,.int .i64 e.seq,vd] 50)::l)) (hd:BytesI I vd e.data) (hb:∀ y ∈ e.data,isByte y) (hn:es.length+1≤1000000000) :
  ∃ A' c' w',(Builtin.append_ #[58,58] 58 #[v,.slice (some ⟨g,0,none⟩) 1 1]).run Tryz.prog w=.ok (.slice A' (es.length+1) c') w'∧St W I w' (Zq23 (.slice A' (es.length+1) c') (es++[e])::HP.pt g (.cells #[.int .i64 e.tag,.int .i64 e.seq,vd] 50)::l):=by
 obtain ⟨M,rfl,hM,h1⟩:=h.ents_open
 obtain ⟨i0,hi0,hz0,hz1,hz2⟩:=info_parts Zq388
 obtain ⟨A0,c0,e0⟩:=hd.isSl
 have hsrc:SliceSrc w 3 (.slice (some ⟨g,0,none⟩) 1 1) 1 [.int .i64 e.tag,.int .i64 e.seq,vd]:=by
  refine ⟨_,_,rfl,⟨rfl,fun _=>⟨_,rfl,fun j u hu=>?_⟩,fun u hu=>?_⟩,fun e=>by cases e⟩
  ·rw [add_plain,Nat.zero_add,Zq1 (h1.pull 1 _ rfl).heap j,←hu]
   simp
  ·simp only [List.mem_cons,List.not_mem_nil,or_false] at hu
   rcases hu with rfl|rfl|rfl
   ·rfl
   ·rfl
   ·rw [e0];rfl
 obtain ⟨v',w',hr,h3⟩:=h1.win_append (ty:=58) Tryz.underlying58 hi0 hz0 hz1 hz2 rfl (by decide) (by decide) (Zq638 hM) hsrc hn
 obtain ⟨A',c',e3,_⟩:=h3.win_slice
 subst e3
 refine ⟨A',c',w',hr,?_⟩
 have h4:St W I w' (HP.win 50 3 (.slice A' ((M.map (·.1)).length+1) c') (M++[(e,vd)]).length ((M++[(e,vd)]).flatMap mcell)::HP.pt g (.cells #[.int .i64 e.tag,.int .i64 e.seq,vd] 50)::l):=by
  rw [List.flatMap_append,List.length_append,List.length_singleton]
  rw [List.length_map] at h3 ⊢
  exact h3
 have h5:=h4.ents_shut (by
  intro x hx
  rcases List.mem_append.1 hx with hx|hx
  ·exact hM x hx
  ·rw [List.mem_singleton.1 hx]
   exact ⟨hd,hb⟩)
 rw [List.map_append] at h5
 exact h5
theorem St.places_append2 {v:Value} {ps:List Pl} {g:Nat} (a b:Int) (h:St W I w (Zq20 v ps::HP.pt g (.cells #[.int .i64 a,.int .i64 b] 41)::l)) (hn:ps.length+1≤1000000000) :
  ∃ A' c' w',(Builtin.append_ #[38,38] 38 #[v,.slice (some ⟨g,0,none⟩) 1 1]).run Tryz.prog w=.ok (.slice A' (ps.length+1) c') w'∧St W I w' (Zq20 (.slice A' (ps.length+1) c') (ps++[⟨a,b⟩])::HP.pt g (.cells #[.int .i64 a,.int .i64 b] 41)::l):=by
 obtain ⟨i0,hi0,hz0,hz1,hz2⟩:=info_parts Zq397
 have hsrc:SliceSrc w 2 (.slice (some ⟨g,0,none⟩) 1 1) 1 [.int .i64 a,.int .i64 b]:=by
  refine ⟨_,_,rfl,⟨rfl,fun _=>⟨_,rfl,fun j u hu=>?_⟩,fun u hu=>?_⟩,fun e=>by cases e⟩
  ·rw [add_plain,Nat.zero_add,Zq1 (h.pull 1 _ rfl).heap j,←hu]
   simp
  ·simp only [List.mem_cons,List.not_mem_nil,or_false] at hu
   rcases hu with rfl|rfl <;> rfl
 obtain ⟨v',w',hr,h3⟩:=St.win_append (t:=38) (ty:=38) h Tryz.underlying38 hi0 hz0 hz1 hz2 rfl (by decide) (by decide) (Zq398 ps) hsrc hn
 obtain ⟨A',c',e3,_⟩:=h3.win_slice
 subst e3
 refine ⟨A',c',w',hr,?_⟩
 unfold Zq20
 rw [List.length_append,List.flatMap_append]
 exact h3
set_option maxRecDepth 8000
set_option maxHeartbeats 8000000
theorem Zq820 {C:Code} (hC:(Tryz.f24).body.bind (fromR 23)=some C) {Q:Exit→Act→World→Prop} {x1 x2 x3 x4 x5 x6 x9 x10 x13 x14 x15 x16 x17 x18 x19 x20 x21 x22 x23 x24 x25 x26 x27 x28 x29 x30 x31 x32 x33 x34 x35 x36 x37 x38 x39 x40 x41 x42 x43 x44 x45 x46 x47 x48 x49 x50 x51 x52 x53 x54 x55 x56 x57 x58 x59 x60 x61 x62 x63 x64 x65 x66 x67 x68 x69 x70 x71 x72 x73 x74 x75 x76 x77 x78 x79 x80 x81 x82 x83 x84 x85 x86 x87 x88 x89 x90 x91 x92 x93 x94 x95 x96 x97 x98 x99 x100 x101 x102 x103 x104 x105 x106 x107 x108 x109 x110 x111 x112 x113 x114 x115 x116 x117 x118 x119 x120 x121 x122 x123 x124 x125 x126 x127 x128 x129 x130 x131 x132 x133 x134 x135 x136 x137 x138 x139 x140 x141 x142 x143 x144 x145 x146 x147 x148 x149 x150:Value} {g8 g11 g12:Nat} {tg sq s1 v0 v1 v2 v3 pa po:Int} {d:List Int} {Ad:Option Addr} {cd:Nat}
  (h:St W I w (jnHP q p J::HP.pt g8 (.cells #[.int .i64 tg,.int .i64 sq,.slice Ad d.length cd] 50)::HP.pt g11 (.cells #[.int .i64 s1,.int .i64 v0,.int .i64 v1,.int .i64 v2,.int .i64 v3] 108)::HP.pt g12 (.cells #[.int .i64 pa,.int .i64 po] 41)::l)) (hl:J.at_.length=J.l.length) (hn:J.l.length≤100000) (hd:BytesI I (.slice Ad d.length cd) d) (hdb:∀ y ∈ d,isByte y)
  (hQ:∀ (y0 y1 y2 y3 y6 y7 y8 y9 y10 y11 y12 y13 y14 y15 y16 y17 y18 y19 y20 y21 y22 y23 y24 y25 y26 y27 y28 y29 y30 y31 y32 y33 y34 y35 y36 y37 y38 y39 y40 y41 y42 y43 y44 y45 y46 y47 y48 y49 y50 y51 y52 y53 y54 y55 y56 y57 y58 y59 y60 y61 y62 y63 y64 y65 y66 y67 y68 y69 y70 y71 y72 y73 y74 y75 y76 y77 y78 y79 y80 y81 y82 y83 y84 y85 y86 y87 y88 y89 y90 y91 y92 y93 y94 y95 y96 y97 y98 y99 y100 y101 y102 y103 y104 y105 y106 y107 y108 y109 y110 y111 y112 y113 y114 y115 y116 y117 y118 y119 y120 y121 y122 y123 y124 y125 y126 y127 y128 y129 y130 y131 y132 y133 y134 y135 y136 y137 y138 y139 y140 y141 y142 y143 y144 y145 y146 y147 y148 y149 y150:Value) (w':World),St W I w' (jnHP q p (addJ J ⟨tg,sq,d⟩ ⟨pa,po⟩ ⟨s1,v0,v1,v2,v3⟩)::l)→Q .ret ⟨#[y0,y1,y2,y3,.int .i64 sq,.int .i64 0,y6,y7,y8,y9,y10,y11,y12,y13,y14,y15,y16,y17,y18,y19,y20,y21,y22,y23,y24,y25,y26,y27,y28,y29,y30,y31,y32,y33,y34,y35,y36,y37,y38,y39,y40,y41,y42,y43,y44,y45,y46,y47,y48,y49,y50,y51,y52,y53,y54,y55,y56,y57,y58,y59,y60,y61,y62,y63,y64,y65,y66,y67,y68,y69,y70,y71,y72,y73,y74,y75,y76,y77,y78,y79,y80,y81,y82,y83,y84,y85,y86,y87,y88,y89,y90,y91,y92,y93,y94,y95,y96,y97,y98,y99,y100,y101,y102,y103,y104,y105,y106,y107,y108,y109,y110,y111,y112,y113,y114,y115,y116,y117,y118,y119,y120,y121,y122,y123,y124,y125,y126,y127,y128,y129,y130,y131,y132,y133,y134,y135,y136,y137,y138,y139,y140,y141,y142,y143,y144,y145,y146,y147,y148,y149,y150],[]⟩ w') :
  C.wp Tryz.prog Q ⟨#[.pointer (some ⟨q,0,none⟩),x1,x2,x3,x4,x5,x6,.int .i64 sq,.pointer (some ⟨g8,0,none⟩),x9,x10,.pointer (some ⟨g11,0,none⟩),.pointer (some ⟨g12,0,none⟩),x13,x14,x15,x16,x17,x18,x19,x20,x21,x22,x23,x24,x25,x26,x27,x28,x29,x30,x31,x32,x33,x34,x35,x36,x37,x38,x39,x40,x41,x42,x43,x44,x45,x46,x47,x48,x49,x50,x51,x52,x53,x54,x55,x56,x57,x58,x59,x60,x61,x62,x63,x64,x65,x66,x67,x68,x69,x70,x71,x72,x73,x74,x75,x76,x77,x78,x79,x80,x81,x82,x83,x84,x85,x86,x87,x88,x89,x90,x91,x92,x93,x94,x95,x96,x97,x98,x99,x100,x101,x102,x103,x104,x105,x106,x107,x108,x109,x110,x111,x112,x113,x114,x115,x116,x117,x118,x119,x120,x121,x122,x123,x124,x125,x126,x127,x128,x129,x130,x131,x132,x133,x134,x135,x136,x137,x138,x139,x140,x141,x142,x143,x144,x145,x146,x147,x148,x149,x150],[]⟩ w:=by
 injection hC with hC
 subst hC
 obtain ⟨⟨vt,vc,vl,va⟩,hrI,h1⟩:=h.drew.jn_open
 obtain ⟨Al,cl,e1,_⟩:=(h1.pull 1 _ rfl).ents_slice
 obtain ⟨Aa,ca,e2,_⟩:=(h1.pull 2 _ rfl).win_slice
 simp only at e1 e2 h1 hrI
 subst e1 e2
 obtain ⟨n,hnn⟩:∃ x,x=J.l.length:=⟨_,rfl⟩
 rw [hl,←hnn] at h1
 rw [←hnn] at hn hl
 have HQ:=Zh hQ
 have HL:=Zh hl
 have HNN:=Zh hnn
 have HD:=Zh hd
 have HDB:=Zh hdb
 have HRI:=Zh hrI
 have HF1:=Zh (show ∀ (w':World) (L:List HP),St W I w' (jnBlk q p J ⟨vt,vc,.slice Al n cl,.slice Aa n ca⟩::HP.pt g8 (.cells #[.int .i64 tg,.int .i64 sq,.slice Ad d.length cd] 50)::HP.pt g11 (.cells #[.int .i64 s1,.int .i64 v0,.int .i64 v1,.int .i64 v2,.int .i64 v3] 108)::HP.pt g12 (.cells #[.int .i64 pa,.int .i64 po] 41)::L)→(w'.cell? ⟨q,8,none⟩=some (.slice Al n cl)∧w'.cell? ⟨q,9,none⟩=some (.slice Aa n ca)∧w'.cell? ⟨g8,0,none⟩=some (.int .i64 tg)∧w'.cell? ⟨g8,1,none⟩=some (.int .i64 sq)∧w'.cell? ⟨g8,2,none⟩=some (.slice Ad d.length cd)∧w'.cell? ⟨g12,0,none⟩=some (.int .i64 pa)∧w'.cell? ⟨g12,1,none⟩=some (.int .i64 po)) from fun w' L h1=>by
  obtain ⟨a0,a1,a2⟩:=Zq40 (h1.pull 1 _ rfl)
  obtain ⟨c0,c1⟩:=Zq47 (h1.pull 3 _ rfl)
  exact ⟨jn_c8 h1,jn_c9 h1,a0,a1,a2,c0,c1⟩)
 have HF2:=Zh (show ∀ (w':World) (L:List HP),St W I w' (HP.pt g11 (.cells #[.int .i64 s1,.int .i64 v0,.int .i64 v1,.int .i64 v2,.int .i64 v3] 108)::L)→(w'.cell? ⟨g11,0,none⟩=some (.int .i64 s1)∧w'.cell? ⟨g11,1,none⟩=some (.int .i64 v0)∧w'.cell? ⟨g11,2,none⟩=some (.int .i64 v1)∧w'.cell? ⟨g11,3,none⟩=some (.int .i64 v2)∧w'.cell? ⟨g11,4,none⟩=some (.int .i64 v3)) from fun w' L h1=>Zq22 h1)
 have h2:St W I w.drew (jnBlk q p J ⟨vt,vc,.slice Al n cl,.slice Aa n ca⟩::HP.pt g8 (.cells #[.int .i64 tg,.int .i64 sq,.slice Ad d.length cd] 50)::HP.pt g11 (.cells #[.int .i64 s1,.int .i64 v0,.int .i64 v1,.int .i64 v2,.int .i64 v3] 108)::HP.pt g12 (.cells #[.int .i64 pa,.int .i64 po] 41)::Zq23 (.slice Al n cl) J.l::Zq20 (.slice Aa n ca) J.at_::l):=h1.perm (by ((try simp only [Zl0,Zl1,Zl2,Zl3]);repeat (first|with_reducible exact List.Perm.refl _|(apply Zq4;(· repeat (first|with_reducible exact Zq3|with_reducible apply Zq2))))))
 have HFIN:=Zh (show ∀ (w':World) (Al' Aa':Option Addr) (cl' ca':Nat) (L:List HP),St W I w' (jnBlk q p J ⟨vt,vc,.slice Al n cl,.slice Aa n ca⟩::Zq23 (.slice Al' (n+1) cl') (J.l++[⟨tg,sq,d⟩])::Zq20 (.slice Aa' (n+1) ca') (J.at_++[⟨pa,po⟩])::l) →
   St W I (((((((w'.setCell ⟨q,8,none⟩ (.slice Al' (n+1) cl')).setCell ⟨q,9,none⟩ (.slice Aa' (n+1) ca')).setCell ⟨q,10,none⟩ (.int .i64 s1)).setCell ⟨q,11,none⟩ (.int .i64 v0)).setCell ⟨q,12,none⟩ (.int .i64 v1)).setCell ⟨q,13,none⟩ (.int .i64 v2)).setCell ⟨q,14,none⟩ (.int .i64 v3)) (jnHP q p (addJ J ⟨tg,sq,d⟩ ⟨pa,po⟩ ⟨s1,v0,v1,v2,v3⟩)::l) from fun w' Al' Aa' cl' ca' L h1=>by
  have h2:=((h1.jb_l (.slice Al' (n+1) cl')).jb_at (.slice Aa' (n+1) ca')).jb_fill ⟨s1,v0,v1,v2,v3⟩
  exact St.jn_shut (J:=addJ J ⟨tg,sq,d⟩ ⟨pa,po⟩ ⟨s1,v0,v1,v2,v3⟩) (V:=⟨vt,vc,.slice Al' (n+1) cl',.slice Aa' (n+1) ca'⟩) HRI.out h2)
 obtain ⟨f0,f1,f2,f3,f4,f5,f6⟩:=HF1.out _ _ h2
 obtain ⟨f7,f8,f9,f10,f11⟩:=HF2.out _ _ (h2.pull 2 _ rfl)
 have H0:=Zh h2
 clear h hl hQ hnn hd hdb hrI h1 h2
 go_upto_region 23 with fail
 refine Zq284 (fun w'=>w'.cell? ⟨q,8,none⟩=some (.slice Al n cl)∧w'.cell? ⟨q,9,none⟩=some (.slice Aa n ca)∧w'.cell? ⟨g8,0,none⟩=some (.int .i64 tg)∧w'.cell? ⟨g8,1,none⟩=some (.int .i64 sq)∧w'.cell? ⟨g8,2,none⟩=some (.slice Ad d.length cd)∧w'.cell? ⟨g12,0,none⟩=some (.int .i64 pa)∧w'.cell? ⟨g12,1,none⟩=some (.int .i64 po)) (fun w'=>w'.cell? ⟨g11,0,none⟩=some (.int .i64 s1)∧w'.cell? ⟨g11,1,none⟩=some (.int .i64 v0)∧w'.cell? ⟨g11,2,none⟩=some (.int .i64 v1)∧w'.cell? ⟨g11,3,none⟩=some (.int .i64 v2)∧w'.cell? ⟨g11,4,none⟩=some (.int .i64 v3)) [0,3,4,5,6,7,10,11,12,13,14] [1,2,17] [8,9,15,16] [18,19,20,21,22,23] (Tr.two 8 (Tr.two 9 (Tr.one 15 (Tr.one 16 (Tr.one 18 (Tr.one 19 (Tr.one 20 (Tr.one 21 (Tr.one 22 (Tr.one 23 Tr.leaf)))))))) 15 (Tr.one 9 (Tr.one 16 (Tr.one 18 (Tr.one 19 (Tr.one 20 (Tr.one 21 (Tr.one 22 (Tr.one 23 Tr.leaf))))))))) 15 (Tr.one 8 (Tr.one 9 (Tr.one 16 (Tr.one 18 (Tr.one 19 (Tr.one 20 (Tr.one 21 (Tr.one 22 (Tr.one 23 Tr.leaf)))))))))) [24,25,26] (by kernel_rfl) (by kernel_rfl) (by (exact ⟨⟨f0,f1,f2,f3,f4,f5,f6⟩,f7,f8,f9,f10,f11⟩)) ?_
 simp only [pickL,Zl6,Zl7]
 repeat (first|(refine Zq5 _ (Or.inl ⟨by rfl,by (intro w hSw;(try dsimp only at hSw);go_simp;try with_reducible rfl)⟩) ?_;(try simp only [Act.put,List.setIfInBounds_toArray,Zl4,Zl5]))|(refine Zq5 _ (Or.inr ⟨by rfl,rfl⟩) ?_;(try simp only [Act.put,List.setIfInBounds_toArray,Zl4,Zl5]))|fail)
 (try refine Zq9 ?_)
 repeat (first|(refine Zq5 _ (Or.inl ⟨by rfl,by (intro w hSw;(try dsimp only at hSw);go_simp;try with_reducible rfl)⟩) ?_;(try simp only [Act.put,List.setIfInBounds_toArray,Zl4,Zl5]))|(refine Zq5 _ (Or.inr ⟨by rfl,rfl⟩) ?_;(try simp only [Act.put,List.setIfInBounds_toArray,Zl4,Zl5]))|fail)
 (try refine Zq9 ?_)
 unfold wpTr2
 simp only [pickL,Zl6,Zl7]
 clear f0 f1 f2 f3 f4 f5 f6 f7 f8 f9 f10 f11
 obtain ⟨w0,hw0⟩:∃ x,x=w.drew:=⟨_,rfl⟩
 rw [←hw0] at H0 ⊢
 clear hw0
 refine ⟨?_,?_⟩
 ·have ha:=H0.out.alloc (.cells #[.int .i64 tg,.int .i64 sq,.slice Ad d.length cd] 50)
  obtain ⟨gA,hgA⟩:∃ x,x=w0.heap.size:=⟨_,rfl⟩
  obtain ⟨w1,hwa⟩:∃ x,x=w0.alloc (.cells #[.int .i64 tg,.int .i64 sq,.slice Ad d.length cd] 50):=⟨_,rfl⟩
  go_wp2_with fail
  rw [←hwa,←hgA] at ha
  rw [←hwa,←hgA]
  clear hwa hgA
  have hst:St W I w1 (jnBlk q p J ⟨vt,vc,.slice Al n cl,.slice Aa n ca⟩::HP.pt g8 (.cells #[.int .i64 tg,.int .i64 sq,.slice Ad d.length cd] 50)::HP.pt g11 (.cells #[.int .i64 s1,.int .i64 v0,.int .i64 v1,.int .i64 v2,.int .i64 v3] 108)::HP.pt g12 (.cells #[.int .i64 pa,.int .i64 po] 41)::HP.pt gA (.cells #[.int .i64 tg,.int .i64 sq,.slice Ad d.length cd] 50)::Zq23 (.slice Al n cl) J.l::Zq20 (.slice Aa n ca) J.at_::l):=ha.perm (by ((try simp only [Zl0,Zl1,Zl2,Zl3]);repeat (first|with_reducible exact List.Perm.refl _|(apply Zq4;(· repeat (first|with_reducible exact Zq3|with_reducible apply Zq2))))))
  have X1:=Zh (HF1.out _ _ hst)
  have Y1:=Zh (HF2.out _ _ (hst.pull 2 _ rfl))
  have H1:=Zh hst
  clear ha hst H0
  refine Zq0 (Zq80 X1.out Y1.out) ?_
  unfold wpTr2
  (try simp only [pickL,Zl6,Zl7])
  refine ⟨?_,?_⟩
  ·have hp0:St W I w1 (Zq23 (.slice Al n cl) J.l::HP.pt gA (.cells #[.int .i64 tg,.int .i64 sq,.slice Ad d.length cd] 50)::jnBlk q p J ⟨vt,vc,.slice Al n cl,.slice Aa n ca⟩::HP.pt g8 (.cells #[.int .i64 tg,.int .i64 sq,.slice Ad d.length cd] 50)::HP.pt g11 (.cells #[.int .i64 s1,.int .i64 v0,.int .i64 v1,.int .i64 v2,.int .i64 v3] 108)::HP.pt g12 (.cells #[.int .i64 pa,.int .i64 po] 41)::Zq20 (.slice Aa n ca) J.at_::l):=H1.out.perm (by ((try simp only [Zl0,Zl1,Zl2,Zl3]);repeat (first|with_reducible exact List.Perm.refl _|(apply Zq4;(· repeat (first|with_reducible exact Zq3|with_reducible apply Zq2))))))
   obtain ⟨Al',cl',w2,hrun,ha⟩:=hp0.ents_append2 (e:=⟨tg,sq,d⟩) HD.out HDB.out (by rw [←HNN.out];omega)
   rw [←HNN.out] at hrun ha
   have HRUN:=Zh hrun
   clear hp0 hrun
   go_wp2_with (at_builtin;refine Lib.wpList_append_run _ rfl (.tmp 132) (.tmp 134) 58 58 rfl _ _ rfl rfl _ _ HRUN.out ?_)
   clear HRUN
   have hst:St W I w2 (jnBlk q p J ⟨vt,vc,.slice Al n cl,.slice Aa n ca⟩::HP.pt g8 (.cells #[.int .i64 tg,.int .i64 sq,.slice Ad d.length cd] 50)::HP.pt g11 (.cells #[.int .i64 s1,.int .i64 v0,.int .i64 v1,.int .i64 v2,.int .i64 v3] 108)::HP.pt g12 (.cells #[.int .i64 pa,.int .i64 po] 41)::HP.pt gA (.cells #[.int .i64 tg,.int .i64 sq,.slice Ad d.length cd] 50)::Zq23 (.slice Al' (n+1) cl') (J.l++[⟨tg,sq,d⟩])::Zq20 (.slice Aa n ca) J.at_::l):=ha.perm (by ((try simp only [Zl0,Zl1,Zl2,Zl3]);repeat (first|with_reducible exact List.Perm.refl _|(apply Zq4;(· repeat (first|with_reducible exact Zq3|with_reducible apply Zq2))))))
   have X2:=Zh (HF1.out _ _ hst)
   have Y2:=Zh (HF2.out _ _ (hst.pull 2 _ rfl))
   have H2:=Zh hst
   clear ha hst H1
   refine Zq0 (Zq80 X2.out Y2.out) ?_
   unfold wpTr2
   (try simp only [pickL,Zl6,Zl7])
   have ha:=H2.out.alloc (.cells #[.int .i64 pa,.int .i64 po] 41)
   obtain ⟨gB,hgB⟩:∃ x,x=w2.heap.size:=⟨_,rfl⟩
   obtain ⟨w3,hwa⟩:∃ x,x=w2.alloc (.cells #[.int .i64 pa,.int .i64 po] 41):=⟨_,rfl⟩
   go_wp2_with fail
   rw [←hwa,←hgB] at ha
   rw [←hwa,←hgB]
   clear hwa hgB
   have hst:St W I w3 (jnBlk q p J ⟨vt,vc,.slice Al n cl,.slice Aa n ca⟩::HP.pt g8 (.cells #[.int .i64 tg,.int .i64 sq,.slice Ad d.length cd] 50)::HP.pt g11 (.cells #[.int .i64 s1,.int .i64 v0,.int .i64 v1,.int .i64 v2,.int .i64 v3] 108)::HP.pt g12 (.cells #[.int .i64 pa,.int .i64 po] 41)::HP.pt gB (.cells #[.int .i64 pa,.int .i64 po] 41)::HP.pt gA (.cells #[.int .i64 tg,.int .i64 sq,.slice Ad d.length cd] 50)::Zq23 (.slice Al' (n+1) cl') (J.l++[⟨tg,sq,d⟩])::Zq20 (.slice Aa n ca) J.at_::l):=ha.perm (by ((try simp only [Zl0,Zl1,Zl2,Zl3]);repeat (first|with_reducible exact List.Perm.refl _|(apply Zq4;(· repeat (first|with_reducible exact Zq3|with_reducible apply Zq2))))))
   have X3:=Zh (HF1.out _ _ hst)
   have Y3:=Zh (HF2.out _ _ (hst.pull 2 _ rfl))
   have H3:=Zh hst
   clear ha hst H2
   refine Zq0 (Zq80 X3.out Y3.out) ?_
   unfold wpTr2
   (try simp only [pickL,Zl6,Zl7])
   have hp0:St W I w3 (Zq20 (.slice Aa n ca) J.at_::HP.pt gB (.cells #[.int .i64 pa,.int .i64 po] 41)::jnBlk q p J ⟨vt,vc,.slice Al n cl,.slice Aa n ca⟩::HP.pt g8 (.cells #[.int .i64 tg,.int .i64 sq,.slice Ad d.length cd] 50)::HP.pt g11 (.cells #[.int .i64 s1,.int .i64 v0,.int .i64 v1,.int .i64 v2,.int .i64 v3] 108)::HP.pt g12 (.cells #[.int .i64 pa,.int .i64 po] 41)::HP.pt gA (.cells #[.int .i64 tg,.int .i64 sq,.slice Ad d.length cd] 50)::Zq23 (.slice Al' (n+1) cl') (J.l++[⟨tg,sq,d⟩])::l):=H3.out.perm (by ((try simp only [Zl0,Zl1,Zl2,Zl3]);repeat (first|with_reducible exact List.Perm.refl _|(apply Zq4;(· repeat (first|with_reducible exact Zq3|with_reducible apply Zq2))))))
   obtain ⟨Aa',ca',w4,hrun,ha⟩:=hp0.places_append2 pa po (by rw [HL.out];omega)
   rw [HL.out] at hrun ha
   have HRUN:=Zh hrun
   clear hp0 hrun
   go_wp2_with (at_builtin;refine Lib.wpList_append_run _ rfl (.tmp 139) (.tmp 141) 38 38 rfl _ _ rfl rfl _ _ HRUN.out ?_)
   clear HRUN
   have hst:St W I w4 (jnBlk q p J ⟨vt,vc,.slice Al n cl,.slice Aa n ca⟩::HP.pt g8 (.cells #[.int .i64 tg,.int .i64 sq,.slice Ad d.length cd] 50)::HP.pt g11 (.cells #[.int .i64 s1,.int .i64 v0,.int .i64 v1,.int .i64 v2,.int .i64 v3] 108)::HP.pt g12 (.cells #[.int .i64 pa,.int .i64 po] 41)::HP.pt gB (.cells #[.int .i64 pa,.int .i64 po] 41)::HP.pt gA (.cells #[.int .i64 tg,.int .i64 sq,.slice Ad d.length cd] 50)::Zq23 (.slice Al' (n+1) cl') (J.l++[⟨tg,sq,d⟩])::Zq20 (.slice Aa' (n+1) ca') (J.at_++[⟨pa,po⟩])::l):=ha.perm (by ((try simp only [Zl0,Zl1,Zl2,Zl3]);repeat (first|with_reducible exact List.Perm.refl _|(apply Zq4;(· repeat (first|with_reducible exact Zq3|with_reducible apply Zq2))))))
   have X4:=Zh (HF1.out _ _ hst)
   have Y4:=Zh (HF2.out _ _ (hst.pull 2 _ rfl))
   have H4:=Zh hst
   clear ha hst H3
   refine Zq0 (Zq80 X4.out Y4.out) ?_
   unfold wpTr2
   (try simp only [pickL,Zl6,Zl7])
   have hlast:St W I w4 (jnBlk q p J ⟨vt,vc,.slice Al n cl,.slice Aa n ca⟩::Zq23 (.slice Al' (n+1) cl') (J.l++[⟨tg,sq,d⟩])::Zq20 (.slice Aa' (n+1) ca') (J.at_++[⟨pa,po⟩])::HP.pt g11 (.cells #[.int .i64 s1,.int .i64 v0,.int .i64 v1,.int .i64 v2,.int .i64 v3] 108)::l):=by
    have h9:St W I w4 (HP.pt g8 (.cells #[.int .i64 tg,.int .i64 sq,.slice Ad d.length cd] 50)::HP.pt g12 (.cells #[.int .i64 pa,.int .i64 po] 41)::HP.pt gA (.cells #[.int .i64 tg,.int .i64 sq,.slice Ad d.length cd] 50)::HP.pt gB (.cells #[.int .i64 pa,.int .i64 po] 41)::jnBlk q p J ⟨vt,vc,.slice Al n cl,.slice Aa n ca⟩::Zq23 (.slice Al' (n+1) cl') (J.l++[⟨tg,sq,d⟩])::Zq20 (.slice Aa' (n+1) ca') (J.at_++[⟨pa,po⟩])::HP.pt g11 (.cells #[.int .i64 s1,.int .i64 v0,.int .i64 v1,.int .i64 v2,.int .i64 v3] 108)::l):=H4.out.perm (by ((try simp only [Zl0,Zl1,Zl2,Zl3]);repeat (first|with_reducible exact List.Perm.refl _|(apply Zq4;(· repeat (first|with_reducible exact Zq3|with_reducible apply Zq2))))))
    exact h9.drop.drop.drop.drop
   have hnof:St W I w4 (jnBlk q p J ⟨vt,vc,.slice Al n cl,.slice Aa n ca⟩::Zq23 (.slice Al' (n+1) cl') (J.l++[⟨tg,sq,d⟩])::Zq20 (.slice Aa' (n+1) ca') (J.at_++[⟨pa,po⟩])::l):=(hlast.pull 3 _ rfl).drop
   have HLAST:=Zh (HFIN.out _ _ _ _ _ l hnof)
   have Z0:=Zh (HF2.out _ _ (hlast.pull 3 _ rfl))
   have ha:=hlast.jb_l (.slice Al' (n+1) cl')
   have Z1:=Zh (HF2.out _ _ (ha.pull 3 _ rfl))
   have hb:=ha.jb_at (.slice Aa' (n+1) ca')
   have Z2:=Zh (HF2.out _ _ (hb.pull 3 _ rfl))
   have kq:=Zq45 hlast
   have k8:=kq 8
   have k9:=kq 9
   have k10:=kq 10
   have k11:=kq 11
   have k12:=kq 12
   have k13:=kq 13
   have k14:=kq 14
   have fq:=Zq52 hlast
   have lq:=hlast.lt
   simp [Zq135] at k8 k9 k10 k11 k12 k13 k14
   clear kq hlast hnof ha hb H4
   go_wp2_with fail
   refine Zq0 (Zq63 rfl Z0.out) ?_
   unfold wpTr2
   (try simp only [pickL,Zl6,Zl7])
   go_wp2_with fail
   refine Zq0 (Zq63 rfl Z0.out) ?_
   unfold wpTr2
   (try simp only [pickL,Zl6,Zl7])
   go_wp2_with fail
   refine Zq0 (Zq63 rfl Z1.out) ?_
   unfold wpTr2
   (try simp only [pickL,Zl6,Zl7])
   go_wp2_with fail
   refine Zq0 (Zq63 rfl Z1.out) ?_
   unfold wpTr2
   (try simp only [pickL,Zl6,Zl7])
   go_wp2_with fail
   refine Zq0 (Zq63 rfl Z1.out) ?_
   unfold wpTr2
   (try simp only [pickL,Zl6,Zl7])
   go_wp2_with fail
   refine Zq0 (Zq63 rfl Z2.out) ?_
   unfold wpTr2
   (try simp only [pickL,Zl6,Zl7])
   go_wp2_with fail
   refine NoPanic.normal ?_
   go_wp2_with fail
   exact HQ.out _ _ _ _ _ _ _ _ _ _ _ _ _ _ _ _ _ _ _ _ _ _ _ _ _ _ _ _ _ _ _ _ _ _ _ _ _ _ _ _ _ _ _ _ _ _ _ _ _ _ _ _ _ _ _ _ _ _ _ _ _ _ _ _ _ _ _ _ _ _ _ _ _ _ _ _ _ _ _ _ _ _ _ _ _ _ _ _ _ _ _ _ _ _ _ _ _ _ _ _ _ _ _ _ _ _ _ _ _ _ _ _ _ _ _ _ _ _ _ _ _ _ _ _ _ _ _ _ _ _ _ _ _ _ _ _ _ _ _ _ _ _ _ _ _ _ _ _ _ _ HLAST.out
  ·have ha:=H1.out.alloc (.cells #[.int .i64 pa,.int .i64 po] 41)
   obtain ⟨gB,hgB⟩:∃ x,x=w1.heap.size:=⟨_,rfl⟩
   obtain ⟨w2,hwa⟩:∃ x,x=w1.alloc (.cells #[.int .i64 pa,.int .i64 po] 41):=⟨_,rfl⟩
   go_wp2_with fail
   rw [←hwa,←hgB] at ha
   rw [←hwa,←hgB]
   clear hwa hgB
   have hst:St W I w2 (jnBlk q p J ⟨vt,vc,.slice Al n cl,.slice Aa n ca⟩::HP.pt g8 (.cells #[.int .i64 tg,.int .i64 sq,.slice Ad d.length cd] 50)::HP.pt g11 (.cells #[.int .i64 s1,.int .i64 v0,.int .i64 v1,.int .i64 v2,.int .i64 v3] 108)::HP.pt g12 (.cells #[.int .i64 pa,.int .i64 po] 41)::HP.pt gB (.cells #[.int .i64 pa,.int .i64 po] 41)::HP.pt gA (.cells #[.int .i64 tg,.int .i64 sq,.slice Ad d.length cd] 50)::Zq23 (.slice Al n cl) J.l::Zq20 (.slice Aa n ca) J.at_::l):=ha.perm (by ((try simp only [Zl0,Zl1,Zl2,Zl3]);repeat (first|with_reducible exact List.Perm.refl _|(apply Zq4;(· repeat (first|with_reducible exact Zq3|with_reducible apply Zq2))))))
   have X2:=Zh (HF1.out _ _ hst)
   have Y2:=Zh (HF2.out _ _ (hst.pull 2 _ rfl))
   have H2:=Zh hst
   clear ha hst H1
   refine Zq0 (Zq80 X2.out Y2.out) ?_
   unfold wpTr2
   (try simp only [pickL,Zl6,Zl7])
   have hp0:St W I w2 (Zq23 (.slice Al n cl) J.l::HP.pt gA (.cells #[.int .i64 tg,.int .i64 sq,.slice Ad d.length cd] 50)::jnBlk q p J ⟨vt,vc,.slice Al n cl,.slice Aa n ca⟩::HP.pt g8 (.cells #[.int .i64 tg,.int .i64 sq,.slice Ad d.length cd] 50)::HP.pt g11 (.cells #[.int .i64 s1,.int .i64 v0,.int .i64 v1,.int .i64 v2,.int .i64 v3] 108)::HP.pt g12 (.cells #[.int .i64 pa,.int .i64 po] 41)::HP.pt gB (.cells #[.int .i64 pa,.int .i64 po] 41)::Zq20 (.slice Aa n ca) J.at_::l):=H2.out.perm (by ((try simp only [Zl0,Zl1,Zl2,Zl3]);repeat (first|with_reducible exact List.Perm.refl _|(apply Zq4;(· repeat (first|with_reducible exact Zq3|with_reducible apply Zq2))))))
   obtain ⟨Al',cl',w3,hrun,ha⟩:=hp0.ents_append2 (e:=⟨tg,sq,d⟩) HD.out HDB.out (by rw [←HNN.out];omega)
   rw [←HNN.out] at hrun ha
   have HRUN:=Zh hrun
   clear hp0 hrun
   go_wp2_with (at_builtin;refine Lib.wpList_append_run _ rfl (.tmp 132) (.tmp 134) 58 58 rfl _ _ rfl rfl _ _ HRUN.out ?_)
   clear HRUN
   have hst:St W I w3 (jnBlk q p J ⟨vt,vc,.slice Al n cl,.slice Aa n ca⟩::HP.pt g8 (.cells #[.int .i64 tg,.int .i64 sq,.slice Ad d.length cd] 50)::HP.pt g11 (.cells #[.int .i64 s1,.int .i64 v0,.int .i64 v1,.int .i64 v2,.int .i64 v3] 108)::HP.pt g12 (.cells #[.int .i64 pa,.int .i64 po] 41)::HP.pt gB (.cells #[.int .i64 pa,.int .i64 po] 41)::HP.pt gA (.cells #[.int .i64 tg,.int .i64 sq,.slice Ad d.length cd] 50)::Zq23 (.slice Al' (n+1) cl') (J.l++[⟨tg,sq,d⟩])::Zq20 (.slice Aa n ca) J.at_::l):=ha.perm (by ((try simp only [Zl0,Zl1,Zl2,Zl3]);repeat (first|with_reducible exact List.Perm.refl _|(apply Zq4;(· repeat (first|with_reducible exact Zq3|with_reducible apply Zq2))))))
   have X3:=Zh (HF1.out _ _ hst)
   have Y3:=Zh (HF2.out _ _ (hst.pull 2 _ rfl))
   have H3:=Zh hst
   clear ha hst H2
   refine Zq0 (Zq80 X3.out Y3.out) ?_
   unfold wpTr2
   (try simp only [pickL,Zl6,Zl7])
   have hp0:St W I w3 (Zq20 (.slice Aa n ca) J.at_::HP.pt gB (.cells #[.int .i64 pa,.int .i64 po] 41)::jnBlk q p J ⟨vt,vc,.slice Al n cl,.slice Aa n ca⟩::HP.pt g8 (.cells #[.int .i64 tg,.int .i64 sq,.slice Ad d.length cd] 50)::HP.pt g11 (.cells #[.int .i64 s1,.int .i64 v0,.int .i64 v1,.int .i64 v2,.int .i64 v3] 108)::HP.pt g12 (.cells #[.int .i64 pa,.int .i64 po] 41)::HP.pt gA (.cells #[.int .i64 tg,.int .i64 sq,.slice Ad d.length cd] 50)::Zq23 (.slice Al' (n+1) cl') (J.l++[⟨tg,sq,d⟩])::l):=H3.out.perm (by ((try simp only [Zl0,Zl1,Zl2,Zl3]);repeat (first|with_reducible exact List.Perm.refl _|(apply Zq4;(· repeat (first|with_reducible exact Zq3|with_reducible apply Zq2))))))
   obtain ⟨Aa',ca',w4,hrun,ha⟩:=hp0.places_append2 pa po (by rw [HL.out];omega)
   rw [HL.out] at hrun ha
   have HRUN:=Zh hrun
   clear hp0 hrun
   go_wp2_with (at_builtin;refine Lib.wpList_append_run _ rfl (.tmp 139) (.tmp 141) 38 38 rfl _ _ rfl rfl _ _ HRUN.out ?_)
   clear HRUN
   have hst:St W I w4 (jnBlk q p J ⟨vt,vc,.slice Al n cl,.slice Aa n ca⟩::HP.pt g8 (.cells #[.int .i64 tg,.int .i64 sq,.slice Ad d.length cd] 50)::HP.pt g11 (.cells #[.int .i64 s1,.int .i64 v0,.int .i64 v1,.int .i64 v2,.int .i64 v3] 108)::HP.pt g12 (.cells #[.int .i64 pa,.int .i64 po] 41)::HP.pt gB (.cells #[.int .i64 pa,.int .i64 po] 41)::HP.pt gA (.cells #[.int .i64 tg,.int .i64 sq,.slice Ad d.length cd] 50)::Zq23 (.slice Al' (n+1) cl') (J.l++[⟨tg,sq,d⟩])::Zq20 (.slice Aa' (n+1) ca') (J.at_++[⟨pa,po⟩])::l):=ha.perm (by ((try simp only [Zl0,Zl1,Zl2,Zl3]);repeat (first|with_reducible exact List.Perm.refl _|(apply Zq4;(· repeat (first|with_reducible exact Zq3|with_reducible apply Zq2))))))
   have X4:=Zh (HF1.out _ _ hst)
   have Y4:=Zh (HF2.out _ _ (hst.pull 2 _ rfl))
   have H4:=Zh hst
   clear ha hst H3
   refine Zq0 (Zq80 X4.out Y4.out) ?_
   unfold wpTr2
   (try simp only [pickL,Zl6,Zl7])
   have hlast:St W I w4 (jnBlk q p J ⟨vt,vc,.slice Al n cl,.slice Aa n ca⟩::Zq23 (.slice Al' (n+1) cl') (J.l++[⟨tg,sq,d⟩])::Zq20 (.slice Aa' (n+1) ca') (J.at_++[⟨pa,po⟩])::HP.pt g11 (.cells #[.int .i64 s1,.int .i64 v0,.int .i64 v1,.int .i64 v2,.int .i64 v3] 108)::l):=by
    have h9:St W I w4 (HP.pt g8 (.cells #[.int .i64 tg,.int .i64 sq,.slice Ad d.length cd] 50)::HP.pt g12 (.cells #[.int .i64 pa,.int .i64 po] 41)::HP.pt gA (.cells #[.int .i64 tg,.int .i64 sq,.slice Ad d.length cd] 50)::HP.pt gB (.cells #[.int .i64 pa,.int .i64 po] 41)::jnBlk q p J ⟨vt,vc,.slice Al n cl,.slice Aa n ca⟩::Zq23 (.slice Al' (n+1) cl') (J.l++[⟨tg,sq,d⟩])::Zq20 (.slice Aa' (n+1) ca') (J.at_++[⟨pa,po⟩])::HP.pt g11 (.cells #[.int .i64 s1,.int .i64 v0,.int .i64 v1,.int .i64 v2,.int .i64 v3] 108)::l):=H4.out.perm (by ((try simp only [Zl0,Zl1,Zl2,Zl3]);repeat (first|with_reducible exact List.Perm.refl _|(apply Zq4;(· repeat (first|with_reducible exact Zq3|with_reducible apply Zq2))))))
    exact h9.drop.drop.drop.drop
   have hnof:St W I w4 (jnBlk q p J ⟨vt,vc,.slice Al n cl,.slice Aa n ca⟩::Zq23 (.slice Al' (n+1) cl') (J.l++[⟨tg,sq,d⟩])::Zq20 (.slice Aa' (n+1) ca') (J.at_++[⟨pa,po⟩])::l):=(hlast.pull 3 _ rfl).drop
   have HLAST:=Zh (HFIN.out _ _ _ _ _ l hnof)
   have Z0:=Zh (HF2.out _ _ (hlast.pull 3 _ rfl))
   have ha:=hlast.jb_l (.slice Al' (n+1) cl')
   have Z1:=Zh (HF2.out _ _ (ha.pull 3 _ rfl))
   have hb:=ha.jb_at (.slice Aa' (n+1) ca')
   have Z2:=Zh (HF2.out _ _ (hb.pull 3 _ rfl))
   have kq:=Zq45 hlast
   have k8:=kq 8
   have k9:=kq 9
   have k10:=kq 10
   have k11:=kq 11
   have k12:=kq 12
   have k13:=kq 13
   have k14:=kq 14
   have fq:=Zq52 hlast
   have lq:=hlast.lt
   simp [Zq135] at k8 k9 k10 k11 k12 k13 k14
   clear kq hlast hnof ha hb H4
   go_wp2_with fail
   refine Zq0 (Zq63 rfl Z0.out) ?_
   unfold wpTr2
   (try simp only [pickL,Zl6,Zl7])
   go_wp2_with fail
   refine Zq0 (Zq63 rfl Z0.out) ?_
   unfold wpTr2
   (try simp only [pickL,Zl6,Zl7])
   go_wp2_with fail
   refine Zq0 (Zq63 rfl Z1.out) ?_
   unfold wpTr2
   (try simp only [pickL,Zl6,Zl7])
   go_wp2_with fail
   refine Zq0 (Zq63 rfl Z1.out) ?_
   unfold wpTr2
   (try simp only [pickL,Zl6,Zl7])
   go_wp2_with fail
   refine Zq0 (Zq63 rfl Z1.out) ?_
   unfold wpTr2
   (try simp only [pickL,Zl6,Zl7])
   go_wp2_with fail
   refine Zq0 (Zq63 rfl Z2.out) ?_
   unfold wpTr2
   (try simp only [pickL,Zl6,Zl7])
   go_wp2_with fail
   refine NoPanic.normal ?_
   go_wp2_with fail
   exact HQ.out _ _ _ _ _ _ _ _ _ _ _ _ _ _ _ _ _ _ _ _ _ _ _ _ _ _ _ _ _ _ _ _ _ _ _ _ _ _ _ _ _ _ _ _ _ _ _ _ _ _ _ _ _ _ _ _ _ _ _ _ _ _ _ _ _ _ _ _ _ _ _ _ _ _ _ _ _ _ _ _ _ _ _ _ _ _ _ _ _ _ _ _ _ _ _ _ _ _ _ _ _ _ _ _ _ _ _ _ _ _ _ _ _ _ _ _ _ _ _ _ _ _ _ _ _ _ _ _ _ _ _ _ _ _ _ _ _ _ _ _ _ _ _ _ _ _ _ _ _ _ HLAST.out
 ·have ha:=H0.out.alloc (.cells #[.int .i64 pa,.int .i64 po] 41)
  obtain ⟨gB,hgB⟩:∃ x,x=w0.heap.size:=⟨_,rfl⟩
  obtain ⟨w1,hwa⟩:∃ x,x=w0.alloc (.cells #[.int .i64 pa,.int .i64 po] 41):=⟨_,rfl⟩
  go_wp2_with fail
  rw [←hwa,←hgB] at ha
  rw [←hwa,←hgB]
  clear hwa hgB
  have hst:St W I w1 (jnBlk q p J ⟨vt,vc,.slice Al n cl,.slice Aa n ca⟩::HP.pt g8 (.cells #[.int .i64 tg,.int .i64 sq,.slice Ad d.length cd] 50)::HP.pt g11 (.cells #[.int .i64 s1,.int .i64 v0,.int .i64 v1,.int .i64 v2,.int .i64 v3] 108)::HP.pt g12 (.cells #[.int .i64 pa,.int .i64 po] 41)::HP.pt gB (.cells #[.int .i64 pa,.int .i64 po] 41)::Zq23 (.slice Al n cl) J.l::Zq20 (.slice Aa n ca) J.at_::l):=ha.perm (by ((try simp only [Zl0,Zl1,Zl2,Zl3]);repeat (first|with_reducible exact List.Perm.refl _|(apply Zq4;(· repeat (first|with_reducible exact Zq3|with_reducible apply Zq2))))))
  have X1:=Zh (HF1.out _ _ hst)
  have Y1:=Zh (HF2.out _ _ (hst.pull 2 _ rfl))
  have H1:=Zh hst
  clear ha hst H0
  refine Zq0 (Zq80 X1.out Y1.out) ?_
  unfold wpTr2
  (try simp only [pickL,Zl6,Zl7])
  have ha:=H1.out.alloc (.cells #[.int .i64 tg,.int .i64 sq,.slice Ad d.length cd] 50)
  obtain ⟨gA,hgA⟩:∃ x,x=w1.heap.size:=⟨_,rfl⟩
  obtain ⟨w2,hwa⟩:∃ x,x=w1.alloc (.cells #[.int .i64 tg,.int .i64 sq,.slice Ad d.length cd] 50):=⟨_,rfl⟩
  go_wp2_with fail
  rw [←hwa,←hgA] at ha
  rw [←hwa,←hgA]
  clear hwa hgA
  have hst:St W I w2 (jnBlk q p J ⟨vt,vc,.slice Al n cl,.slice Aa n ca⟩::HP.pt g8 (.cells #[.int .i64 tg,.int .i64 sq,.slice Ad d.length cd] 50)::HP.pt g11 (.cells #[.int .i64 s1,.int .i64 v0,.int .i64 v1,.int .i64 v2,.int .i64 v3] 108)::HP.pt g12 (.cells #[.int .i64 pa,.int .i64 po] 41)::HP.pt gA (.cells #[.int .i64 tg,.int .i64 sq,.slice Ad d.length cd] 50)::HP.pt gB (.cells #[.int .i64 pa,.int .i64 po] 41)::Zq23 (.slice Al n cl) J.l::Zq20 (.slice Aa n ca) J.at_::l):=ha.perm (by ((try simp only [Zl0,Zl1,Zl2,Zl3]);repeat (first|with_reducible exact List.Perm.refl _|(apply Zq4;(· repeat (first|with_reducible exact Zq3|with_reducible apply Zq2))))))
  have X2:=Zh (HF1.out _ _ hst)
  have Y2:=Zh (HF2.out _ _ (hst.pull 2 _ rfl))
  have H2:=Zh hst
  clear ha hst H1
  refine Zq0 (Zq80 X2.out Y2.out) ?_
  unfold wpTr2
  (try simp only [pickL,Zl6,Zl7])
  have hp0:St W I w2 (Zq23 (.slice Al n cl) J.l::HP.pt gA (.cells #[.int .i64 tg,.int .i64 sq,.slice Ad d.length cd] 50)::jnBlk q p J ⟨vt,vc,.slice Al n cl,.slice Aa n ca⟩::HP.pt g8 (.cells #[.int .i64 tg,.int .i64 sq,.slice Ad d.length cd] 50)::HP.pt g11 (.cells #[.int .i64 s1,.int .i64 v0,.int .i64 v1,.int .i64 v2,.int .i64 v3] 108)::HP.pt g12 (.cells #[.int .i64 pa,.int .i64 po] 41)::HP.pt gB (.cells #[.int .i64 pa,.int .i64 po] 41)::Zq20 (.slice Aa n ca) J.at_::l):=H2.out.perm (by ((try simp only [Zl0,Zl1,Zl2,Zl3]);repeat (first|with_reducible exact List.Perm.refl _|(apply Zq4;(· repeat (first|with_reducible exact Zq3|with_reducible apply Zq2))))))
  obtain ⟨Al',cl',w3,hrun,ha⟩:=hp0.ents_append2 (e:=⟨tg,sq,d⟩) HD.out HDB.out (by rw [←HNN.out];omega)
  rw [←HNN.out] at hrun ha
  have HRUN:=Zh hrun
  clear hp0 hrun
  go_wp2_with (at_builtin;refine Lib.wpList_append_run _ rfl (.tmp 132) (.tmp 134) 58 58 rfl _ _ rfl rfl _ _ HRUN.out ?_)
  clear HRUN
  have hst:St W I w3 (jnBlk q p J ⟨vt,vc,.slice Al n cl,.slice Aa n ca⟩::HP.pt g8 (.cells #[.int .i64 tg,.int .i64 sq,.slice Ad d.length cd] 50)::HP.pt g11 (.cells #[.int .i64 s1,.int .i64 v0,.int .i64 v1,.int .i64 v2,.int .i64 v3] 108)::HP.pt g12 (.cells #[.int .i64 pa,.int .i64 po] 41)::HP.pt gA (.cells #[.int .i64 tg,.int .i64 sq,.slice Ad d.length cd] 50)::HP.pt gB (.cells #[.int .i64 pa,.int .i64 po] 41)::Zq23 (.slice Al' (n+1) cl') (J.l++[⟨tg,sq,d⟩])::Zq20 (.slice Aa n ca) J.at_::l):=ha.perm (by ((try simp only [Zl0,Zl1,Zl2,Zl3]);repeat (first|with_reducible exact List.Perm.refl _|(apply Zq4;(· repeat (first|with_reducible exact Zq3|with_reducible apply Zq2))))))
  have X3:=Zh (HF1.out _ _ hst)
  have Y3:=Zh (HF2.out _ _ (hst.pull 2 _ rfl))
  have H3:=Zh hst
  clear ha hst H2
  refine Zq0 (Zq80 X3.out Y3.out) ?_
  unfold wpTr2
  (try simp only [pickL,Zl6,Zl7])
  have hp0:St W I w3 (Zq20 (.slice Aa n ca) J.at_::HP.pt gB (.cells #[.int .i64 pa,.int .i64 po] 41)::jnBlk q p J ⟨vt,vc,.slice Al n cl,.slice Aa n ca⟩::HP.pt g8 (.cells #[.int .i64 tg,.int .i64 sq,.slice Ad d.length cd] 50)::HP.pt g11 (.cells #[.int .i64 s1,.int .i64 v0,.int .i64 v1,.int .i64 v2,.int .i64 v3] 108)::HP.pt g12 (.cells #[.int .i64 pa,.int .i64 po] 41)::HP.pt gA (.cells #[.int .i64 tg,.int .i64 sq,.slice Ad d.length cd] 50)::Zq23 (.slice Al' (n+1) cl') (J.l++[⟨tg,sq,d⟩])::l):=H3.out.perm (by ((try simp only [Zl0,Zl1,Zl2,Zl3]);repeat (first|with_reducible exact List.Perm.refl _|(apply Zq4;(· repeat (first|with_reducible exact Zq3|with_reducible apply Zq2))))))
  obtain ⟨Aa',ca',w4,hrun,ha⟩:=hp0.places_append2 pa po (by rw [HL.out];omega)
  rw [HL.out] at hrun ha
  have HRUN:=Zh hrun
  clear hp0 hrun
  go_wp2_with (at_builtin;refine Lib.wpList_append_run _ rfl (.tmp 139) (.tmp 141) 38 38 rfl _ _ rfl rfl _ _ HRUN.out ?_)
  clear HRUN
  have hst:St W I w4 (jnBlk q p J ⟨vt,vc,.slice Al n cl,.slice Aa n ca⟩::HP.pt g8 (.cells #[.int .i64 tg,.int .i64 sq,.slice Ad d.length cd] 50)::HP.pt g11 (.cells #[.int .i64 s1,.int .i64 v0,.int .i64 v1,.int .i64 v2,.int .i64 v3] 108)::HP.pt g12 (.cells #[.int .i64 pa,.int .i64 po] 41)::HP.pt gA (.cells #[.int .i64 tg,.int .i64 sq,.slice Ad d.length cd] 50)::HP.pt gB (.cells #[.int .i64 pa,.int .i64 po] 41)::Zq23 (.slice Al' (n+1) cl') (J.l++[⟨tg,sq,d⟩])::Zq20 (.slice Aa' (n+1) ca') (J.at_++[⟨pa,po⟩])::l):=ha.perm (by ((try simp only [Zl0,Zl1,Zl2,Zl3]);repeat (first|with_reducible exact List.Perm.refl _|(apply Zq4;(· repeat (first|with_reducible exact Zq3|with_reducible apply Zq2))))))
  have X4:=Zh (HF1.out _ _ hst)
  have Y4:=Zh (HF2.out _ _ (hst.pull 2 _ rfl))
  have H4:=Zh hst
  clear ha hst H3
  refine Zq0 (Zq80 X4.out Y4.out) ?_
  unfold wpTr2
  (try simp only [pickL,Zl6,Zl7])
  have hlast:St W I w4 (jnBlk q p J ⟨vt,vc,.slice Al n cl,.slice Aa n ca⟩::Zq23 (.slice Al' (n+1) cl') (J.l++[⟨tg,sq,d⟩])::Zq20 (.slice Aa' (n+1) ca') (J.at_++[⟨pa,po⟩])::HP.pt g11 (.cells #[.int .i64 s1,.int .i64 v0,.int .i64 v1,.int .i64 v2,.int .i64 v3] 108)::l):=by
   have h9:St W I w4 (HP.pt g8 (.cells #[.int .i64 tg,.int .i64 sq,.slice Ad d.length cd] 50)::HP.pt g12 (.cells #[.int .i64 pa,.int .i64 po] 41)::HP.pt gA (.cells #[.int .i64 tg,.int .i64 sq,.slice Ad d.length cd] 50)::HP.pt gB (.cells #[.int .i64 pa,.int .i64 po] 41)::jnBlk q p J ⟨vt,vc,.slice Al n cl,.slice Aa n ca⟩::Zq23 (.slice Al' (n+1) cl') (J.l++[⟨tg,sq,d⟩])::Zq20 (.slice Aa' (n+1) ca') (J.at_++[⟨pa,po⟩])::HP.pt g11 (.cells #[.int .i64 s1,.int .i64 v0,.int .i64 v1,.int .i64 v2,.int .i64 v3] 108)::l):=H4.out.perm (by ((try simp only [Zl0,Zl1,Zl2,Zl3]);repeat (first|with_reducible exact List.Perm.refl _|(apply Zq4;(· repeat (first|with_reducible exact Zq3|with_reducible apply Zq2))))))
   exact h9.drop.drop.drop.drop
  have hnof:St W I w4 (jnBlk q p J ⟨vt,vc,.slice Al n cl,.slice Aa n ca⟩::Zq23 (.slice Al' (n+1) cl') (J.l++[⟨tg,sq,d⟩])::Zq20 (.slice Aa' (n+1) ca') (J.at_++[⟨pa,po⟩])::l):=(hlast.pull 3 _ rfl).drop
  have HLAST:=Zh (HFIN.out _ _ _ _ _ l hnof)
  have Z0:=Zh (HF2.out _ _ (hlast.pull 3 _ rfl))
  have ha:=hlast.jb_l (.slice Al' (n+1) cl')
  have Z1:=Zh (HF2.out _ _ (ha.pull 3 _ rfl))
  have hb:=ha.jb_at (.slice Aa' (n+1) ca')
  have Z2:=Zh (HF2.out _ _ (hb.pull 3 _ rfl))
  have kq:=Zq45 hlast
  have k8:=kq 8
  have k9:=kq 9
  have k10:=kq 10
  have k11:=kq 11
  have k12:=kq 12
  have k13:=kq 13
  have k14:=kq 14
  have fq:=Zq52 hlast
  have lq:=hlast.lt
  simp [Zq135] at k8 k9 k10 k11 k12 k13 k14
  clear kq hlast hnof ha hb H4
  go_wp2_with fail
  refine Zq0 (Zq63 rfl Z0.out) ?_
  unfold wpTr2
  (try simp only [pickL,Zl6,Zl7])
  go_wp2_with fail
  refine Zq0 (Zq63 rfl Z0.out) ?_
  unfold wpTr2
  (try simp only [pickL,Zl6,Zl7])
  go_wp2_with fail
  refine Zq0 (Zq63 rfl Z1.out) ?_
  unfold wpTr2
  (try simp only [pickL,Zl6,Zl7])
  go_wp2_with fail
  refine Zq0 (Zq63 rfl Z1.out) ?_
  unfold wpTr2
  (try simp only [pickL,Zl6,Zl7])
  go_wp2_with fail
  refine Zq0 (Zq63 rfl Z1.out) ?_
  unfold wpTr2
  (try simp only [pickL,Zl6,Zl7])
  go_wp2_with fail
  refine Zq0 (Zq63 rfl Z2.out) ?_
  unfold wpTr2
  (try simp only [pickL,Zl6,Zl7])
  go_wp2_with fail
  refine NoPanic.normal ?_
  go_wp2_with fail
  exact HQ.out _ _ _ _ _ _ _ _ _ _ _ _ _ _ _ _ _ _ _ _ _ _ _ _ _ _ _ _ _ _ _ _ _ _ _ _ _ _ _ _ _ _ _ _ _ _ _ _ _ _ _ _ _ _ _ _ _ _ _ _ _ _ _ _ _ _ _ _ _ _ _ _ _ _ _ _ _ _ _ _ _ _ _ _ _ _ _ _ _ _ _ _ _ _ _ _ _ _ _ _ _ _ _ _ _ _ _ _ _ _ _ _ _ _ _ _ _ _ _ _ _ _ _ _ _ _ _ _ _ _ _ _ _ _ _ _ _ _ _ _ _ _ _ _ _ _ _ _ _ _ HLAST.out
end
end Go.Proofs.YtpjchngjhijgmaaGreat
