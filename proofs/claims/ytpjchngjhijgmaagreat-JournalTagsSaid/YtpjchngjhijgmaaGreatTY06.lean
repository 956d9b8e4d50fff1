import Derived.Test.YtpjchngjhijgmaaGreatTY05
set_option linter.all false
namespace Go.Proofs.YtpjchngjhijgmaaGreat
open Go.RowKit
theorem JOK.lead_calm {S:Str} {J:Jn} {ts:List Tag} (h:JOK S J) (ha:S.armed=false) (hr:Zq70 ts=true) (hl:Zq929 J ts=true):∃ S',leadJ S J ts=(0,S',recJ J (tagsR J.r ts))∧JOK S' (recJ J (tagsR J.r ts))∧S'.armed=false:=by
 obtain ⟨h1,h2,h3⟩:=h.lead hr hl
 obtain ⟨t,ht,_⟩:=h.rec_
 have hpl:=Zq169 h.live ht h1
 obtain ⟨c1,c2⟩:=Zq132 Zq82 h.live ha (Zq388 S h1)
 rw [←hpl] at c1 c2
 rw [if_pos c1] at h2
 exact ⟨_,h2,h3 c1,c2⟩
theorem leadJ_keeps {S:Str} {J:Jn} {ts:List Tag} {m:Nat} (h:Keeps S (m+2)):Keeps (leadJ S J ts).2.1 m:=by
 unfold leadJ
 split
 ·exact h.fewer (by omega)
 ·split
  ·exact h.fewer (by omega)
  ·split
   ·exact h.fewer (by omega)
   ·exact Zq338 h
structure TG (S:Str) (J:Jn) (i:Nat):Prop where
 ok:JOK S J
 calm:S.armed=false
 ks:Keeps S (90000 - 20*i)
 good:Good J.r.tags (endJ J)
 few:J.r.tags.length≤30
 first:J.r.first=1
 set:J.r.set=0
 len:J.l.length≤i
theorem TG.ends {S:Str} {J:Jn} {i:Nat} (h:TG S J i):endJ J=J.l.length:=by unfold endJ;rw [h.first];omega
theorem TG.grown {S:Str} {J:Jn} {i:Nat} (h:TG S J i) (hi:i≤40) (hf:J.r.tags.length<30) (m:Int):∃ S' J',leadJ S J (grownT J.r.tags (endJ J) 0 m)=(0,S',J')∧TG S' J' (i+1)∧J'.l=J.l:=by
 have hg:=h.good.grown (by have:=h.few;omega) m
 have hr:=hg.right (by rw [grownT_len];have:=h.few;omega)
 have hl:Zq929 J (grownT J.r.tags (endJ J) 0 m)=true:=by
  unfold Zq929
  rw [List.all_eq_true]
  intro e he
  rw [decide_eq_true_eq,(h.ok.ents e he).2.2]
  have h1:=(run_seq h.ok.run he).2
  have h2:=h.ends
  have h3:=h.first
  unfold grownT
  rw [Zq429,if_neg]
  show ¬ max 0 (endJ J - 0 % 2)<e.seq
  omega
 obtain ⟨S',e1,e2,e3⟩:=h.ok.lead_calm h.calm hr hl
 have hk:=leadJ_keeps (J:=J) (ts:=grownT J.r.tags (endJ J) 0 m) (m:=90000 - 20*(i+1)) (h.ks.fewer (by omega))
 rw [e1] at hk
 refine ⟨S',_,e1,⟨e2,e3,hk,?_,?_,h.first,h.set,Nat.le_trans h.len (by omega)⟩,rfl⟩
 ·exact hg
 ·show (grownT J.r.tags (endJ J) 0 m).length≤30
  rw [grownT_len];omega
theorem TG.append {S:Str} {J:Jn} {i:Nat} {d:List Int} (h:TG S J i) (hi:i≤40) (hd:1≤d.length∧d.length≤90) (hb:∀ y ∈ d,isByte y) (hf:fitsJ J [(d.length:Int)]=true):∃ n S' J',Zq44 S J d=((n,0),S',J')∧TG S' J' (i+1)∧J'.l.map (·.tag)=J.l.map (·.tag)++[(J.r.tags.getLast?.map Tag.id).getD 0]:=by
 have hlen:=h.len
 obtain ⟨S',g,pl,nx,_,e1,e2,e3,_⟩:=h.ok.append_calm (d:=d) h.calm hd hb hf (by rw [h.set];omega)
 have hk:=Zq259 (J:=J) (d:=d) (m:=90000 - 20*(i+1)) (h.ks.fewer (by omega))
 rw [e1] at hk
 have hne:J.r.tags≠[]:=fun q=>by have:=h.good.one;rw [q] at this;simp at this
 have htag:(newE J d).tag=(J.r.tags.getLast?.map Tag.id).getD 0:=tagOf_last hne (by have:=h.good.last;omega)
 have hl:(addJ J (newE J d) pl g).l=J.l++[newE J d]:=rfl
 have he:endJ (addJ J (newE J d) pl g)=endJ J+1:=by
  unfold endJ
  rw [hl,List.length_append,List.length_singleton]
  show J.r.first - 1+_=_
  omega
 refine ⟨_,S',_,e1,⟨e2,e3,hk,?_,h.few,h.first,h.set,?_⟩,?_⟩
 ·rw [he]
  exact h.good.later (by omega) (by have:=h.ends;omega)
 ·rw [hl,List.length_append,List.length_singleton];omega
 ·rw [hl,List.map_append,←htag];rfl
theorem maxIds_tagOf {ts:List Tag} {s:Int}:tagOf ts s≤Zq925 ts:=by
 unfold tagOf
 split
 ·rename_i t ht
  have:=List.mem_of_find?_eq_some ht
  exact (le_maxIds ts 0).2 t (List.mem_reverse.1 this)
 ·exact maxIds_nonneg ts
theorem TG.bad {S:Str} {J:Jn} {i:Nat} (h:TG S J i) {k:Int} (hk:0≤k∧k<endJ J):leadJ S J (Zq48 J.r.tags k++[⟨1048576,1,0,k⟩])=(1,S,J):=by
 have hl:Zq929 J (Zq48 J.r.tags k++[⟨1048576,1,0,k⟩])=false:=by
  have he:=h.ends
  obtain ⟨e,hx⟩:∃ e,J.l[k.toNat]?=some e:=⟨_,List.getElem?_eq_getElem (by omega)⟩
  have hseq:=Zq155 h.ok.run hx
  have hf:=h.first
  unfold Zq929
  rw [List.all_eq_false]
  refine ⟨e,List.mem_of_getElem? hx,?_⟩
  rw [Zq429,if_pos (show k<e.seq by omega)]
  rw [(h.ok.ents e (List.mem_of_getElem? hx)).2.2]
  have h1:=maxIds_tagOf (ts:=J.r.tags) (s:=e.seq)
  have h2:=h.good.ids
  have h3:=h.few
  simp only [decide_eq_true_eq]
  omega
 unfold leadJ
 rw [if_neg (by simp [h.ok.may])]
 by_cases hr:Zq70 (Zq48 J.r.tags k++[⟨1048576,1,0,k⟩])=false
 ·rw [if_pos hr]
 ·rw [if_neg hr,if_pos hl]
theorem TG.start {c:Rg} {S:Str} (hg:goodM c 0 [tag1]=true) (h:JOK S (Zq40 (Zq120 c 0 [tag1]))) (ha:S.armed=false) (hk:Keeps S 99000):TG S (Zq40 (Zq120 c 0 [tag1])) 0:=by
 rw [Zq502 hg] at h ⊢
 exact ⟨h,ha,hk.fewer (by omega),Good.start,by simp,rfl,rfl,Nat.le_refl _⟩
theorem TG.later {S:Str} {J:Jn} {i j:Nat} (h:TG S J i) (hij:i≤j):TG S J j:=⟨h.ok,h.calm,h.ks.fewer (by omega),h.good,h.few,h.first,h.set,Nat.le_trans h.len hij⟩
section
variable {W w : World} {I : Hp} {l : List HP}
set_option maxRecDepth 4000
set_option maxHeartbeats 8000000
theorem tags_loop1 {ca cb:Code} {Q:Exit→Act→World→Prop} {K:Act→World→Prop} (hK:∀ x y,cb.wp Tryz.prog Q x y→K x y) (hC:(Tryz.f7).body.bind (fromR 7)=some (.seq ca cb)) {x0 x1 x2 x4 x5 x6 x7 x8 x9 x10 x14 x15 x16 x17 x18 x19 x20 x21 x22 x23 x24 x25 x26 x27 x28 x29 x30 x31 x32 x33 x34 x35 x36 x37 x38 x39 x40 x41 x42 x43 x44 x45 x46 x47 x48 x49 x50 x51 x52 x53 x54 x55 x56 x57 x58 x59 x60 x61 x62 x63 x64 x65 x66 x67 x68 x69 x70 x71 x72 x73 x74 x75 x76 x77 x78 x79 x80 x81 x82 x83 x84 x85 x86 x87 x88 x89 x90 x91 x92 x93 x94 x95 x96 x97 x98 x99 x100 x101 x102 x103 x104 x105 x106 x107 x108 x109 x110 x111 x112 x113 x114 x115 x116 x117 x118 x119 x120 x121 x122 x123 x124 x125 x126 x127 x128 x129 x130 x131 x132 x133 x134 x135 x136 x137 x138 x139 x140 x141 x142 x143 x144 x145 x146 x147 x148 x149 x150 x151 x152 x153 x154 x155 x156 x157 x158 x159 x160 x161 x162 x163 x164 x165 x166:Value} {p q cK:Nat} {ks:List Int} {AK:Option Addr} {S:Str} {J:Jn}
  (h:St W I w (Zq11 p S::jnHP q p J::l)) (hI:IntsI I (.slice AK ks.length cK) ks) (ht:TG S J 0) (hn:ks.length≤40)
  (hQ:∀ (y0 y1 y2 y5 y6 y7 y8 y9 y10 y14 y15 y16 y17 y18 y19 y20 y21 y22 y23 y24 y25 y26 y27 y28 y29 y30 y31 y32 y33 y34 y35 y36 y37 y38 y39 y40 y41 y42 y43 y44 y45 y46 y47 y48 y49 y50 y51 y52 y53 y54 y55 y56 y57 y58 y59 y60 y61 y62 y63 y64 y65 y66 y67 y68 y69 y70 y71 y72 y73 y74 y75 y76 y77 y78 y79 y80 y81 y82 y83 y84 y85 y86 y87 y88 y89 y90 y91 y92 y93 y94 y95 y96 y97 y98 y99 y100 y101 y102 y103 y104 y105 y106 y107 y108 y109 y110 y111 y112 y113 y114 y115 y116 y117 y118 y119 y120 y121 y122 y123 y124 y125 y126 y127 y128 y129 y130 y131 y132 y133 y134 y135 y136 y137 y138 y139 y140 y141 y142 y143 y144 y145 y146 y147 y148 y149 y150 y151 y152 y153 y154 y155 y156 y157 y158 y159 y160 y161 y162 y163 y164 y165 y166:Value) (I':Hp) (w':World) (S':Str) (J':Jn) (A':Option Addr) (c':Nat),I.sub I'→St W I' w' (HP.row 3 1 (.slice A' J'.l.length c') J'.l.length ((J'.l.map (·.tag)).map intV)::Zq11 p S'::jnHP q p J'::l)→TG S' J' ks.length →
    Q .normal ⟨#[y0,y1,y2,.slice AK ks.length cK,x4,y5,y6,y7,y8,y9,y10,.pointer (some ⟨p,0,none⟩),.pointer (some ⟨q,0,none⟩),.slice A' J'.l.length c',y14,y15,y16,y17,y18,y19,y20,y21,y22,y23,y24,y25,y26,y27,y28,y29,y30,y31,y32,y33,y34,y35,y36,y37,y38,y39,y40,y41,y42,y43,y44,y45,y46,y47,y48,y49,y50,y51,y52,y53,y54,y55,y56,y57,y58,y59,y60,y61,y62,y63,y64,y65,y66,y67,y68,y69,y70,y71,y72,y73,y74,y75,y76,y77,y78,y79,y80,y81,y82,y83,y84,y85,y86,y87,y88,y89,y90,y91,y92,y93,y94,y95,y96,y97,y98,y99,y100,y101,y102,y103,y104,y105,y106,y107,y108,y109,y110,y111,y112,y113,y114,y115,y116,y117,y118,y119,y120,y121,y122,y123,y124,y125,y126,y127,y128,y129,y130,y131,y132,y133,y134,y135,y136,y137,y138,y139,y140,y141,y142,y143,y144,y145,y146,y147,y148,y149,y150,y151,y152,y153,y154,y155,y156,y157,y158,y159,y160,y161,y162,y163,y164,y165,y166],[]⟩ w') :
  ca.wp Tryz.prog (Exit.then K Q) ⟨#[x0,x1,x2,.slice AK ks.length cK,x4,x5,x6,x7,x8,x9,x10,.pointer (some ⟨p,0,none⟩),.pointer (some ⟨q,0,none⟩),.slice none 0 0,x14,x15,x16,x17,x18,x19,x20,x21,x22,x23,x24,x25,x26,x27,x28,x29,x30,x31,x32,x33,x34,x35,x36,x37,x38,x39,x40,x41,x42,x43,x44,x45,x46,x47,x48,x49,x50,x51,x52,x53,x54,x55,x56,x57,x58,x59,x60,x61,x62,x63,x64,x65,x66,x67,x68,x69,x70,x71,x72,x73,x74,x75,x76,x77,x78,x79,x80,x81,x82,x83,x84,x85,x86,x87,x88,x89,x90,x91,x92,x93,x94,x95,x96,x97,x98,x99,x100,x101,x102,x103,x104,x105,x106,x107,x108,x109,x110,x111,x112,x113,x114,x115,x116,x117,x118,x119,x120,x121,x122,x123,x124,x125,x126,x127,x128,x129,x130,x131,x132,x133,x134,x135,x136,x137,x138,x139,x140,x141,x142,x143,x144,x145,x146,x147,x148,x149,x150,x151,x152,x153,x154,x155,x156,x157,x158,x159,x160,x161,x162,x163,x164,x165,x166],[]⟩ w:=by
 injection hC with hC
 injection hC with hC1 hC2
 subst hC1 hC2
 have H0:=Zh (h.row_nil 3 1)
 have HI:=Zh hI
 have HT:=Zh ht
 have HQ:=Zh hQ
 have HJL:=Zh (show J.l=[] from List.eq_nil_of_length_eq_zero (by have:=ht.len;omega))
 have hn1:(ks.length:Int)≤40:=by omega
 clear h hI ht hQ
 go_wp2_with fail
 go_loopw [13,14] (fun a13 a14 wr=>∃ (i:Nat) (I':Hp) (S':Str) (J':Jn) (A':Option Addr) (c':Nat),a14=.int .i64 i∧a13=.slice A' J'.l.length c'∧i≤ks.length∧I.sub I'∧St W I' wr (HP.row 3 1 (.slice A' J'.l.length c') J'.l.length ((J'.l.map (·.tag)).map intV)::Zq11 p S'::jnHP q p J'::l)∧TG S' J' i) (fun _ a14 _=>ks.length - (intOf a14).toNat)
 case atStart=>exact ⟨0,I,S,J,none,0,rfl,by rw [HJL.out];rfl,Nat.zero_le _,Hp.sub.refl _,by rw [HJL.out];exact H0.out,HT.out⟩
 case round =>
  obtain ⟨i,I2,S2,J2,A2,c2,rfl,rfl,hi,hs2,h2,ht2⟩:=hrel
  clear H0 HT HJL
  have HS2:=Zh hs2
  have HT2:=Zh ht2
  by_cases hlt:i<ks.length
  ·have d0:decide ((i:Int)<(ks.length:Int))=true:=decide_eq_true (by omega)
   obtain ⟨x,hx⟩:∃ x,ks[i]?=some x:=⟨_,List.getElem?_eq_getElem hlt⟩
   obtain ⟨b,off,rfl,hxc⟩:=(show IntsI I2 (.slice AK ks.length cK) ks from RowI.mono hs2 HI.out).cells hx
   have HXC:=Zh (fun (I':Hp) (w':World) (L:List HP) (hs:I2.sub I') (hw':St W I' w' L)=>hxc hs hw')
   have HCH:=Zh (jchain_spec (h2.pull 2 _ rfl) (by have:=ht2.few;omega))
   obtain ⟨w2,hww⟩:∃ x,x=wr:=⟨_,rfl⟩
   rw [←hww] at HCH ⊢
   clear hs2 h2 ht2 hx hxc hww
   go_wp2_with fail
   refine HCH.out.mono ?_
   rintro e w3 ⟨I3,v3,hs3,rfl,hr3,h3⟩
   obtain ⟨A3,c3,rfl,hx⟩:=id hr3
   clear hx
   have y0:=HXC.out _ _ _ hs3 h3
   have HS3:=Zh hs3
   have HR3:=Zh hr3
   have H3:=Zh h3
   obtain ⟨xm,hx4⟩:∃ y,x % 4=y:=⟨_,rfl⟩
   have hand:bits .and .i64 x 3=xm:=(Zq816 x).trans hx4
   clear h3 hs3 hr3 HCH hx4
   by_cases hlead:xm=0∧J2.r.tags.length<30
   ·obtain ⟨rfl,hl30⟩:=hlead
    have d1:decide ((J2.r.tags.length:Int)<30)=true:=decide_eq_true (by omega)
    have d1n:decide (J2.r.tags.length<30)=true:=decide_eq_true hl30
    go_upto_region 12 with fail
    have HENDS:=Zh (fun (w':World) (L:List HP) (h:St W I3 w' (jnHP q p J2::L))=>Zq93 h HT2.out.ok.jb)
    have HY:=Zh (fun (w':World) (L:List HP) (h:St W I3 w' L)=>HXC.out _ _ _ HS3.out h)
    have HE:=Zh (HENDS.out _ _ H3.out.drew)
    refine Zq7 (fun w'=>w'.cell? ⟨b,off+i,none⟩=some (.int .i64 x)) [0,1,2,4,5,6,7,8] [3,9] [10,11] (by kernel_rfl) (by kernel_rfl) (by (exact HY.out _ _ H3.out.drew)) ?_
    simp only [pickL,Zl6,Zl7]
    repeat (refine Zq8 _ (Or.inl ⟨by rfl,by (intro w hSw;(try dsimp only at hSw);go_simp;try with_reducible rfl)⟩) ?_;(try simp only [Act.put,List.setIfInBounds_toArray,Zl4,Zl5]))
    refine Zq10 ?_
    unfold Zq14
    go_wp2_with fail
    refine HE.out.mono ?_
    rintro e w4 ⟨rfl,hb4⟩
    have h4:=H3.out.drew.keep hb4
    have y4:=HY.out _ _ h4
    have HGR:=Zh (grown16_spec A3 c3 J2.r.tags (endJ J2) 0 (x / 4) h4 HR3.out (by have:=HT2.out.few;omega) (by have:=HT2.out.ends;have:=HT2.out.len;omega))
    have H4:=Zh h4
    clear h4 hb4 HE
    go_wp2_with fail
    refine Zq1 y4 ?_
    unfold Zq14
    clear y4 y0
    go_wp2_with fail
    refine HGR.out.mono ?_
    rintro e w5 ⟨I5,A5,c5,hs5,rfl,hr5,h5⟩
    have y5:=HXC.out _ _ _ (HS3.out.trans hs5) h5
    obtain ⟨S6,J6,hle,ht6,hJl⟩:=HT2.out.grown (by omega) hl30 (x / 4)
    have hlead:=jlead_spec (m:=0) A5 c5 (grownT J2.r.tags (endJ J2) 0 (x / 4)) (some J2.r) (h5.pull 2 _ rfl) (HT2.out.ks.fewer (by omega)) HT2.out.ok.jb hr5 (by rw [grownT_len];omega) HT2.out.ok.jrec
    rw [hle] at hlead
    have HLD:=Zh hlead
    have HT6:=Zh ht6
    have HJ6:=Zh hJl
    have HS5:=Zh (HS3.out.trans hs5)
    clear h5 hs5 hlead hle ht6 hJl hr5 HGR H4 HENDS HY hl30
    go_wp2_with fail
    refine Zq1 y5 ?_
    unfold Zq14
    clear y5
    go_wp2_with fail
    refine HLD.out.mono ?_
    rintro e w6 ⟨I6,hs6,rfl,h6⟩
    have H6:=Zh h6
    have HS6:=Zh hs6
    clear h6 hs6 HLD
    go_wp2_with fail
    refine NoPanic.normal ?_
    go_wp2_with fail
    go_roundw
    case rel=>exact ⟨i+1,I6,S6,J6,A2,c2,by go_num,by rw [HJ6.out],by omega,HS2.out.trans (HS5.out.trans HS6.out),by rw [HJ6.out];exact H6.out.pull 2 _ rfl,HT6.out⟩
    case measure=>first|(simp [intOf];done)|(simp [intOf];omega)|fail
   ·have hno:(xm=0∧¬ J2.r.tags.length<30)∨xm≠0:=by
     by_cases q:xm=0
     ·exact .inl ⟨q,fun h=>hlead ⟨q,h⟩⟩
     ·exact .inr q
    clear hlead
    obtain ⟨n1,hn1⟩:∃ n1,J2.r.tags.length=n1+1:=⟨J2.r.tags.length - 1,by have:=HT2.out.good.one;omega⟩
    have hfew:=HT2.out.few
    rw [hn1] at hno hfew
    have hr3:=HR3.out
    rw [hn1] at hr3
    have HR3':=Zh hr3
    have HN1:=Zh hn1
    rw [hn1]
    obtain ⟨xb,hxb,hxbb⟩:∃ y,IntKind.u8.wrap x=y∧isByte y:=⟨_,rfl,by rw [IntKind.wrap_u8];unfold isByte;omega⟩
    obtain ⟨I4,hs4,hb4,h4⟩:=Zq308 (H3.out.alloc (.cells #[.int .u8 xb] 5))
    have hap:=Zq156 (m:=90000 - 20*i - 10) [xb] _ _ (h4.pull 2 _ rfl) (HT2.out.ks.fewer (by omega)) HT2.out.ok.jb hb4 (by intro y hy;rw [List.mem_singleton.1 hy];exact hxbb) (HT2.out.ok.six HT2.out.calm (by simp) _)
    have hnf:fitsJ J2 [(([xb]:List Int).length:Int)]=false→Zq44 S2 J2 [xb]=((0,6),S2,J2):=fun hf=>by
     unfold Zq44
     rw [if_neg (by simp [HT2.out.ok.may]),if_neg (by simp),if_pos hf]
    have hyf:=fun hf=>HT2.out.append (d:=[xb]) (by omega) (by simp) (by intro y hy;rw [List.mem_singleton.1 hy];exact hxbb) hf
    obtain ⟨⟨⟨rn,re⟩,RS,RJ⟩,hRR⟩:∃ x,x=Zq44 S2 J2 [xb]:=⟨_,rfl⟩
    rw [←hRR] at hap hnf hyf
    simp only at hap
    have HAP:=Zh hap
    have HNF:=Zh hnf
    have HYF:=Zh hyf
    have HS4:=Zh (HS3.out.trans hs4)
    have HXB:=Zh hxb
    have HSI4:=Zh hs4
    clear hn1 hr3 hs4 hb4 h4 hap hnf hyf hRR hxbb HR3
    have w9:IntKind.i64.wrap ((n1:Int)+1 - 1)=(n1:Int):=by rw [IntKind.wrap_i64];omega
    have d3:decide ((0:Int)<(n1:Int)+1)=true:=decide_eq_true (by omega)
    rcases hno with ⟨rfl,hge⟩|hne
    all_goals
     first
     |(have d1:decide ((n1:Int)+1<30)=false:=decide_eq_false (by omega))
     |(have d1:decide (xm=0)=false:=decide_eq_false hne)
     | fail
     go_upto_region 14 with fail
     have hxb:=HXB.out
     go_wp2_with fail
     refine HAP.out.mono ?_
     rintro e w6 ⟨I6,hs6,rfl,h6⟩
     have HS6:=Zh hs6
     have H6:=Zh (h6.pull 2 _ rfl)
     clear h6 hs6 HAP y0
     cases hfit:fitsJ J2 [(([xb]:List Int).length:Int)] with
     | false =>
      have hq:=HNF.out hfit
      simp only [Prod.mk.injEq] at hq
      obtain ⟨⟨rfl,rfl⟩,rfl,rfl⟩:=hq
      clear hfit
      go_wp2_with fail
      go_roundw
      case rel=>exact ⟨i+1,I6,RS,RJ,A2,c2,by go_num,rfl,by omega,HS2.out.trans (HS4.out.trans HS6.out),H6.out,HT2.out.later (by omega)⟩
      case measure=>first|(simp [intOf];done)|(simp [intOf];omega)|fail
     | true =>
      obtain ⟨n,S',J',hq,ht',htg⟩:=HYF.out hfit
      simp only [Prod.mk.injEq] at hq
      obtain ⟨⟨rfl,rfl⟩,rfl,rfl⟩:=hq
      obtain ⟨A9,c9,e9,_,hat⟩:=Zq253 H6.out (by rw [HN1.out];exact RowI.mono (HSI4.out.trans HS6.out) HR3'.out:RowI I6 4 (.slice A3 J2.r.tags.length c3) J2.r.tags.length (flat J2.r.tags))
      simp only [Value.slice.injEq] at e9
      obtain ⟨rfl,hx1,hx2⟩:=e9
      obtain ⟨b2,o2,t,rfl,hb2,ht,k0,k1,k2,k3⟩:=hat.at_ (k:=n1) (by rw [HN1.out];omega)
      have hlast:(J2.r.tags.getLast?.map Tag.id).getD 0=t.id:=by
       rw [List.getLast?_eq_getElem?,HN1.out,Nat.add_sub_cancel,ht];rfl
      obtain ⟨v7,w7,hr7,h7⟩:=St.ints_append 28 (H6.out.keep (Zq6 w6 (.cells #[.int .i64 t.id] 3))) (int_src w6 t.id) (by have:=HT2.out.len;omega)
      obtain ⟨A7,c7,rfl⟩:=Zq17 h7.row_owns
      have hlen:RJ.l.length=J2.l.length+1:=by
       have:=congrArg List.length htg
       simpa using this
      have hrow:(J2.l.map (·.tag)).map intV++[.int .i64 t.id]=(RJ.l.map (·.tag)).map intV:=by rw [htg,hlast,List.map_append];rfl
      rw [hrow] at h7
      rw [←hlen] at hr7 h7
      have HR7:=Zh hr7
      have H7:=Zh h7
      have HT7:=Zh ht'
      clear hfit ht' htg hat hlast hlen hrow hr7 h7 ht hx1 hx2 k1 k2 k3
      go_wp2_with (at_builtin;refine Lib.wpList_append_run _ rfl (.tmp 90) (.tmp 98) 28 28 rfl _ _ rfl rfl _ _ HR7.out ?_)
      go_roundw
      case rel=>exact ⟨i+1,I6,RS,RJ,A7,c7,by go_num,rfl,by omega,HS2.out.trans (HS4.out.trans HS6.out),H7.out,HT7.out⟩
      case measure=>first|(simp [intOf];done)|(simp [intOf];omega)|fail
  ·obtain rfl:i=ks.length:=by omega
   have d0:decide (((ks.length:Nat):Int)<(ks.length:Int))=false:=decide_eq_false (by omega)
   have H2:=Zh h2
   clear h2 hs2 ht2
   go_wp2_with fail
   exact HQ.out _ _ _ _ _ _ _ _ _ _ _ _ _ _ _ _ _ _ _ _ _ _ _ _ _ _ _ _ _ _ _ _ _ _ _ _ _ _ _ _ _ _ _ _ _ _ _ _ _ _ _ _ _ _ _ _ _ _ _ _ _ _ _ _ _ _ _ _ _ _ _ _ _ _ _ _ _ _ _ _ _ _ _ _ _ _ _ _ _ _ _ _ _ _ _ _ _ _ _ _ _ _ _ _ _ _ _ _ _ _ _ _ _ _ _ _ _ _ _ _ _ _ _ _ _ _ _ _ _ _ _ _ _ _ _ _ _ _ _ _ _ _ _ _ _ _ _ _ _ _ _ _ _ _ _ _ _ _ _ _ _ _ I2 _ S2 J2 A2 c2 HS2.out H2.out HT2.out
theorem cell_lt16 {b i:Nat} {v:Value} (h:w.cell? ⟨b,i,none⟩=some v):b<w.heap.size:=by
 by_cases hb:b<w.heap.size
 ·exact hb
 ·exfalso
  unfold World.cell? at h
  simp [Array.getElem?_eq_none (by omega:w.heap.size≤b)] at h
theorem tags_loop2 {ca cb:Code} {Q:Exit→Act→World→Prop} {K:Act→World→Prop} (hK:∀ x y,cb.wp Tryz.prog Q x y→K x y) (hC:(Tryz.f7).body.bind (fromR 31)=some (.seq ca cb)) {x0 x1 x2 x3 x4 x5 x6 x7 x8 x9 x10 x11 x12 x14 x15 x16 x17 x18 x19 x20 x21 x22 x24 x25 x26 x27 x28 x29 x30 x31 x32 x33 x34 x35 x36 x37 x38 x39 x40 x41 x42 x43 x44 x45 x46 x47 x48 x49 x50 x51 x52 x53 x54 x55 x56 x57 x58 x59 x60 x61 x62 x63 x64 x65 x66 x67 x68 x69 x70 x71 x72 x73 x74 x75 x76 x77 x78 x79 x80 x81 x82 x83 x84 x85 x86 x87 x88 x89 x90 x91 x92 x93 x94 x95 x96 x97 x98 x99 x100 x101 x102 x103 x104 x105 x106 x107 x108 x109 x110 x111 x112 x113 x114 x115 x116 x117 x118 x119 x120 x121 x122 x123 x124 x125 x126 x127 x128 x129 x130 x131 x132 x133 x134 x135 x136 x137 x138 x139 x140 x141 x142 x143 x144 x145 x146 x147 x148 x149 x150 x151 x152 x153 x154 x155 x156 x157 x158 x159 x160 x161 x162 x163 x164 x165 x166:Value} {cX c:Nat} {es:List En} {AX A:Option Addr}
  (h:St W I w (Zq25 (.slice AX es.length cX) es::HP.row 3 1 (.slice A es.length c) es.length ((es.map (·.tag)).map intV)::l)) (hn:es.length≤300)
  (hQ:∀ (y0 y1 y2 y3 y4 y5 y6 y7 y8 y9 y10 y11 y12 y13 y14 y15 y16 y17 y18 y19 y20 y21 y22 y23 y24 y25 y26 y27 y28 y29 y30 y31 y32 y33 y34 y35 y36 y37 y38 y39 y40 y41 y42 y43 y44 y45 y46 y47 y48 y49 y50 y51 y52 y53 y54 y55 y56 y57 y58 y59 y60 y61 y62 y63 y64 y65 y66 y67 y68 y69 y70 y71 y72 y73 y74 y75 y76 y77 y78 y79 y80 y81 y82 y83 y84 y85 y86 y87 y88 y89 y90 y91 y92 y93 y94 y95 y96 y97 y98 y99 y100 y101 y102 y103 y104 y105 y106 y107 y108 y109 y110 y111 y112 y113 y114 y115 y116 y117 y118 y119 y120 y121 y122 y123 y124 y125 y126 y127 y128 y129 y130 y131 y132 y133 y134 y135 y136 y137 y138 y139 y140 y141 y142 y143 y144 y145 y146 y147 y148 y149 y150 y151 y152 y153 y154 y155 y156 y157 y158 y159 y160 y161 y162 y163 y164 y165 y166:Value) (w':World),Below W.heap.size W w'→Q .normal ⟨#[y0,y1,y2,y3,y4,y5,y6,y7,y8,y9,y10,y11,y12,y13,y14,y15,y16,y17,y18,y19,y20,y21,y22,y23,y24,y25,y26,y27,y28,y29,y30,y31,y32,y33,y34,y35,y36,y37,y38,y39,y40,y41,y42,y43,y44,y45,y46,y47,y48,y49,y50,y51,y52,y53,y54,y55,y56,y57,y58,y59,y60,y61,y62,y63,y64,y65,y66,y67,y68,y69,y70,y71,y72,y73,y74,y75,y76,y77,y78,y79,y80,y81,y82,y83,y84,y85,y86,y87,y88,y89,y90,y91,y92,y93,y94,y95,y96,y97,y98,y99,y100,y101,y102,y103,y104,y105,y106,y107,y108,y109,y110,y111,y112,y113,y114,y115,y116,y117,y118,y119,y120,y121,y122,y123,y124,y125,y126,y127,y128,y129,y130,y131,y132,y133,y134,y135,y136,y137,y138,y139,y140,y141,y142,y143,y144,y145,y146,y147,y148,y149,y150,y151,y152,y153,y154,y155,y156,y157,y158,y159,y160,y161,y162,y163,y164,y165,y166],[]⟩ w') :
  ca.wp Tryz.prog (Exit.then K Q) ⟨#[x0,x1,x2,x3,x4,x5,x6,x7,x8,x9,x10,x11,x12,.slice A es.length c,x14,x15,x16,x17,x18,x19,x20,x21,x22,.slice AX es.length cX,x24,x25,x26,x27,x28,x29,x30,x31,x32,x33,x34,x35,x36,x37,x38,x39,x40,x41,x42,x43,x44,x45,x46,x47,x48,x49,x50,x51,x52,x53,x54,x55,x56,x57,x58,x59,x60,x61,x62,x63,x64,x65,x66,x67,x68,x69,x70,x71,x72,x73,x74,x75,x76,x77,x78,x79,x80,x81,x82,x83,x84,x85,x86,x87,x88,x89,x90,x91,x92,x93,x94,x95,x96,x97,x98,x99,x100,x101,x102,x103,x104,x105,x106,x107,x108,x109,x110,x111,x112,x113,x114,x115,x116,x117,x118,x119,x120,x121,x122,x123,x124,x125,x126,x127,x128,x129,x130,x131,x132,x133,x134,x135,x136,x137,x138,x139,x140,x141,x142,x143,x144,x145,x146,x147,x148,x149,x150,x151,x152,x153,x154,x155,x156,x157,x158,x159,x160,x161,x162,x163,x164,x165,x166],[]⟩ w:=by
 injection hC with hC
 injection hC with hC1 hC2
 subst hC1 hC2
 have H0:=Zh h
 have HQ:=Zh hQ
 have hn1:(es.length:Int)≤300:=by omega
 clear h hQ
 go_wp2_with fail
 go_loopw [25] (fun a25 wr=>∃ (i:Nat),a25=.int .i64 i∧i≤es.length∧St W I wr (Zq25 (.slice AX es.length cX) es::HP.row 3 1 (.slice A es.length c) es.length ((es.map (·.tag)).map intV)::l)) (fun a25 _=>es.length - (intOf a25).toNat)
 case atStart=>exact ⟨0,rfl,Nat.zero_le _,H0.out⟩
 case round =>
  obtain ⟨i,rfl,hi,h2⟩:=hrel
  clear H0
  by_cases hlt:i<es.length
  ·have d0:decide ((i:Int)<(es.length:Int))=true:=decide_eq_true (by omega)
   obtain ⟨e,he⟩:∃ e,es[i]?=some e:=⟨_,List.getElem?_eq_getElem hlt⟩
   obtain ⟨g1,q1,c1,v1,e1,hg1,hb1,hy1,x0,x1,x2⟩:=h2.ents_cell he
   have hro:=(h2.pull 1 _ rfl).row_owns
   obtain ⟨g2,rfl⟩:∃ g,A=some ⟨g,0,none⟩:=by
    rcases hro.2 with ⟨_,e2⟩|⟨g,cap,cur,e1,_⟩
    ·omega
    ·cases e1;exact ⟨g,rfl⟩
   have hye:((es.map (·.tag)).map intV)[i]?=some (.int .i64 e.tag):=by rw [List.getElem?_map,List.getElem?_map,he];rfl
   have y0:=hro.cells (g:=g2) rfl _ _ hye
   rw [add_plain,Nat.zero_add] at y0
   simp only [Value.slice.injEq] at e1
   obtain ⟨rfl,hx1,hx2⟩:=e1
   clear hx1 hx2 x1 x2 hy1 hb1 hro hye
   have H2:=Zh h2
   have hg2:g2<wr.heap.size:=cell_lt16 y0
   have HMK:=Zh (show ∀ w',Below wr.heap.size wr w'→(w'.cell? ⟨g1,q1+i*3,none⟩=some (.int .i64 e.tag)∧w'.cell? ⟨g2,i,none⟩=some (.int .i64 e.tag)) from fun w' hb=>by
    have hc:∀ g o,g<wr.heap.size→w'.cell? ⟨g,o,none⟩=wr.cell? ⟨g,o,none⟩:=fun g o hg=>hb.cell (p:=⟨g,o,none⟩) hg
    rw [hc _ _ hg1,hc _ _ hg2]
    exact ⟨x0,y0⟩)
   obtain ⟨w2,hw2⟩:∃ x,x=wr:=⟨_,rfl⟩
   rw [←hw2] at H2 HMK ⊢
   clear h2 he hg1 hg2 x0 y0 hw2
   go_upto_region 34 with fail
   refine Zq37 (fun w'=>w'.cell? ⟨g1,q1+i*3,none⟩=some (.int .i64 e.tag)∧w'.cell? ⟨g2,i,none⟩=some (.int .i64 e.tag)) [(0,false),(1,false),(2,false),(3,false),(4,false),(5,false),(6,false),(7,false),(8,false),(9,false)] [] [] (by kernel_rfl) (by kernel_rfl) (by (intro w' hb;exact HMK.out _ (((Below.refl _ _).drew).trans hb))) ?_
   repeat (first|(refine Zq52 (by rfl) _ (by rfl) (by intro w;go_simp;try with_reducible rfl) ?_;(try simp only [Act.put,List.setIfInBounds_toArray,Zl4,Zl5]))|(refine Zq118 (by rfl) _ (by rfl) (by (intro w hSw;(try dsimp only at hSw);go_simp;try with_reducible rfl)) ?_;(try simp only [Act.put,List.setIfInBounds_toArray,Zl4,Zl5]))|(refine Zq71 (by rfl) (by rfl) ?_;(try simp only [Act.put,List.setIfInBounds_toArray,Zl4,Zl5]))|fail)
   refine Zq264 ?_
   refine Zq421 ?_
   rintro w9 hz9
   have H9:=Zh (H2.out.drew.keep hz9.below)
   clear hz9 H2 HMK
   go_wp2_with fail
   refine NoPanic.normal ?_
   go_wp2_with fail
   go_roundw
   case rel=>exact ⟨i+1,by go_num,by omega,H9.out⟩
   case measure=>first|(simp [intOf];done)|(simp [intOf];omega)|fail
  ·obtain rfl:i=es.length:=by omega
   have d0:decide (((es.length:Nat):Int)<(es.length:Int))=false:=decide_eq_false (by omega)
   have HB:=Zh h2.below
   clear h2
   go_wp2_with fail
   exact HQ.out _ _ _ _ _ _ _ _ _ _ _ _ _ _ _ _ _ _ _ _ _ _ _ _ _ _ _ _ _ _ _ _ _ _ _ _ _ _ _ _ _ _ _ _ _ _ _ _ _ _ _ _ _ _ _ _ _ _ _ _ _ _ _ _ _ _ _ _ _ _ _ _ _ _ _ _ _ _ _ _ _ _ _ _ _ _ _ _ _ _ _ _ _ _ _ _ _ _ _ _ _ _ _ _ _ _ _ _ _ _ _ _ _ _ _ _ _ _ _ _ _ _ _ _ _ _ _ _ _ _ _ _ _ _ _ _ _ _ _ _ _ _ _ _ _ _ _ _ _ _ _ _ _ _ _ _ _ _ _ _ _ _ _ _ _ _ _ _ HB.out
theorem tags_rest {ca cb:Code} {Q:Exit→Act→World→Prop} {K:Act→World→Prop} (hK:∀ x y,cb.wp Tryz.prog Q x y→K x y) (hC:(Tryz.f7).body.bind (fromR 25)=some (.seq ca cb)) {x0 x1 x2 x3 x4 x5 x6 x7 x8 x9 x10 x12 x14 x15 x16 x17 x19 x20 x21 x22 x23 x24 x25 x26 x27 x28 x29 x30 x31 x32 x33 x34 x35 x36 x37 x38 x39 x40 x41 x42 x43 x44 x45 x46 x47 x48 x49 x50 x51 x52 x53 x54 x55 x56 x57 x58 x59 x60 x61 x62 x63 x64 x65 x66 x67 x68 x69 x70 x71 x72 x73 x74 x75 x76 x77 x78 x79 x80 x81 x82 x83 x84 x85 x86 x87 x88 x89 x90 x91 x92 x93 x94 x95 x96 x97 x98 x99 x100 x101 x102 x103 x104 x105 x106 x107 x108 x109 x110 x111 x112 x113 x114 x115 x116 x117 x118 x119 x120 x121 x122 x123 x124 x125 x126 x127 x128 x129 x130 x131 x132 x133 x134 x135 x136 x137 x138 x139 x140 x141 x142 x143 x144 x145 x146 x147 x148 x149 x150 x151 x152 x153 x154 x155 x156 x157 x158 x159 x160 x161 x162 x163 x164 x165 x166:Value} {p q c:Nat} {A:Option Addr} {S6:Str} {J:Jn}
  (h6:St W I w (Zq11 p S6::jnHP q p (safeJ J)::HP.row 3 1 (.slice A J.l.length c) J.l.length ((J.l.map (·.tag)).map intV)::l)) (hj6:JOK S6 (safeJ J)) (ha6:S6.armed=false) (hk6:Keeps S6 60000) (hf:J.r.first=1) (hn:J.l.length≤40)
  (hQ:∀ (y0 y1 y2 y3 y4 y5 y6 y7 y8 y9 y11 y12 y13 y14 y15 y16 y17 y18 y19 y20 y21 y22 y23 y24 y25 y26 y27 y28 y29 y30 y31 y32 y33 y34 y35 y36 y37 y38 y39 y40 y41 y42 y43 y44 y45 y46 y47 y48 y49 y50 y51 y52 y53 y54 y55 y56 y57 y58 y59 y60 y61 y62 y63 y64 y65 y66 y67 y68 y69 y70 y71 y72 y73 y74 y75 y76 y77 y78 y79 y80 y81 y82 y83 y84 y85 y86 y87 y88 y89 y90 y91 y92 y93 y94 y95 y96 y97 y98 y99 y100 y101 y102 y103 y104 y105 y106 y107 y108 y109 y110 y111 y112 y113 y114 y115 y116 y117 y118 y119 y120 y121 y122 y123 y124 y125 y126 y127 y128 y129 y130 y131 y132 y133 y134 y135 y136 y137 y138 y139 y140 y141 y142 y143 y144 y145 y146 y147 y148 y149 y150 y151 y152 y153 y154 y155 y156 y157 y158 y159 y160 y161 y162 y163 y164 y165 y166:Value) (w':World),Below W.heap.size W w'→Q .ret ⟨#[y0,y1,y2,y3,y4,y5,y6,y7,y8,y9,.bool true,y11,y12,y13,y14,y15,y16,y17,y18,y19,y20,y21,y22,y23,y24,y25,y26,y27,y28,y29,y30,y31,y32,y33,y34,y35,y36,y37,y38,y39,y40,y41,y42,y43,y44,y45,y46,y47,y48,y49,y50,y51,y52,y53,y54,y55,y56,y57,y58,y59,y60,y61,y62,y63,y64,y65,y66,y67,y68,y69,y70,y71,y72,y73,y74,y75,y76,y77,y78,y79,y80,y81,y82,y83,y84,y85,y86,y87,y88,y89,y90,y91,y92,y93,y94,y95,y96,y97,y98,y99,y100,y101,y102,y103,y104,y105,y106,y107,y108,y109,y110,y111,y112,y113,y114,y115,y116,y117,y118,y119,y120,y121,y122,y123,y124,y125,y126,y127,y128,y129,y130,y131,y132,y133,y134,y135,y136,y137,y138,y139,y140,y141,y142,y143,y144,y145,y146,y147,y148,y149,y150,y151,y152,y153,y154,y155,y156,y157,y158,y159,y160,y161,y162,y163,y164,y165,y166],[]⟩ w') :
  ca.wp Tryz.prog (Exit.then K Q) ⟨#[x0,x1,x2,x3,x4,x5,x6,x7,x8,x9,x10,.pointer (some ⟨p,0,none⟩),x12,.slice A J.l.length c,x14,x15,x16,x17,.int .i64 (J.l.length:Nat),x19,x20,x21,x22,x23,x24,x25,x26,x27,x28,x29,x30,x31,x32,x33,x34,x35,x36,x37,x38,x39,x40,x41,x42,x43,x44,x45,x46,x47,x48,x49,x50,x51,x52,x53,x54,x55,x56,x57,x58,x59,x60,x61,x62,x63,x64,x65,x66,x67,x68,x69,x70,x71,x72,x73,x74,x75,x76,x77,x78,x79,x80,x81,x82,x83,x84,x85,x86,x87,x88,x89,x90,x91,x92,x93,x94,x95,x96,x97,x98,x99,x100,x101,x102,x103,x104,x105,x106,x107,x108,x109,x110,x111,x112,x113,x114,x115,x116,x117,x118,x119,x120,x121,x122,x123,x124,x125,x126,x127,x128,x129,x130,x131,x132,x133,x134,x135,x136,x137,x138,x139,x140,x141,x142,x143,x144,x145,x146,x147,x148,x149,x150,x151,x152,x153,x154,x155,x156,x157,x158,x159,x160,x161,x162,x163,x164,x165,x166],[]⟩ w:=by
 injection hC with hC
 injection hC with hC1 hC2
 subst hC1 hC2
 have HF:=Zh (show (Zq40 (safeJ J)).l=J.l∧(Zq40 (safeJ J)).r.first=1∧J.l.length≤40 from ⟨rfl,hf,hn⟩)
 have HO:=Zh (Zq356 (m:=50000) h6 hj6.any ha6 (hk6.fewer (by omega)))
 have HQ:=Zh hQ
 clear h6 hj6 ha6 hk6 hf hn hQ
 go_wp2_with fail
 refine HO.out.mono ?_
 rintro e w7 ⟨I7,q7,S7,hs7,rfl,h7,hj7,ha7,hl7,hk7⟩
 obtain ⟨G,hG⟩:∃ x,x=Zq40 (safeJ J):=⟨_,rfl⟩
 rw [←hG] at h7 hj7 HF
 obtain ⟨hG1,hG2,hG3⟩:=HF.out
 have hrd:=Zq793 hj7 hG2 (by rw [hG1];omega)
 rw [hG1] at hrd
 have hrs:=Zq453 0 1048576 h7 hj7.jb (by decide) hj7.okB
 rw [hrd,hj7.may2] at hrs
 have HRS:=Zh hrs
 clear h7 hs7 hj7 ha7 hl7 hk7 hG hG1 hG2 hrd hrs HF HO
 go_wp2_with fail
 refine HRS.out.mono ?_
 rintro e w9 ⟨I9,v9,hs9,rfl,h9⟩
 obtain ⟨Ax,cx,rfl,_⟩:=h9.ents_slice
 have H9:=Zh h9
 clear h9 hs9 HRS
 have hg3':(J.l.length:Int)≤40:=by omega
 go_upto_region 31 with fail
 refine tags_loop2 (by assumption) (by kernel_rfl) ((H9.out.pull 4 _ rfl).pull 1 _ rfl) (by omega) ?_
 intro _ _ _ _ _ _ _ _ _ _ _ _ _ _ _ _ _ _ _ _ _ _ _ _ _ _ _ _ _ _ _ _ _ _ _ _ _ _ _ _ _ _ _ _ _ _ _ _ _ _ _ _ _ _ _ _ _ _ _ _ _ _ _ _ _ _ _ _ _ _ _ _ _ _ _ _ _ _ _ _ _ _ _ _ _ _ _ _ _ _ _ _ _ _ _ _ _ _ _ _ _ _ _ _ _ _ _ _ _ _ _ _ _ _ _ _ _ _ _ _ _ _ _ _ _ _ _ _ _ _ _ _ _ _ _ _ _ _ _ _ _ _ _ _ _ _ _ _ _ _ _ _ _ _ _ _ _ _ _ _ _ _ _ _ _ _ _ w18 hb18
 go_wp2_with fail
 refine (Zq64 _).mono ?_
 rintro e w19 ⟨rfl,hb19⟩
 have HB19:=Zh (hb18.trans (hb19.mono hb18.size))
 clear hb18 hb19
 go_wp2_with fail
 exact HQ.out _ _ _ _ _ _ _ _ _ _ _ _ _ _ _ _ _ _ _ _ _ _ _ _ _ _ _ _ _ _ _ _ _ _ _ _ _ _ _ _ _ _ _ _ _ _ _ _ _ _ _ _ _ _ _ _ _ _ _ _ _ _ _ _ _ _ _ _ _ _ _ _ _ _ _ _ _ _ _ _ _ _ _ _ _ _ _ _ _ _ _ _ _ _ _ _ _ _ _ _ _ _ _ _ _ _ _ _ _ _ _ _ _ _ _ _ _ _ _ _ _ _ _ _ _ _ _ _ _ _ _ _ _ _ _ _ _ _ _ _ _ _ _ _ _ _ _ _ _ _ _ _ _ _ _ _ _ _ _ _ _ _ _ _ _ _ _ HB19.out
end
end Go.Proofs.YtpjchngjhijgmaaGreat
