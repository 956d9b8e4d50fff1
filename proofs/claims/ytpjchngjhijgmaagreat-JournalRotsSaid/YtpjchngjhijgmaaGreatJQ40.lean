import Derived.Test.YtpjchngjhijgmaaGreatJQ39
set_option linter.all false
namespace Go.Proofs.YtpjchngjhijgmaaGreat
open Go.RowKit
theorem TM.fits {S:Str} {J:Jn} {i:Nat} {d:List Int} (h:TM S J i) (hi:i≤100) (hd:1≤d.length∧d.length≤90) (hb:∀ y ∈ d,isByte y) (ns:List Int) :
  (fitsJ J [(d.length:Int)]=true∧∃ S' J',Zq39 S J d=((endJ J+1,0),S',J')∧TM S' J' (i+1)∧fitsJ J ((d.length:Int)::ns)=fitsJ J' ns∧J'.r.shape=J.r.shape) ∨
  (fitsJ J [(d.length:Int)]=false∧Zq39 S J d=((0,6),S,J)∧fitsJ J ((d.length:Int)::ns)=false∧setsJ J=J.r.shape.sets):=by
 cases hf:fitsJ J [(d.length:Int)] with
 | true =>
  obtain ⟨S',g,pl,nx,hr,e1,e2,_⟩:=h.append hi hd hb hf
  exact .inl ⟨rfl,S',_,e1,e2,Zq710 hr hf ns,rfl⟩
 | false =>
  refine .inr ⟨rfl,h.no hd hf,by rw [Zq486,hf];rfl,Zq487 h.ok (by omega) ?_ hf⟩
  have:=h.ends
  have:=h.len
  omega
theorem Zq535 {ps:List (List Int)} {i:Nat} {d:List Int} (h:ps[i]?=some d):Zq126 (ps.drop i)=(d.length:Int)::Zq126 (ps.drop (i+1)):=by
 obtain ⟨hi,hv⟩:=List.getElem?_eq_some_iff.1 h
 rw [List.drop_eq_getElem_cons hi,hv]
 rfl
section
variable {W w : World} {I : Hp} {l : List HP}
set_option maxRecDepth 4000
set_option maxHeartbeats 8000000
theorem Zq643 {ca cb:Code} {Q:Exit→Act→World→Prop} {K:Act→World→Prop} (hK:∀ x y,cb.wp Tryz.prog Q x y→K x y) (hC:(Tryz.f8).body.bind (fromR 17)=some (.seq ca cb)) {x0 x1 x2 x3 x4 x5 x6 x7 x8 x9 x10 x12 x13 x14 x15 x16 x18 x19 x20 x21 x24 x26 x27 x28 x29 x30 x31 x32 x33 x34 x35 x36 x37 x38 x39 x40 x41 x42 x43 x44 x45 x46 x47 x48 x49 x50 x51 x52 x53 x54 x55 x56 x57 x58 x59 x60 x61 x62 x63 x64 x65 x66 x67 x68 x69 x70 x71 x72 x73 x74 x75 x76 x77 x78 x79 x80 x81 x82 x83 x84 x85 x86 x87 x88 x89 x90 x91 x92 x93 x94 x95 x96 x97 x98 x99 x100 x101 x102 x103 x104 x105 x106 x107 x108 x109 x110 x111 x112 x113 x114 x115 x116 x117 x118 x119 x120 x121 x122 x123 x124 x125 x126 x127 x128 x129 x130 x131 x132 x133 x134 x135 x136 x137 x138 x139 x140 x141 x142 x143 x144 x145 x146 x147 x148 x149 x150 x151 x152 x153 x154 x155 x156 x157 x158 x159 x160 x161 x162 x163 x164 x165 x166 x167 x168 x169 x170 x171 x172 x173:Value} {p q g11:Nat} {one:Bool} {e s:Int} {c:Rg} {S:Str} {J:Jn}
  (h:St W I w (Zq8 p S::jnHP q p J::HP.pt g11 (.cells #[.int .i64 c.splay,.int .i64 c.sets,.int .i64 c.size] 26)::l)) (hj:JOK S J) (hs:setsJ J≤c.sets)
  (ho:(one=true∧e=0)∨(one=false∧e=6∧s=endJ J∧setsJ J=c.sets))
  (hQ:∀ (y93 y94 y95 y96 y97 y98 y99 y100 y101 y102 y103 y104 y105 y106 y107 y108 y109 y110 y111 y112 y113 y114 y115 y116 y117 y118 y119 y120 y121 y122 y123 y124 y125 y126 y127:Value) (w':World),St W I w' (Zq8 p S::jnHP q p J::HP.pt g11 (.cells #[.int .i64 c.splay,.int .i64 c.sets,.int .i64 c.size] 26)::l)→Q .normal ⟨#[x0,x1,x2,x3,x4,x5,x6,x7,x8,x9,x10,.pointer (some ⟨g11,0,none⟩),x12,x13,x14,x15,x16,.pointer (some ⟨q,0,none⟩),x18,x19,x20,x21,.bool one,.int .i64 s,x24,.int .i64 e,x26,x27,x28,x29,x30,x31,x32,x33,x34,x35,x36,x37,x38,x39,x40,x41,x42,x43,x44,x45,x46,x47,x48,x49,x50,x51,x52,x53,x54,x55,x56,x57,x58,x59,x60,x61,x62,x63,x64,x65,x66,x67,x68,x69,x70,x71,x72,x73,x74,x75,x76,x77,x78,x79,x80,x81,x82,x83,x84,x85,x86,x87,x88,x89,x90,x91,x92,y93,y94,y95,y96,y97,y98,y99,y100,y101,y102,y103,y104,y105,y106,y107,y108,y109,y110,y111,y112,y113,y114,y115,y116,y117,y118,y119,y120,y121,y122,y123,y124,y125,y126,y127,.bool false,x129,x130,x131,x132,x133,x134,x135,x136,x137,x138,x139,x140,x141,x142,x143,x144,x145,x146,x147,x148,x149,x150,x151,x152,x153,x154,x155,x156,x157,x158,x159,x160,x161,x162,x163,x164,x165,x166,x167,x168,x169,x170,x171,x172,x173],[]⟩ w') :
  ca.wp Tryz.prog (Exit.then K Q) ⟨#[x0,x1,x2,x3,x4,x5,x6,x7,x8,x9,x10,.pointer (some ⟨g11,0,none⟩),x12,x13,x14,x15,x16,.pointer (some ⟨q,0,none⟩),x18,x19,x20,x21,.bool one,.int .i64 s,x24,.int .i64 e,x26,x27,x28,x29,x30,x31,x32,x33,x34,x35,x36,x37,x38,x39,x40,x41,x42,x43,x44,x45,x46,x47,x48,x49,x50,x51,x52,x53,x54,x55,x56,x57,x58,x59,x60,x61,x62,x63,x64,x65,x66,x67,x68,x69,x70,x71,x72,x73,x74,x75,x76,x77,x78,x79,x80,x81,x82,x83,x84,x85,x86,x87,x88,x89,x90,x91,x92,x93,x94,x95,x96,x97,x98,x99,x100,x101,x102,x103,x104,x105,x106,x107,x108,x109,x110,x111,x112,x113,x114,x115,x116,x117,x118,x119,x120,x121,x122,x123,x124,x125,x126,x127,x128,x129,x130,x131,x132,x133,x134,x135,x136,x137,x138,x139,x140,x141,x142,x143,x144,x145,x146,x147,x148,x149,x150,x151,x152,x153,x154,x155,x156,x157,x158,x159,x160,x161,x162,x163,x164,x165,x166,x167,x168,x169,x170,x171,x172,x173],[]⟩ w:=by
 injection hC with hC
 injection hC with hC1 hC2
 subst hC1 hC2
 obtain ⟨n,hn⟩:∃ n,n=setsJ J:=⟨_,rfl⟩
 have HE:=Zh (fun (w1:World) (L:List HP) (h1:St W I w1 (Zq8 p S::jnHP q p J::L))=>Zq111 (h1.pull 1 _ rfl) hj.jb)
 have HS:=Zh (fun (w1:World) (L:List HP) (h1:St W I w1 (Zq8 p S::jnHP q p J::L))=>Zq254 (h1.pull 1 _ rfl) hj.jb)
 rw [←hn] at HS hs ho
 obtain ⟨en,hen⟩:∃ n,n=endJ J:=⟨_,rfl⟩
 rw [←hen] at HE ho
 have H0:=Zh h
 have HMK:=Zh (show ∀ w',St W I w' (Zq8 p S::jnHP q p J::HP.pt g11 (.cells #[.int .i64 c.splay,.int .i64 c.sets,.int .i64 c.size] 26)::l)→(St W I w' (Zq8 p S::jnHP q p J::HP.pt g11 (.cells #[.int .i64 c.splay,.int .i64 c.sets,.int .i64 c.size] 26)::l)∧w'.cell? ⟨g11,1,none⟩=some (.int .i64 c.sets)) from fun w' h'=>⟨h',(Zq62 (h'.pull 2 _ rfl)).2.1⟩)
 have HQ:=Zh hQ
 have d1:decide (c.sets<n)=false:=decide_eq_false (by omega)
 clear h hj hs hn hen hQ
 rcases ho with ⟨rfl,rfl⟩|⟨rfl,rfl,rfl,hns⟩
 ·go_upto_region 17 with fail
  refine Zq37 (fun w'=>St W I w' (Zq8 p S::jnHP q p J::HP.pt g11 (.cells #[.int .i64 c.splay,.int .i64 c.sets,.int .i64 c.size] 26)::l)∧w'.cell? ⟨g11,1,none⟩=some (.int .i64 c.sets)) [(0,false),(1,false),(2,false),(3,false),(4,false),(5,false),(6,false),(7,false),(8,false),(9,false),(10,false),(11,false),(12,false),(13,false),(14,false),(15,false),(16,false),(17,false),(18,false),(19,false),(20,false),(21,false),(22,false),(23,false),(24,false),(25,false),(26,false),(27,false),(28,false),(29,false),(30,false),(31,false),(32,false),(33,false),(34,false),(35,false)] [] [] (by kernel_rfl) (by kernel_rfl) (by (intro w' hb;exact HMK.out _ (H0.out.drew.keep hb))) ?_
  repeat (first|(refine Zq41 (by rfl) _ (by rfl) (by intro w;go_simp;try with_reducible rfl) ?_;(try simp only [Act.put,List.setIfInBounds_toArray,Zl4,Zl5]))|(refine Zq98 (by rfl) _ (by rfl) (by (intro w hSw;(try dsimp only at hSw);go_simp;try with_reducible rfl)) ?_;(try simp only [Act.put,List.setIfInBounds_toArray,Zl4,Zl5]))|(refine Zq60 (by rfl) (by rfl) ?_;(try simp only [Act.put,List.setIfInBounds_toArray,Zl4,Zl5]))|fail)
  refine Zq109 (by rfl) (.int .i64 n) (30) (#[.pointer (some ⟨q,0,none⟩)]) (by rfl) (by intro w;go_simp;try with_reducible rfl) (by (rintro w1 ⟨h1,_⟩;exact HS.out _ _ h1)) ?_
  (try simp only [Act.put,List.setIfInBounds_toArray,Zl4,Zl5])
  repeat (first|(refine Zq41 (by rfl) _ (by rfl) (by intro w;go_simp;try with_reducible rfl) ?_;(try simp only [Act.put,List.setIfInBounds_toArray,Zl4,Zl5]))|(refine Zq98 (by rfl) _ (by rfl) (by (intro w hSw;(try dsimp only at hSw);go_simp;try with_reducible rfl)) ?_;(try simp only [Act.put,List.setIfInBounds_toArray,Zl4,Zl5]))|(refine Zq60 (by rfl) (by rfl) ?_;(try simp only [Act.put,List.setIfInBounds_toArray,Zl4,Zl5]))|fail)
  refine Zq266 ?_
  refine Zq421 ?_
  rintro w9 hz9
  have H9:=Zh (H0.out.drew.keep hz9.below)
  clear hz9 HS HE HMK H0
  go_wp2_with fail
  refine NoPanic.normal ?_
  go_wp2_with fail
  exact HQ.out _ _ _ _ _ _ _ _ _ _ _ _ _ _ _ _ _ _ _ _ _ _ _ _ _ _ _ _ _ _ _ _ _ _ _ _ H9.out
 ·subst hns
  go_upto_region 17 with fail
  refine Zq37 (fun w'=>St W I w' (Zq8 p S::jnHP q p J::HP.pt g11 (.cells #[.int .i64 c.splay,.int .i64 c.sets,.int .i64 c.size] 26)::l)∧w'.cell? ⟨g11,1,none⟩=some (.int .i64 c.sets)) [(0,false),(1,false),(2,false),(3,false),(4,false),(5,false),(6,false),(7,false),(8,false),(9,false),(10,false),(11,false),(12,false),(13,false),(14,false),(15,false),(16,false),(17,false),(18,false),(19,false),(20,false),(21,false),(22,false),(23,false),(24,false),(25,false),(26,false),(27,false),(28,false),(29,false),(30,false),(31,false),(32,false),(33,false),(34,false),(35,false)] [] [] (by kernel_rfl) (by kernel_rfl) (by (intro w' hb;exact HMK.out _ (H0.out.drew.keep hb))) ?_
  repeat (first|(refine Zq41 (by rfl) _ (by rfl) (by intro w;go_simp;try with_reducible rfl) ?_;(try simp only [Act.put,List.setIfInBounds_toArray,Zl4,Zl5]))|(refine Zq98 (by rfl) _ (by rfl) (by (intro w hSw;(try dsimp only at hSw);go_simp;try with_reducible rfl)) ?_;(try simp only [Act.put,List.setIfInBounds_toArray,Zl4,Zl5]))|(refine Zq60 (by rfl) (by rfl) ?_;(try simp only [Act.put,List.setIfInBounds_toArray,Zl4,Zl5]))|fail)
  refine Zq109 (by rfl) (.int .i64 s) (29) (#[.pointer (some ⟨q,0,none⟩)]) (by rfl) (by intro w;go_simp;try with_reducible rfl) (by (rintro w1 ⟨h1,_⟩;exact HE.out _ _ h1)) ?_
  (try simp only [Act.put,List.setIfInBounds_toArray,Zl4,Zl5])
  repeat (first|(refine Zq41 (by rfl) _ (by rfl) (by intro w;go_simp;try with_reducible rfl) ?_;(try simp only [Act.put,List.setIfInBounds_toArray,Zl4,Zl5]))|(refine Zq98 (by rfl) _ (by rfl) (by (intro w hSw;(try dsimp only at hSw);go_simp;try with_reducible rfl)) ?_;(try simp only [Act.put,List.setIfInBounds_toArray,Zl4,Zl5]))|(refine Zq60 (by rfl) (by rfl) ?_;(try simp only [Act.put,List.setIfInBounds_toArray,Zl4,Zl5]))|fail)
  refine Zq109 (by rfl) (.int .i64 c.sets) (30) (#[.pointer (some ⟨q,0,none⟩)]) (by rfl) (by intro w;go_simp;try with_reducible rfl) (by (rintro w1 ⟨h1,_⟩;exact HS.out _ _ h1)) ?_
  (try simp only [Act.put,List.setIfInBounds_toArray,Zl4,Zl5])
  repeat (first|(refine Zq41 (by rfl) _ (by rfl) (by intro w;go_simp;try with_reducible rfl) ?_;(try simp only [Act.put,List.setIfInBounds_toArray,Zl4,Zl5]))|(refine Zq98 (by rfl) _ (by rfl) (by (intro w hSw;(try dsimp only at hSw);go_simp;try with_reducible rfl)) ?_;(try simp only [Act.put,List.setIfInBounds_toArray,Zl4,Zl5]))|(refine Zq60 (by rfl) (by rfl) ?_;(try simp only [Act.put,List.setIfInBounds_toArray,Zl4,Zl5]))|fail)
  refine Zq109 (by rfl) (.int .i64 c.sets) (30) (#[.pointer (some ⟨q,0,none⟩)]) (by rfl) (by intro w;go_simp;try with_reducible rfl) (by (rintro w1 ⟨h1,_⟩;exact HS.out _ _ h1)) ?_
  (try simp only [Act.put,List.setIfInBounds_toArray,Zl4,Zl5])
  repeat (first|(refine Zq41 (by rfl) _ (by rfl) (by intro w;go_simp;try with_reducible rfl) ?_;(try simp only [Act.put,List.setIfInBounds_toArray,Zl4,Zl5]))|(refine Zq98 (by rfl) _ (by rfl) (by (intro w hSw;(try dsimp only at hSw);go_simp;try with_reducible rfl)) ?_;(try simp only [Act.put,List.setIfInBounds_toArray,Zl4,Zl5]))|(refine Zq60 (by rfl) (by rfl) ?_;(try simp only [Act.put,List.setIfInBounds_toArray,Zl4,Zl5]))|fail)
  refine Zq266 ?_
  refine Zq421 ?_
  rintro w9 hz9
  have H9:=Zh (H0.out.drew.keep hz9.below)
  clear hz9 HS HE HMK H0
  go_wp2_with fail
  refine NoPanic.normal ?_
  go_wp2_with fail
  exact HQ.out _ _ _ _ _ _ _ _ _ _ _ _ _ _ _ _ _ _ _ _ _ _ _ _ _ _ _ _ _ _ _ _ _ _ _ _ H9.out
theorem Zq711 {ca cb:Code} {Q:Exit→Act→World→Prop} {K:Act→World→Prop} (hK:∀ x y,cb.wp Tryz.prog Q x y→K x y) (hC:(Tryz.f8).body.bind (fromR 11)=some (.seq ca cb)) {x0 x1 x2 x3 x4 x5 x6 x7 x8 x9 x10 x12 x13 x15 x16 x18 x21 x22 x23 x24 x25 x26 x27 x28 x29 x30 x31 x32 x33 x34 x35 x36 x37 x38 x39 x40 x41 x42 x43 x44 x45 x46 x47 x48 x49 x50 x51 x52 x53 x54 x55 x56 x57 x58 x59 x60 x61 x62 x63 x64 x65 x66 x67 x68 x69 x70 x71 x72 x73 x74 x75 x76 x77 x78 x79 x80 x81 x82 x83 x84 x85 x86 x87 x88 x89 x90 x91 x92 x93 x94 x95 x96 x97 x98 x99 x100 x101 x102 x103 x104 x105 x106 x107 x108 x109 x110 x111 x112 x113 x114 x115 x116 x117 x118 x119 x120 x121 x122 x123 x124 x125 x126 x127 x128 x129 x130 x131 x132 x133 x134 x135 x136 x137 x138 x139 x140 x141 x142 x143 x144 x145 x146 x147 x148 x149 x150 x151 x152 x153 x154 x155 x156 x157 x158 x159 x160 x161 x162 x163 x164 x165 x166 x167 x168 x169 x170 x171 x172 x173:Value} {p q g11 cQ:Nat} {F:Bool} {c:Rg} {qs:List (List Int)} {AQ:Option Addr} {S:Str} {J:Jn}
  (h:St W I w (Zq8 p S::jnHP q p J::HP.pt g11 (.cells #[.int .i64 c.splay,.int .i64 c.sets,.int .i64 c.size] 26)::l)) (hR:RowsI I (.slice AQ qs.length cQ) qs) (ht:TM S J 60) (hc:J.r.shape=c) (hF:F=fitsJ J (Zq126 qs)) (hn:qs.length≤30) (hp:∀ y ∈ qs,(1≤y.length∧y.length≤90)∧∀ z ∈ y,isByte z)
  (hQ:∀ (y0 y1 y2 y3 y4 y5 y6 y7 y8 y9 y10 y11 y12 y13 y14 y15 y16 y18 y21 y22 y23 y24 y25 y26 y27 y28 y29 y30 y31 y32 y33 y34 y35 y36 y37 y38 y39 y40 y41 y42 y43 y44 y45 y46 y47 y48 y49 y50 y51 y52 y53 y54 y55 y56 y57 y58 y59 y60 y61 y62 y63 y64 y65 y66 y67 y68 y69 y70 y71 y72 y73 y74 y75 y76 y77 y78 y79 y80 y81 y82 y83 y84 y85 y86 y87 y88 y89 y90 y91 y92 y93 y94 y95 y96 y97 y98 y99 y100 y101 y102 y103 y104 y105 y106 y107 y108 y109 y110 y111 y112 y113 y114 y115 y116 y117 y118 y119 y120 y121 y122 y123 y124 y125 y126 y127 y128 y129 y130 y131 y132 y133 y134 y135 y136 y137 y138 y139 y140 y141 y142 y143 y144 y145 y146 y147 y148 y149 y150 y151 y152 y153 y154 y155 y156 y157 y158 y159 y160 y161 y162 y163 y164 y165 y166 y167 y168 y169 y170 y171 y172 y173:Value) (I':Hp) (w':World) (S':Str) (J':Jn) (ok:Bool),ok=F→I.sub I'→St W I' w' (Zq8 p S'::jnHP q p J'::HP.pt g11 (.cells #[.int .i64 c.splay,.int .i64 c.sets,.int .i64 c.size] 26)::l)→TM S' J' 90→J'.r.shape=c →
    Q .normal ⟨#[y0,y1,y2,y3,y4,y5,y6,y7,y8,y9,y10,y11,y12,y13,y14,y15,y16,.pointer (some ⟨q,0,none⟩),y18,.bool F,.bool ok,y21,y22,y23,y24,y25,y26,y27,y28,y29,y30,y31,y32,y33,y34,y35,y36,y37,y38,y39,y40,y41,y42,y43,y44,y45,y46,y47,y48,y49,y50,y51,y52,y53,y54,y55,y56,y57,y58,y59,y60,y61,y62,y63,y64,y65,y66,y67,y68,y69,y70,y71,y72,y73,y74,y75,y76,y77,y78,y79,y80,y81,y82,y83,y84,y85,y86,y87,y88,y89,y90,y91,y92,y93,y94,y95,y96,y97,y98,y99,y100,y101,y102,y103,y104,y105,y106,y107,y108,y109,y110,y111,y112,y113,y114,y115,y116,y117,y118,y119,y120,y121,y122,y123,y124,y125,y126,y127,y128,y129,y130,y131,y132,y133,y134,y135,y136,y137,y138,y139,y140,y141,y142,y143,y144,y145,y146,y147,y148,y149,y150,y151,y152,y153,y154,y155,y156,y157,y158,y159,y160,y161,y162,y163,y164,y165,y166,y167,y168,y169,y170,y171,y172,y173],[]⟩ w') :
  ca.wp Tryz.prog (Exit.then K Q) ⟨#[x0,x1,x2,x3,x4,x5,x6,x7,x8,x9,x10,.pointer (some ⟨g11,0,none⟩),x12,x13,.slice AQ qs.length cQ,x15,x16,.pointer (some ⟨q,0,none⟩),x18,.bool F,.bool true,x21,x22,x23,x24,x25,x26,x27,x28,x29,x30,x31,x32,x33,x34,x35,x36,x37,x38,x39,x40,x41,x42,x43,x44,x45,x46,x47,x48,x49,x50,x51,x52,x53,x54,x55,x56,x57,x58,x59,x60,x61,x62,x63,x64,x65,x66,x67,x68,x69,x70,x71,x72,x73,x74,x75,x76,x77,x78,x79,x80,x81,x82,x83,x84,x85,x86,x87,x88,x89,x90,x91,x92,x93,x94,x95,x96,x97,x98,x99,x100,x101,x102,x103,x104,x105,x106,x107,x108,x109,x110,x111,x112,x113,x114,x115,x116,x117,x118,x119,x120,x121,x122,x123,x124,x125,x126,x127,x128,x129,x130,x131,x132,x133,x134,x135,x136,x137,x138,x139,x140,x141,x142,x143,x144,x145,x146,x147,x148,x149,x150,x151,x152,x153,x154,x155,x156,x157,x158,x159,x160,x161,x162,x163,x164,x165,x166,x167,x168,x169,x170,x171,x172,x173],[]⟩ w:=by
 injection hC with hC
 injection hC with hC1 hC2
 subst hC1 hC2
 have H0:=Zh h
 have HR:=Zh hR
 have HT:=Zh ht
 have HC:=Zh hc
 have HF:=Zh hF
 have HPF:=Zh hp
 have HQ:=Zh hQ
 have hn1:(qs.length:Int)≤30:=by omega
 clear h hR ht hc hF hp hQ
 go_wp2_with fail
 go_loopw [20,21] (fun a20 a21 wr=>∃ (i:Nat) (ok:Bool) (I':Hp) (S':Str) (J':Jn),a21=.int .i64 i∧a20=.bool ok∧i≤qs.length∧I.sub I'∧St W I' wr (Zq8 p S'::jnHP q p J'::HP.pt g11 (.cells #[.int .i64 c.splay,.int .i64 c.sets,.int .i64 c.size] 26)::l)∧TM S' J' (60+i)∧J'.r.shape=c∧(ok=true→F=fitsJ J' (Zq126 (qs.drop i)))∧(ok=false→F=false)) (fun _ a21 _=>qs.length - (intOf a21).toNat)
 case atStart=>exact ⟨0,true,I,S,J,rfl,by first|rfl|trivial,Nat.zero_le _,Hp.sub.refl _,H0.out,HT.out,HC.out,fun _=>HF.out,(fun e=>by cases e)⟩
 case round =>
  obtain ⟨i,ok,I2,S2,J2,rfl,rfl,hi,hs2,h2,ht2,hc2,hf2,hg2⟩:=hrel
  clear H0 HT HC HF
  have HS2:=Zh hs2
  have HT2:=Zh ht2
  have HC2:=Zh hc2
  have HF2:=Zh hf2
  have HG2:=Zh hg2
  have H2:=Zh h2
  by_cases hlt:i<qs.length
  ·have d0:decide ((i:Int)<(qs.length:Int))=true:=decide_eq_true (by omega)
   have d0n:decide (i<qs.length)=true:=decide_eq_true hlt
   cases ok with
   | false =>
    clear hs2 h2 ht2 hc2 hf2 hg2
    go_wp2_with fail
    exact HQ.out _ _ _ _ _ _ _ _ _ _ _ _ _ _ _ _ _ _ _ _ _ _ _ _ _ _ _ _ _ _ _ _ _ _ _ _ _ _ _ _ _ _ _ _ _ _ _ _ _ _ _ _ _ _ _ _ _ _ _ _ _ _ _ _ _ _ _ _ _ _ _ _ _ _ _ _ _ _ _ _ _ _ _ _ _ _ _ _ _ _ _ _ _ _ _ _ _ _ _ _ _ _ _ _ _ _ _ _ _ _ _ _ _ _ _ _ _ _ _ _ _ _ _ _ _ _ _ _ _ _ _ _ _ _ _ _ _ _ _ _ _ _ _ _ _ _ _ _ _ _ _ _ _ _ _ _ _ _ _ _ _ _ _ _ _ _ _ _ _ _ _ I2 _ S2 J2 false (HG2.out (by first|rfl|trivial)).symm HS2.out H2.out (HT2.out.later (by omega)) HC2.out
   | true =>
    obtain ⟨d,hd⟩:∃ d,qs[i]?=some d:=⟨_,List.getElem?_eq_getElem hlt⟩
    obtain ⟨b,off,Ad,cd,rfl,hdb,hdc⟩:=(HR.out.mono hs2).cells hd
    obtain ⟨hd1,hd2⟩:=HPF.out d (List.mem_of_getElem? hd)
    have y0:=hdc (Hp.sub.refl _) h2
    have HDC:=Zh (fun (I':Hp) (w':World) (L:List HP) (hs:I2.sub I') (hw':St W I' w' L)=>hdc hs hw')
    have HDB:=Zh hdb
    have HD1:=Zh hd1
    have HD2:=Zh hd2
    have hcs:=ht2.fits (d:=d) (by omega) hd1 hd2 (Zq126 (qs.drop (i+1)))
    have hfd:=hf2 rfl
    rw [Zq535 hd] at hfd
    have HCS:=Zh hcs
    have HFD:=Zh hfd
    have h3:=(h2.pull 1 _ rfl).alloc (.cells #[.int .i64 (d.length:Int)] 3)
    have hfits:=Zq149 (h3.pull 1 _ rfl) ht2.ok.jb (some ⟨wr.heap.size,0,none⟩) 1 [(d.length:Int)] (by simp) (fun j x hx=>by
     cases j with
     | zero =>
      simp only [Zl6,Option.some.injEq] at hx
      subst hx
      exact ⟨_,0,rfl,by simp,by simp [Zq1 h3.heap 0]⟩
     | succ j=>simp at hx)
    have h4:=(h3.pull 1 _ rfl |>.pull 1 _ rfl).drop.pull 1 _ rfl
    have HFITS:=Zh hfits
    have H4:=Zh h4
    obtain ⟨f1,hf1⟩:∃ x,x=fitsJ J2 [(d.length:Int)]:=⟨_,rfl⟩
    rw [←hf1] at HFITS HCS
    obtain ⟨w2,hww⟩:∃ x,x=wr:=⟨_,rfl⟩
    rw [←hww] at y0 HFITS H4 H2 ⊢
    clear hs2 h2 ht2 hc2 hf2 hg2 hd hdb hdc hd1 hd2 hcs hfd h3 hfits h4 hf1 hww
    go_wp2_with fail
    refine HFITS.out.mono ?_
    rintro e w3 ⟨rfl,hb3⟩
    have h3:=H4.out.keep hb3
    have HEN:=Zh (Zq111 (h3.pull 1 _ rfl) HT2.out.ok.jb)
    have H3:=Zh h3
    have y3:=HDC.out _ _ _ (Hp.sub.refl _) h3
    obtain ⟨en,hen⟩:∃ x,x=endJ J2:=⟨_,rfl⟩
    rw [←hen] at HEN
    have HENE:=Zh hen
    clear h3 hb3 HFITS H4 H2 y0 hen
    go_wp2_with fail
    refine HEN.out.mono ?_
    rintro e w4 ⟨rfl,hb4⟩
    have h4:=H3.out.keep hb4
    have y4:=HDC.out _ _ _ (Hp.sub.refl _) h4
    have hap:=Zq136 (m:=90000 - 10*(60+i) - 4) d Ad cd h4 (HT2.out.ks.fewer (by omega)) HT2.out.ok.jb HDB.out HD2.out (HT2.out.ok.six HT2.out.calm (by have:=HD1.out;omega) _)
    obtain ⟨⟨⟨rn,re⟩,RS,RJ⟩,hRR⟩:∃ x,x=Zq39 S2 J2 d:=⟨_,rfl⟩
    rw [←hRR] at hap HCS
    simp only at hap
    have HAP:=Zh hap
    clear h4 hb4 hap hRR HEN H3 y3
    go_wp2_with fail
    refine HAP.out.mono ?_
    rintro e w6 ⟨I6,hs6,rfl,h6⟩
    have HS6:=Zh (HS2.out.trans hs6)
    have H6:=Zh h6
    clear hs6 h6 HAP y4
    rcases HCS.out with ⟨rfl,S',J',hq,g1,g2,g3⟩|⟨rfl,hq,g2,g3⟩
    ·simp only [Prod.mk.injEq] at hq
     obtain ⟨⟨rfl,rfl⟩,rfl,rfl⟩:=hq
     have HG1:=Zh g1
     have HSH:=Zh (show RJ.r.shape=c by rw [g3];exact HC2.out)
     have HFN:=Zh (show F=fitsJ RJ (Zq126 (qs.drop (i+1))) by rw [HFD.out];exact g2)
     clear g1 g2 g3 HCS
     go_upto_region 17 with fail
     refine Zq643 (by assumption) (by kernel_rfl) H6.out HG1.out.ok (by rw [←HSH.out];exact Zq730 HG1.out.ok) (.inl ⟨rfl,rfl⟩) ?_
     intro z93 z94 z95 z96 z97 z98 z99 z100 z101 z102 z103 z104 z105 z106 z107 z108 z109 z110 z111 z112 z113 z114 z115 z116 z117 z118 z119 z120 z121 z122 z123 z124 z125 z126 z127 w7 h7
     have H7:=Zh h7
     clear h7 H6
     go_wp2_with fail
     go_roundw
     case rel=>exact ⟨i+1,true,I6,RS,RJ,by go_num,rfl,by omega,HS6.out,H7.out,HG1.out,HSH.out,fun _=>HFN.out,(fun e=>by cases e)⟩
     case measure=>first|(simp [intOf];done)|(simp [intOf];omega)|fail
    ·simp only [Prod.mk.injEq] at hq
     obtain ⟨⟨rfl,rfl⟩,rfl,rfl⟩:=hq
     have HFN:=Zh (show F=false by rw [HFD.out];exact g2)
     have HG3:=Zh (show setsJ RJ=c.sets by rw [g3,HC2.out])
     clear g2 g3 HCS
     go_upto_region 17 with fail
     refine Zq643 (by assumption) (by kernel_rfl) H6.out HT2.out.ok (by rw [HG3.out];exact Int.le_refl _) (.inr ⟨rfl,rfl,HENE.out,HG3.out⟩) ?_
     intro z93 z94 z95 z96 z97 z98 z99 z100 z101 z102 z103 z104 z105 z106 z107 z108 z109 z110 z111 z112 z113 z114 z115 z116 z117 z118 z119 z120 z121 z122 z123 z124 z125 z126 z127 w7 h7
     have H7:=Zh h7
     clear h7 H6
     go_wp2_with fail
     go_roundw
     case rel=>exact ⟨i+1,false,I6,RS,RJ,by go_num,rfl,by omega,HS6.out,H7.out,HT2.out.later (by omega),HC2.out,(fun e=>by cases e),fun _=>HFN.out⟩
     case measure=>first|(simp [intOf];done)|(simp [intOf];omega)|fail
  ·obtain rfl:i=qs.length:=by omega
   have d0:decide (((qs.length:Nat):Int)<(qs.length:Int))=false:=decide_eq_false (by omega)
   have HEQ:=Zh (show ok=F by
    cases ok with
    | true=>rw [hf2 rfl,List.drop_length];rfl
    | false=>exact (hg2 rfl).symm)
   clear hs2 h2 ht2 hc2 hf2 hg2
   go_wp2_with fail
   exact HQ.out _ _ _ _ _ _ _ _ _ _ _ _ _ _ _ _ _ _ _ _ _ _ _ _ _ _ _ _ _ _ _ _ _ _ _ _ _ _ _ _ _ _ _ _ _ _ _ _ _ _ _ _ _ _ _ _ _ _ _ _ _ _ _ _ _ _ _ _ _ _ _ _ _ _ _ _ _ _ _ _ _ _ _ _ _ _ _ _ _ _ _ _ _ _ _ _ _ _ _ _ _ _ _ _ _ _ _ _ _ _ _ _ _ _ _ _ _ _ _ _ _ _ _ _ _ _ _ _ _ _ _ _ _ _ _ _ _ _ _ _ _ _ _ _ _ _ _ _ _ _ _ _ _ _ _ _ _ _ _ _ _ _ _ _ _ _ _ _ _ _ _ I2 _ S2 J2 ok HEQ.out HS2.out H2.out (HT2.out.later (by omega)) HC2.out
end
end Go.Proofs.YtpjchngjhijgmaaGreat
namespace Go.Proofs.YtpjchngjhijgmaaGreat
open Go.RowKit
structure A16 where
 what:Int
 n:Int
 m:Int
 off:Bool
 d:List Int
 dv:Value
 ts:List Tag
 tv:Value
 ns:List Int
 nv:Value
def isI16 (x:Int):Prop:=-9223372036854775808≤x∧x≤9223372036854775807
def A16.vals (a:A16):List Value:=[.int .i64 a.what,.int .i64 a.n,.int .i64 a.m,.bool a.off,a.dv,a.tv,a.nv]
def A16.val (a:A16):Value:=.agg #[.int .i64 a.what,.int .i64 a.n,.int .i64 a.m,.bool a.off,a.dv,a.tv,a.nv]
def A16.ok (I:Hp) (a:A16):Prop:=BytesI I a.dv a.d∧RowI I 4 a.tv a.ts.length (flat a.ts)∧IntsI I a.nv a.ns∧isI16 a.what∧isI16 a.n∧isI16 a.m
def A16.few (a:A16):Bool:=decide (¬ (120<a.d.length∨40<a.ts.length∨40<a.ns.length))
def few16 (l:List A16) (most:Int):Bool:=l.all A16.few&&decide ((l.length:Int)≤most)
section
variable {W w : World} {I : Hp} {l : List HP} {p : Nat} {S : Str}
set_option maxRecDepth 4000
set_option maxHeartbeats 8000000
end
end Go.Proofs.YtpjchngjhijgmaaGreat
