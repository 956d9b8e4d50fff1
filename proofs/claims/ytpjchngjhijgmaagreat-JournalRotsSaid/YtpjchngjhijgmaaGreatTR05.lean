import Derived.Test.YtpjchngjhijgmaaGreatTR04
set_option linter.all false
namespace Go.Proofs.YtpjchngjhijgmaaGreat
open Go.RowKit
theorem pl_under:Tryz.prog.underlying 41=some (.struct (Tryz.prog.fieldsOf 41)):=by kernel_rfl
theorem pl_stood:Tryz.prog.stoodInHeld 41=false:=by kernel_rfl
theorem pl_guard:Tryz.prog.eqGuardType Tryz.prog.depth 41=false:=by kernel_rfl
theorem pl_fields:(Tryz.prog.fieldsOf 41).toList.map (fun f=>(f.name == "_",f.type,f.offset))=[(false,3,0),(false,3,1)]:=by kernel_rfl
theorem pl_eqGuard (op:BinOp) (x y:Operand) (xs ys:Array Value) (w:World):(eqGuard op 41 x y (.agg xs) (.agg ys)).run Tryz.prog w=.ok () w:=run_eqGuard_agg _ _ _ _ _ _ _ pl_guard
set_option maxRecDepth 100000 in
theorem pl_eqRun (a0 a1 b0 b1:Int) (w:World):(Op.equalIn 10000 41 (.agg #[.int .i64 a0,.int .i64 a1]) (.agg #[.int .i64 b0,.int .i64 b1])).run Tryz.prog w=.ok (a0==b0&&a1==b1) w:=by
 rw [run_equalIn_struct w 9999 _ _ _ pl_under pl_stood]
 obtain ⟨fs,hfs⟩:∃ fs,(Tryz.prog.fieldsOf 41).toList=fs:=⟨_,rfl⟩
 have h:=pl_fields
 rw [hfs] at h ⊢
 match fs,h with
 | [f0,f1],h =>
  simp only [List.map_cons,List.map_nil,List.cons.injEq,Prod.mk.injEq,beq_eq_false_iff_ne,and_true] at h
  obtain ⟨⟨n0,t0,o0⟩,⟨n1,t1,o1⟩⟩:=h
  simp only [Op.eqFields,n0,n1,t0,t1,o0,o1,ne_eq,not_false_eq_true,if_true]
  simp [go_sem]
  by_cases e0:a0=b0 <;> by_cases e1:a1=b1 <;> simp [e0,e1]
theorem pl_eqIn (x y:Pl) (w:World):(Op.equalIn 10000 41 x.val y.val).run Tryz.prog w=.ok (decide (x=y)) w:=by
 obtain ⟨a0,a1⟩:=x
 obtain ⟨b0,b1⟩:=y
 have e:decide (Pl.mk a0 a1=Pl.mk b0 b1)=(a0==b0&&a1==b1):=by
  rw [Bool.eq_iff_iff]
  simp
 rw [e]
 exact pl_eqRun _ _ _ _ w
def fillP (c:Rg):Fl→Int→List Int→Fl
 | f,_,[]=>f
 | f,s,n::ns=>fillP c (rput c f s n).1 (s+1) ns
theorem setsP_append (c:Rg):∀ (a b:List Int) (f:Fl) (s:Int),setsP c f s (a++b)=setsP c f s a++setsP c (fillP c f s a) (s+a.length) b
 | [],b,f,s=>by simp [setsP,fillP]
 | n::a,b,f,s=>by
  rw [Zl2]
  simp only [setsP,fillP,Zl2,setsP_append c a b]
  rw [show s+1+(a.length:Int)=s+((n::a).length:Int) by simp only [List.length_cons];omega]
theorem fillP_append (c:Rg):∀ (a b:List Int) (f:Fl) (s:Int),fillP c f s (a++b)=fillP c (fillP c f s a) (s+a.length) b
 | [],b,f,s=>by simp [fillP]
 | n::a,b,f,s=>by
  rw [Zl2]
  simp only [fillP,fillP_append c a b]
  rw [show s+1+(a.length:Int)=s+((n::a).length:Int) by simp only [List.length_cons];omega]
theorem fillP_ok {c:Rg} (hc:c.okB=true):∀ (ns:List Int) (f:Fl) (s:Int),f.okB c=true→1≤s→s+ns.length≤1000000000→(∀ n ∈ ns,1≤n∧n≤90)→f.set+ns.length≤1000000000→(fillP c f s ns).okB c=true∧(fillP c f s ns).set≤f.set+ns.length
 | [],f,s,hf,_,_,_,_=>⟨hf,by simp [fillP]⟩
 | n::ns,f,s,hf,h1,h2,hn,hs=>by
  simp only [List.length_cons] at h2 hs ⊢
  have hn1:=hn n (List.mem_cons_self ..)
  have hp:∃ g p nx,rput c f s n=(g,p,nx,true):=by
   rw [rput_good hc hf (by omega) hn1]
   split <;> exact ⟨_,_,_,rfl⟩
  obtain ⟨g,p,nx,hp⟩:=hp
  have hst:=Zq72 hp (by omega)
  have:=hst.set_le
  have ih:=fillP_ok hc ns g (s+1) hst.ok (by omega) (by omega) (fun m hm=>hn m (List.mem_cons_of_mem _ hm)) (by omega)
  have hfp:fillP c f s (n::ns)=fillP c g (s+1) ns:=by
   show fillP c (rput c f s n).1 (s+1) ns=_
   rw [hp]
  rw [hfp]
  exact ⟨ih.1,by have:=ih.2;omega⟩
section
variable {W w : World} {I : Hp} {l : List HP}
set_option maxRecDepth 4000
set_option maxHeartbeats 8000000
theorem IntsI.cell {A:Option Addr} {k:Nat} {ns:List Int} {i:Nat} {n:Int} (h:IntsI I (.slice A ns.length k) ns) (hst:St W I w l) (hi:ns[i]?=some n):∃ b off,A=some ⟨b,off,none⟩∧w.cell? ⟨b,off+i,none⟩=some (.int .i64 n):=by
 have hf:∀ l:List Int,l.flatMap (fun x=>[intV x])=l.map intV:=fun l=>by
  induction l with
  | nil=>rfl
  | cons a l ih=>simp [ih]
 obtain ⟨b,off,e1,hcc⟩:=Zq108 (mk:=fun x:Int=>[intV x]) (k:=1) (i:=i) (l:=ns) (by rw [hf];exact h) (Hp.sub.refl _) hst (fun _=>rfl) hi
 simp only [Value.slice.injEq] at e1
 have y0:=hcc 0 (by omega)
 simp only [Zl6,Nat.mul_one,Nat.add_zero] at y0
 exact ⟨b,off,e1.1,y0⟩
theorem sets_spec (c:Rg) (at':Int) (An:Option Addr) (cn:Nat) (ns:List Int) (h:St W I w l) (hI:IntsI I (.slice An ns.length cn) ns) (hc:c.okB=true) (hat:0≤at'∧at'≤70000) (hn:∀ n ∈ ns,1≤n∧n≤90) (hl:ns.length≤200) :
  Calls Tryz.prog 20 #[c.val,.int .i64 at',.slice An ns.length cn] w fun e w'=>∃ A' c',e=.returned (.slice A' ns.length c')∧St W I w' (Zq19 (.slice A' ns.length c') (setsP c ⟨0,0,0,0,0⟩ (at'+1) ns)::l):=by
 have h3:=((h.alloc (.cells #[.int .i64 c.splay,.int .i64 c.sets,.int .i64 c.size] 26)).alloc (.cells #[.int .i64 0,.int .i64 0,.int .i64 0,.int .i64 0,.int .i64 0] 108)).win_nil 41 2
 obtain ⟨g8,hg8⟩:∃ g,g=w.heap.size+1:=⟨_,rfl⟩
 obtain ⟨g3,hg3⟩:∃ g,g=w.heap.size:=⟨_,rfl⟩
 have H3:=Zh h3
 have HI:=Zh hI
 have HN:=Zh hn
 have HC:=Zh hc
 have HF:=Zh (fun i (hi:i≤ns.length)=>fillP_ok hc (ns.take i) ⟨0,0,0,0,0⟩ (at'+1) (Fl.empty_ok hc (by omega)) (by omega) (by rw [List.length_take];omega) (fun n hm=>hn n (List.mem_of_mem_take hm)) (by rw [List.length_take];show (0:Int)+_≤_;omega))
 have d1:decide (at'<0)=false:=decide_eq_false (by omega)
 have d2:decide (1099511627776<at')=false:=decide_eq_false (by omega)
 have hl1:(ns.length:Int)≤200:=by omega
 clear h h3 hI hn hc
 unfold Rg.val
 go_enter Tryz.func20,Tryz.ntmps20
 go_upto_region 3 with fail
 have h3:=H3.out
 simp only [World.size_alloc] at h3
 rw [←hg8,←hg3] at h3
 rw [←hg8,←hg3]
 generalize (World.alloc _ _:World)=w3 at h3 ⊢
 have H4:=Zh h3
 clear h3 H3 hg8 hg3
 go_wp2_with fail
 go_loopw [7,9] (fun a7 a9 wr=>∃ (i:Nat) (A7:Option Addr) (c7:Nat),a9=.int .i64 i∧a7=.slice A7 i c7∧i≤ns.length∧St W I wr (Zq19 (.slice A7 i c7) (setsP c ⟨0,0,0,0,0⟩ (at'+1) (ns.take i))::HP.pt g8 (.cells (fillP c ⟨0,0,0,0,0⟩ (at'+1) (ns.take i)).cells 108)::HP.pt g3 (.cells #[.int .i64 c.splay,.int .i64 c.sets,.int .i64 c.size] 26)::l)) (fun _ a9 _=>ns.length - (intOf a9).toNat)
 case atStart=>exact ⟨0,none,0,rfl,rfl,Nat.zero_le _,H4.out⟩
 case round =>
  obtain ⟨i,A7,c7,rfl,rfl,hi,h5⟩:=hrel
  clear H4
  by_cases hlt:i<ns.length
  ·obtain ⟨n,hn⟩:∃ n,ns[i]?=some n:=⟨_,List.getElem?_eq_getElem hlt⟩
   have hn90:=HN.out n (List.mem_of_getElem? hn)
   obtain ⟨hfo,hfs⟩:=HF.out i hi
   have htk:ns.take (i+1)=ns.take i++[n]:=by rw [List.take_add_one,hn];rfl
   have hil:(ns.take i).length=i:=by rw [List.length_take];omega
   have hgood:=rput_good HC.out hfo (show 1≤at'+1+(i:Int)∧at'+1+(i:Int)≤1099511627776 by omega) hn90
   have hok4:(rput c (fillP c ⟨0,0,0,0,0⟩ (at'+1) (ns.take i)) (at'+1+i) n).2.2.2=true:=by rw [hgood];split <;> rfl
   have hput:=ref10_put c (fillP c ⟨0,0,0,0,0⟩ (at'+1) (ns.take i)) (at'+1+i) n
   obtain ⟨P0,hP0⟩:∃ P,P=setsP c ⟨0,0,0,0,0⟩ (at'+1) (ns.take i):=⟨_,rfl⟩
   have hpl:P0.length=i:=by rw [hP0,setsP_len,hil]
   have hsn:setsP c ⟨0,0,0,0,0⟩ (at'+1) (ns.take (i+1))=P0++[(rput c (fillP c ⟨0,0,0,0,0⟩ (at'+1) (ns.take i)) (at'+1+i) n).2.1]:=by
    rw [htk,setsP_append,hP0,hil];rfl
   have hfn:fillP c ⟨0,0,0,0,0⟩ (at'+1) (ns.take (i+1))=(rput c (fillP c ⟨0,0,0,0,0⟩ (at'+1) (ns.take i)) (at'+1+i) n).1:=by
    rw [htk,fillP_append,hil];rfl
   rw [←hP0] at h5
   obtain ⟨F,hF⟩:∃ F,F=fillP c ⟨0,0,0,0,0⟩ (at'+1) (ns.take i):=⟨_,rfl⟩
   rw [←hF] at h5 hok4 hput hsn hfn
   obtain ⟨⟨G,p,nx,ok⟩,hrr⟩:∃ r,r=rput c F (at'+1+i) n:=⟨_,rfl⟩
   rw [←hrr] at hok4 hput hsn hfn
   simp only at hok4 hput hsn hfn
   subst hok4
   obtain ⟨s,u0,u1,u2,u3⟩:=F
   obtain ⟨s1,v0,v1,v2,v3⟩:=G
   obtain ⟨pa,po⟩:=p
   unfold Fl.val Pl.val Rg.val at hput
   unfold Fl.cells at h5
   simp only at hput h5
   obtain ⟨b,off,rfl,hq0⟩:=HI.out.cell h5 hn
   clear hq0
   have hnc:∀ w',St W I w' l→w'.cell? ⟨b,off+i,none⟩=some (.int .i64 n):=fun w' hw'=>by
    obtain ⟨b2,off2,e2,hcc2⟩:=HI.out.cell hw' hn
    simp only [Option.some.injEq,Addr.mk.injEq] at e2
    obtain ⟨rfl,rfl,_⟩:=e2
    exact hcc2
   have HNC:=Zh hnc
   have H5:=Zh h5
   have HPUT:=Zh hput
   have HSN:=Zh hsn
   have HFN:=Zh hfn
   have HPL:=Zh hpl
   obtain ⟨w5,hw5⟩:∃ x,x=wr:=⟨_,rfl⟩
   rw [←hw5] at H5 ⊢
   have hw1:IntKind.i64.wrap (at'+1)=at'+1:=by rw [IntKind.wrap_i64];omega
   have hw2:IntKind.i64.wrap (at'+1+i)=at'+1+i:=by rw [IntKind.wrap_i64];omega
   clear hnc h5 hput hsn hfn hpl hn hn90 hfo hfs htk hil hgood hP0 hF hrr hw5
   have HMK:=Zh (show ∀ w',St W I w' (Zq19 (.slice A7 i c7) P0::HP.pt g8 (.cells #[.int .i64 s,.int .i64 u0,.int .i64 u1,.int .i64 u2,.int .i64 u3] 108)::HP.pt g3 (.cells #[.int .i64 c.splay,.int .i64 c.sets,.int .i64 c.size] 26)::l)→(w'.cell? ⟨g3,0,none⟩=some (.int .i64 c.splay)∧w'.cell? ⟨g3,1,none⟩=some (.int .i64 c.sets)∧w'.cell? ⟨g3,2,none⟩=some (.int .i64 c.size)∧w'.cell? ⟨g8,0,none⟩=some (.int .i64 s)∧w'.cell? ⟨g8,1,none⟩=some (.int .i64 u0)∧w'.cell? ⟨g8,2,none⟩=some (.int .i64 u1)∧w'.cell? ⟨g8,3,none⟩=some (.int .i64 u2)∧w'.cell? ⟨g8,4,none⟩=some (.int .i64 u3)∧w'.cell? ⟨b,off+i,none⟩=some (.int .i64 n)) from fun w' h1=>by
    obtain ⟨a0,a1,a2⟩:=Zq62 (h1.pull 2 _ rfl)
    obtain ⟨b0,b1,b2,b3,b4⟩:=Zq22 (h1.pull 1 _ rfl)
    exact ⟨a0,a1,a2,b0,b1,b2,b3,b4,HNC.out w' h1.drop.drop.drop⟩)
   go_upto_region 8 with fail
   refine Zq37 (fun w'=>w'.cell? ⟨g3,0,none⟩=some (.int .i64 c.splay)∧w'.cell? ⟨g3,1,none⟩=some (.int .i64 c.sets)∧w'.cell? ⟨g3,2,none⟩=some (.int .i64 c.size)∧w'.cell? ⟨g8,0,none⟩=some (.int .i64 s)∧w'.cell? ⟨g8,1,none⟩=some (.int .i64 u0)∧w'.cell? ⟨g8,2,none⟩=some (.int .i64 u1)∧w'.cell? ⟨g8,3,none⟩=some (.int .i64 u2)∧w'.cell? ⟨g8,4,none⟩=some (.int .i64 u3)∧w'.cell? ⟨b,off+i,none⟩=some (.int .i64 n)) [(0,false),(1,false),(2,false),(3,false),(4,false),(5,false),(6,false),(7,false),(8,false),(9,false),(10,false),(11,false),(12,false),(13,true),(14,true),(15,true)] [16,17] [18,19,20,21] (by kernel_rfl) (by kernel_rfl) (by (intro w' hb;exact HMK.out _ (H5.out.drew.keep hb))) ?_
   repeat (first|(refine Zq41 (by rfl) _ (by rfl) (by intro w;go_simp;try with_reducible rfl) ?_;(try simp only [Act.put,List.setIfInBounds_toArray,Zl4,Zl5]))|(refine Zq98 (by rfl) _ (by rfl) (by (intro w hSw;(try dsimp only at hSw);go_simp;try with_reducible rfl)) ?_;(try simp only [Act.put,List.setIfInBounds_toArray,Zl4,Zl5]))|(refine Zq60 (by rfl) (by rfl) ?_;(try simp only [Act.put,List.setIfInBounds_toArray,Zl4,Zl5]))|fail)
   refine Zq109 (by rfl) (.tuple #[.agg #[.int .i64 s1,.int .i64 v0,.int .i64 v1,.int .i64 v2,.int .i64 v3],.agg #[.int .i64 pa,.int .i64 po],.bool nx,.bool true]) (60) (#[.agg #[.int .i64 c.splay,.int .i64 c.sets,.int .i64 c.size],.agg #[.int .i64 s,.int .i64 u0,.int .i64 u1,.int .i64 u2,.int .i64 u3],.int .i64 (at'+1+i),.int .i64 n]) (by rfl) (by intro w;go_simp;try with_reducible rfl) (by (rintro w1 _;exact HPUT.out w1)) ?_
   (try simp only [Act.put,List.setIfInBounds_toArray,Zl4,Zl5])
   repeat (first|(refine Zq41 (by rfl) _ (by rfl) (by intro w;go_simp;try with_reducible rfl) ?_;(try simp only [Act.put,List.setIfInBounds_toArray,Zl4,Zl5]))|(refine Zq98 (by rfl) _ (by rfl) (by (intro w hSw;(try dsimp only at hSw);go_simp;try with_reducible rfl)) ?_;(try simp only [Act.put,List.setIfInBounds_toArray,Zl4,Zl5]))|(refine Zq60 (by rfl) (by rfl) ?_;(try simp only [Act.put,List.setIfInBounds_toArray,Zl4,Zl5]))|fail)
   refine Zq266 ?_
   refine Zq760 (by rfl) (by rfl) (fun g=>.pointer (some ⟨g,0,none⟩)) (fun g=>.pointer (some ⟨g,0,none⟩)) (.cells #[.int .i64 0,.int .i64 0,.int .i64 0,.int .i64 0,.int .i64 0] 108) (.cells #[.int .i64 0,.int .i64 0] 41) (by rfl) (by rfl) (by intro w;go_simp;try with_reducible rfl) (by intro w;go_simp;try with_reducible rfl) ?_
   intro g10 g11
   rintro w9 hz9
   obtain ⟨hb9,l8,l9,hne⟩:=hz9.two (by decide)
   have h9:=H5.out.drew.fresh2 hb9 l8 l9 hne
   clear hz9 hb9 l8 l9 H5 HMK
   have f8:=frozen_of_row h9.heap
   have f9:=frozen_of_row (h9.pull 1 _ rfl).heap
   obtain ⟨b5,b6⟩:g10<w9.heap.size∧g11<w9.heap.size:=⟨h9.lt,(h9.pull 1 _ rfl).lt⟩
   obtain ⟨y0,y1,y2,y3,y4⟩:=Zq22 h9
   obtain ⟨z0,z1⟩:=Zq48 (h9.pull 1 _ rfl)
   have H9:=Zh h9
   clear h9
   simp only [pickL,Zl6,Zl7]
   go_wp2_with fail
   refine NoPanic.normal ?_
   have h10:=((((H9.out.set5 (.int .i64 s1) (.int .i64 v0) (.int .i64 v1) (.int .i64 v2) (.int .i64 v3)).pull 1 _ rfl).set2 (.int .i64 pa) (.int .i64 po)).pull 1 _ rfl)
   generalize (World.setCell _ _ _:World)=w10 at h10 ⊢
   clear y0 y1 y2 y3 y4 z0 z1 f8 f9 H9 b5 b6
   obtain ⟨y0,y1,y2,y3,y4⟩:=Zq22 h10
   obtain ⟨z0,z1⟩:=Zq48 (h10.pull 1 _ rfl)
   have h11:=h10.pull 2 _ rfl
   obtain ⟨A',c',w12,hrun,h12⟩:=h11.places_append (g:=w10.heap.size) pa po rfl (by rw [HPL.out];omega)
   rw [HPL.out] at hrun h12
   rw [←HSN.out] at h12
   have H12:=Zh h12
   have HR:=Zh hrun
   clear h10 h11 h12 hrun
   go_upto_region 12 with (at_builtin;refine Lib.wpList_append_run _ rfl (.tmp 44) (.tmp 46) 38 38 rfl _ _ rfl rfl _ _ HR.out ?_)
   have h13:=H12.out.pull 1 _ rfl
   clear y0 y1 y2 y3 y4 z0 z1
   obtain ⟨y0,y1,y2,y3,y4⟩:=Zq22 h13
   have f8:=frozen_of_row (h13.pull 3 _ rfl).heap
   obtain ⟨q0,q1,q2,q3,q4⟩:=Zq22 (h13.pull 3 _ rfl)
   have l8:=(h13.pull 3 _ rfl).lt
   have H13:=Zh h13
   clear h13 H12
   go_wp2_with fail
   go_roundw
   case rel =>
    refine ⟨i+1,A',c',by go_num,rfl,by omega,?_⟩
    rw [HFN.out]
    have h14:=((H13.out.pull 3 _ rfl).set5 (.int .i64 s1) (.int .i64 v0) (.int .i64 v1) (.int .i64 v2) (.int .i64 v3))
    exact (((h14.pull 1 _ rfl).drop.pull 2 _ rfl).drop.pull 1 _ rfl)
   case measure=>first|(simp [intOf];done)|(simp [intOf];omega)|fail
  ·obtain rfl:i=ns.length:=by omega
   rw [List.take_length] at h5
   have H5:=Zh h5
   clear h5
   go_wp2_with fail
   go_ret
   exact ⟨A7,c7,rfl,(((H5.out.pull 1 _ rfl).drop).pull 1 _ rfl).drop⟩
theorem seat16_spec (c:Rg) (Ap:Option Addr) (cp:Nat) (P:List Pl) (An:Option Addr) (cn:Nat) (ns:List Int) (k:Nat) (q:Pl) (h:St W I w (Zq19 (.slice Ap P.length cp) P::l)) (hI:IntsI I (.slice An ns.length cn) ns) (hP:P[k]?=some q) (hns:ns.length=P.length) (hn:∀ n ∈ ns,0≤n∧n≤90) (hl:P.length≤200) :
  Calls Tryz.prog 21 #[c.val,.slice Ap P.length cp,.slice An ns.length cn,.int .i64 k] w fun e w'=>e=.returned (.tuple #[.agg #[.int .i64 2,.int .i64 0,.int .i64 (rnum c q),.int .i64 0],.int .i64 (Zq850 P ns q k)])∧St W I w' (Zq19 (.slice Ap P.length cp) P::l):=by
 have h3:=(((h.alloc (.cells #[.int .i64 c.splay,.int .i64 c.sets,.int .i64 c.size] 26)).alloc (.cells #[.int .i64 0,.int .i64 0,.int .i64 0,.int .i64 0] 43))).perm (show List.Perm _ (Zq19 (.slice Ap P.length cp) P::HP.pt (w.alloc (.cells #[.int .i64 c.splay,.int .i64 c.sets,.int .i64 c.size] 26)).heap.size (.cells #[.int .i64 0,.int .i64 0,.int .i64 0,.int .i64 0] 43)::HP.pt w.heap.size (.cells #[.int .i64 c.splay,.int .i64 c.sets,.int .i64 c.size] 26)::l) by ((try simp only [Zl0,Zl1,Zl2,Zl3]);repeat (first|with_reducible exact List.Perm.refl _|(apply Zq6;(· repeat (first|with_reducible exact Zq5|with_reducible apply Zq2))))))
 simp only [World.size_alloc] at h3
 obtain ⟨g8,hg8⟩:∃ g,g=w.heap.size+1:=⟨_,rfl⟩
 obtain ⟨g4,hg4⟩:∃ g,g=w.heap.size:=⟨_,rfl⟩
 rw [←hg8,←hg4] at h3
 have H3:=Zh h3
 have HI:=Zh hI
 have HPK:=Zh hP
 have HN:=Zh hn
 have hk:k<P.length:=(List.getElem?_eq_some_iff.1 hP).1
 have HB:=Zh (show ∀ i,i≤k→0≤Zq850 P ns q i∧Zq850 P ns q i≤112*(i:Int) from fun i=>by
  induction i with
  | zero=>intro _;simp [Zq850]
  | succ i ih =>
   intro hi
   have h1:=ih (by omega)
   have h2:0≤ns.getD i 0∧ns.getD i 0≤90:=by
    rw [List.getD_eq_getElem?_getD,List.getElem?_eq_getElem (by omega)]
    exact hn _ (List.getElem_mem _)
   show 0≤Zq850 P ns q i+(if P[i]?=some q then ns.getD i 0+22 else 0)∧Zq850 P ns q i+(if P[i]?=some q then ns.getD i 0+22 else 0)≤_
   split <;> omega)
 have hk1:(k:Int)<P.length:=by omega
 have hl1:(P.length:Int)≤200:=by omega
 clear h h3 hI hP hn
 unfold Rg.val
 go_enter Tryz.func21,Tryz.ntmps21
 go_upto_region 1 with fail
 have h3:=H3.out
 rw [←hg8,←hg4]
 generalize (World.alloc _ _:World)=w3 at h3 ⊢
 have H4:=Zh h3
 clear h3 H3 hg8 hg4
 go_wp2_with fail
 go_loopw [10,11] (fun a10 a11 wr=>∃ (i:Nat),a11=.int .i64 i∧i≤k∧a10=.int .i64 (Zq850 P ns q i)∧St W I wr (Zq19 (.slice Ap P.length cp) P::HP.pt g8 (.cells #[.int .i64 0,.int .i64 0,.int .i64 0,.int .i64 0] 43)::HP.pt g4 (.cells #[.int .i64 c.splay,.int .i64 c.sets,.int .i64 c.size] 26)::l)) (fun _ a11 _=>k - (intOf a11).toNat)
 case atStart=>exact ⟨0,rfl,Nat.zero_le _,rfl,H4.out⟩
 case round =>
  obtain ⟨i,rfl,hi,rfl,h5⟩:=hrel
  clear H4
  obtain ⟨sb,hsb⟩:∃ x,x=Zq850 P ns q i:=⟨_,rfl⟩
  have hb:=HB.out i hi
  rw [←hsb] at hb ⊢
  obtain ⟨g,o,cc,e1,hg,hnc,x0,x1⟩:=h5.places_cell HPK.out
  simp only [Value.slice.injEq] at e1
  obtain ⟨rfl,hx1,hx2⟩:=e1
  clear hx1 hx2 hnc
  by_cases hlt:i<k
  ·have d0:decide ((i:Int)<(k:Int))=true:=decide_eq_true (by omega)
   obtain ⟨p,hp⟩:∃ p,P[i]?=some p:=⟨_,List.getElem?_eq_getElem (by omega)⟩
   obtain ⟨n,hn⟩:∃ n,ns[i]?=some n:=⟨_,List.getElem?_eq_getElem (by omega)⟩
   have hn90:=HN.out n (List.mem_of_getElem? hn)
   obtain ⟨g2,o2,cc2,e2,hg2,hnc2,y0,y1⟩:=h5.places_cell hp
   simp only [Value.slice.injEq,Option.some.injEq,Addr.mk.injEq,and_true] at e2
   obtain ⟨⟨rfl,rfl⟩,hx1,hx2⟩:=e2
   clear hx1 hx2 hnc2
   have heq:=pl_eqIn p q
   unfold Pl.val at heq
   have hgd:=pl_eqGuard
   have hse:Zq850 P ns q (i+1)=sb+if p=q then n+22 else 0:=by
    show Zq850 P ns q i+(if P[i]?=some q then ns.getD i 0+22 else 0)=_
    rw [hp,←hsb,List.getD_eq_getElem?_getD,hn]
    simp only [Option.some.injEq,Option.getD_some]
   have HSE:=Zh hse
   have H5:=Zh h5
   have HNI:=Zh hn
   have hk2:(i:Int)<(P.length:Int):=by omega
   obtain ⟨w5,hw5⟩:∃ x,x=wr:=⟨_,rfl⟩
   rw [←hw5] at H5 x0 x1 y0 y1 ⊢
   clear h5 hse hp hn hsb hw5
   go_upto_region 5 with fail
   by_cases hpq:p=q
   ·rw [if_pos hpq] at HSE
    have hq1:decide (p=q)=true:=decide_eq_true hpq
    rw [hq1] at heq
    clear hpq hq1
    go_quiet (fail)
    have h6:=H5.out.drewN nq
    generalize (World.drewN _ _:World)=w6 at h6 ⊢
    obtain ⟨b,off,rfl,yn⟩:=HI.out.cell h6 HNI.out
    have w1:IntKind.i64.wrap (n+22)=n+22:=by rw [IntKind.wrap_i64];omega
    have w2:IntKind.i64.wrap (sb+(n+22))=sb+(n+22):=by rw [IntKind.wrap_i64];omega
    have hk3:(i:Int)<(ns.length:Int):=by omega
    have H6:=Zh h6
    clear h6 H5 x0 x1 y0 y1 heq hgd
    go_wp2_with fail
    go_roundw
    case rel=>exact ⟨i+1,by go_num,by omega,by rw [HSE.out],H6.out⟩
    case measure=>first|(simp [intOf];done)|(simp [intOf];omega)|fail
   ·rw [if_neg hpq] at HSE
    have hq1:decide (p=q)=false:=decide_eq_false hpq
    rw [hq1] at heq
    clear hpq hq1
    go_quiet (fail)
    have h6:=H5.out.drewN nq
    generalize (World.drewN _ _:World)=w6 at h6 ⊢
    have H6:=Zh h6
    clear h6 H5 x0 x1 y0 y1 heq hgd
    go_wp2_with fail
    go_roundw
    case rel=>exact ⟨i+1,by go_num,by omega,by rw [HSE.out,Int.add_zero],H6.out⟩
    case measure=>first|(simp [intOf];done)|(simp [intOf];omega)|fail
  ·obtain rfl:i=k:=by omega
   have d0:decide ((i:Int)<(i:Int))=false:=decide_eq_false (by omega)
   have HSB:=Zh hsb
   have hnum:=ref10_num c q
   unfold Rg.val Pl.val at hnum
   have HNUM:=Zh hnum
   obtain ⟨z0,z1,z2⟩:=Zq62 (h5.pull 2 _ rfl)
   have H5:=Zh h5
   obtain ⟨w5,hw5⟩:∃ x,x=wr:=⟨_,rfl⟩
   rw [←hw5] at H5 ⊢
   clear h5 hsb hw5 hnum x0 x1 z0 z1 z2
   have HMK:=Zh (show ∀ w',St W I w' (Zq19 (.slice (some ⟨g,o,none⟩) P.length cp) P::HP.pt g8 (.cells #[.int .i64 0,.int .i64 0,.int .i64 0,.int .i64 0] 43)::HP.pt g4 (.cells #[.int .i64 c.splay,.int .i64 c.sets,.int .i64 c.size] 26)::l)→(w'.cell? ⟨g4,0,none⟩=some (.int .i64 c.splay)∧w'.cell? ⟨g4,1,none⟩=some (.int .i64 c.sets)∧w'.cell? ⟨g4,2,none⟩=some (.int .i64 c.size)∧w'.cell? ⟨g,o+i*2,none⟩=some (.int .i64 q.set)∧w'.cell? ⟨g,o+i*2+1,none⟩=some (.int .i64 q.obj)) from fun w' h1=>by
    obtain ⟨a0,a1,a2⟩:=Zq62 (h1.pull 2 _ rfl)
    obtain ⟨g2,o2,cc2,e2,hg2,hnc2,y0,y1⟩:=h1.places_cell HPK.out
    simp only [Value.slice.injEq,Option.some.injEq,Addr.mk.injEq,and_true] at e2
    obtain ⟨⟨rfl,rfl⟩,_,_⟩:=e2
    exact ⟨a0,a1,a2,y0,y1⟩)
   go_upto_region 7 with fail
   refine Zq37 (fun w'=>w'.cell? ⟨g4,0,none⟩=some (.int .i64 c.splay)∧w'.cell? ⟨g4,1,none⟩=some (.int .i64 c.sets)∧w'.cell? ⟨g4,2,none⟩=some (.int .i64 c.size)∧w'.cell? ⟨g,o+i*2,none⟩=some (.int .i64 q.set)∧w'.cell? ⟨g,o+i*2+1,none⟩=some (.int .i64 q.obj)) [(0,false),(1,false),(2,false),(3,false),(4,false),(5,false),(6,false),(7,true)] [] [8,9] (by kernel_rfl) (by kernel_rfl) (by (intro w' hb;exact HMK.out _ (H5.out.drew.keep hb))) ?_
   repeat (first|(refine Zq41 (by rfl) _ (by rfl) (by intro w;go_simp;try with_reducible rfl) ?_;(try simp only [Act.put,List.setIfInBounds_toArray,Zl4,Zl5]))|(refine Zq98 (by rfl) _ (by rfl) (by (intro w hSw;(try dsimp only at hSw);go_simp;try with_reducible rfl)) ?_;(try simp only [Act.put,List.setIfInBounds_toArray,Zl4,Zl5]))|(refine Zq60 (by rfl) (by rfl) ?_;(try simp only [Act.put,List.setIfInBounds_toArray,Zl4,Zl5]))|fail)
   refine Zq109 (by rfl) (.int .i64 (rnum c q)) (61) (#[.agg #[.int .i64 c.splay,.int .i64 c.sets,.int .i64 c.size],.agg #[.int .i64 q.set,.int .i64 q.obj]]) (by rfl) (by intro w;go_simp;try with_reducible rfl) (by (rintro w1 _;exact HNUM.out w1)) ?_
   (try simp only [Act.put,List.setIfInBounds_toArray,Zl4,Zl5])
   repeat (first|(refine Zq41 (by rfl) _ (by rfl) (by intro w;go_simp;try with_reducible rfl) ?_;(try simp only [Act.put,List.setIfInBounds_toArray,Zl4,Zl5]))|(refine Zq98 (by rfl) _ (by rfl) (by (intro w hSw;(try dsimp only at hSw);go_simp;try with_reducible rfl)) ?_;(try simp only [Act.put,List.setIfInBounds_toArray,Zl4,Zl5]))|(refine Zq60 (by rfl) (by rfl) ?_;(try simp only [Act.put,List.setIfInBounds_toArray,Zl4,Zl5]))|fail)
   refine Zq266 ?_
   refine Zq421 ?_
   rintro w9 hz9
   have h9:=(H5.out.drew.keep hz9.below).pull 1 _ rfl
   have f8:=frozen_of_row h9.heap
   obtain ⟨y0,y1,y2,y3⟩:=Zq374 h9
   have H9:=Zh h9
   clear h9 hz9 H5 HMK
   simp only [pickL,Zl6,Zl7]
   go_wp2_with fail
   refine NoPanic.normal ?_
   have h10:=(((H9.out.setCell 0 (.int .i64 2)).setCell 1 (.int .i64 0)).setCell 2 (.int .i64 (rnum c q))).setCell 3 (.int .i64 0)
   simp only [List.setIfInBounds_toArray,Zl4,Zl5] at h10
   generalize (World.setCell _ _ _:World)=w10 at h10 ⊢
   obtain ⟨r0,r1,r2,r3⟩:=Zq374 h10
   have H10:=Zh h10
   clear h10 y0 y1 y2 y3 f8 H9
   go_wp2_with fail
   refine bodyPost_ret (v:=.tuple #[.agg #[.int .i64 2,.int .i64 0,.int .i64 (rnum c q),.int .i64 0],.int .i64 sb]) (by simp [results,Tryz.results21,go_sem,r0,r1,r2,r3]) rfl ?_
   rw [←HSB.out]
   exact ⟨rfl,((H10.out.drop.pull 1 _ rfl).drop)⟩
end
end Go.Proofs.YtpjchngjhijgmaaGreat
namespace Go.Proofs.YtpjchngjhijgmaaGreat
open Go.RowKit
section
variable {W w : World} {I : Hp} {l : List HP} {p : Nat} {S : Str}
set_option maxRecDepth 4000
set_option maxHeartbeats 8000000
theorem reopen_spec {J:Jn} {m:Nat} (h:St W I w (Zq8 p S::l)) (hJ:JAny S J) (ha:S.armed=false) (hk:Keeps S (m+200)) :
  Calls Tryz.prog 27 #[.pointer (some ⟨p,0,none⟩)] w fun e w'=>∃ I' q S',I.sub I'∧e=.returned (.tuple #[.pointer (some ⟨q,0,none⟩),.int .i64 0])∧St W I' w' (Zq8 p S'::jnHP q p (Zq64 J)::l)∧JOK S' (Zq64 J)∧S'.armed=false∧S'.late=[]∧Keeps S' m:=by
 obtain ⟨q1,q2,q3,q4,q5⟩:=hJ.open_pre
 obtain ⟨S',ho,hj,ha',hl'⟩:=hJ.open_calm ha
 have hto:=hJ.live.told
 have hs:=Zq625 (m:=m) J.r (some J.r) h hJ.live.on (hk.fewer (by omega)) q1 q2 q3 q4 q5
 have hk2:=Zq531 (r:=J.r) (m:=m) (hk.fewer (show m+2+4*(Zq28 S ⟨2,0⟩).length≤m+200 by omega))
 rw [ho] at hs hk2
 refine hs.mono ?_
 rintro e w' ⟨I',hs1,⟨hne,_⟩|⟨_,q,he,h2⟩⟩
 ·exact absurd rfl hne
 ·exact ⟨I',q,S',hs1,he,h2,hj,ha',hl',hk2⟩
end
end Go.Proofs.YtpjchngjhijgmaaGreat
namespace Go.Proofs.YtpjchngjhijgmaaGreat
open Go.RowKit
theorem readJ_all {S:Str} {J:Jn} (h:JOK S J) (hf:J.r.first=1) (hl:J.l.length≤100000):readJ S J 0 1048576=(J.l,0):=by
 have hw:Zq731 S J 0 1048576=0:=by
  unfold Zq731
  rw [if_neg (by simp [h.may]),if_neg (by unfold endJ;omega),if_neg (by omega)]
 unfold readJ readL
 rw [hw,if_pos rfl,hf]
 rw [show ((0:Int) - 1+1).toNat=0 by rfl,List.drop_zero,List.take_of_length_le (by show J.l.length≤1048576;omega)]
end Go.Proofs.YtpjchngjhijgmaaGreat
