import Derived.Test.YtpjchngjhijgmaaGreatJP15
set_option linter.all false
set_option maxRecDepth 4000
set_option maxHeartbeats 8000000
open Go.RowKit
open Go.IntKind (i64 u64)
open Go.Value (int pointer slice)
open Go.Obj (cells)
namespace Go.Proofs.YtpjchngjhijgmaaGreat
open Tryz
open HP (pt mapOf)
variable {W w w':World} {I:Hp} {l:List HP}
section
variable {p q : Nat} {J : Jn}
theorem St.fresh2 {b1 b2:Nat} {o1 o2:Obj} (h:St W I w l) (hb:Below w.heap.size w w') (h1:w.heap.size<=b1∧w'.heap[b1]?=some o1) (h2:w.heap.size<=b2∧w'.heap[b2]?=some o2) (hne:b1≠b2):St W I w' (pt b1 o1::pt b2 o2::l):=by
 have h':=h.keep hb;obtain ⟨k,a,d,c⟩:=h.own;have none_of:∀ {g:Hp} {b:Nat},w.heap.size<=b->g.sub w.hp->g b=none:=fun {g b} hl s=>by
  cases e:g b with
  | none=>rfl
  | some x =>
   have hc:w.heap[b]?=some x:=s _ _ e;have:=(Za9.1 hc).1;omega
 have old:k.sub w'.hp:=fun c x hx=>by
  have hc:w.heap[c]?=some x:=a _ _ hx;exact (hb.block c (Za9.1 hc).1).trans hc
 have dk:∀ {g:Hp} {b:Nat} {o:Obj},w.heap.size<=b->g.sub w.hp->(Hp.one b o).disj g:=fun {g b o} hl s c=>by
  by_cases e:c=b
  ·subst c;exact .inr (none_of hl s)
  ·exact .inl (by simp [Hp.one,e])
 have d12:(Hp.one b1 o1).disj (Hp.one b2 o2):=fun c=>by
  by_cases e:c=b1
  ·subst c;exact .inr (by simp [Hp.one,hne])
  ·exact .inl (by simp [Hp.one,e])
 have hI:I.sub w.hp:=h.imm;have d2k:(Hp.one b2 o2).disj k:=dk h2.1 a;have d1r:(Hp.one b1 o1).disj ((Hp.one b2 o2).join k):=(Hp.disj_join d12.symm.symm (dk h1.1 a))
 refine ⟨h'.os,h'.tape,h'.output,h'.base,h'.imm,(Hp.one b1 o1).join ((Hp.one b2 o2).join k),Hp.join_sub (Hp.one_sub h1.2) (Hp.join_sub (Hp.one_sub h2.2) old),Hp.disj_join (dk h1.1 hI).symm (Hp.disj_join (dk h2.1 hI).symm d),
  Hp.one b1 o1,(Hp.one b2 o2).join k,d1r,Hp.sub_join_left _ _,Hp.sub_join_right d1r,Hp.one_same b1 o1,Hp.one b2 o2,k,d2k,Hp.sub_join_left _ _,Hp.sub_join_right d2k,Hp.one_same b2 o2,c⟩
def Zc4 (c:Rg) (s0:Int):List Int->Fl->Int->Bool
 | [],_,_=>true
 | n::ns,f,seq=>if (rput c f seq n).1=Fl.zero then false else if c.sets<=(rput c f seq n).1.set - s0 then false else Zc4 c s0 ns (rput c f seq n).1 (seq+1)
def fitsJ (J:Jn) (ns:List Int):Bool:=Zc4 J.r.shape J.r.set ns J.fill (endJ J+1)
theorem Zme (c:Rg) (f:Fl) (seq n:Int):0<=(rput c f seq n).1.set∧(rput c f seq n).1.set<=1073741824:=by
 unfold rput;split
 ·simp [Fl.zero]
 ·rename_i h;have hf:0<=f.set∧f.set<1073741824:=by
   have h2:f.okB c=true:=by
    cases e:f.okB c with
    | true=>rfl
    | false=>exact absurd (.inr (.inl e)) h
   unfold Fl.okB at h2;rw [Zk] at h2;exact h2.2.2.2.2
  have hp:∀ (g:Fl) (o x:Int),(g.put o x).set=g.set:=fun g o x=>by unfold Fl.put;(repeat' split) <;> rfl
  split
  ·simp only [hp];omega
  ·simp only [hp];omega
theorem ZkC (h:St W I w (jnHP q p J::l)) (hB:JB J) (A:Option Addr) (c:Nat) (ns:List Int) (hn:ns.length<=1000000) (hns:∀ (i:Nat) (x:Int),ns[i]?=some x->∃ g o,A=some ⟨g,o,none⟩∧g<w.heap.size∧w.cell? ⟨g,o+i,none⟩=some (int i64 x)) :
  Calls prog 44 #[pointer (some ⟨q,0,none⟩),slice A ns.length c] w fun e w'=>e=.returned (.bool (fitsJ J ns))∧Below w.heap.size w w':=by
 obtain ⟨V,hr,h1⟩:=h.jn_open;obtain ⟨x10,x11,x12,x13,x14⟩:=Zfo h1;have ltq:=h1.lt;have H:=Zh h;have HB:=Zh hB;have HNS:=Zh hns;have hend:0<=endJ J∧endJ J<=2199023355552:=by
  have:=hB.first;have:=hB.len;unfold endJ;omega
 have hset:=hB.ok.set;obtain ⟨e0,he0⟩:=Zn (endJ J);rw [<-he0] at hend;have HE:=Zh he0;obtain ⟨s0,hs0⟩:=Zn J.r.set;rw [<-hs0] at hset;have HS0:=Zh hs0;obtain ⟨rt,hrt⟩:=Zn (fitsJ J ns);rw [<-hrt];have HRT:=Zh (show rt=Zc4 J.r.shape s0 ns J.fill (e0+1) by rw [hrt,hs0,he0];rfl);have hA:=(St.init w).alloc (cells #[int i64 J.fill.set,int i64 J.fill.u0,int i64 J.fill.u1,int i64 J.fill.u2,int i64 J.fill.u3] 108);have HA:=Zh hA;have wl:w.heap.size=w.heap.size:=rfl;clear h h1 hr hB hns he0 hs0 hrt hA wl;obtain ⟨n0,hn0⟩:=Zn ns.length;rw [<-hn0] at hn;rw [<-hn0];have HN0:=Zh hn0;clear hn0;go_enter func44,ntmps44;go_wp2;go_loopw [19] (fun a19 wr=>∃ (i:Nat) (F:Fl),a19=int i64 i∧i<=n0∧rt=Zc4 J.r.shape s0 (ns.drop i) F (e0+1+i)∧St w w.hp wr [pt w.heap.size (cells #[int i64 F.set,int i64 F.u0,int i64 F.u1,int i64 F.u2,int i64 F.u3] 108)]) (fun a19 _=>n0 - (intOf a19).toNat);case atStart=>exact ⟨0,J.fill,rfl,ZL _,by rw [HRT.o];simp,HA.o⟩
 case round =>
  obtain ⟨i,⟨s,u0,u1,u2,u3⟩,rfl,hi,hgo,hst⟩:=hrel;have hbw:=hst.below;by_cases hlt:i<n0
  ·have hil:i<ns.length:=by rw [<-HN0.o];exact hlt
   obtain ⟨n,hnn⟩:∃ n,ns[i]?=some n:=⟨_,Zy hil⟩;obtain ⟨g,o,rfl,hg,hcell⟩:=HNS.o i n hnn;have y:wr.cell? ⟨g,o+i,none⟩=some (int i64 n):=(hbw.cell hg).trans hcell;have hgl:g<wr.heap.size:=ZfC hg hbw.size;have hdr:ns.drop i=n::ns.drop (i+1):=by
    rw [ZaS hil];congr 1;exact (ZH.1 hnn).2
   rw [hdr] at hgo;unfold Zc4 at hgo;have hps:=Zme J.r.shape ⟨s,u0,u1,u2,u3⟩ (e0+1+i) n;obtain ⟨⟨⟨s1,v0,v1,v2,v3⟩,⟨ps,po⟩,nx,ok⟩,hrr⟩:∃ r,rput J.r.shape ⟨s,u0,u1,u2,u3⟩ (e0+1+i) n=r:=⟨_,rfl⟩;rw [hrr] at hgo hps;simp only at hgo hps;have hrp:∀ w,Calls prog 69 #[.agg #[int i64 J.r.shape.splay,int i64 J.r.shape.sets,int i64 J.r.shape.size],.agg #[int i64 s,int i64 u0,int i64 u1,int i64 u2,int i64 u3],int i64 (e0+1+i),int i64 n] w fun e w'=>e=.returned (.tuple #[.agg #[int i64 s1,int i64 v0,int i64 v1,int i64 v2,int i64 v3],.agg #[int i64 ps,int i64 po],.bool nx])∧Below w.heap.size w w':=fun w=>by
    have:=Zik J.r.shape ⟨s,u0,u1,u2,u3⟩ (e0+1+i) n w;rw [hrr] at this;exact this
   have HRP:=Zh hrp;have HGO:=Zh hgo;have w1:IntKind.i64.wrap (e0+1)=e0+1:=by rw [Zx];omega
   have w2:IntKind.i64.wrap (e0+1+i)=e0+1+i:=by rw [Zx];omega
   have w3:IntKind.i64.wrap (s1 - s0)=s1 - s0:=by rw [Zx];omega
   obtain ⟨y0,y1,y2,y3,y4⟩:=Z8 hst;have HS:=Zh hst;have HBW:=Zh hbw;have HHJ:=Zh (H.o.keep hbw);clear hgo hrp hrr hst hbw hcell hdr hnn hil hg;go_upto_region 7 with fail
   have HMK:=Zh (show ∀ w',St W I w' (jnHP q p J::l)->St w w.hp w' [pt w.heap.size (cells #[int i64 s,int i64 u0,int i64 u1,int i64 u2,int i64 u3] 108)]->(St W I w' (jnHP q p J::l)∧w'.cell? ⟨q,1,none⟩=some (int i64 J.r.shape.splay)∧w'.cell? ⟨q,2,none⟩=some (int i64 J.r.shape.sets)∧w'.cell? ⟨q,3,none⟩=some (int i64 J.r.shape.size)∧w'.cell? ⟨w.heap.size,0,none⟩=some (int i64 s)∧w'.cell? ⟨w.heap.size,1,none⟩=some (int i64 u0)∧w'.cell? ⟨w.heap.size,2,none⟩=some (int i64 u1)∧w'.cell? ⟨w.heap.size,3,none⟩=some (int i64 u2)∧w'.cell? ⟨w.heap.size,4,none⟩=some (int i64 u3)) from fun w' h1 h2=>by
    obtain ⟨V,_,h3⟩:=h1.jn_open;obtain ⟨z1,z2,z3⟩:=Zc0 h3
    exact ⟨h1,z1,z2,z3,Z8 h2⟩)
   refine Zca (fun w'=>St W I w' (jnHP q p J::l)∧w'.cell? ⟨q,1,none⟩=some (int i64 J.r.shape.splay)∧w'.cell? ⟨q,2,none⟩=some (int i64 J.r.shape.sets)∧w'.cell? ⟨q,3,none⟩=some (int i64 J.r.shape.size)∧w'.cell? ⟨w.heap.size,0,none⟩=some (int i64 s)∧w'.cell? ⟨w.heap.size,1,none⟩=some (int i64 u0)∧w'.cell? ⟨w.heap.size,2,none⟩=some (int i64 u1)∧w'.cell? ⟨w.heap.size,3,none⟩=some (int i64 u2)∧w'.cell? ⟨w.heap.size,4,none⟩=some (int i64 u3)) [(0,false),(1,false),(2,false),(3,false),(4,false),(5,false),(6,false),(7,false),(8,false),(9,false),(10,false),(11,false),(12,false),(13,false),(14,false),(15,true),(16,true)] [17,18] [19,20,21] (by kernel_rfl) (by kernel_rfl) (by (intro w' hb;exact HMK.o _ (HHJ.o.drew.keep hb) (HS.o.drew.keep hb))) ?_;repeat (first|refine ZaH (by rfl) _ (by rfl) (by intro w;go_simp;try with_reducible rfl) ?_|refine ZaK (by rfl) _ (by rfl) (by (intro w hSw;(try dsimp only at hSw);go_simp;try with_reducible rfl)) ?_|refine ZaI (by rfl) (by rfl) ?_|fail);(try go_frame)
   refine Zb2 (by rfl) (int i64 e0) (29) (#[pointer (some ⟨q,0,none⟩)]) (by rfl) (by intro w;go_simp;try with_reducible rfl) (by (rintro w1 ⟨h1,_⟩;have h2:=ZcW h1 HB.o;rw [<-HE.o] at h2;exact h2)) ?_
   (try go_frame)
   repeat (first|refine ZaH (by rfl) _ (by rfl) (by intro w;go_simp;try with_reducible rfl) ?_|refine ZaK (by rfl) _ (by rfl) (by (intro w hSw;(try dsimp only at hSw);go_simp;try with_reducible rfl)) ?_|refine ZaI (by rfl) (by rfl) ?_|fail);(try go_frame)
   refine Zb2 (by rfl) (.tuple #[.agg #[int i64 s1,int i64 v0,int i64 v1,int i64 v2,int i64 v3],.agg #[int i64 ps,int i64 po],.bool nx]) (69) (#[.agg #[int i64 J.r.shape.splay,int i64 J.r.shape.sets,int i64 J.r.shape.size],.agg #[int i64 s,int i64 u0,int i64 u1,int i64 u2,int i64 u3],int i64 (e0+1+i),int i64 n]) (by rfl) (by intro w;go_simp;try with_reducible rfl) (by (rintro w1 _;exact HRP.o w1)) ?_
   (try go_frame)
   repeat (first|refine ZaH (by rfl) _ (by rfl) (by intro w;go_simp;try with_reducible rfl) ?_|refine ZaK (by rfl) _ (by rfl) (by (intro w hSw;(try dsimp only at hSw);go_simp;try with_reducible rfl)) ?_|refine ZaI (by rfl) (by rfl) ?_|fail);(try go_frame)
   refine Zce ?_;refine Zfw (by rfl) (by rfl) (fun g=>pointer (some ⟨g,0,none⟩)) (fun g=>pointer (some ⟨g,0,none⟩)) (cells #[int i64 0,int i64 0,int i64 0,int i64 0,int i64 0] 108) (cells #[int i64 0,int i64 0] 41) (by rfl) (by rfl) (by intro w;go_simp;try with_reducible rfl) (by intro w;go_simp;try with_reducible rfl) ?_;intro g8 g9;rintro w9 hz9;obtain ⟨hb9,l8,l9,hne⟩:=hz9.two (by decide);have h9:=HS.o.drew.fresh2 hb9 l8 l9 hne;clear hz9 hb9 l8 l9 y0 y1 y2 y3 y4 y x10 x11 x12 x13 x14 hgl ltq;have f8:=frozen_of_row h9.heap;have f9:=frozen_of_row (h9.pull 1 _ rfl).heap;obtain ⟨b5,b6⟩:g8<w9.heap.size∧g9<w9.heap.size:=⟨h9.lt,(h9.pull 1 _ rfl).lt⟩;obtain ⟨y0,y1,y2,y3,y4⟩:=Z8 h9;obtain ⟨z0,z1⟩:=Zaz (h9.pull 1 _ rfl);have H9:=Zh h9;clear h9;go_wp2;refine Zw ?_;have h10:=((((H9.o.set5 (int i64 s1) (int i64 v0) (int i64 v1) (int i64 v2) (int i64 v3)).pull 1 _ rfl).set2 (int i64 ps) (int i64 po)).pull 1 _ rfl);generalize (World.setCell _ _ _:World)=w10 at h10 |-;clear y0 y1 y2 y3 y4 z0 z1 f8 f9 H9 b5 b6;obtain ⟨y0,y1,y2,y3,y4⟩:=Z8 h10;have hb10:=h10.below;have hj:=H.o.keep hb10;obtain ⟨V2,hr2,hj2⟩:=hj.jn_open;obtain ⟨_,k2,_⟩:=Zc0 hj2;have k5:=jn_c5 hj2;rw [<-HS0.o] at k5;obtain ⟨ss,hss⟩:=Zn J.r.shape.sets;rw [<-hss] at k2;have HSS:=Zh hss;have x1:=h10.lt;have H10:=Zh h10;have HB10:=Zh hb10;by_cases hz:(⟨s1,v0,v1,v2,v3⟩:Fl)=Fl.zero
   ·have hq:∀ w,(Op.equalIn 10000 108 (.agg #[int i64 s1,int i64 v0,int i64 v1,int i64 v2,int i64 v3]) (.agg #[int i64 0,int i64 0,int i64 0,int i64 0,int i64 0])).run prog w=.ok true w:=fun w=>by
     have:=ZhY ⟨s1,v0,v1,v2,v3⟩ Fl.zero w;rw [Zt hz] at this;exact this
    clear hj hj2 hr2 h10 hb10 hss;go_upto_region 8 with fail;go_quiet (fail);go_wp2_with fail;have e1:rt=false:=HGO.o.trans (Zb hz);go_ret;exact ⟨by rw [e1];rfl,(H10.o.drewN _).below⟩
   ·have hq:∀ w,(Op.equalIn 10000 108 (.agg #[int i64 s1,int i64 v0,int i64 v1,int i64 v2,int i64 v3]) (.agg #[int i64 0,int i64 0,int i64 0,int i64 0,int i64 0])).run prog w=.ok false w:=fun w=>by
     have:=ZhY ⟨s1,v0,v1,v2,v3⟩ Fl.zero w;rw [Zq hz] at this;exact this
    have hgo2:=HGO.o.trans (Za hz);rw [<-hss] at hgo2;have lj:q<w10.heap.size:=hj2.lt;by_cases hss2:ss<=s1 - s0
    ·have e1:rt=false:=hgo2.trans (Zb hss2);have dd:decide (ss<=s1 - s0)=true:=Zt hss2;clear hj hj2 hr2 h10 hb10 hss hgo2 hz HGO;go_upto_region 8 with fail;go_quiet (fail);go_wp2;go_ret;exact ⟨by rw [e1];rfl,(H10.o.drewN _).below⟩
    ·have e1:rt=Zc4 J.r.shape s0 (ns.drop (i+1)) ⟨s1,v0,v1,v2,v3⟩ (e0+1+i+1):=hgo2.trans (Za hss2);have dd:decide (ss<=s1 - s0)=false:=Zq hss2;have E1:=Zh e1;clear hj hj2 hr2 h10 hb10 hss hgo2 hz HGO e1;go_upto_region 8 with fail;go_quiet (fail);obtain ⟨r0,r1,r2,r3,r4⟩:=Z8 (H10.o.pull 2 _ rfl);have rf:=frozen_of_row (H10.o.pull 2 _ rfl).heap;go_wp2_with fail;clear hss2 dd hq r0 r1 r2 r3 r4 rf y0 y1 y2 y3 y4;have h11:=fun nq=>(((H10.o.drewN nq).pull 2 _ rfl).set5 (int i64 s1) (int i64 v0) (int i64 v1) (int i64 v2) (int i64 v3)).pull 2 _ rfl;go_roundw;case rel=>exact ⟨i+1,⟨s1,v0,v1,v2,v3⟩,by go_num,by omega,by rw [E1.o];congr 1;omega,(((h11 _).drop).pull 1 _ rfl).drop⟩
     case measure=>simp [intOf]<;>omega
  ·obtain rfl:i=n0:=by omega
   rw [HN0.o,Zex] at hgo;have e1:rt=true:=hgo;clear hgo;have HBW:=Zh hbw;clear hst hbw;go_wp2;go_ret;exact ⟨by rw [e1];rfl,HBW.o⟩
end
theorem ZhA (l:List Tag) (t:Tag) (seq:Int):tagOf (l++[t]) seq=if t.at_<seq then t.id else tagOf l seq:=by
 unfold tagOf;rw [List.reverse_append,List.reverse_cons,List.reverse_nil,Zu,ZG,Zu];by_cases h:t.at_<seq
 ·rw [Zb h,List.find?_cons_of_pos (by simpa using h)]
 ·rw [Za h,List.find?_cons_of_neg (by simpa using h)]
section
theorem Zio (A:Option Addr) (n c:Nat) (l:List Tag) (seq:Int) (w:World) (hl:TagsAt w A n l) (hn:n<=1000000) :
  Calls prog 67 #[slice A n c,int i64 seq] w fun e w'=>e=.returned (int i64 (tagOf l seq))∧w=w':=by
 have HL:=Zh hl;have hlen:=hl.len;have hw0:IntKind.i64.wrap ((n:Int) - 1)=(n:Int) - 1:=by rw [Zx];omega
 clear hl;go_enter func67,ntmps67;go_wp2;go_loopw [5] (fun a5 wr=>∃ k:Nat,a5=int i64 ((k:Int) - 1)∧k<=n∧tagOf l seq=tagOf (l.take k) seq∧wr=w) (fun a5 _=>(intOf a5+1).toNat);case atStart=>exact ⟨n,rfl,ZC _,by rw [<-hlen,ZbJ],rfl⟩
 case round =>
  obtain ⟨k,rfl,hk,ht,rfl⟩:=hrel;rcases ZbF k with h0|h0
  ·subst h0;have HT:=Zh (show tagOf l seq=0 by rw [ht];rfl);clear ht;have d0:decide ((0:Int)<=((0:Nat):Int) - 1)=false:=by decide
   go_wp2;go_ret;rw [HT.o];exact ⟨rfl,rfl⟩
  ·obtain ⟨j,rfl⟩:∃ j,k=j+1:=⟨k - 1,by omega⟩;have e1:(((j+1:Nat):Int) - 1)=(j:Int):=by omega
   rw [e1];have d0:decide ((0:Int)<=(j:Int))=true:=by rw [Zk];omega
   obtain ⟨b,off,t,rfl,hlt,hlt2,c0,c1,c2,c3⟩:=HL.o.at_ (show j<n by omega);have hjn:(j:Int)<(n:Int):=by omega
   have hsn:tagOf (l.take (j+1)) seq=if t.at_<seq then t.id else tagOf (l.take j) seq:=by
    obtain ⟨hil,he⟩:=ZH.1 hlt2;rw [Zc8 hil,he,ZhA]
   rw [hsn] at ht;have hwj:IntKind.i64.wrap ((j:Int) - 1)=(j:Int) - 1:=by rw [Zx];omega
   by_cases hb:t.at_<seq
   ·rw [Zb hb] at ht;have HT:=Zh ht;have d1:decide (t.at_<seq)=true:=Zt hb;clear ht hsn hlt2 e1;go_wp2;go_ret;rw [HT.o];exact ⟨rfl,rfl⟩
   ·rw [Za hb] at ht;have HT:=Zh ht;have d1:decide (t.at_<seq)=false:=Zq hb;clear ht hsn hlt2 e1;go_wp2;go_roundw;case rel=>exact ⟨j,rfl,by omega,HT.o,trivial⟩
    case measure=>simp [intOf]<;>omega
end
section
variable {p q : Nat} {S : Str} {J : Jn}
theorem ZoF:(prog.info? 212).map (fun i=>(i.zero,i.size,i.bytes))=some (some (.agg #[int i64 0,int i64 0,.bool false]),3,24):=by kernel_rfl
theorem ZeG (v:Value) (n:Nat) (xs:List Value) (w:World) (hs:SliceSrc w 3 v n xs) (hn:n<=1000000) :
  Calls prog 152 #[v] w fun e w'=>∃ v',e=.returned v'∧w'.ownsRow w.heap.size 212 3 v' n xs∧Below w.heap.size w w':=by
 obtain ⟨A,c,rfl,hsrc,hA⟩:=hs;cases A with
 | none =>
  have h0:n=0:=by
   rcases ZbF n with h|h
   ·exact h
   ·obtain ⟨_,e,_⟩:=hsrc.cells h;cases e
  subst h0;have hx:xs=[]:=Zcq (by rw [hsrc.len,ZcE]);subst hx;obtain rfl:=hA rfl;have hq:=@Lib.run_eql_slice_nil prog;go_enter func152,ntmps152;go_wp2;go_ret;exact ⟨_,rfl,ZeU _ _ _ _,ZI _ _⟩
 | some ad =>
  obtain ⟨i0,hi0,hz0,hz1,hz2⟩:=info_parts ZoF;have hq:=@Lib.run_eql_slice_nil prog;go_enter func152,ntmps152;have hown:=ZiR (base:=w.heap.size) (e:=212) (size:=3) w #[] 0 (ZC _) (ZL _) rfl
  go_wp2_with (at_builtin
               refine ZeA _ rfl (.tmp 5) (.tmp 6) _ rfl w.heap.size 212 i0 _ 3 24 underlying103 hi0 hz0 hz1 hz2 rfl (by omega) _ 0 [] rfl hown (some ad) n c xs rfl
                (hsrc.below (ZS _ _)) (fun h=>by cases h) (by simp only [maxLen];omega) (by omega) (by simp) ?_
               intro v1 w1 hown1 hg1 hat1)
  go_ret;refine ⟨_,rfl,by simpa using hown1,((ZI _ _).alloc (ZC _) _).grown hg1 (by simp) (fun k hk=>?_)⟩;have hk':some w.heap.size=some k:=hk;injection hk' with hk';omega
theorem Zlu (pl:Pl) (h:St W I w (jnHP q p J::l)):Calls prog 70 #[pointer (some ⟨q,0,none⟩),pl.val] w fun e w'=>e=.returned (.agg #[int i64 2,int i64 0,int i64 (rnum J.r.shape pl),int i64 0])∧Below w.heap.size w w':=by
 obtain ⟨V,hr,h1⟩:=h.jn_open;obtain ⟨x1,x2,x3⟩:=Zc0 h1;have ltq:=h1.lt;obtain ⟨s,o⟩:=pl;obtain ⟨r,hrr⟩:=Zn (rnum J.r.shape ⟨s,o⟩);have HN:=Zh (fun w=>(hrr ▸ Zsh J.r.shape ⟨s,o⟩ w:Calls prog 131 #[J.r.shape.val,Pl.val ⟨s,o⟩] w fun e w'=>e=.returned (int i64 r)∧Below w.heap.size w w'));rw [<-hrr];obtain ⟨⟨a,b,c⟩,hsh⟩:∃ x,x=J.r.shape:=⟨_,rfl⟩;rw [<-hsh] at x1 x2 x3 HN;simp only at x1 x2 x3;clear h h1 hr hrr hsh;simp only [Pl.val];have h4:=(((St.init w).alloc (cells #[int i64 s,int i64 o] 41)).alloc (cells #[int i64 0,int i64 0,int i64 0,int i64 0] 43));simp only [Zew] at h4;have H4:=Zh h4;clear h4;go_enter func70,ntmps70;go_upto_region 1 with fail;have h4:=H4.o;generalize (World.alloc _ _:World)=w4 at h4 |-
 have HMK:=Zh (show ∀ w',St w w.hp w' [pt (w.heap.size+1) (cells #[int i64 0,int i64 0,int i64 0,int i64 0] 43),pt w.heap.size (cells #[int i64 s,int i64 o] 41)]->(w'.cell? ⟨q,1,none⟩=some (int i64 a)∧w'.cell? ⟨q,2,none⟩=some (int i64 b)∧w'.cell? ⟨q,3,none⟩=some (int i64 c)∧w'.cell? ⟨w.heap.size,0,none⟩=some (int i64 s)∧w'.cell? ⟨w.heap.size,1,none⟩=some (int i64 o)) from fun w' h => 
  ⟨(h.below.cell ltq).trans x1,(h.below.cell ltq).trans x2,(h.below.cell ltq).trans x3,Zaz (h.pull 1 _ rfl)⟩)
 have H5:=Zh h4;clear h4 H4 x1 x2 x3;refine Zca (fun w'=>w'.cell? ⟨q,1,none⟩=some (int i64 a)∧w'.cell? ⟨q,2,none⟩=some (int i64 b)∧w'.cell? ⟨q,3,none⟩=some (int i64 c)∧w'.cell? ⟨w.heap.size,0,none⟩=some (int i64 s)∧w'.cell? ⟨w.heap.size,1,none⟩=some (int i64 o)) [(0,false),(1,false),(2,false),(3,false),(4,false),(5,false),(6,false),(7,false)] [] [8] (by kernel_rfl) (by kernel_rfl) (by (intro w' hb;exact HMK.o _ (H5.o.drew.keep hb))) ?_;repeat (first|refine ZaH (by rfl) _ (by rfl) (by intro w;go_simp;try with_reducible rfl) ?_|refine ZaK (by rfl) _ (by rfl) (by (intro w hSw;(try dsimp only at hSw);go_simp;try with_reducible rfl)) ?_|refine ZaI (by rfl) (by rfl) ?_|fail);(try go_frame)
 refine Zb2 (by rfl) (int i64 r) (131) (#[.agg #[int i64 a,int i64 b,int i64 c],.agg #[int i64 s,int i64 o]]) (by rfl) (by intro w;go_simp;try with_reducible rfl) (by (rintro w1 _;exact HN.o w1)) ?_
 (try go_frame)
 repeat (first|refine ZaH (by rfl) _ (by rfl) (by intro w;go_simp;try with_reducible rfl) ?_|refine ZaK (by rfl) _ (by rfl) (by (intro w hSw;(try dsimp only at hSw);go_simp;try with_reducible rfl)) ?_|refine ZaI (by rfl) (by rfl) ?_|fail);(try go_frame)
 refine Zce ?_;refine ZdD ?_;rintro w9 hz9;have h9:=H5.o.drew.keep hz9.below;clear hz9;have f9:=frozen_of_row h9.heap;have k9:=Zc h9.heap;have y0:=k9 0;have y1:=k9 1;have y2:=k9 2;have y3:=k9 3;simp at y0 y1 y2 y3;have lt9:=h9.lt;have H9:=Zh h9;clear h9 k9;go_wp2;refine Zw ?_;have h10:=(((H9.o.setCell 0 (int i64 2)).setCell 1 (int i64 0)).setCell 2 (int i64 r)).setCell 3 (int i64 0);generalize (World.setCell _ _ _:World)=w10 at h10 |-;clear y0 y1 y2 y3 f9 lt9 H9;have k9:=Zc h10.heap;have y0:=k9 0;have y1:=k9 1;have y2:=k9 2;have y3:=k9 3;simp at y0 y1 y2 y3;have HB:=Zh h10.below;clear h10 k9;go_wp2;refine Zaj (v:=.agg #[int i64 2,int i64 0,int i64 r,int i64 0]) (by simp [results,results70,go_sem,y0,y1,y2,y3]) rfl ?_;exact ⟨rfl,HB.o⟩
theorem Zcz (cs:List Cl):∀ u ∈ cs.flatMap Cl.vals,u.oneCell'=true:=by
 intro u hu;simp only [Zcs,Cl.vals,Z4,Zbv,Zbi] at hu;obtain ⟨c,_,rfl|rfl|rfl⟩:=hu <;> rfl
theorem Zlv {w2:World} {e:TypeId} {size n:Nat} {v:Value} {xs:List Value} (h:St W I w l) (ho:w2.ownsRow w.heap.size e size v n xs) (hb:Below w.heap.size w w2):∃ I',I.sub I'∧RowI I' size v n xs∧St W I' w2 l :=
 (h.row_fresh hb ho).freeze_row
theorem ZjR (h:St W I w (jnHP q p J::l)) (hn:J.r.tags.length<=1000000):Calls prog 40 #[pointer (some ⟨q,0,none⟩)] w fun e w'=>∃ I' v,I.sub I'∧e=.returned v∧RowI I' 4 v J.r.tags.length (flat J.r.tags)∧St W I' w' (jnHP q p J::l):=by
 obtain ⟨V,hr,h1⟩:=h.jn_open;have x6:=jn_c6 h1;obtain ⟨A,c,hv,_,hat⟩:=ZbM h1 hr.1;rw [hv] at x6;have HC:=Zh (Zfb A J.r.tags.length c J.r.tags w hat hn);have H:=Zh h;obtain ⟨n,hnn⟩:=Zn J.r.tags.length;rw [<-hnn] at x6 HC;rw [<-hnn];have HNN:=Zh hnn;clear h h1 hr hv hat hnn;go_enter func40,ntmps40;go_wp2_with fail;refine HC.o.mono ?_;rintro e w2 ⟨v,rfl,ho,hb⟩;obtain ⟨I2,s2,hR,h2⟩:=Zlv H.o ho hb;have HR:=Zh hR;have H2:=Zh h2;clear ho hb hR h2 x6;obtain ⟨A2,c2,rfl,_⟩:=HR.o;go_wp2;go_ret;exact ⟨I2,_,s2,rfl,HR.o,H2.o⟩
theorem Znv (h:St W I w (jnHP q p J::l)) (hn:J.r.cls.length<=1000000):Calls prog 101 #[pointer (some ⟨q,0,none⟩)] w fun e w'=>∃ I' v,I.sub I'∧e=.returned v∧RowI I' 3 v J.r.cls.length (J.r.cls.flatMap Cl.vals)∧St W I' w' (jnHP q p J::l):=by
 obtain ⟨V,hr,h1⟩:=h.jn_open;have x7:=jn_c7 h1;have HC:=Zh (ZeG V.vc J.r.cls.length (J.r.cls.flatMap Cl.vals) w (hr.2.src h1.imm (Zcz _) (by omega)) hn);have H:=Zh h;obtain ⟨A,c,hv,_⟩:=hr.2;rw [hv] at x7 HC;obtain ⟨n,hnn⟩:=Zn J.r.cls.length;rw [<-hnn] at x7 HC;rw [<-hnn];have HNN:=Zh hnn;clear h h1 hr hv hnn;go_enter func101,ntmps101;go_wp2_with fail;refine HC.o.mono ?_;rintro e w2 ⟨v,rfl,ho,hb⟩;obtain ⟨I2,s2,hR,h2⟩:=Zlv H.o ho hb;have HR:=Zh hR;have H2:=Zh h2;clear ho hb hR h2 x7;obtain ⟨A2,c2,rfl,_⟩:=HR.o;go_wp2;go_ret;exact ⟨I2,_,s2,rfl,HR.o,H2.o⟩
def safeJ (J:Jn):Jn:={ J with safe:=endJ J }
theorem St.jn_safe (x:Int) (h:St W I w (jnHP q p J::l)) (hx:x=endJ J):St W I (w.setCell ⟨q,15,none⟩ (int i64 x)) (jnHP q p (safeJ J)::l):=by
 subst hx;obtain ⟨V,hr,h1⟩:=h.jn_open;exact St.jn_shut (J:=safeJ J) (V:=V) hr (h1.setCell 15 (int i64 (endJ J)))
def Zd1 (S:Str) (J:Jn):Int × Str × Jn :=
 if mayJ S J≠0 then (mayJ S J,S,mayJ2 S J) else if (ZB S).1≠0 then ((ZB S).1,(ZB S).2,endsJ J (ZB S).1) else (0,(ZB S).2,safeJ J)
theorem Zcw {S:Str} {J:Jn} (h:mayJ S J=0):mayJ2 S J=J:=by
 unfold mayJ at h;unfold mayJ2;by_cases hc:J.dead=true∨S.on=false
 ·rw [Zb hc] at h;cases h
 ·rw [Za hc]
theorem ZoG {m:Nat} (h:St W I w (Zj p S::jnHP q p J::l)) (hk:Keeps S m) (hB:JB J):Calls prog 17 #[pointer (some ⟨q,0,none⟩)] w fun e w'=>∃ I',I.sub I'∧e=.returned (int i64 (Zd1 S J).1)∧St W I' w' (Zj p (Zd1 S J).2.1::jnHP q p (Zd1 S J).2.2::l):=by
 have HM:=Zh (ZdA h);have HK:=Zh hk;have HB:=Zh hB;obtain ⟨e0,he0⟩:=Zn (mayJ S J);have HSM:=Zh (@Zcw S J);have HX:=Zh (show Zd1 S J=if e0≠0 then (e0,S,mayJ2 S J) else if (ZB S).1≠0 then ((ZB S).1,(ZB S).2,endsJ J (ZB S).1) else (0,(ZB S).2,safeJ J) by rw [he0];rfl);rw [<-he0] at HM HSM;clear h hk hB he0;by_cases h0:e0=0
 ·subst h0;have HX2:=Zh (HX.o.trans (Za (by simp)));have hsame:=HSM.o rfl;rw [hsame] at HM;clear HX HSM hsame;go_enter func17,ntmps17;go_wp2_with fail;refine HM.o.mono ?_;rintro e w2 ⟨rfl,h2⟩;obtain ⟨V,hr,h3⟩:=(h2.pull 1 _ rfl).jn_open;have x0:=jn_c0 h3;have lt:=h3.lt;have H2:=Zh h2;clear h2 hr h3;go_wp2_with fail;refine (Zec H2.o HK.o).mono ?_;rintro e w3 ⟨I3,s3,rfl,h3⟩;obtain ⟨⟨b,S3⟩,hb⟩:∃ x,x=ZB S:=⟨_,rfl⟩;rw [<-hb] at h3 HX2;simp only at h3;by_cases hb0:b=0
  ·subst hb0;have HX3:=Zh (HX2.o.trans (Za (by simp)));have hj:=h3.pull 1 _ rfl;have HE:=Zh (ZcW hj HB.o);have H3:=Zh h3;rw [<-hb];obtain ⟨en,hen⟩:=Zn (endJ J);rw [<-hen] at HE;have HEN:=Zh hen;clear h3 hj hb x0 lt HX2 hen;go_wp2_with fail;refine HE.o.mono ?_;rintro e w4 ⟨rfl,hb4⟩;have h4:=H3.o.keep hb4;obtain ⟨V4,_,h5⟩:=(h4.pull 1 _ rfl).jn_open;have x15:=ZgC h5;have f:=Zbx h5;have lt:=h5.lt;have H4:=Zh h4;clear h4 h5 hb4;go_wp2;go_ret;have h6:=((H4.o.pull 1 _ rfl).jn_safe en HEN.o).pull 1 _ rfl;rw [HX3.o];exact ⟨I3,s3,rfl,h6⟩
  ·have HX3:=Zh (HX2.o.trans (Zb (by simpa using hb0)));have hne:(b != 0)=true:=by simpa using hb0
   have HE:=Zh (Zdd b (h3.pull 1 _ rfl));rw [<-hb];clear h3 hb x0 lt HX2;go_wp2_with fail;refine HE.o.mono ?_;rintro e w4 ⟨rfl,h4⟩;have H4:=Zh (h4.pull 1 _ rfl);clear h4;go_wp2;go_ret;rw [HX3.o];exact ⟨I3,s3,rfl,H4.o⟩
 ·have HX2:=Zh (HX.o.trans (Zb h0));have hne:(e0 != 0)=true:=by simpa using h0
  clear HX HSM;go_enter func17,ntmps17;go_wp2_with fail;refine HM.o.mono ?_;rintro e w2 ⟨rfl,h2⟩;have H2:=Zh h2;clear h2;go_wp2;go_ret;rw [HX2.o];exact ⟨I,Hp.sub.refl _,rfl,H2.o⟩
end
section
variable {p q : Nat} {S : Str} {J : Jn}
def recJ (J:Jn) (r:Rc):Jn:={ J with r:=r }
def keepJ (S:Str) (J:Jn) (r:Rc):Int × Str × Jn:=((saveJ S r).1,(saveJ S r).2,endsJ (if (saveJ S r).1=0 then recJ J r else J) (saveJ S r).1)
theorem St.jn_rec {r:Rc} {vt vc:Value} (hI:recI I r vt vc) (h:St W I w (jnHP q p J::l)):St W I (((((((w.setCell ⟨q,1,none⟩ (int i64 r.shape.splay)).setCell ⟨q,2,none⟩ (int i64 r.shape.sets)).setCell ⟨q,3,none⟩ (int i64 r.shape.size)).setCell ⟨q,4,none⟩ (int i64 r.first)).setCell ⟨q,5,none⟩ (int i64 r.set)).setCell ⟨q,6,none⟩ vt).setCell ⟨q,7,none⟩ vc) (jnHP q p (recJ J r)::l):=by
 obtain ⟨V,hr,h1⟩:=h.jn_open;have h2:=((((((h1.setCell 1 (int i64 r.shape.splay)).setCell 2 (int i64 r.shape.sets)).setCell 3 (int i64 r.shape.size)).setCell 4 (int i64 r.first)).setCell 5 (int i64 r.set)).setCell 6 vt).setCell 7 vc;simp only [Zb3,Zf,Zd,Ze] at h2;exact St.jn_shut (J:=recJ J r) (V:={ V with vt:=vt,vc:=vc }) hI h2
theorem ZhB (r:Rc) (vt vc:Value) (o:Option Rc) {m:Nat} (h:St W I w (Zj p S::jnHP q p J::l)) (hk:Keeps S (m+2)) (hr:r.Ok) (hI:recI I r vt vc) (hj:JRec S o) :
  Calls prog 102 #[pointer (some ⟨q,0,none⟩),.agg (r.cells vt vc)] w fun e w'=>∃ I',I.sub I'∧e=.returned (int i64 (keepJ S J r).1)∧St W I' w' (Zj p (keepJ S J r).2.1::jnHP q p (keepJ S J r).2.2::l):=by
 obtain ⟨a,b,hx⟩:∃ a b,saveJ S r=(a,b):=⟨_,_,rfl⟩;have HX:=Zh (show keepJ S J r=(a,b,endsJ (if a=0 then recJ J r else J) a) by unfold keepJ;rw [hx]);obtain ⟨V,hrV,h1⟩:=(h.pull 1 _ rfl).jn_open;have x0:=jn_c0 h1;have ltq:=h1.lt;clear hrV h1;have h2:=h.alloc (cells (r.cells vt vc) 105);have HS:=Zh (fun w2 l2 (h:St W I w2 (Zj p S::l2))=>by have:=Zhz r vt vc o h hk hr hI hj;rw [hx] at this;exact this);obtain ⟨At,ct,rfl,_⟩:=hI.1;obtain ⟨Ac,cc,rfl,_⟩:=hI.2;simp only [Rc.cells] at h2 HS |-;have HI:=Zh hI;have H2:=Zh h2;have HR:=Zh hr;clear h hk hI hj h2 hr;have x0':=x0;go_enter func102,ntmps102;go_upto_region 1 with fail;have h2:=H2.o;have b2:=(ZI w.heap.size w).alloc (ZC _) (cells #[int i64 r.shape.splay,int i64 r.shape.sets,int i64 r.shape.size,int i64 r.first,int i64 r.set,slice At r.tags.length ct,slice Ac r.cls.length cc] 105);generalize hw2:(World.alloc _ _:World)=w2 at h2 b2 |-;have x0:w2.cell? ⟨q,0,none⟩=some (pointer (some ⟨p,0,none⟩)):=(b2.cell ltq).trans x0';have h3:=h2.pull 1 _ rfl;obtain ⟨z0,z1,z2,z3,z4,z5,z6⟩:=ZaC h2;have H3:=Zh h3;clear h2 h3 H2 b2 hw2 x0';refine ZaM [0,1,2] [3,4] [5,6] (by kernel_rfl) (by kernel_rfl) ?_;simp only [pickL,Zg,Zi];repeat (refine ZaE _ (Or.inl ⟨by rfl,by intro w;go_simp;try with_reducible rfl⟩) ?_;(try go_frame))
 refine ZaF ?_;repeat still_step
 refine ZaQ ?_;go_wp2_with fail;refine (HS.o _ _ H3.o.drew).mono ?_;rintro e w4 ⟨I4,s4,rfl,h4⟩;clear x0 z0 z1 z2 z3 z4 z5 z6 HS H3;obtain ⟨z0,z1,z2,z3,z4,z5,z6⟩:=ZaC (h4.pull 1 _ rfl);obtain ⟨V4,_,h5⟩:=(h4.pull 2 _ rfl).jn_open;have k:=Za1 h5;have k1:=k 1;have k2:=k 2;have k3:=k 3;have k4:=k 4;have k5:=k 5;have k6:=k 6;have k7:=k 7;have f:=Zbx h5;have lq:=h5.lt;simp [Zb3] at k1 k2 k3 k4 k5 k6 k7;have H4:=Zh h4;clear h4 h5 k;go_wp2;refine Zw ?_;by_cases ha:a=0
 ·subst ha;rw [Zb rfl] at HX;go_wp2_with fail;have h6:=(H4.o.pull 2 _ rfl).jn_rec (recI.mono s4 HI.o);generalize (World.setCell _ _ _:World)=w6 at h6 |-;have HE:=Zh (Zdd 0 h6);clear h6 H4 k1 k2 k3 k4 k5 k6 k7 f lq z0 z1 z2 z3 z4 z5 z6;go_wp2_with fail;refine HE.o.mono ?_;rintro e w7 ⟨rfl,h7⟩;have H7:=Zh (h7.pull 1 _ rfl);clear h7;go_wp2;go_ret;rw [HX.o];exact ⟨I4,s4,rfl,(H7.o.pull 2 _ rfl).drop⟩
 ·rw [Za ha] at HX;have hne:(a==0)=false:=by simpa using ha
  have HE:=Zh (Zdd a (H4.o.pull 2 _ rfl));clear H4 k1 k2 k3 k4 k5 k6 k7 f lq z0 z1 z2 z3 z4 z5 z6;go_wp2_with fail;refine HE.o.mono ?_;rintro e w7 ⟨rfl,h7⟩;have H7:=Zh (h7.pull 1 _ rfl);clear h7;go_wp2;go_ret;rw [HX.o];exact ⟨I4,s4,rfl,(H7.o.pull 2 _ rfl).drop⟩
def clsR (r:Rc) (cs:List Cl):Rc:=⟨r.shape,r.first,r.set,r.tags,cs⟩
def withJ (S:Str) (J:Jn) (cs:List Cl) (why:Int):Int × Str × Jn:=if why≠0 then (why,S,J) else keepJ S J (clsR J.r cs)
theorem Zgc (vc:Value) (cs:List Cl) (why:Int) (o:Option Rc) {m:Nat} (h:St W I w (Zj p S::jnHP q p J::l)) (hk:Keeps S (m+2)) (hB:JB J) (hcs:why=0->Zae cs=true) (hI:RowI I 3 vc cs.length (cs.flatMap Cl.vals)) (hj:JRec S o) :
  Calls prog 107 #[pointer (some ⟨q,0,none⟩),vc,int i64 why] w fun e w'=>∃ I',I.sub I'∧e=.returned (int i64 (withJ S J cs why).1)∧St W I' w' (Zj p (withJ S J cs why).2.1::jnHP q p (withJ S J cs why).2.2::l):=by
 have hI0:=hI;obtain ⟨Ac,cc,rfl,_⟩:=hI;by_cases h0:why=0
 ·subst h0;have e:withJ S J cs 0=keepJ S J (clsR J.r cs):=Za (by simp);rw [e];have hok:(clsR J.r cs).Ok:=⟨hB.ok.shape,hB.ok.first,hB.ok.set,hB.ok.tags,hcs rfl⟩;obtain ⟨R,hR⟩:=Zn (keepJ S J (clsR J.r cs));rw [<-hR];have HK:=Zh (fun w2 l2 (vt:Value) (h:St W I w2 (Zj p S::jnHP q p J::l2)) (hI2:recI I (clsR J.r cs) vt (slice Ac cs.length cc))=>(hR ▸ ZhB (clsR J.r cs) vt (slice Ac cs.length cc) o h hk hok hI2 hj:_));obtain ⟨V,hr,h1⟩:=(h.pull 1 _ rfl).jn_open;have k:=Za1 h1;have k1:=k 1;have k2:=k 2;have k3:=k 3;have k4:=k 4;have k5:=k 5;have k6:=k 6;have k7:=k 7;have lq:=h1.lt;simp [Zb3] at k1 k2 k3 k4 k5 k6 k7;have hrI:recI I (clsR J.r cs) V.vt (slice Ac cs.length cc):=⟨hr.1,hI0⟩;obtain ⟨At,ct,hvt,_⟩:=hr.1;obtain ⟨Aq,cq,hvc,_⟩:=hr.2;rw [hvt] at k6 hrI;rw [hvc] at k7;have h2:=h.alloc (cells #[int i64 J.r.shape.splay,int i64 J.r.shape.sets,int i64 J.r.shape.size,int i64 J.r.first,int i64 J.r.set,slice At J.r.tags.length ct,slice Ac cs.length cc] 105);have H2:=Zh h2;have HI:=Zh hrI;simp only [Rc.cells,clsR] at HK;clear hI0 h h1 hr hk hB hcs hj e hok hR k hvt hvc h2 hrI;go_enter func107,ntmps107;go_wp2_with fail;have hc:=HK.o _ _ _ ((H2.o.pull 2 _ rfl).pull 2 _ rfl) HI.o;refine hc.mono ?_;rintro e w4 ⟨I4,s4,rfl,h4⟩;have H4:=Zh (h4.pull 2 _ rfl).drop;clear hc h4 k1 k2 k3 k4 k5 k6 k7 lq H2 HK;go_wp2;go_ret;exact ⟨I4,s4,rfl,H4.o⟩
 ·have e:withJ S J cs why=(why,S,J):=Zb h0;have hne:(why != 0)=true:=by simpa using h0
  have H:=Zh h;rw [e];clear h hk hB hcs hj e hI0;go_enter func107,ntmps107;go_wp2;go_ret;exact ⟨I,Hp.sub.refl _,rfl,H.o⟩
def uptoJ (S:Str) (J:Jn) (id pos:Int):Int:=if mayJ S J≠0 then mayJ S J else if mayC id pos=false then 1 else if endJ J<pos then 3 else 0
theorem ZkD (id pos:Int) (h:St W I w (Zj p S::jnHP q p J::l)) (hB:JB J):Calls prog 106 #[pointer (some ⟨q,0,none⟩),int i64 id,int i64 pos] w fun e w'=>e=.returned (int i64 (uptoJ S J id pos))∧St W I w' (Zj p S::jnHP q p (mayJ2 S J)::l):=by
 have HM:=Zh (ZdA h);have HB:=Zh hB;have HSM:=Zh (@Zcw S J);obtain ⟨e0,he0⟩:=Zn (mayJ S J);have HX:=Zh (show uptoJ S J id pos=if e0≠0 then e0 else if mayC id pos=false then 1 else if endJ J<pos then 3 else 0 by rw [he0];rfl);rw [<-he0] at HM HSM;clear h hB he0;by_cases h0:e0=0
 ·subst h0;have HX2:=Zh (HX.o.trans (Za (by simp)));have hsame:=HSM.o rfl;rw [hsame] at HM |-;clear HX HSM hsame;by_cases hm:mayC id pos=true
  ·have HX3:=Zh (HX2.o.trans (Za (by simp [hm])));unfold mayC at hm;rw [Zk] at hm;have d1:decide (id<1)=false:=by rw [ZT];omega
   have d2:decide (1073741824<id)=false:=by rw [ZT];omega
   have d3:decide (pos<0)=false:=by rw [ZT];omega
   have d4:decide (1099511627776<pos)=false:=by rw [ZT];omega
   obtain ⟨en,hen⟩:=Zn (endJ J);rw [<-hen] at HX3;have HEN:=Zh hen;clear hm hen;go_enter func106,ntmps106;go_wp2_with fail;refine HM.o.mono ?_;rintro e w2 ⟨rfl,h2⟩;have HE:=Zh (ZcW (h2.pull 1 _ rfl) HB.o);rw [<-HEN.o] at HE;have H2:=Zh h2;clear h2;go_wp2_with fail;refine HE.o.mono ?_;rintro e w4 ⟨rfl,hb4⟩;have H4:=Zh (H2.o.keep hb4);clear hb4;by_cases hp:en<pos
   ·have HX4:=Zh (HX3.o.trans (Zb hp));go_wp2;go_ret;rw [HX4.o];exact ⟨rfl,H4.o⟩
   ·have HX4:=Zh (HX3.o.trans (Za hp));go_wp2;go_ret;rw [HX4.o];exact ⟨rfl,H4.o⟩
  ·have HX3:=Zh (HX2.o.trans (Zb (by simpa using hm)));unfold mayC at hm;rw [Zk] at hm;go_enter func106,ntmps106;go_wp2_with fail;refine HM.o.mono ?_;rintro e w2 ⟨rfl,h2⟩;have H2:=Zh h2;clear h2;rcases (show id<1∨(¬ id<1∧1073741824<id)∨(¬ id<1∧¬ 1073741824<id∧pos<0)∨(¬ id<1∧¬ 1073741824<id∧¬ pos<0∧1099511627776<pos) by omega) with d1|⟨d1,d2⟩|⟨d1,d2,d3⟩|⟨d1,d2,d3,d4⟩;all_goals
    clear hm;go_wp2;go_ret;rw [HX3.o];exact ⟨rfl,H2.o⟩
 ·have HX2:=Zh (HX.o.trans (Zb h0));have hne:(e0 != 0)=true:=by simpa using h0
  clear HX HSM;go_enter func106,ntmps106;go_wp2_with fail;refine HM.o.mono ?_;rintro e w2 ⟨rfl,h2⟩;have H2:=Zh h2;clear h2;go_wp2;go_ret;rw [HX2.o];exact ⟨rfl,H2.o⟩
end
theorem Zjm {l:List Tag} {end_:Int} {i:Nat} (h1:∀ j t,j<i->l[j]?=some t->t.at_<=end_) (h2:∀ t,l[i]?=some t->¬ t.at_<=end_) (hi:i<=l.length):ZQ l end_=l.take i:=by
 unfold ZQ;induction l generalizing i with
 | nil=>simp
 | cons a l ih =>
  cases i with
  | zero =>
   have:=h2 a rfl;rw [List.takeWhile_cons_of_neg (by simpa using this)];rfl
  | succ i =>
   have:=h1 0 a (by omega) rfl;rw [List.takeWhile_cons_of_pos (by simpa using this),ih (i:=i) (fun j t hj ht=>h1 (j+1) t (by omega) (by simpa using ht)) (fun t ht=>h2 t (by simpa using ht)) (by simpa using hi)];rfl
section
theorem Zlw (A:Option Addr) (n c:Nat) (l:List Tag) (end_:Int) (w:World) (hl:TagsAt w A n l) (hn:n<=1000000) (hnc:n<=c) :
  Calls prog 90 #[slice A n c,int i64 end_] w fun e w'=>∃ v,e=.returned v∧w'.ownsRow w.heap.size 80 4 v (ZQ l end_).length (flat (ZQ l end_))∧Below w.heap.size w w':=by
 have HL:=Zh hl;have hlen:=hl.len;clear hl;go_enter func90,ntmps90;go_wp2;go_loopw [5] (fun a5 wr=>∃ i:Nat,a5=int i64 i∧i<=n∧(∀ j t,j<i->l[j]?=some t->t.at_<=end_)∧wr=w) (fun a5 _=>n - (intOf a5).toNat);case atStart=>exact ⟨0,rfl,ZL _,fun j t h=>by omega,rfl⟩
 case round =>
  obtain ⟨i,rfl,hi,hall,rfl⟩:=hrel;have done:(∀ t,l[i]?=some t->¬ t.at_<=end_)->∃ v,True:=fun _=>⟨Value.bool true,trivial⟩;clear done;by_cases hlt:i<n
  ·have d0:decide ((i:Int)<(n:Int))=true:=by rw [Zk];omega
   obtain ⟨b,off,t,rfl,hbl,hti,c0,c1,c2,c3⟩:=HL.o.at_ hlt;have hin:(i:Int)<(n:Int):=by omega
   by_cases hb:t.at_<=end_
   ·have d1:decide (t.at_<=end_)=true:=Zt hb
    have HA:=Zh (show ∀ j u,j<i+1->l[j]?=some u->u.at_<=end_ from fun j u hj hu=>by
     by_cases e:j=i
     ·subst e;rw [hti] at hu;cases hu;exact hb
     ·exact hall j u (by omega) hu)
    clear hall hti;go_wp2;go_roundw;case rel=>exact ⟨i+1,by go_num,by omega,HA.o,trivial⟩
    case measure=>simp [intOf]<;>omega
   ·have d1:decide (t.at_<=end_)=false:=Zq hb;have HC:=Zh (Zjm hall (fun u hu=>by rw [hti] at hu;cases hu;exact hb) (by omega));have hic:i<=c:=by omega
    have HCL:=Zh (Zfb (some ⟨b,off,none⟩) i c (l.take i) wr (HL.o.take (by omega)) (by omega));clear hall hti;go_wp2_with fail;refine HCL.o.mono ?_;rintro e w2 ⟨v,rfl,ho,hb2⟩;have HO:=Zh ho;have HB2:=Zh hb2;clear ho hb2;go_wp2;go_ret;refine ⟨v,rfl,?_,HB2.o⟩;rw [HC.o,ZJ,show min i l.length=i by omega];exact HO.o
  ·obtain rfl:i=n:=by omega
   have d0:decide (((i:Nat):Int)<(i:Int))=false:=by rw [ZT];omega
   have HC:=Zh (Zjm (i:=i) hall (fun u hu=>by rw [ZeX (by omega)] at hu;cases hu) (by omega));have HCL:=Zh (Zfb A i c (l.take i) wr (HL.o.take (by omega)) (by omega));clear hall;go_wp2_with fail;refine HCL.o.mono ?_;rintro e w2 ⟨v,rfl,ho,hb2⟩;have HO:=Zh ho;have HB2:=Zh hb2;clear ho hb2;go_wp2;go_ret;refine ⟨v,rfl,?_,HB2.o⟩;rw [HC.o,ZJ,show min i l.length=i by omega];exact HO.o
end
end Go.Proofs.YtpjchngjhijgmaaGreat
