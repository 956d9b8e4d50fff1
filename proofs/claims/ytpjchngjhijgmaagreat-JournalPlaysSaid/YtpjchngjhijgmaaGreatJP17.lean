import Derived.Test.YtpjchngjhijgmaaGreatJP16
set_option linter.all false
set_option maxRecDepth 4000
set_option maxHeartbeats 8000000
open Go.RowKit
open Go.IntKind (i64 u64)
open Go.Value (int pointer slice)
open Go.Obj (cells)
namespace Go.Proofs.YtpjchngjhijgmaaGreat
open Tryz
open HP (pt mapOf)
variable {W w w':World} {I:Hp} {l:List HP}
def layGo (c:Rg) (s0:Int):List En->Fl->List En × List Pl × Fl
 | [],f=>([],[],f)
 | e::es,f=>if (rput c f e.seq e.data.length).1=Fl.zero∨((rput c f e.seq e.data.length).2.2.1=true∧c.sets<=(rput c f e.seq e.data.length).1.set - s0) then ([],[],f)
  else (e::(layGo c s0 es (rput c f e.seq e.data.length).1).1,(rput c f e.seq e.data.length).2.1::(layGo c s0 es (rput c f e.seq e.data.length).1).2.1,(layGo c s0 es (rput c f e.seq e.data.length).1).2.2)
def layF (r:Rc):Fl:=⟨r.set,0,0,0,0⟩
def layX (r:Rc) (es:List En):List En × List Pl × Fl:=layGo r.shape r.set es (layF r)
def lJ (J:Jn) (es:List En) (ps:List Pl) (f:Fl):Jn:={ J with l:=es,at_:=ps,fill:=f }
def layJ (J:Jn):Jn:=lJ J (layX J.r J.l).1 (layX J.r J.l).2.1 (layX J.r J.l).2.2
theorem Zlx (c:Rg) (s0:Int):∀ (es:List En) (f:Fl),(layGo c s0 es f).2.1.length=(layGo c s0 es f).1.length∧(layGo c s0 es f).1.length<=es.length
 | [],f=>⟨rfl,ZC _⟩
 | e::es,f=>by
  unfold layGo;split
  ·exact ⟨rfl,ZL _⟩
  ·have:=Zlx c s0 es (rput c f e.seq e.data.length).1;simp only [Z9];omega
section
variable {p q : Nat} {J : Jn}
theorem St.drew_to {v:World} {n:Nat} (e:w.drewN n=v) (h:St W I w l):St W I v l:=e ▸ h.drewN n
theorem ZkE:(prog.info? 41).map (fun i=>(i.zero,i.size,i.bytes))=some (some (.agg #[int i64 0,int i64 0]),2,16):=by kernel_rfl
theorem Zq7 (w:World) (a b:Int):SliceSrc (w.alloc (cells #[int i64 a,int i64 b] 41)) 2 (slice (some ⟨w.heap.size,0,none⟩) 1 1) 1 [int i64 a,int i64 b]:=by
 refine ⟨_,_,rfl,⟨rfl,fun _=>⟨_,rfl,fun j u hu=>?_⟩,fun u hu=>?_⟩,fun e=>by cases e⟩
 ·rw [add_plain,ZX,Zc (Za3 _ _) j,<-hu];simp
 ·simp only [Z4,Zbv,Zbi] at hu;rcases hu with rfl|rfl <;> rfl
theorem ZkF (ps:List Pl):∀ u ∈ ps.flatMap Pl.vals,u.oneCell'=true:=by
 intro u hu;simp only [Zcs,Pl.vals,Z4,Zbv,Zbi] at hu;obtain ⟨c,_,rfl|rfl⟩:=hu <;> rfl
theorem St.places_append {v:Value} {ps:List Pl} {g:Nat} (a b:Int) (hg:g=w.heap.size) (h:St W I w (ZY v ps::l)) (hn:ps.length+1<=1000000000) :
  ∃ A' c' w',(Builtin.append_ #[38,38] 38 #[v,slice (some ⟨g,0,none⟩) 1 1]).run prog (w.alloc (cells #[int i64 a,int i64 b] 41))=.ok (slice A' (ps.length+1) c') w'∧St W I w' (ZY (slice A' (ps.length+1) c') (ps++[⟨a,b⟩])::l):=by
 subst hg;obtain ⟨i0,hi0,hz0,hz1,hz2⟩:=info_parts ZkE;have h2:=h.keep (ZS w (cells #[int i64 a,int i64 b] 41));obtain ⟨v',w',hr,h3⟩:=St.win_append (t:=38) (ty:=38) h2 underlying38 hi0 hz0 hz1 hz2 rfl (by decide) (by decide) (ZkF ps) (Zq7 w a b) hn;obtain ⟨A',c',e3,_⟩:=h3.win_slice;subst e3;refine ⟨A',c',w',hr,?_⟩;unfold ZY;rw [Zs,Zcu];exact h3
theorem St.ents_take {A:Option Addr} {n c k:Nat} {es:List En} (h:St W I w (Zo (slice A n c) es::l)) (hk:k<=es.length):St W I w (Zo (slice A k c) (es.take k)::l):=by
 obtain ⟨M,rfl,hM,h1⟩:=h.ents_open;obtain ⟨A2,c2,e2,hrest⟩:=h1.win_slice;clear hrest;simp only [Zz] at e2;obtain ⟨rfl,rfl,rfl⟩:=e2;have h2:=h1.win_take hk;rw [Za7] at hk;have e:(M.flatMap mcell).take (k*3)=(M.take k).flatMap mcell:=by
  clear h h1 h2 hM;induction M generalizing k with
  | nil=>simp
  | cons x M ih =>
   cases k with
   | zero=>simp
   | succ k =>
    rw [Za0,Zdl,Za0,Zet,Zba (by rw [Zeg];omega),Zeg,show (k+1)*3 - 3=k*3 by omega,ih (by simpa using hk)]
 rw [e] at h2;have h3:St W I w (HP.win 50 3 (slice A k c) (M.take k).length ((M.take k).flatMap mcell)::l):=by
  rw [ZJ,ZcJ hk];exact h2
 have h4:=h3.ents_shut (fun x hx=>hM x (ZbI hx));rw [Zd8] at h4;exact h4
def fillJ (J:Jn) (F:Fl):Jn:={ J with fill:=F }
theorem St.jb_fill {V:JV} (F:Fl) (h:St W I w (jnBlk q p J V::l)):St W I (((((w.setCell ⟨q,10,none⟩ (int i64 F.set)).setCell ⟨q,11,none⟩ (int i64 F.u0)).setCell ⟨q,12,none⟩ (int i64 F.u1)).setCell ⟨q,13,none⟩ (int i64 F.u2)).setCell ⟨q,14,none⟩ (int i64 F.u3)) (jnBlk q p (fillJ J F) V::l):=by
 have h2:=((((h.setCell 10 (int i64 F.set)).setCell 11 (int i64 F.u0)).setCell 12 (int i64 F.u1)).setCell 13 (int i64 F.u2)).setCell 14 (int i64 F.u3);simp only [Zb3,Zf,Zd,Ze] at h2;exact h2
theorem St.jb_at {V:JV} (v:Value) (h:St W I w (jnBlk q p J V::l)):St W I (w.setCell ⟨q,9,none⟩ v) (jnBlk q p J ⟨V.vt,V.vc,V.vl,v⟩::l):=by
 have h2:=h.setCell 9 v;simp only [Zb3,Zf,Zd,Ze] at h2;exact h2
theorem St.jb_l {V:JV} (v:Value) (h:St W I w (jnBlk q p J V::l)):St W I (w.setCell ⟨q,8,none⟩ v) (jnBlk q p J ⟨V.vt,V.vc,v,V.va⟩::l):=by
 have h2:=h.setCell 8 v;simp only [Zb3,Zf,Zd,Ze] at h2;exact h2
theorem ZhZ (h:St W I w (jnHP q p J::l)) (hr:J.r.Ok) (hn:J.l.length<=100000):Calls prog 86 #[pointer (some ⟨q,0,none⟩)] w fun e w'=>e=.returned (.tuple #[])∧St W I w' (jnHP q p (layJ J)::l):=by
 obtain ⟨V,hrI,h1⟩:=h.jn_open;obtain ⟨A,c,hvl,hnc,_⟩:=(h1.pull 1 _ rfl).ents_slice;obtain ⟨vt,vc,vl,va⟩:=V;simp only at hvl hrI h1;subst hvl;have k:=Za1 h1;have k5:=jn_c5 h1;have k8:=jn_c8 h1;have k9:=jn_c9 h1;obtain ⟨k10,k11,k12,k13,k14⟩:=Zfo h1;have f:=Zbx h1;have lq:=h1.lt;simp only at k8 k9;have h2:=(((((h1.jb_fill (layF J.r)).jb_at (slice none 0 0)).pull 2 _ rfl).drop).win_nil 41 2).pull 1 _ rfl;simp only [layF] at h2;have HRI:=Zh hrI;have HSET:=Zh hr.set;obtain ⟨s0,hs0⟩:=Zn J.r.set;have HS0:=Zh hs0;rw [<-hs0] at k5 h2;obtain ⟨n0,hn0⟩:=Zn J.l.length;rw [<-hn0] at k8 h2 hn hnc;have HN0:=Zh hn0;obtain ⟨X,hX⟩:=Zn (layGo J.r.shape s0 J.l ⟨s0,0,0,0,0⟩);have HX:=Zh hX;have HR:=Zh (show layJ J=lJ J X.1 X.2.1 X.2.2 by unfold layJ layX layF;rw [<-hs0,<-hX]);have HN:=Zh hn;have H2:=Zh h2;clear h h1 hrI hr hs0 hn0 hX h2 k;go_enter func86,ntmps86;go_wp2;go_loopw [24] (fun a24 wr=>∃ (i:Nat) (F:Fl) (ps:List Pl) (va':Value),a24=int i64 i∧i<=n0∧ps.length=i∧X=((J.l.take i)++(layGo J.r.shape s0 (J.l.drop i) F).1,ps++(layGo J.r.shape s0 (J.l.drop i) F).2.1,(layGo J.r.shape s0 (J.l.drop i) F).2.2)∧St W I wr (jnBlk q p (fillJ J F) ⟨vt,vc,slice A n0 c,va'⟩::Zo (slice A n0 c) J.l::ZY va' ps::l)) (fun a24 _=>n0 - (intOf a24).toNat);case atStart=>exact ⟨0,⟨s0,0,0,0,0⟩,[],_,rfl,ZL _,rfl,by rw [HX.o];simp,(H2.o.pull 2 _ rfl).pull 1 _ rfl⟩
 case round =>
  obtain ⟨i,⟨s,u0,u1,u2,u3⟩,ps,va',rfl,hi,hpl,hgo,hst⟩:=hrel;clear k5 k8 k9 k10 k11 k12 k13 k14 f lq H2 HX;by_cases hlt:i<n0
  ·have hil:i<J.l.length:=by rw [<-HN0.o];exact hlt
   obtain ⟨e,he⟩:∃ e,J.l[i]?=some e:=⟨_,Zy hil⟩;have hlt2:(i:Int)<(n0:Int):=by omega
   obtain ⟨g,qq,c2,vd,e2,hg,hbd,hbb,y0,y1,y2⟩:=(hst.pull 1 _ rfl).ents_cell he;simp only [Zz] at e2;obtain ⟨rfl,hnn,rfl⟩:=e2;clear hnn;obtain ⟨Ad,cd,rfl⟩:=hbd.isSl;have htk:J.l.take (i+1)=J.l.take i++[e]:=by rw [Zb9,he];rfl
   have hdr:J.l.drop i=e::J.l.drop (i+1):=by
    rw [ZaS hil];congr 1;exact (ZH.1 he).2
   rw [hdr] at hgo;unfold layGo at hgo;have hps:=Zme J.r.shape ⟨s,u0,u1,u2,u3⟩ e.seq e.data.length;obtain ⟨tg,sq,d⟩:=e;simp only at y0 y1 y2 hgo hps;obtain ⟨dl,hdl⟩:=Zn d.length;rw [<-hdl] at y2 hgo hps;obtain ⟨⟨⟨s1,v0,v1,v2,v3⟩,⟨pa,po⟩,nx,ok⟩,hrr⟩:∃ r,rput J.r.shape ⟨s,u0,u1,u2,u3⟩ sq dl=r:=⟨_,rfl⟩;rw [hrr] at hgo hps;simp only at hgo hps;have hrp:∀ w,Calls prog 69 #[.agg #[int i64 J.r.shape.splay,int i64 J.r.shape.sets,int i64 J.r.shape.size],.agg #[int i64 s,int i64 u0,int i64 u1,int i64 u2,int i64 u3],int i64 sq,int i64 dl] w fun e w'=>e=.returned (.tuple #[.agg #[int i64 s1,int i64 v0,int i64 v1,int i64 v2,int i64 v3],.agg #[int i64 pa,int i64 po],.bool nx])∧Below w.heap.size w w':=fun w=>by
    have:=Zik J.r.shape ⟨s,u0,u1,u2,u3⟩ sq dl w;rw [hrr] at this;exact this
   have HRP:=Zh hrp;have hsb:=HSET.o;rw [<-HS0.o] at hsb;have w3:IntKind.i64.wrap (s1 - s0)=s1 - s0:=by rw [Zx];omega
   obtain ⟨ss,hss⟩:=Zn J.r.shape.sets;have HSS:=Zh hss;rw [<-hss] at hgo;have h3:=hst.alloc (cells #[int i64 tg,int i64 sq,slice Ad dl cd] 50);obtain ⟨g3,hg3⟩:=Zn wr.heap.size;rw [<-hdl] at *;have H3:=Zh h3;have HPL:=Zh hpl;have HGO:=Zh hgo;have HTK:=Zh htk;have HG3:=Zh hg3;clear hst h3 hgo hrp hrr hdr he hil hbd hbb hpl hdl htk hss hg3;go_upto_region 5 with fail;have h4:=H3.o;generalize (World.alloc _ _:World)=w4 at h4 |-
   have HMK:=Zh (show ∀ w',St W I w' (pt wr.heap.size (cells #[int i64 tg,int i64 sq,slice Ad dl cd] 50)::jnBlk q p (fillJ J ⟨s,u0,u1,u2,u3⟩) ⟨vt,vc,slice (some ⟨g,qq,none⟩) n0 c,va'⟩::Zo (slice (some ⟨g,qq,none⟩) n0 c) J.l::ZY va' ps::l)->(w'.cell? ⟨q,1,none⟩=some (int i64 J.r.shape.splay)∧w'.cell? ⟨q,2,none⟩=some (int i64 J.r.shape.sets)∧w'.cell? ⟨q,3,none⟩=some (int i64 J.r.shape.size)∧w'.cell? ⟨q,10,none⟩=some (int i64 s)∧w'.cell? ⟨q,11,none⟩=some (int i64 u0)∧w'.cell? ⟨q,12,none⟩=some (int i64 u1)∧w'.cell? ⟨q,13,none⟩=some (int i64 u2)∧w'.cell? ⟨q,14,none⟩=some (int i64 u3)∧w'.cell? ⟨wr.heap.size,1,none⟩=some (int i64 sq)∧w'.cell? ⟨wr.heap.size,2,none⟩=some (slice Ad dl cd)) from fun w' h1=>by
    obtain ⟨_,z1,z2⟩:=Zak h1;have hq:=h1.pull 1 _ rfl;obtain ⟨a1,a2,a3⟩:=Zc0 hq;obtain ⟨b1,b2,b3,b4,b5⟩:=Zfo hq
    exact ⟨a1,a2,a3,b1,b2,b3,b4,b5,z1,z2⟩)
   have H4:=Zh h4;clear h4 H3;refine Zca (fun w'=>w'.cell? ⟨q,1,none⟩=some (int i64 J.r.shape.splay)∧w'.cell? ⟨q,2,none⟩=some (int i64 J.r.shape.sets)∧w'.cell? ⟨q,3,none⟩=some (int i64 J.r.shape.size)∧w'.cell? ⟨q,10,none⟩=some (int i64 s)∧w'.cell? ⟨q,11,none⟩=some (int i64 u0)∧w'.cell? ⟨q,12,none⟩=some (int i64 u1)∧w'.cell? ⟨q,13,none⟩=some (int i64 u2)∧w'.cell? ⟨q,14,none⟩=some (int i64 u3)∧w'.cell? ⟨wr.heap.size,1,none⟩=some (int i64 sq)∧w'.cell? ⟨wr.heap.size,2,none⟩=some (slice Ad dl cd)) [(0,false),(1,false),(2,false),(3,false),(4,false),(5,false),(6,false),(7,false),(8,false),(9,false),(10,false),(11,false),(12,false),(13,false),(14,false),(15,false),(16,false),(17,true),(18,true)] [19,20] [21,22,23] (by kernel_rfl) (by kernel_rfl) (by (intro w' hb;exact HMK.o _ (H4.o.drew.keep hb))) ?_;repeat (first|refine ZaH (by rfl) _ (by rfl) (by intro w;go_simp;try with_reducible rfl) ?_|refine ZaK (by rfl) _ (by rfl) (by (intro w hSw;(try dsimp only at hSw);go_simp;try with_reducible rfl)) ?_|refine ZaI (by rfl) (by rfl) ?_|fail);(try go_frame)
   refine Zb2 (by rfl) (.tuple #[.agg #[int i64 s1,int i64 v0,int i64 v1,int i64 v2,int i64 v3],.agg #[int i64 pa,int i64 po],.bool nx]) (69) (#[.agg #[int i64 J.r.shape.splay,int i64 J.r.shape.sets,int i64 J.r.shape.size],.agg #[int i64 s,int i64 u0,int i64 u1,int i64 u2,int i64 u3],int i64 sq,int i64 dl]) (by rfl) (by intro w;go_simp;try with_reducible rfl) (by (rintro w1 _;exact HRP.o w1)) ?_
   (try go_frame)
   repeat (first|refine ZaH (by rfl) _ (by rfl) (by intro w;go_simp;try with_reducible rfl) ?_|refine ZaK (by rfl) _ (by rfl) (by (intro w hSw;(try dsimp only at hSw);go_simp;try with_reducible rfl)) ?_|refine ZaI (by rfl) (by rfl) ?_|fail);(try go_frame)
   refine Zce ?_;refine Zfw (by rfl) (by rfl) (fun g=>pointer (some ⟨g,0,none⟩)) (fun g=>pointer (some ⟨g,0,none⟩)) (cells #[int i64 0,int i64 0,int i64 0,int i64 0,int i64 0] 108) (cells #[int i64 0,int i64 0] 41) (by rfl) (by rfl) (by intro w;go_simp;try with_reducible rfl) (by intro w;go_simp;try with_reducible rfl) ?_;intro g8 g9;rintro w9 hz9;obtain ⟨hb9,l8,l9,hne⟩:=hz9.two (by decide);have h9:=H4.o.drew.fresh2 hb9 l8 l9 hne;clear hz9 hb9 l8 l9 y0 y1 y2 hg;have f8:=frozen_of_row h9.heap;have f9:=frozen_of_row (h9.pull 1 _ rfl).heap;obtain ⟨b5,b6⟩:g8<w9.heap.size∧g9<w9.heap.size:=⟨h9.lt,(h9.pull 1 _ rfl).lt⟩;obtain ⟨y0,y1,y2,y3,y4⟩:=Z8 h9;obtain ⟨z0,z1⟩:=Zaz (h9.pull 1 _ rfl);have H9:=Zh h9;clear h9;go_wp2;refine Zw ?_;have h10:=((((H9.o.set5 (int i64 s1) (int i64 v0) (int i64 v1) (int i64 v2) (int i64 v3)).pull 1 _ rfl).set2 (int i64 pa) (int i64 po)).pull 1 _ rfl);generalize (World.setCell _ _ _:World)=w10 at h10 |-;clear y0 y1 y2 y3 y4 z0 z1 f8 f9 H9 b5 b6;obtain ⟨y0,y1,y2,y3,y4⟩:=Z8 h10;have hq10:=h10.pull 3 _ rfl;have k2:=(Zc0 hq10).2.1;have k5:=jn_c5 hq10;simp only [fillJ] at k2 k5;rw [<-HSS.o] at k2;rw [<-HS0.o] at k5;have lj:=hq10.lt;have H10:=Zh h10;clear h10 hq10;have hq0:∀ b,decide ((⟨s1,v0,v1,v2,v3⟩:Fl)=Fl.zero)=b->∀ w,(Op.equalIn 10000 108 (.agg #[int i64 s1,int i64 v0,int i64 v1,int i64 v2,int i64 v3]) (.agg #[int i64 0,int i64 0,int i64 0,int i64 0,int i64 0])).run prog w=.ok b w:=fun b hb w=>by
    have:=ZhY ⟨s1,v0,v1,v2,v3⟩ Fl.zero w;rw [hb] at this;exact this
   have HQ:=Zh hq0;clear hq0;by_cases hz:(⟨s1,v0,v1,v2,v3⟩:Fl)=Fl.zero
   ·have hq:=HQ.o true (Zt hz);have HEND:=Zh (HGO.o.trans (by rw [Zb (.inl hz)]:_=(J.l.take i++[],ps++[],(⟨s,u0,u1,u2,u3⟩:Fl))));clear hz;have r8:w10.cell? ⟨q,8,none⟩=some (slice (some ⟨g,qq,none⟩) n0 c):=jn_c8 (H10.o.pull 3 _ rfl);have rf8:w10.frozen? ⟨q,8,none⟩=false:=Zbx (H10.o.pull 3 _ rfl) 8;have hic:i<=c:=by omega
    have H11:=Zh H10.o.drop.drop.drop;clear H10;go_upto_region 6 with fail;go_quiet (fail);go_wp2_with fail;have h12:=fun nq=>((((H11.o.drewN nq).jb_l (slice (some ⟨g,qq,none⟩) i c)).pull 1 _ rfl).ents_take (k:=i) (by rw [<-HN0.o];exact hi)).pull 1 _ rfl;refine Zaj (results_none rfl _ _ _) rfl ?_;rw [HR.o,HEND.o];rw [Zbc,Zbc];exact ⟨rfl,St.jn_shut (J:=lJ J (J.l.take i) ps ⟨s,u0,u1,u2,u3⟩) (V:=⟨vt,vc,slice (some ⟨g,qq,none⟩) i c,va'⟩) HRI.o (h12 _)⟩
   ·have hq:=HQ.o false (Zq hz);cases nx with
    | false =>
     have HEND:=Zh (HGO.o.trans (by rw [Za (by simp [hz])]));clear hz;go_upto_region 6 with fail;go_quiet (fail);go_upto_region 8 with fail
     have HMK8:=Zh (show ∀ (w':World) (F:Fl) (L:List HP),St W I w' (pt g8 (cells #[int i64 s1,int i64 v0,int i64 v1,int i64 v2,int i64 v3] 108)::pt g9 (cells #[int i64 pa,int i64 po] 41)::jnBlk q p (fillJ J F) ⟨vt,vc,slice (some ⟨g,qq,none⟩) n0 c,va'⟩::L)->(w'.cell? ⟨g8,0,none⟩=some (int i64 s1)∧w'.cell? ⟨g8,1,none⟩=some (int i64 v0)∧w'.cell? ⟨g8,2,none⟩=some (int i64 v1)∧w'.cell? ⟨g8,3,none⟩=some (int i64 v2)∧w'.cell? ⟨g8,4,none⟩=some (int i64 v3)∧w'.cell? ⟨g9,0,none⟩=some (int i64 pa)∧w'.cell? ⟨g9,1,none⟩=some (int i64 po)∧w'.cell? ⟨q,9,none⟩=some va') from fun w' F L h=>by
      obtain ⟨a1,a2,a3,a4,a5⟩:=Z8 h;obtain ⟨b1,b2⟩:=Zaz (h.pull 1 _ rfl)
      exact ⟨a1,a2,a3,a4,a5,b1,b2,jn_c9 (h.pull 2 _ rfl)⟩)
     have h10:=(H10.o.pull 2 _ rfl).drop;clear H10 y0 y1 y2 y3 y4 k2 k5 hq;generalize hw11:(World.drewN _ _:World)=w11;have h11:=(h10.drew_to hw11).drew;clear h10 hw11;obtain ⟨A',c',w12,hrun,h12⟩:=(h11.pull 4 _ rfl).places_append (g:=w11.heap.size) pa po (by simp) (by rw [HPL.o];have:=HN.o;omega);rw [HPL.o] at hrun h12;have h12b:=(((h12.pull 3 _ rfl).pull 3 _ rfl).pull 3 _ rfl);have h13:=(((h12.pull 3 _ rfl).jb_fill ⟨s1,v0,v1,v2,v3⟩).pull 3 _ rfl).pull 3 _ rfl;obtain ⟨As,cs,hva',_⟩:=(h11.pull 4 _ rfl).win_slice;rw [HPL.o] at hva';subst hva';have x0:=HMK8.o _ _ _ h11;have xa:=HMK8.o _ _ _ (h11.keep (ZS _ (cells #[int i64 pa,int i64 po] 41)));have xb:=HMK8.o _ _ _ h12b;have xc:=HMK8.o _ _ _ h13;have XB:=Zh xb;have XC:=Zh xc;have XA:=Zh xa;obtain ⟨x0,x1,x2,x3,x4,x5,x6,x7⟩:=x0;have lq11:=(h11.pull 2 _ rfl).lt;have H13:=Zh h13;have HRUN:=Zh hrun;have H12:=Zh h12b;clear h11 h12 h12b h13 xa xb xc hrun;refine Zay (fun w'=>w'.cell? ⟨g8,0,none⟩=some (int i64 s1)∧w'.cell? ⟨g8,1,none⟩=some (int i64 v0)∧w'.cell? ⟨g8,2,none⟩=some (int i64 v1)∧w'.cell? ⟨g8,3,none⟩=some (int i64 v2)∧w'.cell? ⟨g8,4,none⟩=some (int i64 v3)∧w'.cell? ⟨g9,0,none⟩=some (int i64 pa)∧w'.cell? ⟨g9,1,none⟩=some (int i64 po)∧w'.cell? ⟨q,9,none⟩=some (slice As i cs)) [0,1,2,3,4,5,6,7] [8,9,10,11,12] [13,14,15] (by kernel_rfl) (by kernel_rfl) (by (exact ⟨x0,x1,x2,x3,x4,x5,x6,x7⟩)) ?_;simp only [pickL,Zg,Zi];repeat (refine ZM _ (Or.inl ⟨by rfl,by (intro w hSw;(try dsimp only at hSw);go_simp;try with_reducible rfl)⟩) ?_;(try go_frame))
     refine Z7 ?_;unfold Zr;go_wp2;refine Zm XA.o ?_;clear x0 x1 x2 x3 x4 x5 x6 x7;unfold Zr;go_wp2_with (at_builtin;refine ZZ _ rfl (.tmp 86) (.tmp 88) 38 38 rfl _ _ rfl rfl _ _ HRUN.o ?_);refine Zm XB.o ?_;unfold Zr;have kq:=Za1 (H12.o.pull 2 _ rfl);have k10:=kq 10;have k11:=kq 11;have k12:=kq 12;have k13:=kq 13;have k14:=kq 14;have k9:=jn_c9 (H12.o.pull 2 _ rfl);have fq:=Zbx (H12.o.pull 2 _ rfl);have lq12:=(H12.o.pull 2 _ rfl).lt;simp [Zb3,fillJ] at k10 k11 k12 k13 k14;clear kq;go_wp2;refine Zm XB.o ?_;unfold Zr;go_wp2;refine Zm XB.o ?_;unfold Zr;go_wp2;refine Zm XC.o ?_;unfold Zr;have h13:=H13.o.pull 2 _ rfl;generalize (World.setCell _ _ _:World)=w13 at h13 |-;clear k9 k10 k11 k12 k13 k14 fq lq12 XB XC XA H12 HRUN H13;have k9:=jn_c9 h13;have f9:=Zbx h13 9;have lq13:=h13.lt;have h14:St W I (w13.setCell ⟨q,9,none⟩ (slice A' (i+1) c')) (jnBlk q p (fillJ J ⟨s1,v0,v1,v2,v3⟩) ⟨vt,vc,slice (some ⟨g,qq,none⟩) n0 c,slice A' (i+1) c'⟩::pt g8 (cells #[int i64 s1,int i64 v0,int i64 v1,int i64 v2,int i64 v3] 108)::pt g9 (cells #[int i64 pa,int i64 po] 41)::ZY (slice A' (i+1) c') (ps++[⟨pa,po⟩])::Zo (slice (some ⟨g,qq,none⟩) n0 c) J.l::l):=h13.jb_at (slice A' (i+1) c');have h15:St W I (w13.setCell ⟨q,9,none⟩ (slice A' (i+1) c')) (jnBlk q p (fillJ J ⟨s1,v0,v1,v2,v3⟩) ⟨vt,vc,slice (some ⟨g,qq,none⟩) n0 c,slice A' (i+1) c'⟩::Zo (slice (some ⟨g,qq,none⟩) n0 c) J.l::ZY (slice A' (i+1) c') (ps++[⟨pa,po⟩])::l):=((((h14.pull 1 _ rfl).drop.pull 1 _ rfl).drop).pull 2 _ rfl).pull 1 _ rfl;clear h14;have H14:=Zh h15;clear h15;clear h13;go_wp2;refine Zw ?_;go_wp2;go_roundw;case rel =>
      exact ⟨i+1,⟨s1,v0,v1,v2,v3⟩,ps++[⟨pa,po⟩],slice A' (i+1) c',by go_num,by omega,by rw [Zs,HPL.o];rfl,by rw [HTK.o,ZV,ZV];exact HEND.o,H14.o⟩
     case measure=>simp [intOf]<;>omega
    | true =>
     by_cases hss2:ss<=s1 - s0
     ·have dd:decide (ss<=s1 - s0)=true:=Zt hss2;have HEND:=Zh (HGO.o.trans (by rw [Zb (.inr ⟨rfl,hss2⟩)]:_=(J.l.take i++[],ps++[],(⟨s,u0,u1,u2,u3⟩:Fl))));clear hz hss2;have r8:w10.cell? ⟨q,8,none⟩=some (slice (some ⟨g,qq,none⟩) n0 c):=jn_c8 (H10.o.pull 3 _ rfl);have rf8:w10.frozen? ⟨q,8,none⟩=false:=Zbx (H10.o.pull 3 _ rfl) 8;have hic:i<=c:=by omega
      have H11:=Zh H10.o.drop.drop.drop;clear H10;go_upto_region 6 with fail;go_quiet (fail);go_wp2_with fail;have h12:=fun nq=>((((H11.o.drewN nq).jb_l (slice (some ⟨g,qq,none⟩) i c)).pull 1 _ rfl).ents_take (k:=i) (by rw [<-HN0.o];exact hi)).pull 1 _ rfl;refine Zaj (results_none rfl _ _ _) rfl ?_;rw [HR.o,HEND.o];rw [Zbc,Zbc];exact ⟨rfl,St.jn_shut (J:=lJ J (J.l.take i) ps ⟨s,u0,u1,u2,u3⟩) (V:=⟨vt,vc,slice (some ⟨g,qq,none⟩) i c,va'⟩) HRI.o (h12 _)⟩
     ·have dd:decide (ss<=s1 - s0)=false:=Zq hss2;have HEND:=Zh (HGO.o.trans (by rw [Za (by simp [hz];omega)]));clear hz hss2;go_upto_region 6 with fail;go_quiet (fail);go_upto_region 8 with fail
      have HMK8:=Zh (show ∀ (w':World) (F:Fl) (L:List HP),St W I w' (pt g8 (cells #[int i64 s1,int i64 v0,int i64 v1,int i64 v2,int i64 v3] 108)::pt g9 (cells #[int i64 pa,int i64 po] 41)::jnBlk q p (fillJ J F) ⟨vt,vc,slice (some ⟨g,qq,none⟩) n0 c,va'⟩::L)->(w'.cell? ⟨g8,0,none⟩=some (int i64 s1)∧w'.cell? ⟨g8,1,none⟩=some (int i64 v0)∧w'.cell? ⟨g8,2,none⟩=some (int i64 v1)∧w'.cell? ⟨g8,3,none⟩=some (int i64 v2)∧w'.cell? ⟨g8,4,none⟩=some (int i64 v3)∧w'.cell? ⟨g9,0,none⟩=some (int i64 pa)∧w'.cell? ⟨g9,1,none⟩=some (int i64 po)∧w'.cell? ⟨q,9,none⟩=some va') from fun w' F L h=>by
       obtain ⟨a1,a2,a3,a4,a5⟩:=Z8 h;obtain ⟨b1,b2⟩:=Zaz (h.pull 1 _ rfl)
       exact ⟨a1,a2,a3,a4,a5,b1,b2,jn_c9 (h.pull 2 _ rfl)⟩)
      have h10:=(H10.o.pull 2 _ rfl).drop;clear H10 y0 y1 y2 y3 y4 k2 k5 hq;generalize hw11:(World.drewN _ _:World)=w11;have h11:=(h10.drew_to hw11).drew;clear h10 hw11;obtain ⟨A',c',w12,hrun,h12⟩:=(h11.pull 4 _ rfl).places_append (g:=w11.heap.size) pa po (by simp) (by rw [HPL.o];have:=HN.o;omega);rw [HPL.o] at hrun h12;have h12b:=(((h12.pull 3 _ rfl).pull 3 _ rfl).pull 3 _ rfl);have h13:=(((h12.pull 3 _ rfl).jb_fill ⟨s1,v0,v1,v2,v3⟩).pull 3 _ rfl).pull 3 _ rfl;obtain ⟨As,cs,hva',_⟩:=(h11.pull 4 _ rfl).win_slice;rw [HPL.o] at hva';subst hva';have x0:=HMK8.o _ _ _ h11;have xa:=HMK8.o _ _ _ (h11.keep (ZS _ (cells #[int i64 pa,int i64 po] 41)));have xb:=HMK8.o _ _ _ h12b;have xc:=HMK8.o _ _ _ h13;have XB:=Zh xb;have XC:=Zh xc;have XA:=Zh xa;obtain ⟨x0,x1,x2,x3,x4,x5,x6,x7⟩:=x0;have lq11:=(h11.pull 2 _ rfl).lt;have H13:=Zh h13;have HRUN:=Zh hrun;have H12:=Zh h12b;clear h11 h12 h12b h13 xa xb xc hrun;refine Zay (fun w'=>w'.cell? ⟨g8,0,none⟩=some (int i64 s1)∧w'.cell? ⟨g8,1,none⟩=some (int i64 v0)∧w'.cell? ⟨g8,2,none⟩=some (int i64 v1)∧w'.cell? ⟨g8,3,none⟩=some (int i64 v2)∧w'.cell? ⟨g8,4,none⟩=some (int i64 v3)∧w'.cell? ⟨g9,0,none⟩=some (int i64 pa)∧w'.cell? ⟨g9,1,none⟩=some (int i64 po)∧w'.cell? ⟨q,9,none⟩=some (slice As i cs)) [0,1,2,3,4,5,6,7] [8,9,10,11,12] [13,14,15] (by kernel_rfl) (by kernel_rfl) (by (exact ⟨x0,x1,x2,x3,x4,x5,x6,x7⟩)) ?_;simp only [pickL,Zg,Zi];repeat (refine ZM _ (Or.inl ⟨by rfl,by (intro w hSw;(try dsimp only at hSw);go_simp;try with_reducible rfl)⟩) ?_;(try go_frame))
      refine Z7 ?_;unfold Zr;go_wp2;refine Zm XA.o ?_;clear x0 x1 x2 x3 x4 x5 x6 x7;unfold Zr;go_wp2_with (at_builtin;refine ZZ _ rfl (.tmp 86) (.tmp 88) 38 38 rfl _ _ rfl rfl _ _ HRUN.o ?_);refine Zm XB.o ?_;unfold Zr;have kq:=Za1 (H12.o.pull 2 _ rfl);have k10:=kq 10;have k11:=kq 11;have k12:=kq 12;have k13:=kq 13;have k14:=kq 14;have k9:=jn_c9 (H12.o.pull 2 _ rfl);have fq:=Zbx (H12.o.pull 2 _ rfl);have lq12:=(H12.o.pull 2 _ rfl).lt;simp [Zb3,fillJ] at k10 k11 k12 k13 k14;clear kq;go_wp2;refine Zm XB.o ?_;unfold Zr;go_wp2;refine Zm XB.o ?_;unfold Zr;go_wp2;refine Zm XC.o ?_;unfold Zr;have h13:=H13.o.pull 2 _ rfl;generalize (World.setCell _ _ _:World)=w13 at h13 |-;clear k9 k10 k11 k12 k13 k14 fq lq12 XB XC XA H12 HRUN H13;have k9:=jn_c9 h13;have f9:=Zbx h13 9;have lq13:=h13.lt;have h14:St W I (w13.setCell ⟨q,9,none⟩ (slice A' (i+1) c')) (jnBlk q p (fillJ J ⟨s1,v0,v1,v2,v3⟩) ⟨vt,vc,slice (some ⟨g,qq,none⟩) n0 c,slice A' (i+1) c'⟩::pt g8 (cells #[int i64 s1,int i64 v0,int i64 v1,int i64 v2,int i64 v3] 108)::pt g9 (cells #[int i64 pa,int i64 po] 41)::ZY (slice A' (i+1) c') (ps++[⟨pa,po⟩])::Zo (slice (some ⟨g,qq,none⟩) n0 c) J.l::l):=h13.jb_at (slice A' (i+1) c');have h15:St W I (w13.setCell ⟨q,9,none⟩ (slice A' (i+1) c')) (jnBlk q p (fillJ J ⟨s1,v0,v1,v2,v3⟩) ⟨vt,vc,slice (some ⟨g,qq,none⟩) n0 c,slice A' (i+1) c'⟩::Zo (slice (some ⟨g,qq,none⟩) n0 c) J.l::ZY (slice A' (i+1) c') (ps++[⟨pa,po⟩])::l):=((((h14.pull 1 _ rfl).drop.pull 1 _ rfl).drop).pull 2 _ rfl).pull 1 _ rfl;clear h14;have H14:=Zh h15;clear h15;clear h13;go_wp2;refine Zw ?_;go_wp2;go_roundw;case rel =>
       exact ⟨i+1,⟨s1,v0,v1,v2,v3⟩,ps++[⟨pa,po⟩],slice A' (i+1) c',by go_num,by omega,by rw [Zs,HPL.o];rfl,by rw [HTK.o,ZV,ZV];exact HEND.o,H14.o⟩
      case measure=>simp [intOf]<;>omega
  ·obtain rfl:i=n0:=by omega
   have hlt2:¬ (i:Int)<(i:Int):=by omega
   rw [HN0.o,ZbJ,Zex] at hgo;have HGO:=Zh (show X=(J.l,ps,(⟨s,u0,u1,u2,u3⟩:Fl)) by rw [hgo];simp [layGo]);have HST:=Zh hst;clear hgo hst hpl;go_wp2_with fail;first|refine Zaj (results_none rfl _ _ _) rfl ?_|refine ⟨rfl,_,results_none rfl _ _ _,?_⟩|fail
   rw [HR.o,HGO.o];exact ⟨rfl,St.jn_shut (J:=lJ J J.l ps ⟨s,u0,u1,u2,u3⟩) (V:=⟨vt,vc,slice A i c,va'⟩) HRI.o HST.o⟩
end
def intKT:KT prog 3 Int where
 kv:=.int i64
 inj:=fun {a b} h=>by simpa using h
 check:=fun w em a=>MapKept.run_checkKey (d:=.int i64) underlying3 (by simp [MapKept.IsKey]) em 9999
 find:=fun w a L es h=>by
  have now:∀ (L:List (Int × Value)) (es:List MapEntry) (i:Nat),es.map (fun x=>(x.key,x.val))=L.map (fun p=>(int i64 p.1,p.2))->Instr.findNow (.int i64) (int i64 a) es i=some (at_ a L i):=by
   intro L;induction L with
   | nil =>
    intro es i h;have:es=[]:=by simpa using h
    subst this;rfl
   | cons p L ih =>
    intro es i h
    match es,h with
    | e::es,h =>
     simp only [ZaT,ZdH,Zv] at h;obtain ⟨⟨h1,h2⟩,h3⟩:=h;obtain ⟨c,v⟩:=p;simp only at h1 h2;simp only [Instr.findNow,h1,Instr.sameNow,at_];by_cases e1:a=c
     ·simp [e1,h2]
     ·have e2:(a==c)=false:=by simpa using e1
      simp [e1,e2,ih es (i+1) h3]
  exact MapKept.run_findKey underlying3 (now L es 0 h)
 stays:=fun w a=>MapKept.run_keyThatStays (d:=.int i64) (by simp [MapKept.IsKey])
def Zbp (m:List (Int × En)) (e:En):List (Int × En):=if (get e.seq m).isSome then m else put e.seq e m
def Zbq (rs:List (List Int)):List (Int × En):=rs.foldl (fun m r=>(allB r).1.foldl Zbp m) []
def cntM (m:List (Int × En)) (s:Int):Nat:=(m.filter fun x=>decide (s<=x.1)).length
def runGo:Nat->List (Int × En)->Int->List En
 | 0,_,_=>[]
 | f+1,m,s=>match get s m with
  | none=>[]
  | some e=>e::runGo f m (s+1)
def runM (m:List (Int × En)) (s:Int):List En:=runGo (cntM m s) m s
def Zb7 (rs:List (List Int)) (s:Int):List En:=if s<1 then [] else runM (Zbq rs) s
theorem Zff {m:List (Int × En)} {s:Int} {e:En} (h:get s m=some e):cntM m (s+1)<cntM m s:=by
 have hm:=get_mem h;unfold cntM;have hsub:(m.filter fun x=>decide (s+1<=x.1))=(m.filter fun x=>decide (s<=x.1)).filter fun x=>decide (s+1<=x.1):=by
  rw [ZgI];congr 1;funext x;rw [Zb8];simp only [ZR,Zk];omega
 rw [hsub];have hlt:=List.length_filter_lt_length_iff_exists (p:=fun x:Int × En=>decide (s+1<=x.1)) (l:=m.filter fun x=>decide (s<=x.1));exact hlt.2 ⟨(s,e),Za4.2 ⟨hm,by simp⟩,by simp;omega⟩
theorem ZkG {m:List (Int × En)}:∀ (f:Nat) (s:Int),cntM m s<=f->runGo f m s=runM m s:=by
 intro f;induction f with
 | zero =>
  intro s h;unfold runM;rw [show cntM m s=0 by omega]
 | succ f ih =>
  intro s h;unfold runM;cases hg:get s m with
  | none =>
   cases hc:cntM m s with
   | zero=>simp [runGo,hg]
   | succ n=>simp [runGo,hg]
  | some e =>
   have h1:=Zff hg;obtain ⟨n,hn⟩:∃ n,cntM m s=n+1:=⟨cntM m s - 1,by omega⟩;rw [hn];simp only [runGo,hg];rw [ih (s+1) (by omega)];unfold runM;congr 1;have h2:∀ g,cntM m (s+1)<=g->g<=f->runGo g m (s+1)=runM m (s+1):=by
    intro g hg1 hg2;have h3:=ih (s+1) (by omega);have:∀ (a b:Nat) (q:Int),cntM m q<=a->cntM m q<=b->runGo a m q=runGo b m q:=by
     intro a;induction a with
     | zero =>
      intro b q h4 h5;cases b with
      | zero=>rfl
      | succ b =>
       cases hq:get q m with
       | none=>simp [runGo,hq]
       | some e=>have:=Zff hq;omega
     | succ a iha =>
      intro b q h4 h5;cases hq:get q m with
      | none=>cases b <;> simp [runGo,hq]
      | some e =>
       have h6:=Zff hq;cases b with
       | zero=>omega
       | succ b =>
        simp only [runGo,hq];rw [iha b (q+1) (by omega) (by omega)]
    exact this _ _ _ hg1 (ZC _)
   exact (h2 n (by omega) (by omega)).symm
theorem Zgw (m:List (Int × En)) (s:Int):runM m s=match get s m with
  | none=>[]
  | some e=>e::runM m (s+1):=by
 have h:=ZkG (m:=m) (cntM m s+1) s (by omega);rw [<-h];cases hg:get s m with
 | none=>simp [runGo,hg]
 | some e =>
  have h1:=Zff hg;simp only [runGo,hg];rw [ZkG _ _ (by omega)]
def Zc5 (v:Value) (rs:List (List Int)):HP :=
 HP.ex fun vs:List Value=>HP.all [HP.win 46 1 v rs.length vs,HP.imm ⟨fun I=>∀ (i:Nat) (r:List Int),rs[i]?=some r->∃ x,vs[i]?=some x∧BytesI I x r∧∀ y ∈ r,isByte y,fun s h i r hr=>by
  obtain ⟨x,h1,h2,h3⟩:=h i r hr
  exact ⟨x,h1,(ZbX x r).mono s h2,h3⟩⟩]
def evV (x:En × Value):Value:=.agg #[int i64 x.1.tag,int i64 x.1.seq,x.2]
section
theorem St.rows_cell {v:Value} {rs:List (List Int)} {i:Nat} {r:List Int} (h:St W I w (Zc5 v rs::l)) (hi:rs[i]?=some r):∃ g q c x,v=slice (some ⟨g,q,none⟩) rs.length c∧g<w.heap.size∧BytesI I x r∧(∀ y ∈ r,isByte y)∧w.cell? ⟨g,q+i,none⟩=some x:=by
 obtain ⟨vs,h1⟩:=h.ex_open;obtain ⟨hd,h2⟩:=((h1.all_open).pull 1 _ rfl).imm_open;obtain ⟨x,hx,hb,hy⟩:=hd i r hi;have hil:=(ZH.1 hx).1;obtain ⟨g,q,c,e1,hg,hnc,hc⟩:=h2.win_cell (by omega);exact ⟨g,q,c,x,e1,hg,hb,hy,hc i x hx⟩
theorem St.rows_slice {v:Value} {rs:List (List Int)} (h:St W I w (Zc5 v rs::l)):∃ A c,v=slice A rs.length c∧rs.length<=c:=by
 obtain ⟨vs,h1⟩:=h.ex_open;obtain ⟨hd,h2⟩:=((h1.all_open).pull 1 _ rfl).imm_open;obtain ⟨A,c,e,hc,_⟩:=h2.win_slice;exact ⟨A,c,e,hc⟩
theorem get_map {K V U:Type} [DecidableEq K] (f:V->U) (a:K):∀ L:List (K × V),get a (L.map fun x=>(x.1,f x.2))=(get a L).map f
 | []=>rfl
 |(b,v)::L=>by
  by_cases e:a=b
  ·simp [get,e]
  ·simp only [ZaT,get,e,Zas];exact get_map f a L
theorem ZmC {K V U:Type} [DecidableEq K] (f:V->U) (a:K) (v:V) (L:List (K × V)):put a (f v) (L.map fun x=>(x.1,f x.2))=(put a v L).map fun x=>(x.1,f x.2):=by
 unfold put del;rw [ZaT,Zd7];rfl
theorem ZpH (w:World):(zeroValue 50).run prog w=.ok (.agg #[int i64 0,int i64 0,slice none 0 0]) w:=by kernel_rfl
def mapIP (M:List (Int × En × Value)):IP:=⟨fun I=>∀ x ∈ M,BytesI I x.2.2 x.2.1.data∧∀ y ∈ x.2.1.data,isByte y,fun s h x hx=>⟨(ZbX x.2.2 x.2.1.data).mono s (h x hx).1,(h x hx).2⟩⟩
def ZdE (b:Nat) (m:List (Int × En)):HP :=
 HP.ex fun M:List (Int × En × Value)=>HP.all [HP.pure (M.map (fun x=>(x.1,x.2.1))=m),HP.map intKT b (M.map fun x=>(x.1,evV x.2)),HP.imm (mapIP M)]
theorem St.emap_open {b:Nat} {m:List (Int × En)} (h:St W I w (ZdE b m::l)):∃ M:List (Int × En × Value),M.map (fun x=>(x.1,x.2.1))=m∧(mapIP M).p I∧St W I w (HP.map intKT b (M.map fun x=>(x.1,evV x.2))::l):=by
 obtain ⟨M,h1⟩:=h.ex_open;obtain ⟨e,h2⟩:=(h1.all_open).pure_open;obtain ⟨d,h3⟩:=(h2.pull 1 _ rfl).imm_open;exact ⟨M,e,d,h3⟩
theorem St.emap_shut {b:Nat} {M:List (Int × En × Value)} (hd:(mapIP M).p I) (h:St W I w (HP.map intKT b (M.map fun x=>(x.1,evV x.2))::l)):St W I w (ZdE b (M.map fun x=>(x.1,x.2.1))::l):=by
 refine St.ex_shut M ?_;refine St.all_shut ?_;refine St.pure_shut rfl ?_;exact ((St.imm_shut hd h).pull 1 _ rfl)
theorem St.emap_made {b:Nat} (h:St W I w (pt b (.map #[] 0)::l)):St W I w (ZdE b []::l) :=
 St.emap_shut (M:=[]) (fun x hx=>by cases hx) h.map_made
theorem St.emap_look {b:Nat} {m:List (Int × En)} (h:St W I w (ZdE b m::l)) (s:Int):∃ vd,BytesI I vd ((get s m).getD enZ).data∧(∀ y ∈ ((get s m).getD enZ).data,isByte y)∧∀ {w2:World},Below w.heap.size w w2 ->
  (Instr.lookup 202 (.map (some b)) (int i64 s) true).run prog w2=.ok (.tuple #[.agg #[int i64 ((get s m).getD enZ).tag,int i64 ((get s m).getD enZ).seq,vd],.bool (get s m).isSome]) w2:=by
 obtain ⟨M,rfl,hd,h1⟩:=h.emap_open;have hl:=fun {w2:World} (hw:Below w.heap.size w w2)=>h1.map_look underlying202 ZpH s true hw;have g1:=get_map evV s M;have g2:=get_map (fun x:En × Value=>x.1) s M;rw [g1] at hl;rw [g2];cases hg:get s M with
 | none =>
  rw [hg] at hl;exact ⟨slice none 0 0,Zgf I,by simp [enZ],fun hw=>hl hw⟩
 | some x =>
  rw [hg] at hl;exact ⟨x.2,(hd _ (get_mem hg)).1,(hd _ (get_mem hg)).2,fun hw=>hl hw⟩
theorem St.emap_put {b:Nat} {m:List (Int × En)} {e:En} {vd:Value} (h:St W I w (ZdE b m::l)) (hd:BytesI I vd e.data) (hb:∀ y ∈ e.data,isByte y) (s:Int):∃ w',(Instr.mapUpdate 202 (.map (some b)) (int i64 s) (.agg #[int i64 e.tag,int i64 e.seq,vd])).run prog w=.ok () w'∧w'.heap.size=w.heap.size∧St W I w' (ZdE b (put s e m)::l):=by
 obtain ⟨M,rfl,hM,h1⟩:=h.emap_open;obtain ⟨w',hr,hs,h2⟩:=h1.map_put underlying202 s (evV (e,vd));refine ⟨w',hr,hs,?_⟩;rw [ZmC evV s (e,vd) M] at h2
 have h3:=h2.emap_shut (by
  intro x hx;rcases Z4.1 hx with rfl|hx
  ·exact ⟨hd,hb⟩
  ·exact hM x (Za4.1 hx).1)
 rw [<-ZmC (fun x:En × Value=>x.1) s (e,vd) M] at h3;exact h3
theorem Znw {rs:List (List Int)} {i:Nat} {r:List Int} (h:rs[i]?=some r):Zbq (rs.take (i+1))=(allB r).1.foldl Zbp (Zbq (rs.take i)):=by
 unfold Zbq;rw [Zb9,h,ZeZ];rfl
theorem Zni {es:List En} {j:Nat} {e:En} (h:es[j]?=some e) (m:List (Int × En)):(es.take (j+1)).foldl Zbp m=Zbp ((es.take j).foldl Zbp m) e:=by
 rw [Zb9,h,ZeZ];rfl
theorem Zly:∀ (f:Nat) (r:List Int),23*(allGo f r).1.length<=r.length
 | 0,r=>by simp [allGo]
 | f+1,r=>by
  unfold allGo;split
  ·simp
  ·rename_i h;have h1:=Zgr (r:=r) (by simpa using h);have h2:=Zly f (r.drop (takeR r).2.1);rw [ZW] at h2;simp only [Z9];omega
theorem Zmf (b:List Int):23*(allB b).1.length<=b.length:=Zly _ _
theorem ZnR (es:List En):∀ m:List (Int × En),(es.foldl Zbp m).length<=m.length+es.length:=by
 induction es with
 | nil=>intro m;simp
 | cons e es ih =>
  intro m;rw [Ze1];have h1:=ih (Zbp m e);have h2:(Zbp m e).length<=m.length+1:=by
   unfold Zbp;split
   ·omega
   ·exact Zmx _ _ _
  simp only [Z9];omega
theorem Zg4:∀ (rs:List (List Int)) (m:List (Int × En)),(∀ r ∈ rs,r.length<=23000)->(rs.foldl (fun m r=>(allB r).1.foldl Zbp m) m).length<=m.length+1000*rs.length
 | [],m,_=>by simp
 | r::rs,m,h=>by
  rw [Ze1];have h1:=Zg4 rs ((allB r).1.foldl Zbp m) (fun q hq=>h q (ZaB _ hq));have h2:=ZnR (allB r).1 m;have h3:=Zmf r;have h4:=h r (Zat ..);simp only [Z9];omega
theorem ZmD (m:List (Int × En)) (s:Int):cntM m s<=m.length:=ZiX ..
theorem ZpI (v:Value) (rs:List (List Int)) (from_:Int) (h:St W I w (Zc5 v rs::l)) (hn:rs.length<=1000) (hbl:∀ r ∈ rs,r.length<=23000) (hf:from_<=2199023255552) :
  Calls prog 85 #[v,int i64 from_] w fun e w'=>∃ I' v',I.sub I'∧e=.returned v'∧St W I' w' (Zo v' (Zb7 rs from_)::Zc5 v rs::l):=by
 by_cases h1:from_<1
 ·have d0:decide (from_<1)=true:=Zt h1;have he:Zb7 rs from_=[]:=by unfold Zb7;rw [Zb h1]
  rw [he];have H:=Zh h;clear h hn hbl he;go_enter func85,ntmps85;go_wp2;go_ret;exact ⟨I,_,Hp.sub.refl _,rfl,H.o.ents_nil⟩
 ·have d0:decide (from_<1)=false:=Zq h1;have he:Zb7 rs from_=runM (Zbq rs) from_:=by unfold Zb7;rw [Za h1]
  obtain ⟨m,hmr⟩:∃ m,Zbq rs=m:=⟨_,rfl⟩;rw [he,hmr];have HMR:=Zh hmr;obtain ⟨A,c,rfl,hnc⟩:=h.rows_slice;have hst:=((h.alloc (.map #[] 0)).emap_made);obtain ⟨gm,hgm⟩:∃ g,w.heap.size=g:=⟨_,rfl⟩;rw [hgm] at hst;have H:=Zh hst;have HGM:=Zh hgm;have HBL:=Zh hbl;have hml:=Zg4 rs [] hbl;have HML:=Zh (show m.length<=1000000 by rw [<-hmr];unfold Zbq;simp only [ZaZ] at hml;omega);have hmm:=@run_makeMap prog;clear h hbl he hst hgm hml hmr;go_enter func85,ntmps85;go_wp2_with fail;rw [HGM.o];clear hmm;go_loopw [22] (fun a22 wr=>∃ (i:Nat) (I1:Hp),a22=int i64 i∧i<=rs.length∧I.sub I1∧St W I1 wr (ZdE gm (Zbq (rs.take i))::Zc5 (slice A rs.length c) rs::l)) (fun a22 _=>rs.length - (intOf a22).toNat);case atStart=>exact ⟨0,I,rfl,ZL _,Hp.sub.refl _,H.o⟩
  case round =>
   obtain ⟨i,I1,rfl,hi,hsub,hst⟩:=hrel;by_cases hlt:i<rs.length
   ·have d1:decide ((i:Int)<(rs.length:Int))=true:=by rw [Zk];omega
    obtain ⟨r,hr⟩:∃ r,rs[i]?=some r:=⟨_,Zy hlt⟩;obtain ⟨g,q,c0,x,e1,hg,hbx,hbb,hcell⟩:=(hst.pull 1 _ rfl).rows_cell hr;simp only [Zz,ZaR] at e1;obtain ⟨rfl,rfl⟩:=e1;have hall:=Zq6 x r hst hbx hbb (by have:=HBL.o r (ZaG hr);omega);have hms:=Znw hr;have hel:=Zmf r;have hrl:=HBL.o r (ZaG hr);obtain ⟨⟨es,an⟩,hes⟩:∃ z,allB r=z:=⟨_,rfl⟩;rw [hes] at hall hms hel;have HALL:=Zh hall;have HMS:=Zh hms;have HSUB:=Zh hsub;have hin:(i:Int)<(rs.length:Int):=by omega
    simp only at hel;have hel2:es.length<=1000:=by omega
    clear hel hrl;obtain ⟨Ax,cx,rfl⟩:=hbx.isSl;clear hall hms hes hsub hst hr hbx hbb;go_wp2_with fail;refine HALL.o.mono ?_;rintro e w2 ⟨I2,v2,hs2,rfl,h2⟩;obtain ⟨A2,c2,rfl,hc2,_⟩:=h2.ents_slice;have HS2:=Zh (HSUB.o.trans hs2);have H2:=Zh h2;clear h2 hs2 HALL HSUB hcell;go_wp2;go_loopw [33] (fun a33 wr=>∃ (j:Nat) (I3:Hp),a33=int i64 j∧j<=es.length∧I.sub I3∧St W I3 wr (Zo (slice A2 es.length c2) es::ZdE gm ((es.take j).foldl Zbp (Zbq (rs.take i)))::Zc5 (slice (some ⟨g,q,none⟩) rs.length c) rs::l)) (fun a33 _=>es.length - (intOf a33).toNat);case atStart=>exact ⟨0,I2,rfl,ZL _,HS2.o,H2.o⟩
    case round =>
     obtain ⟨j,I3,rfl,hj,hsub3,hst3⟩:=hrel;clear H2 HS2;by_cases hjl:j<es.length
     ·have d2:decide ((j:Int)<(es.length:Int))=true:=by rw [Zk];omega
      obtain ⟨e,he⟩:∃ e,es[j]?=some e:=⟨_,Zy hjl⟩;obtain ⟨g2,q2,c3,vd,e2,hg2,hbd,hbb,y0,y1,y2⟩:=hst3.ents_cell he;simp only [Zz,ZaR] at e2;obtain ⟨rfl,rfl⟩:=e2;have HF:=Zh (Zni he (Zbq (rs.take i)));obtain ⟨mj,hmj⟩:∃ m,(es.take j).foldl Zbp (Zbq (rs.take i))=m:=⟨_,rfl⟩;rw [hmj] at hst3 HF;obtain ⟨tg,sq,d⟩:=e;simp only at y0 y1 y2;have h4:=hst3.keep (ZS wr (cells #[int i64 tg,int i64 sq,vd] 50));obtain ⟨vz,hbz,hbzb,hlk⟩:=(h4.pull 1 _ rfl).emap_look sq;have hlk1:=hlk (ZI _ _);have hin2:(j:Int)<(es.length:Int):=by omega
      obtain ⟨Ad,cd,rfl⟩:=hbd.isSl;obtain ⟨Az,cz,rfl⟩:=hbz.isSl;obtain ⟨z,hz⟩:∃ z,(get sq mj).getD enZ=z:=⟨_,rfl⟩;obtain ⟨bi,hbi⟩:∃ b,(get sq mj).isSome=b:=⟨_,rfl⟩;rw [hz,hbi] at hlk1;obtain ⟨ztg,zsq,zd⟩:=z;simp only at hlk1;have h5:=h4.keep (ZS _ (cells #[int i64 ztg,int i64 zsq,slice Az ((get sq mj).getD enZ).data.length cz] 50));rw [hz] at h5;simp only at h5;cases bi with
      | true =>
       have HM:=Zh (show (es.take (j+1)).foldl Zbp (Zbq (rs.take i))=mj by
        rw [HF.o];unfold Zbp
        rw [hbi,Zb rfl])
       have H5:=Zh h5;have HSUB3:=Zh hsub3;clear h4 h5 hlk hbz hbzb hbd hbb hst3 he hmj hz hbi hsub3;go_wp2;go_roundw;case rel=>exact ⟨j+1,I3,by go_num,by omega,HSUB3.o,by rw [HM.o];exact H5.o⟩
       case measure=>simp [intOf]<;>omega
      | false =>
       obtain ⟨w6,hr6,hs6,h6⟩:=(h5.pull 1 _ rfl).emap_put (e:=⟨tg,sq,d⟩) hbd hbb sq
       have HM:=Zh (show (es.take (j+1)).foldl Zbp (Zbq (rs.take i))=put sq ⟨tg,sq,d⟩ mj by
        rw [HF.o];unfold Zbp
        rw [hbi,Za (by simp)])
       have H6:=Zh (h6.pull 1 _ rfl);have HSUB3:=Zh hsub3;have HS6:=Zh hs6;clear h4 h5 h6 hlk hbz hbzb hbd hbb hst3 he hmj hz hbi hsub3 hs6;go_wp2;go_roundw;case rel=>exact ⟨j+1,I3,by go_num,by omega,HSUB3.o,by rw [HM.o];exact H6.o⟩
       case measure=>simp [intOf]<;>omega
     ·obtain rfl:j=es.length:=by omega
      have d2:decide (((es.length:Nat):Int)<(es.length:Int))=false:=by rw [ZT];omega
      rw [ZbJ] at hst3;have HST3:=Zh hst3.drop;have HSUB3:=Zh hsub3;clear hst3 hsub3;go_wp2;go_roundw;case rel=>exact ⟨i+1,I3,by go_num,by omega,HSUB3.o,by rw [HMS.o];exact HST3.o⟩
      case measure=>simp [intOf]<;>omega
   ·obtain rfl:i=rs.length:=by omega
    have d1:decide (((rs.length:Nat):Int)<(rs.length:Int))=false:=by rw [ZT];omega
    rw [ZbJ] at hst;rw [HMR.o] at hst;obtain ⟨vz,hbz,hbzb,hlk⟩:=hst.emap_look from_;have hlk1:=hlk (ZI _ _);obtain ⟨Az,cz,rfl⟩:=hbz.isSl;have h3:=hst.alloc (cells #[int i64 ((get from_ m).getD enZ).tag,int i64 ((get from_ m).getD enZ).seq,slice Az ((get from_ m).getD enZ).data.length cz] 50);have H3:=Zh (h3.ents_nil);have HBZ:=Zh hbz;have HBZB:=Zh hbzb;have HSUB:=Zh hsub;clear hst hlk h3 hbz hbzb hsub H;go_wp2;go_loopw [1,14,15,16] (fun a1 a14 a15 a16 wr=>∃ (s:Int) (out:List En) (I3:Hp) (g:Nat) (A':Option Addr) (c':Nat) (e:En) (vd:Value) (b:Bool),a1=int i64 s∧a14=slice A' out.length c'∧a15=pointer (some ⟨g,0,none⟩)∧a16=.bool b∧b=(get s m).isSome∧e=(get s m).getD enZ∧runM m from_=out++runM m s∧1<=s∧s+cntM m s<=from_+cntM m from_∧out.length+cntM m s<=cntM m from_∧I.sub I3∧BytesI I3 vd e.data∧(∀ y ∈ e.data,isByte y)∧St W I3 wr (Zo (slice A' out.length c') out::pt g (cells #[int i64 e.tag,int i64 e.seq,vd] 50)::ZdE gm m::Zc5 (slice A rs.length c) rs::l)) (fun a1 _ _ _ _=>cntM m (intOf a1));case atStart=>exact ⟨from_,[],I1,wr.heap.size,none,0,_,_,_,rfl,rfl,rfl,rfl,rfl,rfl,by simp,by omega,by omega,by simp,HSUB.o,HBZ.o,HBZB.o,H3.o⟩
    case round =>
     obtain ⟨s,out,I3,g,A',c',e,vd,b,rfl,rfl,rfl,rfl,hb,he,hrun,hs1,hcs,hco,hsub3,hbd,hbb,hst⟩:=hrel;clear H3 HBZ HBZB HSUB hlk1;have hcm:=ZmD m from_;cases b with
     | false =>
      have HE:=Zh (show runM m from_=out by
       rw [hrun,Zgw];cases hg:get s m with
       | none=>simp
       | some x=>rw [hg] at hb;cases hb)
      have HST:=Zh ((((hst.pull 1 _ rfl).drop).pull 1 _ rfl).drop);have HSUB3:=Zh hsub3;clear hst hsub3 hrun hb he hbd hbb hcs hco hcm;go_wp2;go_ret;rw [HE.o];exact ⟨I3,_,HSUB3.o,rfl,HST.o⟩
     | true =>
      obtain ⟨e1,hg⟩:∃ e1,get s m=some e1:=by
       cases hg:get s m with
       | none=>rw [hg] at hb;cases hb
       | some x=>exact ⟨x,rfl⟩
      obtain rfl:e=e1:=by rw [he,hg];rfl
      have hlt3:=Zff hg
      have HE:=Zh (show runM m from_=(out++[e])++runM m (s+1) by
       rw [hrun,Zgw m s,hg,ZV]
       rfl)
      have HCM:=Zh hcm;have HML2:=HML.o;obtain ⟨tg,sq,d⟩:=e;simp only at hst hbd hbb;obtain ⟨x0,x1,x2⟩:=Zak (hst.pull 1 _ rfl);obtain ⟨Ad,cd,rfl⟩:=hbd.isSl;obtain ⟨A5,c5,w5,hr5,h5⟩:=hst.ents_append (e:=⟨tg,sq,d⟩) rfl hbd hbb (by omega);obtain ⟨y0,y1,y2⟩:=Zak (h5.pull 1 _ rfl);have hlt5:=(h5.pull 1 _ rfl).lt;have h6:=h5.alloc (cells #[int i64 tg,int i64 sq,slice Ad d.length cd] 50);obtain ⟨vz,hbz,hbzb,hlk⟩:=(h6.pull 3 _ rfl).emap_look (s+1);have hlk6:=hlk (ZI _ _);obtain ⟨Az2,cz2,rfl⟩:=hbz.isSl;obtain ⟨e2,he2⟩:∃ e2,(get (s+1) m).getD enZ=e2:=⟨_,rfl⟩;obtain ⟨b2,hb2⟩:∃ b2,(get (s+1) m).isSome=b2:=⟨_,rfl⟩;rw [he2] at hlk6 hbz hbzb;rw [hb2] at hlk6;have hout:out.length+1=(out++[(⟨tg,sq,d⟩:En)]).length:=by simp
      obtain ⟨o2,ho2⟩:∃ o2,out++[(⟨tg,sq,d⟩:En)]=o2:=⟨_,rfl⟩;rw [ho2] at h5 h6 HE hout;rw [hout] at hr5 h5 h6;obtain ⟨etg,esq,ed⟩:=e2;simp only at hlk6 hbz hbzb;have h7:=h5.alloc (cells #[int i64 etg,int i64 esq,slice Az2 ed.length cz2] 50);have H7:=Zh (((h7.pull 2 _ rfl).drop).pull 1 _ rfl);have HR5:=Zh hr5;have HBZ:=Zh hbz;have HBZB:=Zh hbzb;have HSUB:=Zh hsub3;have HCS:=Zh (show s+1+cntM m (s+1)<=from_+cntM m from_∧o2.length+cntM m (s+1)<=cntM m from_ by rw [<-hout];omega);have HB2:=Zh hb2;have HE2:=Zh he2;have HLT3:=Zh hlt3;have hs2:s<=3299023255552:=by omega
      clear hst h5 h6 h7 hr5 hbz hbzb hbd hbb hsub3 hrun hb he hcs hco hcm hlk hb2 he2 ho2 hout hg hlt3 HML2;go_wp2_with (at_builtin;refine ZZ _ rfl (.tmp 65) (.tmp 67) 58 58 rfl _ _ rfl rfl _ _ HR5.o ?_);go_roundw;case rel=>exact ⟨s+1,o2,I3,w5.heap.size,A5,c5,⟨etg,esq,ed⟩,slice Az2 ed.length cz2,b2,by go_num,rfl,rfl,rfl,HB2.o.symm,HE2.o.symm,HE.o,by omega,HCS.o.1,HCS.o.2,HSUB.o,HBZ.o,HBZB.o,H7.o⟩
      case measure=>exact HLT3.o
end
end Go.Proofs.YtpjchngjhijgmaaGreat
