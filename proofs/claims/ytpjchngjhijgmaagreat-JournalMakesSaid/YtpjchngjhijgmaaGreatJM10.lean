import Derived.Deep.CutRange
import Derived.Test.YtpjchngjhijgmaaGreatJM09
set_option linter.all false
namespace Go.Proofs.YtpjchngjhijgmaaGreat
open Go.RowKit
def lateAt (S:Str) (k:K4):List Dd:=(get k S.late).getD []
def keptN (keep:Int) (n:Nat):Nat:=(max 0 (min keep n)).toNat
def tornD (torn:Int) (d:Dd):Dd:={ d with p:=d.p.take (min torn.toNat (d.p.length - 1)) }
def leftS (S:Str) (k:K4) (keep torn:Int):Option TS × Int :=
 let l:=lateAt S k
 let n:=keptN keep l.length
 let t:=(l.take n).foldl stepD (get k S.dry)
 (match l[n]? with
   | some d=>if d.kind=1∧0<torn∧d.p≠[] then stepD t (tornD torn d) else t
   | none=>t,(l.length:Int) - n)
theorem Zq202 {o:Option TS} {d:Dd} (h:Zq164 o) (hd:d.fits):Zq164 (stepD o d):=by
 obtain ⟨⟨h0,h1,h2,h3⟩,h4,h5⟩:=hd
 unfold stepD
 split
 ·exact ⟨by simp,by simp⟩
 split
 ·trivial
 cases o with
 | none=>trivial
 | some t =>
  simp only
  split
  ·refine ⟨?_,h.2⟩
   simp only [Zq296]
   split
   ·exact h.1
   ·have:=h.1;omega
  split
  ·exact ⟨by have:=h.1;simp [List.length_take];omega,h.2⟩
  split
  ·rename_i hk
   refine ⟨h.1,?_⟩
   simp only [Zq83]
   intro x hx
   split at hx
   ·exact h.2 x ((List.mem_filter.1 hx).1)
   ·rcases List.mem_cons.1 hx with rfl|hx
    ·exact h3 hk
    ·exact h.2 x ((List.mem_filter.1 hx).1)
  ·exact h
theorem Zq266 {l:List Dd}:∀ {o:Option TS},Zq164 o→(∀ d ∈ l,d.fits)→Zq164 (l.foldl stepD o):=by
 induction l with
 | nil=>exact fun h _=>h
 | cons d l ih=>exact fun h hd=>ih (Zq202 h (hd d (List.mem_cons_self ..))) fun x hx=>hd x (List.mem_cons_of_mem _ hx)
section
variable {W w : World} {I : Hp} {l : List HP} {p : Nat} {S : Str}
theorem Zq337 (I:Hp) (w:World) (l:List HP) (h:St W I w l):St W I w (Zq39 (.slice none 0 0) []::l) :=
 St.ex_shut [] (St.all_shut (St.imm_shut (A:=psIP [] []) ⟨rfl,fun i d p h=>by simp at h⟩ (h.row_nil _ _)))
theorem St.deeds_open {v:Value} {ds:List Dd} (h:St W I w (Zq39 v ds::l)):∃ ps,(psIP ds ps).p I∧St W I w (HP.row 184 4 v ds.length (Zq82 ds ps)::l):=by
 obtain ⟨ps,h⟩:=h.ex_open
 obtain ⟨hp,h⟩:=(St.all_open h).imm_open
 exact ⟨ps,hp,h⟩
theorem St.deeds_shut {v:Value} {ds:List Dd} {ps:List Value} (hp:(psIP ds ps).p I) (h:St W I w (HP.row 184 4 v ds.length (Zq82 ds ps)::l)):St W I w (Zq39 v ds::l) :=
 St.ex_shut ps (St.all_shut (St.imm_shut hp h))
theorem Zq375:∀ (ds:List Dd) (ps:List Value) (i:Nat) (d:Dd) (q:Value),ds[i]?=some d→ps[i]?=some q→∀ j,j<4→(Zq82 ds ps)[i*4+j]?=[intV d.kind,intV d.n,q,.string d.name][j]?
 | d::ds,q::ps,0,d',q',h1,h2,j,hj=>by
  simp only [Zl6,Option.some.injEq] at h1 h2
  subst h1
  subst h2
  match j,hj with
  | 0,_=>rfl
  | 1,_=>rfl
  | 2,_=>rfl
  | 3,_=>rfl
 | d::ds,q::ps,i+1,d',q',h1,h2,j,hj=>by
  have:=Zq375 ds ps i d' q' (by simpa using h1) (by simpa using h2) j hj
  rw [←this]
  show (intV d.kind::intV d.n::q::.string d.name::Zq82 ds ps)[(i+1)*4+j]?=_
  rw [show (i+1)*4+j=(i*4+j)+1+1+1+1 by omega]
  simp only [Zl7]
theorem Zq112 {ds:List Dd} {ps:List Value} {g n c:Nat} {i:Nat} {d:Dd} {q:Value} (h:w.ownsRow 0 184 4 (.slice (some ⟨g,0,none⟩) n c) n (Zq82 ds ps)) (h1:ds[i]?=some d) (h2:ps[i]?=some q) (j:Nat) (hj:j<4):w.cell? ⟨g,i*4+j,none⟩=[intV d.kind,intV d.n,q,.string d.name][j]?:=by
 have h3:=Zq375 ds ps i d q h1 h2 j hj
 have hv:j<[intV d.kind,intV d.n,q,.string d.name].length:=hj
 rw [List.getElem?_eq_getElem hv] at h3 ⊢
 have:=h.cells (g:=g) rfl _ _ h3
 rwa [add_plain,Nat.zero_add] at this
theorem Zq484 {I:Hp} {A:Option Addr} {c m:Nat} {d:Dd} {torn:Int} (h:BytesI I (.slice A d.p.length c) d.p) (hm:min torn.toNat (d.p.length - 1)=m):BytesI I (.slice A m c) (tornD torn d).p:=by
 have hml:m≤d.p.length:=by omega
 have e:(tornD torn d).p=d.p.take m:=by unfold tornD;rw [hm]
 rw [e]
 have el:(d.p.take m).length=m:=by rw [List.length_take];omega
 obtain ⟨A',c',h1,h2,h3,h4,h5,h6⟩:=h
 simp only [Value.slice.injEq,true_and] at h1
 obtain ⟨rfl,rfl⟩:=h1
 unfold BytesI
 rw [el]
 refine ⟨A,c,rfl,by simp;omega,by omega,h4,h5,fun hp=>?_⟩
 obtain ⟨b,off,cs,t,f,e1,e2,e3⟩:=h6 (by omega)
 refine ⟨b,off,cs,t,f,e1,e2,fun i x hx=>e3 i x ?_⟩
 rw [List.map_take,List.getElem?_take] at hx
 split at hx
 ·exact hx
 ·cases hx
theorem Zq338 {d:Dd} {torn:Int} (h:d.fits):(tornD torn d).fits:=by
 obtain ⟨⟨h0,h1,h2,h3⟩,h4,h5⟩:=h
 have e:(tornD torn d).p.length≤d.p.length:=by simp [tornD,List.length_take];omega
 exact ⟨⟨h0,by show d.n+_≤_;omega,by omega,fun hk=>by have:=h3 hk;omega⟩,h4,h5⟩
set_option maxRecDepth 4000
set_option maxHeartbeats 16000000
theorem Zq113 {ca cb:Code} {Q:Exit→Act→World→Prop} {K:Act→World→Prop} (hK:∀ x y,cb.wp Tryz.prog Q x y→K x y) (hC:(Tryz.f78).body.bind (fromR 7)=some (.seq ca cb)) {x0 x1 x2 x3 x4 x5 x6 x7 x8 x9 x11 x12 x15 x16 x17 x18 x19 x20 x21 x22 x23 x24 x25 x26 x27 x28 x29 x30 x31 x32 x33 x34 x35 x36 x37 x38 x39 x40 x41 x42 x43 x44 x45 x46 x47 x48 x49 x50 x51 x52 x53 x54 x55 x56 x57 x58 x59 x60 x61 x62 x63 x64 x65 x66 x67 x68 x69 x70 x71 x72 x73 x74 x75 x76 x77 x78 x79 x80 x81 x82 x83 x84 x85 x86 x87 x88 x89 x90 x91 x92 x93 x94 x95 x96 x97 x98 x99:Value} {B:SB} {k0 k1 k2 k3:Int} {n c:Nat} {ds:List Dd} {ps:List Value} {A:Option Addr} {vt0:Value} {HK HKO:HP}
  (h:St W I w (optHP vt0 (get (⟨k0,k1,k2,k3⟩:K4) S.dry)::HP.row 184 4 (.slice A ds.length c) ds.length (Zq82 ds ps)::HK::HKO::Zq6 p S B::dryHP B S::l)) (hps:(psIP ds ps).p I) (hdn:ds.length≤100000) (hdf:∀ d ∈ ds,d.fits) (hsm:Zq164 (get (⟨k0,k1,k2,k3⟩:K4) S.dry)) (hnl:n≤ds.length) {nv:Int} (hnv:nv=n)
  (hQ:∀ (y4 y5 y6 y7 y8 y9 y11 y12 y15 y16 y17 y18 y19 y20 y21 y22 y23 y24 y25 y26 y27 y28 y29 y30 y31 y32 y33 y34 y35 y36 y37 y38 y39 y40 y41 y42 y43 y44 y45 y46 y47 y48 y49 y50 y51 y52 y53 y54 y55 y56 y57 y58 y59 y60 y61 y62 y63 y64 y65 y66 y67 y68 y69 y70 y71 y72 y73 y74 y75 y76 y77 y78 y79 y80 y81 y82 y83 y84 y85 y86 y87 y88 y89 y90 y91 y92 y93 y94 y95 y96 y97 y98 y99 v:Value) (I':Hp) (w':World),I.sub I'→(psIP ds ps).p I'→St W I' w' (optHP v ((ds.take n).foldl stepD (get (⟨k0,k1,k2,k3⟩:K4) S.dry))::HP.row 184 4 (.slice A ds.length c) ds.length (Zq82 ds ps)::HK::HKO::Zq6 p S B::dryHP B S::l)→Q .normal ⟨#[x0,x1,x2,x3,y4,y5,y6,y7,y8,y9,v,y11,y12,.slice A ds.length c,.int .i64 nv,y15,y16,y17,y18,y19,y20,y21,y22,y23,y24,y25,y26,y27,y28,y29,y30,y31,y32,y33,y34,y35,y36,y37,y38,y39,y40,y41,y42,y43,y44,y45,y46,y47,y48,y49,y50,y51,y52,y53,y54,y55,y56,y57,y58,y59,y60,y61,y62,y63,y64,y65,y66,y67,y68,y69,y70,y71,y72,y73,y74,y75,y76,y77,y78,y79,y80,y81,y82,y83,y84,y85,y86,y87,y88,y89,y90,y91,y92,y93,y94,y95,y96,y97,y98,y99],[]⟩ w') :
  ca.wp Tryz.prog (Exit.then K Q) ⟨#[x0,x1,x2,x3,x4,x5,x6,x7,x8,x9,vt0,x11,x12,.slice A ds.length c,.int .i64 nv,x15,x16,x17,x18,x19,x20,x21,x22,x23,x24,x25,x26,x27,x28,x29,x30,x31,x32,x33,x34,x35,x36,x37,x38,x39,x40,x41,x42,x43,x44,x45,x46,x47,x48,x49,x50,x51,x52,x53,x54,x55,x56,x57,x58,x59,x60,x61,x62,x63,x64,x65,x66,x67,x68,x69,x70,x71,x72,x73,x74,x75,x76,x77,x78,x79,x80,x81,x82,x83,x84,x85,x86,x87,x88,x89,x90,x91,x92,x93,x94,x95,x96,x97,x98,x99],[]⟩ w:=by
 injection hC with hC
 injection hC with hC1 hC2
 subst hC1 hC2 hnv
 have HO:=Zh (h.pull 1 _ rfl).row_owns
 have hdc:ds.length≤c:=by
  rcases HO.out.2 with ⟨e1,e2⟩|⟨g,cap,cur,e1,_,_,h1,_⟩
  ·omega
  ·cases e1;exact h1
 have hnc:n≤c:=by omega
 have hnc2:(n:Int)≤(c:Int):=by omega
 have hnl2:(n:Int)≤(ds.length:Int):=by omega
 have HPS:=Zh hps
 have H7:=Zh h
 have HDF:=Zh hdf
 have HSM:=Zh hsm
 have HQ:=Zh hQ
 clear h hps hdf hsm hQ
 go_wp2_with fail
 go_loopw [10,45] (fun v10 v45 wr=>∃ (j:Nat) (I1:Hp) (vt:Value),v45=.int .i64 j∧vt=v10∧j≤n∧I.sub I1∧(psIP ds ps).p I1∧St W I1 wr (optHP vt ((ds.take j).foldl stepD (get (⟨k0,k1,k2,k3⟩:K4) S.dry))::HP.row 184 4 (.slice A ds.length c) ds.length (Zq82 ds ps)::HK::HKO::Zq6 p S B::dryHP B S::l)) (fun _ v45 _=>n - (intOf v45).toNat)
 case atStart =>
  refine ⟨0,I,_,rfl,rfl,by omega,Hp.sub.refl _,HPS.out,?_⟩
  simp only [List.take_zero,List.foldl_nil]
  exact H7.out.perm (by ((try simp only [Zl0,Zl1,Zl2,Zl3]);repeat (first|with_reducible exact List.Perm.refl _|(apply Zq4;(· repeat (first|with_reducible exact Zq3|with_reducible apply Zq2))))))
 case round =>
  obtain ⟨j,I1,vt,rfl,rfl,hj,hI1,hp1,hst⟩:=hrel
  by_cases hlt:j<n
  ·have hjl:j<ds.length:=by omega
   obtain ⟨d,hdj⟩:∃ d,ds[j]?=some d:=⟨_,List.getElem?_eq_getElem hjl⟩
   obtain ⟨q,hqj⟩:∃ q,ps[j]?=some q:=⟨_,List.getElem?_eq_getElem (by have:=hp1.1;omega)⟩
   have hbq:=hp1.2 j d q hdj hqj
   have hro:=(hst.pull 1 _ rfl).row_owns
   obtain ⟨g,rfl⟩:∃ g,A=some ⟨g,0,none⟩:=by
    rcases HO.out.2 with ⟨_,e2⟩|⟨g,cap,cur,e1,_⟩
    ·omega
    ·cases e1;exact ⟨g,rfl⟩
   have y0:=Zq112 hro hdj hqj 0 (by omega)
   have y1:=Zq112 hro hdj hqj 1 (by omega)
   have y2:=Zq112 hro hdj hqj 2 (by omega)
   have y3:=Zq112 hro hdj hqj 3 (by omega)
   have hdfj:=HDF.out d (List.mem_of_getElem? hdj)
   have hsm:Zq164 ((ds.take j).foldl stepD (get (⟨k0,k1,k2,k3⟩:K4) S.dry)):=Zq266 HSM.out (fun x hx=>HDF.out x (List.mem_of_mem_take hx))
   have hbq2:=hbq
   obtain ⟨Aq,cq,rfl,_⟩:=hbq2
   simp [intV] at y0 y1 y2 y3
   have HST:=Zh hst
   have HP1:=Zh hp1
   have HI1:=Zh hI1
   have HBQ:=Zh hbq
   have HDF2:=Zh hdfj
   have HSM2:=Zh hsm
   have HDJ:=Zh hdj
   clear hst hp1 hI1 hbq hdfj hsm hdj hqj hro
   go_wp2_with fail
   have hst2:=HST.out.alloc (.cells #[.int .i64 d.kind,.int .i64 d.n,.slice Aq d.p.length cq,.string d.name] 184)
   refine (Zq482 (.slice Aq d.p.length cq) d HDF2.out HSM2.out (hst2.pull 1 _ rfl) HBQ.out).mono ?_
   rintro e w6 ⟨I6,v6,hI6,rfl,h6⟩
   have H6:=Zh h6
   have HI6:=Zh hI6
   clear y0 y1 y2 y3 h6 hI6 hst2
   go_wp2_with fail
   go_roundw
   case rel =>
    refine ⟨j+1,I6,_,by go_num,rfl,by omega,HI1.out.trans HI6.out,(psIP ds ps).mono HI6.out HP1.out,?_⟩
    rw [List.take_add_one,HDJ.out]
    simp only [Option.toList_some,List.foldl_append,List.foldl_cons,List.foldl_nil]
    exact ((H6.out.pull 1 _ rfl).drop).perm (by ((try simp only [Zl0,Zl1,Zl2,Zl3]);repeat (first|with_reducible exact List.Perm.refl _|(apply Zq4;(· repeat (first|with_reducible exact Zq3|with_reducible apply Zq2))))))
   case measure=>simp [intOf];omega
  ·obtain rfl:n=j:=by omega
   have HST:=Zh hst
   have HP1:=Zh hp1
   have HI1:=Zh hI1
   clear hst hp1 hI1
   go_wp2_with fail
   exact HQ.out _ _ _ _ _ _ _ _ _ _ _ _ _ _ _ _ _ _ _ _ _ _ _ _ _ _ _ _ _ _ _ _ _ _ _ _ _ _ _ _ _ _ _ _ _ _ _ _ _ _ _ _ _ _ _ _ _ _ _ _ _ _ _ _ _ _ _ _ _ _ _ _ _ _ _ _ _ _ _ _ _ _ _ _ _ _ _ _ _ _ _ _ _ vt I1 _ HI1.out HP1.out HST.out
theorem Zq114 {ca cb:Code} {Q:Exit→Act→World→Prop} {K:Act→World→Prop} (hK:∀ x y,cb.wp Tryz.prog Q x y→K x y) (hC:(Tryz.f78).body.bind (fromR 12)=some (.seq ca cb)) {x0 x1 x2 x4 x5 x6 x7 x8 x9 x11 x12 x15 x16 x17 x18 x19 x20 x21 x22 x23 x24 x25 x26 x27 x28 x29 x30 x31 x32 x33 x34 x35 x36 x37 x38 x39 x40 x41 x42 x43 x44 x45 x46 x47 x48 x49 x50 x51 x52 x53 x54 x55 x56 x57 x58 x59 x60 x61 x62 x63 x64 x65 x66 x67 x68 x69 x70 x71 x72 x73 x74 x75 x76 x77 x78 x79 x80 x81 x82 x83 x84 x85 x86 x87 x88 x89 x90 x91 x92 x93 x94 x95 x96 x97 x98 x99:Value} {B:SB} {k0 k1 k2 k3 keep torn:Int} {n c:Nat} {ds:List Dd} {ps:List Value} {A:Option Addr} {vt:Value} {HK HKO:HP} {I1:Hp} {wr:World}
  (hst:St W I1 wr (optHP vt ((ds.take n).foldl stepD (get (⟨k0,k1,k2,k3⟩:K4) S.dry))::HP.row 184 4 (.slice A ds.length c) ds.length (Zq82 ds ps)::HK::HKO::Zq6 p S B::dryHP B S::l)) (hp1:(psIP ds ps).p I1) (hdn:ds.length≤100000) (hdf:∀ d ∈ ds,d.fits) (hsm:Zq164 (get (⟨k0,k1,k2,k3⟩:K4) S.dry)) (hnl:n≤ds.length) {nv:Int} (hnv:nv=n)
  (hback:∀ I' w' l',St W I' w' (Zq39 (.slice A ds.length c) ds::HK::l')→St W I' w' (HP.mapOf keyKT Zq39 B.m3 S.late::l'))
  (hds:ds=lateAt S (⟨k0,k1,k2,k3⟩:K4)) (hkn:keptN keep ds.length=n)
  (hQ:∀ (y0 y1 y2 y3 y4 y5 y6 y7 y8 y9 y11 y12 y15 y16 y17 y18 y19 y20 y21 y22 y23 y24 y25 y26 y27 y28 y29 y30 y31 y32 y33 y34 y35 y36 y37 y38 y39 y40 y41 y42 y43 y44 y45 y46 y47 y48 y49 y50 y51 y52 y53 y54 y55 y56 y57 y58 y59 y60 y61 y62 y63 y64 y65 y66 y67 y68 y69 y70 y71 y72 y73 y74 y75 y76 y77 y78 y79 y80 y81 y82 y83 y84 y85 y86 y87 y88 y89 y90 y91 y92 y93 y94 y95 y96 y97 y98 y99 v:Value) (I':Hp) (w':World),I1.sub I'→St W I' w' (optHP v (leftS S (⟨k0,k1,k2,k3⟩:K4) keep torn).1::Zq6 p S B::dryHP B S::Zq25 B S::l)→(leftS S (⟨k0,k1,k2,k3⟩:K4) keep torn).2=(ds.length:Int) - (n:Int)→Q .normal ⟨#[y0,y1,y2,y3,y4,y5,y6,y7,y8,y9,v,y11,y12,.slice A ds.length c,.int .i64 nv,y15,y16,y17,y18,y19,y20,y21,y22,y23,y24,y25,y26,y27,y28,y29,y30,y31,y32,y33,y34,y35,y36,y37,y38,y39,y40,y41,y42,y43,y44,y45,y46,y47,y48,y49,y50,y51,y52,y53,y54,y55,y56,y57,y58,y59,y60,y61,y62,y63,y64,y65,y66,y67,y68,y69,y70,y71,y72,y73,y74,y75,y76,y77,y78,y79,y80,y81,y82,y83,y84,y85,y86,y87,y88,y89,y90,y91,y92,y93,y94,y95,y96,y97,y98,y99],[]⟩ w') :
  ca.wp Tryz.prog (Exit.then K Q) ⟨#[x0,x1,x2,.int .i64 torn,x4,x5,x6,x7,x8,x9,vt,x11,x12,.slice A ds.length c,.int .i64 nv,x15,x16,x17,x18,x19,x20,x21,x22,x23,x24,x25,x26,x27,x28,x29,x30,x31,x32,x33,x34,x35,x36,x37,x38,x39,x40,x41,x42,x43,x44,x45,x46,x47,x48,x49,x50,x51,x52,x53,x54,x55,x56,x57,x58,x59,x60,x61,x62,x63,x64,x65,x66,x67,x68,x69,x70,x71,x72,x73,x74,x75,x76,x77,x78,x79,x80,x81,x82,x83,x84,x85,x86,x87,x88,x89,x90,x91,x92,x93,x94,x95,x96,x97,x98,x99],[]⟩ wr:=by
 injection hC with hC
 injection hC with hC1 hC2
 subst hC1 hC2 hnv
 have HO:=Zh (hst.pull 1 _ rfl).row_owns
 have hdc:ds.length≤c:=by
  rcases HO.out.2 with ⟨e1,e2⟩|⟨g,cap,cur,e1,_,_,h1,_⟩
  ·omega
  ·cases e1;exact h1
 have hnc:n≤c:=by omega
 have hnc2:(n:Int)≤(c:Int):=by omega
 have hnl2:(n:Int)≤(ds.length:Int):=by omega
 have HBK:=Zh hback
 have HDS:=Zh hds
 have HDF:=Zh hdf
 have HSM:=Zh hsm
 have HKN:=Zh hkn
 have HQ:=Zh hQ
 have hI1:I1.sub I1:=Hp.sub.refl _
 clear hback hds hdf hsm hkn hQ
 have HI1:=Zh hI1
 have HP1:=Zh hp1
 have HST:=Zh hst
 have hro:=(hst.pull 1 _ rfl).row_owns
 clear hst hI1 hp1
 by_cases hnlt:n<ds.length
 ·obtain ⟨d,hdj⟩:∃ d,ds[n]?=some d:=⟨_,List.getElem?_eq_getElem hnlt⟩
  obtain ⟨q,hqj⟩:∃ q,ps[n]?=some q:=⟨_,List.getElem?_eq_getElem (by have:=HP1.out.1;omega)⟩
  have hbq:=HP1.out.2 n d q hdj hqj
  obtain ⟨g,rfl⟩:∃ g,A=some ⟨g,0,none⟩:=by
   rcases HO.out.2 with ⟨_,e2⟩|⟨g,cap,cur,e1,_⟩
   ·omega
   ·cases e1;exact ⟨g,rfl⟩
  have y0:=Zq112 hro hdj hqj 0 (by omega)
  have y1:=Zq112 hro hdj hqj 1 (by omega)
  have y2:=Zq112 hro hdj hqj 2 (by omega)
  have y3:=Zq112 hro hdj hqj 3 (by omega)
  have hdfj:=HDF.out d (List.mem_of_getElem? hdj)
  have hbq2:=hbq
  obtain ⟨Aq,cq,rfl,_,hbc,_⟩:=hbq2
  simp [intV] at y0 y1 y2 y3
  have HBQ:=Zh hbq
  have HDF2:=Zh hdfj
  have HDJ:=Zh hdj
  clear hbq hdfj hdj hqj hro
  have hnltI:(n:Int)<(ds.length:Int):=by omega
  by_cases hkd:d.kind=1
  ·have hkd1:(d.kind==1)=true:=by simpa using hkd
   have HKD:=Zh hkd
   clear hkd
   by_cases htn:0<torn
   ·by_cases hpz:d.p.length=0
    ·have hpz1:¬ ((0:Int)<(d.p.length:Int)):=by omega
     have hpz2:¬ (0<d.p.length):=by omega
     have HPZ:=Zh hpz
     clear hpz
     go_wp2_with fail
     clear y0 y1 y2 y3
     have h9:St W I1 wr (optHP vt ((ds.take n).foldl stepD (get (⟨k0,k1,k2,k3⟩:K4) S.dry))::HP.row 184 4 (.slice (some ⟨g,0,none⟩) ds.length c) ds.length (Zq82 ds ps)::HK::HKO::Zq6 p S B::dryHP B S::l):=HST.out
     have h10:St W I1 wr (Zq39 (.slice (some ⟨g,0,none⟩) ds.length c) ds::HK::optHP vt ((ds.take n).foldl stepD (get (⟨k0,k1,k2,k3⟩:K4) S.dry))::Zq6 p S B::dryHP B S::l):=((St.deeds_shut HP1.out (h9.perm (m:=HP.row 184 4 (.slice (some ⟨g,0,none⟩) ds.length c) ds.length (Zq82 ds ps)::optHP vt ((ds.take n).foldl stepD (get (⟨k0,k1,k2,k3⟩:K4) S.dry))::HK::HKO::Zq6 p S B::dryHP B S::l) (by ((try simp only [Zl0,Zl1,Zl2,Zl3]);repeat (first|with_reducible exact List.Perm.refl _|(apply Zq4;(· repeat (first|with_reducible exact Zq3|with_reducible apply Zq2)))))))).pull 3 _ rfl).drop.perm (by ((try simp only [Zl0,Zl1,Zl2,Zl3]);repeat (first|with_reducible exact List.Perm.refl _|(apply Zq4;(· repeat (first|with_reducible exact Zq3|with_reducible apply Zq2))))))
     have h11:=HBK.out _ _ _ h10
     have HL11:Hid (St W I1 wr (optHP vt ((ds.take n).foldl stepD (get (⟨k0,k1,k2,k3⟩:K4) S.dry))::Zq6 p S B::dryHP B S::Zq25 B S::l)):=Zh (h11.perm (m:=optHP vt ((ds.take n).foldl stepD (get (⟨k0,k1,k2,k3⟩:K4) S.dry))::Zq6 p S B::dryHP B S::HP.mapOf keyKT Zq39 B.m3 S.late::l) (by ((try simp only [Zl0,Zl1,Zl2,Zl3]);repeat (first|with_reducible exact List.Perm.refl _|(apply Zq4;(· repeat (first|with_reducible exact Zq3|with_reducible apply Zq2)))))))
     have HE1:=Zh (show (leftS S (⟨k0,k1,k2,k3⟩:K4) keep (torn)).2=(ds.length:Int) - (n:Int) by unfold leftS;rw [←HDS.out];simp only;rw [HKN.out])
     have HE2:=Zh (show (leftS S (⟨k0,k1,k2,k3⟩:K4) keep (torn)).1=((ds.take n).foldl stepD (get (⟨k0,k1,k2,k3⟩:K4) S.dry)) by unfold leftS;rw [←HDS.out];simp only;rw [HKN.out];rw [HDJ.out];simp only;rw [if_neg (fun h=>h.2.2 (List.eq_nil_of_length_eq_zero HPZ.out))])
     clear h9 h10 h11
     go_wp2_with fail
     exact HQ.out _ _ _ _ _ _ _ _ _ _ _ _ _ _ _ _ _ _ _ _ _ _ _ _ _ _ _ _ _ _ _ _ _ _ _ _ _ _ _ _ _ _ _ _ _ _ _ _ _ _ _ _ _ _ _ _ _ _ _ _ _ _ _ _ _ _ _ _ _ _ _ _ _ _ _ _ _ _ _ _ _ _ _ _ _ _ _ _ _ _ _ _ _ _ _ _ _ vt I1 _ HI1.out (by rw [HE2.out];exact HL11.out) HE1.out
    ·obtain ⟨lq,hlq⟩:∃ lq,d.p.length=lq+1:=⟨d.p.length - 1,by omega⟩
     have hpp:0<d.p.length:=by omega
     have hppI:(0:Int)<(d.p.length:Int):=by omega
     have hbc2:d.p.length≤cq:=hbc
     have hpl9:d.p.length≤20480:=HDF2.out.1.2.2.1
     have hpl8:(d.p.length:Int)≤20480:=by omega
     have hpl7:(1:Int)≤(d.p.length:Int):=by omega
     have HLQ:=Zh hlq
     have HTN:=Zh htn
     have hsm:Zq164 ((ds.take n).foldl stepD (get (⟨k0,k1,k2,k3⟩:K4) S.dry)):=Zq266 HSM.out (fun x hx=>HDF.out x (List.mem_of_mem_take hx))
     have HSM2:=Zh hsm
     clear hpz hsm
     by_cases hm:((d.p.length:Int) - 1)<torn
     ·have hz1:(0:Int)≤(d.p.length:Int) - 1:=by omega
      have hz2:(d.p.length:Int) - 1≤(cq:Int):=by omega
      have hz3:(1:Int)≤(d.p.length:Int):=by omega
      have hmt:min torn.toNat (d.p.length - 1)=d.p.length - 1:=by omega
      have HMT:=Zh hmt
      clear hmt hlq
      go_wp2_with fail
      have hst2:=HST.out.alloc (.cells #[.int .i64 d.kind,.int .i64 d.n,.slice Aq (d.p.length - 1) cq,.string d.name] 184)
      have hbt:BytesI I1 (.slice Aq (d.p.length - 1) cq) (tornD (torn) d).p:=Zq484 HBQ.out HMT.out
      have hcall:=Zq482 (.slice Aq (d.p.length - 1) cq) (tornD (torn) d) (Zq338 HDF2.out) HSM2.out (hst2.pull 1 _ rfl) hbt
      change Calls _ _ #[vt,.agg #[.int .i64 d.kind,.int .i64 d.n,.slice Aq (d.p.length - 1) cq,.string d.name]] _ _ at hcall
      with_reducible refine hcall.mono ?_
      rintro e w6 ⟨I6,v6,hI6,rfl,h6⟩
      have H6:=Zh (((h6.pull 1 _ rfl).drop).perm (m:=optHP v6 (stepD ((ds.take n).foldl stepD (get (⟨k0,k1,k2,k3⟩:K4) S.dry)) (tornD (torn) d))::HP.row 184 4 (.slice (some ⟨g,0,none⟩) ds.length c) ds.length (Zq82 ds ps)::HK::HKO::Zq6 p S B::dryHP B S::l) (by ((try simp only [Zl0,Zl1,Zl2,Zl3]);repeat (first|with_reducible exact List.Perm.refl _|(apply Zq4;(· repeat (first|with_reducible exact Zq3|with_reducible apply Zq2)))))))
      have HI6:=Zh hI6
      clear y0 y1 y2 y3 h6 hI6 hst2 hbt hcall
      go_wp2_with fail
      have h9:St W I6 w6 (optHP v6 (stepD ((ds.take n).foldl stepD (get (⟨k0,k1,k2,k3⟩:K4) S.dry)) (tornD (torn) d))::HP.row 184 4 (.slice (some ⟨g,0,none⟩) ds.length c) ds.length (Zq82 ds ps)::HK::HKO::Zq6 p S B::dryHP B S::l):=H6.out
      have h10:St W I6 w6 (Zq39 (.slice (some ⟨g,0,none⟩) ds.length c) ds::HK::optHP v6 (stepD ((ds.take n).foldl stepD (get (⟨k0,k1,k2,k3⟩:K4) S.dry)) (tornD (torn) d))::Zq6 p S B::dryHP B S::l):=((St.deeds_shut ((psIP ds ps).mono HI6.out HP1.out) (h9.perm (m:=HP.row 184 4 (.slice (some ⟨g,0,none⟩) ds.length c) ds.length (Zq82 ds ps)::optHP v6 (stepD ((ds.take n).foldl stepD (get (⟨k0,k1,k2,k3⟩:K4) S.dry)) (tornD (torn) d))::HK::HKO::Zq6 p S B::dryHP B S::l) (by ((try simp only [Zl0,Zl1,Zl2,Zl3]);repeat (first|with_reducible exact List.Perm.refl _|(apply Zq4;(· repeat (first|with_reducible exact Zq3|with_reducible apply Zq2)))))))).pull 3 _ rfl).drop.perm (by ((try simp only [Zl0,Zl1,Zl2,Zl3]);repeat (first|with_reducible exact List.Perm.refl _|(apply Zq4;(· repeat (first|with_reducible exact Zq3|with_reducible apply Zq2))))))
      have h11:=HBK.out _ _ _ h10
      have HL11:Hid (St W I6 w6 (optHP v6 (stepD ((ds.take n).foldl stepD (get (⟨k0,k1,k2,k3⟩:K4) S.dry)) (tornD (torn) d))::Zq6 p S B::dryHP B S::Zq25 B S::l)):=Zh (h11.perm (m:=optHP v6 (stepD ((ds.take n).foldl stepD (get (⟨k0,k1,k2,k3⟩:K4) S.dry)) (tornD (torn) d))::Zq6 p S B::dryHP B S::HP.mapOf keyKT Zq39 B.m3 S.late::l) (by ((try simp only [Zl0,Zl1,Zl2,Zl3]);repeat (first|with_reducible exact List.Perm.refl _|(apply Zq4;(· repeat (first|with_reducible exact Zq3|with_reducible apply Zq2)))))))
      have HE1:=Zh (show (leftS S (⟨k0,k1,k2,k3⟩:K4) keep (torn)).2=(ds.length:Int) - (n:Int) by unfold leftS;rw [←HDS.out];simp only;rw [HKN.out])
      have HE2:=Zh (show (leftS S (⟨k0,k1,k2,k3⟩:K4) keep (torn)).1=(stepD ((ds.take n).foldl stepD (get (⟨k0,k1,k2,k3⟩:K4) S.dry)) (tornD (torn) d)) by unfold leftS;rw [←HDS.out];simp only;rw [HKN.out];rw [HDJ.out];simp only;rw [if_pos ⟨HKD.out,HTN.out,fun h=>by have:=HLQ.out;rw [h] at this;simp at this⟩])
      clear h9 h10 h11
      go_wp2_with fail
      exact HQ.out _ _ _ _ _ _ _ _ _ _ _ _ _ _ _ _ _ _ _ _ _ _ _ _ _ _ _ _ _ _ _ _ _ _ _ _ _ _ _ _ _ _ _ _ _ _ _ _ _ _ _ _ _ _ _ _ _ _ _ _ _ _ _ _ _ _ _ _ _ _ _ _ _ _ _ _ _ _ _ _ _ _ _ _ _ _ _ _ _ _ _ _ _ _ _ _ _ v6 I6 _ (HI1.out.trans HI6.out) (by rw [HE2.out];exact HL11.out) HE1.out
     ·obtain ⟨m,rfl⟩:∃ m:Nat,torn=m:=⟨torn.toNat,by omega⟩
      have hz2:(m:Int)≤(cq:Int):=by omega
      have hmt:min (m:Int).toNat (d.p.length - 1)=m:=by omega
      have HMT:=Zh hmt
      clear hmt hlq
      go_wp2_with fail
      have hst2:=HST.out.alloc (.cells #[.int .i64 d.kind,.int .i64 d.n,.slice Aq (m) cq,.string d.name] 184)
      have hbt:BytesI I1 (.slice Aq (m) cq) (tornD ((m:Int)) d).p:=Zq484 HBQ.out HMT.out
      have hcall:=Zq482 (.slice Aq (m) cq) (tornD ((m:Int)) d) (Zq338 HDF2.out) HSM2.out (hst2.pull 1 _ rfl) hbt
      change Calls _ _ #[vt,.agg #[.int .i64 d.kind,.int .i64 d.n,.slice Aq (m) cq,.string d.name]] _ _ at hcall
      with_reducible refine hcall.mono ?_
      rintro e w6 ⟨I6,v6,hI6,rfl,h6⟩
      have H6:=Zh (((h6.pull 1 _ rfl).drop).perm (m:=optHP v6 (stepD ((ds.take n).foldl stepD (get (⟨k0,k1,k2,k3⟩:K4) S.dry)) (tornD ((m:Int)) d))::HP.row 184 4 (.slice (some ⟨g,0,none⟩) ds.length c) ds.length (Zq82 ds ps)::HK::HKO::Zq6 p S B::dryHP B S::l) (by ((try simp only [Zl0,Zl1,Zl2,Zl3]);repeat (first|with_reducible exact List.Perm.refl _|(apply Zq4;(· repeat (first|with_reducible exact Zq3|with_reducible apply Zq2)))))))
      have HI6:=Zh hI6
      clear y0 y1 y2 y3 h6 hI6 hst2 hbt hcall
      go_wp2_with fail
      have h9:St W I6 w6 (optHP v6 (stepD ((ds.take n).foldl stepD (get (⟨k0,k1,k2,k3⟩:K4) S.dry)) (tornD ((m:Int)) d))::HP.row 184 4 (.slice (some ⟨g,0,none⟩) ds.length c) ds.length (Zq82 ds ps)::HK::HKO::Zq6 p S B::dryHP B S::l):=H6.out
      have h10:St W I6 w6 (Zq39 (.slice (some ⟨g,0,none⟩) ds.length c) ds::HK::optHP v6 (stepD ((ds.take n).foldl stepD (get (⟨k0,k1,k2,k3⟩:K4) S.dry)) (tornD ((m:Int)) d))::Zq6 p S B::dryHP B S::l):=((St.deeds_shut ((psIP ds ps).mono HI6.out HP1.out) (h9.perm (m:=HP.row 184 4 (.slice (some ⟨g,0,none⟩) ds.length c) ds.length (Zq82 ds ps)::optHP v6 (stepD ((ds.take n).foldl stepD (get (⟨k0,k1,k2,k3⟩:K4) S.dry)) (tornD ((m:Int)) d))::HK::HKO::Zq6 p S B::dryHP B S::l) (by ((try simp only [Zl0,Zl1,Zl2,Zl3]);repeat (first|with_reducible exact List.Perm.refl _|(apply Zq4;(· repeat (first|with_reducible exact Zq3|with_reducible apply Zq2)))))))).pull 3 _ rfl).drop.perm (by ((try simp only [Zl0,Zl1,Zl2,Zl3]);repeat (first|with_reducible exact List.Perm.refl _|(apply Zq4;(· repeat (first|with_reducible exact Zq3|with_reducible apply Zq2))))))
      have h11:=HBK.out _ _ _ h10
      have HL11:Hid (St W I6 w6 (optHP v6 (stepD ((ds.take n).foldl stepD (get (⟨k0,k1,k2,k3⟩:K4) S.dry)) (tornD ((m:Int)) d))::Zq6 p S B::dryHP B S::Zq25 B S::l)):=Zh (h11.perm (m:=optHP v6 (stepD ((ds.take n).foldl stepD (get (⟨k0,k1,k2,k3⟩:K4) S.dry)) (tornD ((m:Int)) d))::Zq6 p S B::dryHP B S::HP.mapOf keyKT Zq39 B.m3 S.late::l) (by ((try simp only [Zl0,Zl1,Zl2,Zl3]);repeat (first|with_reducible exact List.Perm.refl _|(apply Zq4;(· repeat (first|with_reducible exact Zq3|with_reducible apply Zq2)))))))
      have HE1:=Zh (show (leftS S (⟨k0,k1,k2,k3⟩:K4) keep ((m:Int))).2=(ds.length:Int) - (n:Int) by unfold leftS;rw [←HDS.out];simp only;rw [HKN.out])
      have HE2:=Zh (show (leftS S (⟨k0,k1,k2,k3⟩:K4) keep ((m:Int))).1=(stepD ((ds.take n).foldl stepD (get (⟨k0,k1,k2,k3⟩:K4) S.dry)) (tornD ((m:Int)) d)) by unfold leftS;rw [←HDS.out];simp only;rw [HKN.out];rw [HDJ.out];simp only;rw [if_pos ⟨HKD.out,HTN.out,fun h=>by have:=HLQ.out;rw [h] at this;simp at this⟩])
      clear h9 h10 h11
      go_wp2_with fail
      exact HQ.out _ _ _ _ _ _ _ _ _ _ _ _ _ _ _ _ _ _ _ _ _ _ _ _ _ _ _ _ _ _ _ _ _ _ _ _ _ _ _ _ _ _ _ _ _ _ _ _ _ _ _ _ _ _ _ _ _ _ _ _ _ _ _ _ _ _ _ _ _ _ _ _ _ _ _ _ _ _ _ _ _ _ _ _ _ _ _ _ _ _ _ _ _ _ _ _ _ v6 I6 _ (HI1.out.trans HI6.out) (by rw [HE2.out];exact HL11.out) HE1.out
   ·have htn1:¬ (0<torn):=htn
    have HTN:=Zh htn
    clear htn
    go_wp2_with fail
    clear y0 y1 y2 y3
    have h9:St W I1 wr (optHP vt ((ds.take n).foldl stepD (get (⟨k0,k1,k2,k3⟩:K4) S.dry))::HP.row 184 4 (.slice (some ⟨g,0,none⟩) ds.length c) ds.length (Zq82 ds ps)::HK::HKO::Zq6 p S B::dryHP B S::l):=HST.out
    have h10:St W I1 wr (Zq39 (.slice (some ⟨g,0,none⟩) ds.length c) ds::HK::optHP vt ((ds.take n).foldl stepD (get (⟨k0,k1,k2,k3⟩:K4) S.dry))::Zq6 p S B::dryHP B S::l):=((St.deeds_shut HP1.out (h9.perm (m:=HP.row 184 4 (.slice (some ⟨g,0,none⟩) ds.length c) ds.length (Zq82 ds ps)::optHP vt ((ds.take n).foldl stepD (get (⟨k0,k1,k2,k3⟩:K4) S.dry))::HK::HKO::Zq6 p S B::dryHP B S::l) (by ((try simp only [Zl0,Zl1,Zl2,Zl3]);repeat (first|with_reducible exact List.Perm.refl _|(apply Zq4;(· repeat (first|with_reducible exact Zq3|with_reducible apply Zq2)))))))).pull 3 _ rfl).drop.perm (by ((try simp only [Zl0,Zl1,Zl2,Zl3]);repeat (first|with_reducible exact List.Perm.refl _|(apply Zq4;(· repeat (first|with_reducible exact Zq3|with_reducible apply Zq2))))))
    have h11:=HBK.out _ _ _ h10
    have HL11:Hid (St W I1 wr (optHP vt ((ds.take n).foldl stepD (get (⟨k0,k1,k2,k3⟩:K4) S.dry))::Zq6 p S B::dryHP B S::Zq25 B S::l)):=Zh (h11.perm (m:=optHP vt ((ds.take n).foldl stepD (get (⟨k0,k1,k2,k3⟩:K4) S.dry))::Zq6 p S B::dryHP B S::HP.mapOf keyKT Zq39 B.m3 S.late::l) (by ((try simp only [Zl0,Zl1,Zl2,Zl3]);repeat (first|with_reducible exact List.Perm.refl _|(apply Zq4;(· repeat (first|with_reducible exact Zq3|with_reducible apply Zq2)))))))
    have HE1:=Zh (show (leftS S (⟨k0,k1,k2,k3⟩:K4) keep (torn)).2=(ds.length:Int) - (n:Int) by unfold leftS;rw [←HDS.out];simp only;rw [HKN.out])
    have HE2:=Zh (show (leftS S (⟨k0,k1,k2,k3⟩:K4) keep (torn)).1=((ds.take n).foldl stepD (get (⟨k0,k1,k2,k3⟩:K4) S.dry)) by unfold leftS;rw [←HDS.out];simp only;rw [HKN.out];rw [HDJ.out];simp only;rw [if_neg (fun h=>by have h1:=HTN.out;have h2:=h.2.1;omega)])
    clear h9 h10 h11
    go_wp2_with fail
    exact HQ.out _ _ _ _ _ _ _ _ _ _ _ _ _ _ _ _ _ _ _ _ _ _ _ _ _ _ _ _ _ _ _ _ _ _ _ _ _ _ _ _ _ _ _ _ _ _ _ _ _ _ _ _ _ _ _ _ _ _ _ _ _ _ _ _ _ _ _ _ _ _ _ _ _ _ _ _ _ _ _ _ _ _ _ _ _ _ _ _ _ _ _ _ _ _ _ _ _ vt I1 _ HI1.out (by rw [HE2.out];exact HL11.out) HE1.out
  ·have hkd1:(d.kind==1)=false:=by simpa using hkd
   have HKD:=Zh hkd
   clear hkd
   go_wp2_with fail
   clear y0 y1 y2 y3
   have h9:St W I1 wr (optHP vt ((ds.take n).foldl stepD (get (⟨k0,k1,k2,k3⟩:K4) S.dry))::HP.row 184 4 (.slice (some ⟨g,0,none⟩) ds.length c) ds.length (Zq82 ds ps)::HK::HKO::Zq6 p S B::dryHP B S::l):=HST.out
   have h10:St W I1 wr (Zq39 (.slice (some ⟨g,0,none⟩) ds.length c) ds::HK::optHP vt ((ds.take n).foldl stepD (get (⟨k0,k1,k2,k3⟩:K4) S.dry))::Zq6 p S B::dryHP B S::l):=((St.deeds_shut HP1.out (h9.perm (m:=HP.row 184 4 (.slice (some ⟨g,0,none⟩) ds.length c) ds.length (Zq82 ds ps)::optHP vt ((ds.take n).foldl stepD (get (⟨k0,k1,k2,k3⟩:K4) S.dry))::HK::HKO::Zq6 p S B::dryHP B S::l) (by ((try simp only [Zl0,Zl1,Zl2,Zl3]);repeat (first|with_reducible exact List.Perm.refl _|(apply Zq4;(· repeat (first|with_reducible exact Zq3|with_reducible apply Zq2)))))))).pull 3 _ rfl).drop.perm (by ((try simp only [Zl0,Zl1,Zl2,Zl3]);repeat (first|with_reducible exact List.Perm.refl _|(apply Zq4;(· repeat (first|with_reducible exact Zq3|with_reducible apply Zq2))))))
   have h11:=HBK.out _ _ _ h10
   have HL11:Hid (St W I1 wr (optHP vt ((ds.take n).foldl stepD (get (⟨k0,k1,k2,k3⟩:K4) S.dry))::Zq6 p S B::dryHP B S::Zq25 B S::l)):=Zh (h11.perm (m:=optHP vt ((ds.take n).foldl stepD (get (⟨k0,k1,k2,k3⟩:K4) S.dry))::Zq6 p S B::dryHP B S::HP.mapOf keyKT Zq39 B.m3 S.late::l) (by ((try simp only [Zl0,Zl1,Zl2,Zl3]);repeat (first|with_reducible exact List.Perm.refl _|(apply Zq4;(· repeat (first|with_reducible exact Zq3|with_reducible apply Zq2)))))))
   have HE1:=Zh (show (leftS S (⟨k0,k1,k2,k3⟩:K4) keep (torn)).2=(ds.length:Int) - (n:Int) by unfold leftS;rw [←HDS.out];simp only;rw [HKN.out])
   have HE2:=Zh (show (leftS S (⟨k0,k1,k2,k3⟩:K4) keep (torn)).1=((ds.take n).foldl stepD (get (⟨k0,k1,k2,k3⟩:K4) S.dry)) by unfold leftS;rw [←HDS.out];simp only;rw [HKN.out];rw [HDJ.out];simp only;rw [if_neg (fun h=>HKD.out h.1)])
   clear h9 h10 h11
   go_wp2_with fail
   exact HQ.out _ _ _ _ _ _ _ _ _ _ _ _ _ _ _ _ _ _ _ _ _ _ _ _ _ _ _ _ _ _ _ _ _ _ _ _ _ _ _ _ _ _ _ _ _ _ _ _ _ _ _ _ _ _ _ _ _ _ _ _ _ _ _ _ _ _ _ _ _ _ _ _ _ _ _ _ _ _ _ _ _ _ _ _ _ _ _ _ _ _ _ _ _ _ _ _ _ vt I1 _ HI1.out (by rw [HE2.out];exact HL11.out) HE1.out
 ·have hnltI:¬ ((n:Int)<(ds.length:Int)):=by omega
  have hno:ds[n]?=none:=List.getElem?_eq_none (by omega)
  have HNO:=Zh hno
  clear hno hro hnlt
  go_wp2_with fail
  have h9:St W I1 wr (optHP vt ((ds.take n).foldl stepD (get (⟨k0,k1,k2,k3⟩:K4) S.dry))::HP.row 184 4 (.slice A ds.length c) ds.length (Zq82 ds ps)::HK::HKO::Zq6 p S B::dryHP B S::l):=HST.out
  have h10:St W I1 wr (Zq39 (.slice A ds.length c) ds::HK::optHP vt ((ds.take n).foldl stepD (get (⟨k0,k1,k2,k3⟩:K4) S.dry))::Zq6 p S B::dryHP B S::l):=((St.deeds_shut HP1.out (h9.perm (m:=HP.row 184 4 (.slice A ds.length c) ds.length (Zq82 ds ps)::optHP vt ((ds.take n).foldl stepD (get (⟨k0,k1,k2,k3⟩:K4) S.dry))::HK::HKO::Zq6 p S B::dryHP B S::l) (by ((try simp only [Zl0,Zl1,Zl2,Zl3]);repeat (first|with_reducible exact List.Perm.refl _|(apply Zq4;(· repeat (first|with_reducible exact Zq3|with_reducible apply Zq2)))))))).pull 3 _ rfl).drop.perm (by ((try simp only [Zl0,Zl1,Zl2,Zl3]);repeat (first|with_reducible exact List.Perm.refl _|(apply Zq4;(· repeat (first|with_reducible exact Zq3|with_reducible apply Zq2))))))
  have h11:=HBK.out _ _ _ h10
  have HL11:Hid (St W I1 wr (optHP vt ((ds.take n).foldl stepD (get (⟨k0,k1,k2,k3⟩:K4) S.dry))::Zq6 p S B::dryHP B S::Zq25 B S::l)):=Zh (h11.perm (m:=optHP vt ((ds.take n).foldl stepD (get (⟨k0,k1,k2,k3⟩:K4) S.dry))::Zq6 p S B::dryHP B S::HP.mapOf keyKT Zq39 B.m3 S.late::l) (by ((try simp only [Zl0,Zl1,Zl2,Zl3]);repeat (first|with_reducible exact List.Perm.refl _|(apply Zq4;(· repeat (first|with_reducible exact Zq3|with_reducible apply Zq2)))))))
  have HE1:=Zh (show (leftS S (⟨k0,k1,k2,k3⟩:K4) keep (torn)).2=(ds.length:Int) - (n:Int) by unfold leftS;rw [←HDS.out];simp only;rw [HKN.out])
  have HE2:=Zh (show (leftS S (⟨k0,k1,k2,k3⟩:K4) keep (torn)).1=((ds.take n).foldl stepD (get (⟨k0,k1,k2,k3⟩:K4) S.dry)) by unfold leftS;rw [←HDS.out];simp only;rw [HKN.out];rw [HNO.out])
  clear h9 h10 h11
  go_wp2_with fail
  exact HQ.out _ _ _ _ _ _ _ _ _ _ _ _ _ _ _ _ _ _ _ _ _ _ _ _ _ _ _ _ _ _ _ _ _ _ _ _ _ _ _ _ _ _ _ _ _ _ _ _ _ _ _ _ _ _ _ _ _ _ _ _ _ _ _ _ _ _ _ _ _ _ _ _ _ _ _ _ _ _ _ _ _ _ _ _ _ _ _ _ _ _ _ _ _ _ _ _ _ vt I1 _ HI1.out (by rw [HE2.out];exact HL11.out) HE1.out
theorem Zq485 {B:SB} (k:K4) (keep torn:Int) (h:St W I w (Zq6 p S B::dryHP B S::Zq25 B S::l)) (hd:∀ x ∈ S.dry,x.2.small) (hl:∀ x ∈ S.late,∀ d ∈ x.2,d.fits) (hn:(lateAt S k).length≤100000) :
  Calls Tryz.prog 78 #[.pointer (some ⟨p,0,none⟩),k.val,.int .i64 keep,.int .i64 torn] w fun e w'=>∃ v I',I.sub I'∧e=.returned (.tuple #[v,.int .i64 (leftS S k keep torn).2])∧St W I' w' (optHP v (leftS S k keep torn).1::Zq6 p S B::dryHP B S::Zq25 B S::l):=by
 obtain ⟨k0,k1,k2,k3⟩:=k
 unfold K4.val
 have h1:=h.alloc (.cells #[.int .i64 k0,.int .i64 k1,.int .i64 k2,.int .i64 k3] 43)
 obtain ⟨w1,hw1⟩:∃ w1,w.alloc (.cells #[.int .i64 k0,.int .i64 k1,.int .i64 k2,.int .i64 k3] 43)=w1:=⟨_,rfl⟩
 rw [hw1] at h1
 have HW1:=Zh hw1
 have c6:=(h1.pull 1 _ rfl).blk 6
 have x0:=Zq1 h1.heap 0
 have x1:=Zq1 h1.heap 1
 have x2:=Zq1 h1.heap 2
 have x3:=Zq1 h1.heap 3
 simp [storeCells] at c6 x0 x1 x2 x3
 have hnd:=(h.pull 1 _ rfl).mapOf_nodup
 have hnd2:=(h.pull 2 _ rfl).mapOf_nodup
 have HD:=Zh hd
 have HL:=Zh hl
 have HN:=Zh hn
 have HND:=Zh hnd
 have HND2:=Zh hnd2
 clear hw1 h hd hl hn hnd hnd2
 rcases (h1.drew.pull 2 _ rfl).mapOf_look Tryz.underlying112 (z:=.pointer none) (fun w=>by kernel_rfl) ⟨k0,k1,k2,k3⟩ with ⟨hg,hlk⟩|⟨vd,t,hg,hlk,h2⟩
 ·have hlk0:=hlk _ (Below.refl _ _) true
  simp only [keyKT,K4.val] at hlk0
  have H1:=Zh h1
  have HG:=Zh hg
  clear h1 hg hlk
  go_enter Tryz.func78,Tryz.ntmps78
  go_wp2_with fail
  rw [HW1.out]
  refine Zq11 [] [0,1,2,3,4,5,6,7,8,9,10] [] (by kernel_rfl) (by kernel_rfl) ?_
  simp only [pickL,Zl6,Zl7]
  repeat (refine Zq13 _ (Or.inl ⟨by rfl,by intro w;go_simp;try with_reducible rfl⟩) ?_;(try simp only [Act.put,List.setIfInBounds_toArray,Zl4,Zl5]))
  refine Zq15 ?_
  repeat still_step
  refine wpStill_nil ?_
  go_wp2_with fail
  refine NoPanic.normal ?_
  clear hlk0 c6 x0 x1 x2 x3
  go_wp2_with fail
  have h4:St W I w1.drew (optHP (.pointer none) (get (⟨k0,k1,k2,k3⟩:K4) S.dry)::HP.pt w.heap.size (.cells #[.int .i64 k0,.int .i64 k1,.int .i64 k2,.int .i64 k3] 43)::Zq6 p S B::dryHP B S::Zq25 B S::l):=by rw [HG.out];exact St.pure_shut rfl H1.out.drew
  obtain ⟨w5,I5,hw5,hI5,h5⟩:∃ w5 I5,w1.drew=w5∧I.sub I5∧St W I5 w5 (optHP (.pointer none) (get (⟨k0,k1,k2,k3⟩:K4) S.dry)::HP.pt w.heap.size (.cells #[.int .i64 k0,.int .i64 k1,.int .i64 k2,.int .i64 k3] 43)::Zq6 p S B::dryHP B S::Zq25 B S::l):=⟨_,I,rfl,Hp.sub.refl _,h4⟩
  rw [hw5]
  have HI5:=Zh hI5
  clear hw5 hI5 h4 HG
  obtain ⟨vl,HK,hlk5,h6,hback,_⟩:=(h5.drew.pull 4 _ rfl).look_or (x0:=[]) Tryz.underlying113 (fun w=>by kernel_rfl) Zq337 ⟨k0,k1,k2,k3⟩
  have hlk6:=hlk5 _ (Below.refl _ _) false
  simp only [keyKT,K4.val] at hlk6
  have c7:=(h5.pull 2 _ rfl).blk 7
  have hxk:=(h5.pull 1 _ rfl).heap
  have x0:=Zq1 hxk 0
  have x1:=Zq1 hxk 1
  have x2:=Zq1 hxk 2
  have x3:=Zq1 hxk 3
  simp [storeCells] at c7 x0 x1 x2 x3
  obtain ⟨ds,hds⟩:∃ ds,ds=lateAt S ⟨k0,k1,k2,k3⟩:=⟨_,rfl⟩
  rw [show (get (⟨k0,k1,k2,k3⟩:K4) S.late).getD []=ds from hds.symm] at h6 hback
  have hdn:ds.length≤100000:=by rw [hds];exact HN.out
  have hdf:∀ d ∈ ds,d.fits:=by
   rw [hds]
   unfold lateAt
   cases hgl:get (⟨k0,k1,k2,k3⟩:K4) S.late with
   | none=>intro d hd;simp at hd
   | some x=>exact HL.out _ (get_mem hgl)
  obtain ⟨ps,hps,h7⟩:=h6.deeds_open
  have hown:=h7.row_owns
  obtain ⟨A,c,rfl⟩:=Zq17 hown
  have HO:=Zh hown
  have HPS:=Zh hps
  have H7:=Zh h7
  have HBK:=Zh hback
  have HDS:=Zh hds
  have HDF:=Zh hdf
  clear h5 h6 h7 hlk5 hxk hps hown hback hds hdf
  have hsm0:Zq164 (get (⟨k0,k1,k2,k3⟩:K4) S.dry):=by
   cases hgd:get (⟨k0,k1,k2,k3⟩:K4) S.dry with
   | none=>trivial
   | some x=>exact HD.out _ (get_mem hgd)
  have HSM:=Zh hsm0
  clear hsm0
  obtain ⟨n,hn⟩:∃ n,n=keptN keep ds.length:=⟨_,rfl⟩
  have HKN:=Zh hn.symm
  rcases (by omega:(0<keep∧keep≤ds.length)∨(0<ds.length∧(ds.length:Int)<keep)∨(keep≤0)∨(ds.length=0∧0<keep)) with hk1|hk1|hk1|hk1
  ·obtain ⟨m,rfl⟩:∃ m:Nat,keep=m:=⟨keep.toNat,by omega⟩
   have hn0:0<m:=by omega
   have hnl2:(m:Int)≤(ds.length:Int):=by omega
   have HMN:=Zh (show m=n by rw [hn];unfold keptN;omega)
   clear hk1 hn
   refine Zq11 [] [0,1,2,3,4,5,6] [] (by kernel_rfl) (by kernel_rfl) ?_
   simp only [pickL,Zl6,Zl7]
   repeat (refine Zq13 _ (Or.inl ⟨by rfl,by intro w;go_simp;try with_reducible rfl⟩) ?_;(try simp only [Act.put,List.setIfInBounds_toArray,Zl4,Zl5]))
   refine Zq15 ?_
   repeat still_step
   refine wpStill_nil ?_
   go_wp2_with fail
   refine NoPanic.normal ?_
   clear hlk6 c7 x0 x1 x2 x3
   go_upto_region 7 with fail
   refine Zq113 (n:=n) (by assumption) (by kernel_rfl) (h:=H7.out.perm (by ((try simp only [Zl0,Zl1,Zl2,Zl3]);repeat (first|with_reducible exact List.Perm.refl _|(apply Zq4;(· repeat (first|with_reducible exact Zq3|with_reducible apply Zq2))))))) (hps:=HPS.out) (hdn:=hdn) (hdf:=HDF.out) (hsm:=HSM.out) (hnl:=by have:=HMN.out;omega) (hnv:=by have:=HMN.out;omega) ?_
   rintro _ _ _ _ _ _ _ _ _ _ _ _ _ _ _ _ _ _ _ _ _ _ _ _ _ _ _ _ _ _ _ _ _ _ _ _ _ _ _ _ _ _ _ _ _ _ _ _ _ _ _ _ _ _ _ _ _ _ _ _ _ _ _ _ _ _ _ _ _ _ _ _ _ _ _ _ _ _ _ _ _ _ _ _ _ _ _ _ _ _ _ _ _ v6 I6 w6 hs6 hp6 h6
   have H6:=Zh h6
   have HP6:=Zh hp6
   have HS6:=Zh hs6
   clear h6 hp6 hs6
   go_upto_region 12 with fail
   refine Zq114 (n:=n) (keep:=(m:Int)) (by assumption) (by kernel_rfl) (hst:=H6.out) (hp1:=HP6.out) (hback:=HBK.out) (hds:=HDS.out) (hdn:=hdn) (hdf:=HDF.out) (hsm:=HSM.out) (hkn:=HKN.out) (hnl:=by have:=HMN.out;omega) (hnv:=by have:=HMN.out;omega) ?_
   rintro _ _ _ _ _ _ _ _ _ _ _ _ _ _ _ _ _ _ _ _ _ _ _ _ _ _ _ _ _ _ _ _ _ _ _ _ _ _ _ _ _ _ _ _ _ _ _ _ _ _ _ _ _ _ _ _ _ _ _ _ _ _ _ _ _ _ _ _ _ _ _ _ _ _ _ _ _ _ _ _ _ _ _ _ _ _ _ _ _ _ _ _ _ _ _ _ _ v7 I7 w7 hs7 h7 he7
   have H7:=Zh h7
   have HS7:=Zh hs7
   have HE7:=Zh (show (leftS S (⟨k0,k1,k2,k3⟩:K4) (m:Int) torn).2=(ds.length:Int) - (m:Int) by rw [he7];have:=HMN.out;omega)
   clear h7 hs7 he7
   go_wp2_with fail
   go_ret2
   rw [HE7.out]
   exact ⟨v7,I7,HI5.out.trans (HS6.out.trans HS7.out),rfl,H7.out⟩
  ·have hn0:0<ds.length:=by omega
   have hnk:(ds.length:Int)<keep:=by omega
   have HMN:=Zh (show ds.length=n by rw [hn];unfold keptN;omega)
   clear hk1 hn
   refine Zq11 [] [0,1,2,3,4,5,6] [] (by kernel_rfl) (by kernel_rfl) ?_
   simp only [pickL,Zl6,Zl7]
   repeat (refine Zq13 _ (Or.inl ⟨by rfl,by intro w;go_simp;try with_reducible rfl⟩) ?_;(try simp only [Act.put,List.setIfInBounds_toArray,Zl4,Zl5]))
   refine Zq15 ?_
   repeat still_step
   refine wpStill_nil ?_
   go_wp2_with fail
   refine NoPanic.normal ?_
   clear hlk6 c7 x0 x1 x2 x3
   go_upto_region 7 with fail
   refine Zq113 (n:=n) (by assumption) (by kernel_rfl) (h:=H7.out.perm (by ((try simp only [Zl0,Zl1,Zl2,Zl3]);repeat (first|with_reducible exact List.Perm.refl _|(apply Zq4;(· repeat (first|with_reducible exact Zq3|with_reducible apply Zq2))))))) (hps:=HPS.out) (hdn:=hdn) (hdf:=HDF.out) (hsm:=HSM.out) (hnl:=by have:=HMN.out;omega) (hnv:=by have:=HMN.out;omega) ?_
   rintro _ _ _ _ _ _ _ _ _ _ _ _ _ _ _ _ _ _ _ _ _ _ _ _ _ _ _ _ _ _ _ _ _ _ _ _ _ _ _ _ _ _ _ _ _ _ _ _ _ _ _ _ _ _ _ _ _ _ _ _ _ _ _ _ _ _ _ _ _ _ _ _ _ _ _ _ _ _ _ _ _ _ _ _ _ _ _ _ _ _ _ _ _ v6 I6 w6 hs6 hp6 h6
   have H6:=Zh h6
   have HP6:=Zh hp6
   have HS6:=Zh hs6
   clear h6 hp6 hs6
   go_upto_region 12 with fail
   refine Zq114 (n:=n) (keep:=keep) (by assumption) (by kernel_rfl) (hst:=H6.out) (hp1:=HP6.out) (hback:=HBK.out) (hds:=HDS.out) (hdn:=hdn) (hdf:=HDF.out) (hsm:=HSM.out) (hkn:=HKN.out) (hnl:=by have:=HMN.out;omega) (hnv:=by have:=HMN.out;omega) ?_
   rintro _ _ _ _ _ _ _ _ _ _ _ _ _ _ _ _ _ _ _ _ _ _ _ _ _ _ _ _ _ _ _ _ _ _ _ _ _ _ _ _ _ _ _ _ _ _ _ _ _ _ _ _ _ _ _ _ _ _ _ _ _ _ _ _ _ _ _ _ _ _ _ _ _ _ _ _ _ _ _ _ _ _ _ _ _ _ _ _ _ _ _ _ _ _ _ _ _ v7 I7 w7 hs7 h7 he7
   have H7:=Zh h7
   have HS7:=Zh hs7
   have HE7:=Zh (show (leftS S (⟨k0,k1,k2,k3⟩:K4) keep torn).2=0 by rw [he7];have:=HMN.out;omega)
   clear h7 hs7 he7
   go_wp2_with fail
   go_ret2
   rw [HE7.out]
   exact ⟨v7,I7,HI5.out.trans (HS6.out.trans HS7.out),rfl,H7.out⟩
  ·have hn0:keep≤0:=hk1
   have hnk:keep≤(ds.length:Int):=by omega
   have HMN:=Zh (show 0=n by rw [hn];unfold keptN;omega)
   clear hk1 hn
   refine Zq11 [] [0,1,2,3,4,5,6] [] (by kernel_rfl) (by kernel_rfl) ?_
   simp only [pickL,Zl6,Zl7]
   repeat (refine Zq13 _ (Or.inl ⟨by rfl,by intro w;go_simp;try with_reducible rfl⟩) ?_;(try simp only [Act.put,List.setIfInBounds_toArray,Zl4,Zl5]))
   refine Zq15 ?_
   repeat still_step
   refine wpStill_nil ?_
   go_wp2_with fail
   refine NoPanic.normal ?_
   clear hlk6 c7 x0 x1 x2 x3
   go_upto_region 7 with fail
   refine Zq113 (n:=n) (by assumption) (by kernel_rfl) (h:=H7.out.perm (by ((try simp only [Zl0,Zl1,Zl2,Zl3]);repeat (first|with_reducible exact List.Perm.refl _|(apply Zq4;(· repeat (first|with_reducible exact Zq3|with_reducible apply Zq2))))))) (hps:=HPS.out) (hdn:=hdn) (hdf:=HDF.out) (hsm:=HSM.out) (hnl:=by have:=HMN.out;omega) (hnv:=by have:=HMN.out;omega) ?_
   rintro _ _ _ _ _ _ _ _ _ _ _ _ _ _ _ _ _ _ _ _ _ _ _ _ _ _ _ _ _ _ _ _ _ _ _ _ _ _ _ _ _ _ _ _ _ _ _ _ _ _ _ _ _ _ _ _ _ _ _ _ _ _ _ _ _ _ _ _ _ _ _ _ _ _ _ _ _ _ _ _ _ _ _ _ _ _ _ _ _ _ _ _ _ v6 I6 w6 hs6 hp6 h6
   have H6:=Zh h6
   have HP6:=Zh hp6
   have HS6:=Zh hs6
   clear h6 hp6 hs6
   go_upto_region 12 with fail
   refine Zq114 (n:=n) (keep:=keep) (by assumption) (by kernel_rfl) (hst:=H6.out) (hp1:=HP6.out) (hback:=HBK.out) (hds:=HDS.out) (hdn:=hdn) (hdf:=HDF.out) (hsm:=HSM.out) (hkn:=HKN.out) (hnl:=by have:=HMN.out;omega) (hnv:=by have:=HMN.out;omega) ?_
   rintro _ _ _ _ _ _ _ _ _ _ _ _ _ _ _ _ _ _ _ _ _ _ _ _ _ _ _ _ _ _ _ _ _ _ _ _ _ _ _ _ _ _ _ _ _ _ _ _ _ _ _ _ _ _ _ _ _ _ _ _ _ _ _ _ _ _ _ _ _ _ _ _ _ _ _ _ _ _ _ _ _ _ _ _ _ _ _ _ _ _ _ _ _ _ _ _ _ v7 I7 w7 hs7 h7 he7
   have H7:=Zh h7
   have HS7:=Zh hs7
   have HE7:=Zh (show (leftS S (⟨k0,k1,k2,k3⟩:K4) keep torn).2=(ds.length:Int) by rw [he7];have:=HMN.out;omega)
   clear h7 hs7 he7
   go_wp2_with fail
   go_ret2
   rw [HE7.out]
   exact ⟨v7,I7,HI5.out.trans (HS6.out.trans HS7.out),rfl,H7.out⟩
  ·have hn0:(ds.length:Int)≤0:=by omega
   have hnk:(ds.length:Int)<keep:=by omega
   have HMN:=Zh (show 0=n by rw [hn];unfold keptN;omega)
   clear hk1 hn
   refine Zq11 [] [0,1,2,3,4,5,6] [] (by kernel_rfl) (by kernel_rfl) ?_
   simp only [pickL,Zl6,Zl7]
   repeat (refine Zq13 _ (Or.inl ⟨by rfl,by intro w;go_simp;try with_reducible rfl⟩) ?_;(try simp only [Act.put,List.setIfInBounds_toArray,Zl4,Zl5]))
   refine Zq15 ?_
   repeat still_step
   refine wpStill_nil ?_
   go_wp2_with fail
   refine NoPanic.normal ?_
   clear hlk6 c7 x0 x1 x2 x3
   go_upto_region 7 with fail
   refine Zq113 (n:=n) (by assumption) (by kernel_rfl) (h:=H7.out.perm (by ((try simp only [Zl0,Zl1,Zl2,Zl3]);repeat (first|with_reducible exact List.Perm.refl _|(apply Zq4;(· repeat (first|with_reducible exact Zq3|with_reducible apply Zq2))))))) (hps:=HPS.out) (hdn:=hdn) (hdf:=HDF.out) (hsm:=HSM.out) (hnl:=by have:=HMN.out;omega) (hnv:=by have:=HMN.out;omega) ?_
   rintro _ _ _ _ _ _ _ _ _ _ _ _ _ _ _ _ _ _ _ _ _ _ _ _ _ _ _ _ _ _ _ _ _ _ _ _ _ _ _ _ _ _ _ _ _ _ _ _ _ _ _ _ _ _ _ _ _ _ _ _ _ _ _ _ _ _ _ _ _ _ _ _ _ _ _ _ _ _ _ _ _ _ _ _ _ _ _ _ _ _ _ _ _ v6 I6 w6 hs6 hp6 h6
   have H6:=Zh h6
   have HP6:=Zh hp6
   have HS6:=Zh hs6
   clear h6 hp6 hs6
   go_upto_region 12 with fail
   refine Zq114 (n:=n) (keep:=keep) (by assumption) (by kernel_rfl) (hst:=H6.out) (hp1:=HP6.out) (hback:=HBK.out) (hds:=HDS.out) (hdn:=hdn) (hdf:=HDF.out) (hsm:=HSM.out) (hkn:=HKN.out) (hnl:=by have:=HMN.out;omega) (hnv:=by have:=HMN.out;omega) ?_
   rintro _ _ _ _ _ _ _ _ _ _ _ _ _ _ _ _ _ _ _ _ _ _ _ _ _ _ _ _ _ _ _ _ _ _ _ _ _ _ _ _ _ _ _ _ _ _ _ _ _ _ _ _ _ _ _ _ _ _ _ _ _ _ _ _ _ _ _ _ _ _ _ _ _ _ _ _ _ _ _ _ _ _ _ _ _ _ _ _ _ _ _ _ _ _ _ _ _ v7 I7 w7 hs7 h7 he7
   have H7:=Zh h7
   have HS7:=Zh hs7
   have HE7:=Zh (show (leftS S (⟨k0,k1,k2,k3⟩:K4) keep torn).2=(ds.length:Int) by rw [he7];have:=HMN.out;omega)
   clear h7 hs7 he7
   go_wp2_with fail
   go_ret2
   rw [HE7.out]
   exact ⟨v7,I7,HI5.out.trans (HS6.out.trans HS7.out),rfl,H7.out⟩
 ·have hlk0:=hlk _ (Below.refl _ _) true
  simp only [keyKT,K4.val] at hlk0
  have hts:t.small:=HD.out _ (get_mem hg)
  have hpt:(((⟨k0,k1,k2,k3⟩:K4),t)::del (⟨k0,k1,k2,k3⟩:K4) S.dry).Perm S.dry:=(Zq72 HND.out hg).symm
  have H2:=Zh h2
  have HG:=Zh hg
  have HTS:=Zh hts
  have HPT:=Zh hpt
  obtain ⟨bt,mt,vbt,hve,_⟩:=h2.thing_open
  subst hve
  clear h1 h2 hg hlk hts hpt
  go_enter Tryz.func78,Tryz.ntmps78
  go_wp2_with fail
  rw [HW1.out]
  refine Zq11 [] [0,1,2,3,4,5,6,7,8,9,10] [] (by kernel_rfl) (by kernel_rfl) ?_
  simp only [pickL,Zl6,Zl7]
  repeat (refine Zq13 _ (Or.inl ⟨by rfl,by intro w;go_simp;try with_reducible rfl⟩) ?_;(try simp only [Act.put,List.setIfInBounds_toArray,Zl4,Zl5]))
  refine Zq15 ?_
  repeat still_step
  refine wpStill_nil ?_
  go_wp2_with fail
  refine NoPanic.normal ?_
  clear hlk0 c6 x0 x1 x2 x3
  go_wp2_with fail
  refine (Zq329 H2.out (by have:=HTS.out.1;omega) (fun x hx=>by have:=HTS.out.2 x hx;omega)).mono ?_
  rintro e w5 ⟨v5,I5,rfl,hI5,h3⟩
  have h4:=(St.hole_back ((h3.pull 1 _ rfl).perm (m:=Zq12 (.pointer (some ⟨bt,0,none⟩)) t::HP.hole keyKT Zq12 B.m2 (⟨k0,k1,k2,k3⟩:K4) (.pointer (some ⟨bt,0,none⟩)) (del (⟨k0,k1,k2,k3⟩:K4) S.dry)::Zq12 v5 t::HP.pt w.heap.size (.cells #[.int .i64 k0,.int .i64 k1,.int .i64 k2,.int .i64 k3] 43)::Zq6 p S B::Zq25 B S::l) (by ((try simp only [Zl0,Zl1,Zl2,Zl3]);repeat (first|with_reducible exact List.Perm.refl _|(apply Zq4;(· repeat (first|with_reducible exact Zq3|with_reducible apply Zq2)))))))).mapOf_perm HPT.out
  have h5:St W I5 w5 (optHP v5 (get (⟨k0,k1,k2,k3⟩:K4) S.dry)::HP.pt w.heap.size (.cells #[.int .i64 k0,.int .i64 k1,.int .i64 k2,.int .i64 k3] 43)::Zq6 p S B::dryHP B S::Zq25 B S::l):=by
   rw [HG.out]
   exact (h4.perm (m:=Zq12 v5 t::HP.pt w.heap.size (.cells #[.int .i64 k0,.int .i64 k1,.int .i64 k2,.int .i64 k3] 43)::Zq6 p S B::HP.mapOf keyKT Zq12 B.m2 S.dry::Zq25 B S::l) (by ((try simp only [Zl0,Zl1,Zl2,Zl3]);repeat (first|with_reducible exact List.Perm.refl _|(apply Zq4;(· repeat (first|with_reducible exact Zq3|with_reducible apply Zq2)))))))
  have HI5:=Zh hI5
  clear hI5 h3 h4 HG H2 HPT HTS
  go_wp2_with fail
  obtain ⟨vl,HK,hlk5,h6,hback,_⟩:=(h5.drew.pull 4 _ rfl).look_or (x0:=[]) Tryz.underlying113 (fun w=>by kernel_rfl) Zq337 ⟨k0,k1,k2,k3⟩
  have hlk6:=hlk5 _ (Below.refl _ _) false
  simp only [keyKT,K4.val] at hlk6
  have c7:=(h5.pull 2 _ rfl).blk 7
  have hxk:=(h5.pull 1 _ rfl).heap
  have x0:=Zq1 hxk 0
  have x1:=Zq1 hxk 1
  have x2:=Zq1 hxk 2
  have x3:=Zq1 hxk 3
  simp [storeCells] at c7 x0 x1 x2 x3
  obtain ⟨ds,hds⟩:∃ ds,ds=lateAt S ⟨k0,k1,k2,k3⟩:=⟨_,rfl⟩
  rw [show (get (⟨k0,k1,k2,k3⟩:K4) S.late).getD []=ds from hds.symm] at h6 hback
  have hdn:ds.length≤100000:=by rw [hds];exact HN.out
  have hdf:∀ d ∈ ds,d.fits:=by
   rw [hds]
   unfold lateAt
   cases hgl:get (⟨k0,k1,k2,k3⟩:K4) S.late with
   | none=>intro d hd;simp at hd
   | some x=>exact HL.out _ (get_mem hgl)
  obtain ⟨ps,hps,h7⟩:=h6.deeds_open
  have hown:=h7.row_owns
  obtain ⟨A,c,rfl⟩:=Zq17 hown
  have HO:=Zh hown
  have HPS:=Zh hps
  have H7:=Zh h7
  have HBK:=Zh hback
  have HDS:=Zh hds
  have HDF:=Zh hdf
  clear h5 h6 h7 hlk5 hxk hps hown hback hds hdf
  have hsm0:Zq164 (get (⟨k0,k1,k2,k3⟩:K4) S.dry):=by
   cases hgd:get (⟨k0,k1,k2,k3⟩:K4) S.dry with
   | none=>trivial
   | some x=>exact HD.out _ (get_mem hgd)
  have HSM:=Zh hsm0
  clear hsm0
  obtain ⟨n,hn⟩:∃ n,n=keptN keep ds.length:=⟨_,rfl⟩
  have HKN:=Zh hn.symm
  rcases (by omega:(0<keep∧keep≤ds.length)∨(0<ds.length∧(ds.length:Int)<keep)∨(keep≤0)∨(ds.length=0∧0<keep)) with hk1|hk1|hk1|hk1
  ·obtain ⟨m,rfl⟩:∃ m:Nat,keep=m:=⟨keep.toNat,by omega⟩
   have hn0:0<m:=by omega
   have hnl2:(m:Int)≤(ds.length:Int):=by omega
   have HMN:=Zh (show m=n by rw [hn];unfold keptN;omega)
   clear hk1 hn
   refine Zq11 [] [0,1,2,3,4,5,6] [] (by kernel_rfl) (by kernel_rfl) ?_
   simp only [pickL,Zl6,Zl7]
   repeat (refine Zq13 _ (Or.inl ⟨by rfl,by intro w;go_simp;try with_reducible rfl⟩) ?_;(try simp only [Act.put,List.setIfInBounds_toArray,Zl4,Zl5]))
   refine Zq15 ?_
   repeat still_step
   refine wpStill_nil ?_
   go_wp2_with fail
   refine NoPanic.normal ?_
   clear hlk6 c7 x0 x1 x2 x3
   go_upto_region 7 with fail
   refine Zq113 (n:=n) (by assumption) (by kernel_rfl) (h:=H7.out.perm (by ((try simp only [Zl0,Zl1,Zl2,Zl3]);repeat (first|with_reducible exact List.Perm.refl _|(apply Zq4;(· repeat (first|with_reducible exact Zq3|with_reducible apply Zq2))))))) (hps:=HPS.out) (hdn:=hdn) (hdf:=HDF.out) (hsm:=HSM.out) (hnl:=by have:=HMN.out;omega) (hnv:=by have:=HMN.out;omega) ?_
   rintro _ _ _ _ _ _ _ _ _ _ _ _ _ _ _ _ _ _ _ _ _ _ _ _ _ _ _ _ _ _ _ _ _ _ _ _ _ _ _ _ _ _ _ _ _ _ _ _ _ _ _ _ _ _ _ _ _ _ _ _ _ _ _ _ _ _ _ _ _ _ _ _ _ _ _ _ _ _ _ _ _ _ _ _ _ _ _ _ _ _ _ _ _ v6 I6 w6 hs6 hp6 h6
   have H6:=Zh h6
   have HP6:=Zh hp6
   have HS6:=Zh hs6
   clear h6 hp6 hs6
   go_upto_region 12 with fail
   refine Zq114 (n:=n) (keep:=(m:Int)) (by assumption) (by kernel_rfl) (hst:=H6.out) (hp1:=HP6.out) (hback:=HBK.out) (hds:=HDS.out) (hdn:=hdn) (hdf:=HDF.out) (hsm:=HSM.out) (hkn:=HKN.out) (hnl:=by have:=HMN.out;omega) (hnv:=by have:=HMN.out;omega) ?_
   rintro _ _ _ _ _ _ _ _ _ _ _ _ _ _ _ _ _ _ _ _ _ _ _ _ _ _ _ _ _ _ _ _ _ _ _ _ _ _ _ _ _ _ _ _ _ _ _ _ _ _ _ _ _ _ _ _ _ _ _ _ _ _ _ _ _ _ _ _ _ _ _ _ _ _ _ _ _ _ _ _ _ _ _ _ _ _ _ _ _ _ _ _ _ _ _ _ _ v7 I7 w7 hs7 h7 he7
   have H7:=Zh h7
   have HS7:=Zh hs7
   have HE7:=Zh (show (leftS S (⟨k0,k1,k2,k3⟩:K4) (m:Int) torn).2=(ds.length:Int) - (m:Int) by rw [he7];have:=HMN.out;omega)
   clear h7 hs7 he7
   go_wp2_with fail
   go_ret2
   rw [HE7.out]
   exact ⟨v7,I7,HI5.out.trans (HS6.out.trans HS7.out),rfl,H7.out⟩
  ·have hn0:0<ds.length:=by omega
   have hnk:(ds.length:Int)<keep:=by omega
   have HMN:=Zh (show ds.length=n by rw [hn];unfold keptN;omega)
   clear hk1 hn
   refine Zq11 [] [0,1,2,3,4,5,6] [] (by kernel_rfl) (by kernel_rfl) ?_
   simp only [pickL,Zl6,Zl7]
   repeat (refine Zq13 _ (Or.inl ⟨by rfl,by intro w;go_simp;try with_reducible rfl⟩) ?_;(try simp only [Act.put,List.setIfInBounds_toArray,Zl4,Zl5]))
   refine Zq15 ?_
   repeat still_step
   refine wpStill_nil ?_
   go_wp2_with fail
   refine NoPanic.normal ?_
   clear hlk6 c7 x0 x1 x2 x3
   go_upto_region 7 with fail
   refine Zq113 (n:=n) (by assumption) (by kernel_rfl) (h:=H7.out.perm (by ((try simp only [Zl0,Zl1,Zl2,Zl3]);repeat (first|with_reducible exact List.Perm.refl _|(apply Zq4;(· repeat (first|with_reducible exact Zq3|with_reducible apply Zq2))))))) (hps:=HPS.out) (hdn:=hdn) (hdf:=HDF.out) (hsm:=HSM.out) (hnl:=by have:=HMN.out;omega) (hnv:=by have:=HMN.out;omega) ?_
   rintro _ _ _ _ _ _ _ _ _ _ _ _ _ _ _ _ _ _ _ _ _ _ _ _ _ _ _ _ _ _ _ _ _ _ _ _ _ _ _ _ _ _ _ _ _ _ _ _ _ _ _ _ _ _ _ _ _ _ _ _ _ _ _ _ _ _ _ _ _ _ _ _ _ _ _ _ _ _ _ _ _ _ _ _ _ _ _ _ _ _ _ _ _ v6 I6 w6 hs6 hp6 h6
   have H6:=Zh h6
   have HP6:=Zh hp6
   have HS6:=Zh hs6
   clear h6 hp6 hs6
   go_upto_region 12 with fail
   refine Zq114 (n:=n) (keep:=keep) (by assumption) (by kernel_rfl) (hst:=H6.out) (hp1:=HP6.out) (hback:=HBK.out) (hds:=HDS.out) (hdn:=hdn) (hdf:=HDF.out) (hsm:=HSM.out) (hkn:=HKN.out) (hnl:=by have:=HMN.out;omega) (hnv:=by have:=HMN.out;omega) ?_
   rintro _ _ _ _ _ _ _ _ _ _ _ _ _ _ _ _ _ _ _ _ _ _ _ _ _ _ _ _ _ _ _ _ _ _ _ _ _ _ _ _ _ _ _ _ _ _ _ _ _ _ _ _ _ _ _ _ _ _ _ _ _ _ _ _ _ _ _ _ _ _ _ _ _ _ _ _ _ _ _ _ _ _ _ _ _ _ _ _ _ _ _ _ _ _ _ _ _ v7 I7 w7 hs7 h7 he7
   have H7:=Zh h7
   have HS7:=Zh hs7
   have HE7:=Zh (show (leftS S (⟨k0,k1,k2,k3⟩:K4) keep torn).2=0 by rw [he7];have:=HMN.out;omega)
   clear h7 hs7 he7
   go_wp2_with fail
   go_ret2
   rw [HE7.out]
   exact ⟨v7,I7,HI5.out.trans (HS6.out.trans HS7.out),rfl,H7.out⟩
  ·have hn0:keep≤0:=hk1
   have hnk:keep≤(ds.length:Int):=by omega
   have HMN:=Zh (show 0=n by rw [hn];unfold keptN;omega)
   clear hk1 hn
   refine Zq11 [] [0,1,2,3,4,5,6] [] (by kernel_rfl) (by kernel_rfl) ?_
   simp only [pickL,Zl6,Zl7]
   repeat (refine Zq13 _ (Or.inl ⟨by rfl,by intro w;go_simp;try with_reducible rfl⟩) ?_;(try simp only [Act.put,List.setIfInBounds_toArray,Zl4,Zl5]))
   refine Zq15 ?_
   repeat still_step
   refine wpStill_nil ?_
   go_wp2_with fail
   refine NoPanic.normal ?_
   clear hlk6 c7 x0 x1 x2 x3
   go_upto_region 7 with fail
   refine Zq113 (n:=n) (by assumption) (by kernel_rfl) (h:=H7.out.perm (by ((try simp only [Zl0,Zl1,Zl2,Zl3]);repeat (first|with_reducible exact List.Perm.refl _|(apply Zq4;(· repeat (first|with_reducible exact Zq3|with_reducible apply Zq2))))))) (hps:=HPS.out) (hdn:=hdn) (hdf:=HDF.out) (hsm:=HSM.out) (hnl:=by have:=HMN.out;omega) (hnv:=by have:=HMN.out;omega) ?_
   rintro _ _ _ _ _ _ _ _ _ _ _ _ _ _ _ _ _ _ _ _ _ _ _ _ _ _ _ _ _ _ _ _ _ _ _ _ _ _ _ _ _ _ _ _ _ _ _ _ _ _ _ _ _ _ _ _ _ _ _ _ _ _ _ _ _ _ _ _ _ _ _ _ _ _ _ _ _ _ _ _ _ _ _ _ _ _ _ _ _ _ _ _ _ v6 I6 w6 hs6 hp6 h6
   have H6:=Zh h6
   have HP6:=Zh hp6
   have HS6:=Zh hs6
   clear h6 hp6 hs6
   go_upto_region 12 with fail
   refine Zq114 (n:=n) (keep:=keep) (by assumption) (by kernel_rfl) (hst:=H6.out) (hp1:=HP6.out) (hback:=HBK.out) (hds:=HDS.out) (hdn:=hdn) (hdf:=HDF.out) (hsm:=HSM.out) (hkn:=HKN.out) (hnl:=by have:=HMN.out;omega) (hnv:=by have:=HMN.out;omega) ?_
   rintro _ _ _ _ _ _ _ _ _ _ _ _ _ _ _ _ _ _ _ _ _ _ _ _ _ _ _ _ _ _ _ _ _ _ _ _ _ _ _ _ _ _ _ _ _ _ _ _ _ _ _ _ _ _ _ _ _ _ _ _ _ _ _ _ _ _ _ _ _ _ _ _ _ _ _ _ _ _ _ _ _ _ _ _ _ _ _ _ _ _ _ _ _ _ _ _ _ v7 I7 w7 hs7 h7 he7
   have H7:=Zh h7
   have HS7:=Zh hs7
   have HE7:=Zh (show (leftS S (⟨k0,k1,k2,k3⟩:K4) keep torn).2=(ds.length:Int) by rw [he7];have:=HMN.out;omega)
   clear h7 hs7 he7
   go_wp2_with fail
   go_ret2
   rw [HE7.out]
   exact ⟨v7,I7,HI5.out.trans (HS6.out.trans HS7.out),rfl,H7.out⟩
  ·have hn0:(ds.length:Int)≤0:=by omega
   have hnk:(ds.length:Int)<keep:=by omega
   have HMN:=Zh (show 0=n by rw [hn];unfold keptN;omega)
   clear hk1 hn
   refine Zq11 [] [0,1,2,3,4,5,6] [] (by kernel_rfl) (by kernel_rfl) ?_
   simp only [pickL,Zl6,Zl7]
   repeat (refine Zq13 _ (Or.inl ⟨by rfl,by intro w;go_simp;try with_reducible rfl⟩) ?_;(try simp only [Act.put,List.setIfInBounds_toArray,Zl4,Zl5]))
   refine Zq15 ?_
   repeat still_step
   refine wpStill_nil ?_
   go_wp2_with fail
   refine NoPanic.normal ?_
   clear hlk6 c7 x0 x1 x2 x3
   go_upto_region 7 with fail
   refine Zq113 (n:=n) (by assumption) (by kernel_rfl) (h:=H7.out.perm (by ((try simp only [Zl0,Zl1,Zl2,Zl3]);repeat (first|with_reducible exact List.Perm.refl _|(apply Zq4;(· repeat (first|with_reducible exact Zq3|with_reducible apply Zq2))))))) (hps:=HPS.out) (hdn:=hdn) (hdf:=HDF.out) (hsm:=HSM.out) (hnl:=by have:=HMN.out;omega) (hnv:=by have:=HMN.out;omega) ?_
   rintro _ _ _ _ _ _ _ _ _ _ _ _ _ _ _ _ _ _ _ _ _ _ _ _ _ _ _ _ _ _ _ _ _ _ _ _ _ _ _ _ _ _ _ _ _ _ _ _ _ _ _ _ _ _ _ _ _ _ _ _ _ _ _ _ _ _ _ _ _ _ _ _ _ _ _ _ _ _ _ _ _ _ _ _ _ _ _ _ _ _ _ _ _ v6 I6 w6 hs6 hp6 h6
   have H6:=Zh h6
   have HP6:=Zh hp6
   have HS6:=Zh hs6
   clear h6 hp6 hs6
   go_upto_region 12 with fail
   refine Zq114 (n:=n) (keep:=keep) (by assumption) (by kernel_rfl) (hst:=H6.out) (hp1:=HP6.out) (hback:=HBK.out) (hds:=HDS.out) (hdn:=hdn) (hdf:=HDF.out) (hsm:=HSM.out) (hkn:=HKN.out) (hnl:=by have:=HMN.out;omega) (hnv:=by have:=HMN.out;omega) ?_
   rintro _ _ _ _ _ _ _ _ _ _ _ _ _ _ _ _ _ _ _ _ _ _ _ _ _ _ _ _ _ _ _ _ _ _ _ _ _ _ _ _ _ _ _ _ _ _ _ _ _ _ _ _ _ _ _ _ _ _ _ _ _ _ _ _ _ _ _ _ _ _ _ _ _ _ _ _ _ _ _ _ _ _ _ _ _ _ _ _ _ _ _ _ _ _ _ _ _ v7 I7 w7 hs7 h7 he7
   have H7:=Zh h7
   have HS7:=Zh hs7
   have HE7:=Zh (show (leftS S (⟨k0,k1,k2,k3⟩:K4) keep torn).2=(ds.length:Int) by rw [he7];have:=HMN.out;omega)
   clear h7 hs7 he7
   go_wp2_with fail
   go_ret2
   rw [HE7.out]
   exact ⟨v7,I7,HI5.out.trans (HS6.out.trans HS7.out),rfl,H7.out⟩
end
end Go.Proofs.YtpjchngjhijgmaaGreat
