import Derived.Test.YtpjchngjhijgmaaGreatJM38
set_option linter.all false
namespace Go.Proofs.YtpjchngjhijgmaaGreat
open Go.RowKit
def Zq432 (S:Str) (J:Jn) (pos most:Int):Int :=
 if mayJ S J≠0 then mayJ S J else if pos<0∨endJ J<pos∨most<0 then 3 else if pos<J.r.first - 1 then 11 else 0
def readL (J:Jn) (pos most:Int):List En:=(J.l.drop (pos - J.r.first+1).toNat).take most.toNat
def readJ (S:Str) (J:Jn) (pos most:Int):List En × Int:=(if Zq432 S J pos most=0 then readL J pos most else [],Zq432 S J pos most)
section
variable {W w w' : World} {I : Hp} {l : List HP} {p q : Nat} {J : Jn} {S : Str}
set_option maxRecDepth 8000
set_option maxHeartbeats 8000000
theorem Zq667 (pos most:Int) (h:St W I w (Zq10 p S::jnHP q p J::l)) (hB:JB J) (hpm:pos≤4611686018427387904) (hE:∀ e ∈ J.l,e.okB=true) :
  Calls Tryz.prog 28 #[.pointer (some ⟨q,0,none⟩),.int .i64 pos,.int .i64 most] w fun e w'=>∃ I' v,I.sub I'∧e=.returned (.tuple #[v,.int .i64 (readJ S J pos most).2])∧St W I' w' (Zq23 v (readJ S J pos most).1::Zq10 p S::jnHP q p (mayJ2 S J)::l):=by
 have HM:=Zh (Zq500 h)
 have HSM:=Zh (@Zq348 S J)
 obtain ⟨⟨es,why⟩,hR⟩:∃ x,x=readJ S J pos most:=⟨_,rfl⟩
 rw [←hR]
 unfold readJ Zq432 at hR
 obtain ⟨e0,he0⟩:∃ x,x=mayJ S J:=⟨_,rfl⟩
 rw [←he0] at HM HSM hR
 simp only [Prod.mk.injEq] at hR
 obtain ⟨hes,hwhy⟩:=hR
 rw [←hwhy] at hes
 have HES:=Zh hes
 have HWHY:=Zh hwhy
 have HB:=Zh hB
 have HEE:=Zh hE
 clear h hB he0 hes hwhy hE
 by_cases h0:e0=0
 ·subst h0
  have HW2:=Zh (HWHY.out.trans (if_neg (by simp)))
  have hsame:=HSM.out rfl
  rw [hsame] at HM ⊢
  have HE:=Zh (fun w1 L (h:St W I w1 (jnHP q p J::L))=>Zq148 h HB.out)
  obtain ⟨en,hen⟩:∃ x,x=endJ J:=⟨_,rfl⟩
  rw [←hen] at HE HW2
  have HEN:=Zh hen
  obtain ⟨fi,hfi⟩:∃ x,x=J.r.first:=⟨_,rfl⟩
  rw [←hfi] at HW2
  have HFI:=Zh hfi
  have hfr:=HB.out.first
  rw [←hfi] at hfr
  have w1:IntKind.i64.wrap (fi - 1)=fi - 1:=by rw [IntKind.wrap_i64];omega
  clear HSM hsame hen hfi
  go_enter Tryz.func28,Tryz.ntmps28
  go_wp2_with fail
  refine HM.out.mono ?_
  rintro e w2 ⟨rfl,h2⟩
  have H2:=Zh h2
  clear h2 HM
  by_cases hp0:pos<0
  ·have e1:=HW2.out.trans (if_pos (.inl hp0))
   subst e1
   have e2:=HES.out.trans (if_neg (by decide))
   subst e2
   go_wp2_with fail
   go_ret2
   exact ⟨I,_,Hp.sub.refl _,rfl,H2.out.ents_nil⟩
  ·go_wp2_with fail
   refine (HE.out _ _ (H2.out.pull 1 _ rfl)).mono ?_
   rintro e w3 ⟨rfl,hb3⟩
   have H3:=Zh (H2.out.keep hb3)
   clear hb3 H2
   by_cases hpe:en<pos
   ·have e1:=HW2.out.trans (if_pos (.inr (.inl hpe)))
    subst e1
    have e2:=HES.out.trans (if_neg (by decide))
    subst e2
    go_wp2_with fail
    go_ret2
    exact ⟨I,_,Hp.sub.refl _,rfl,H3.out.ents_nil⟩
   ·by_cases hm0:most<0
    ·have e1:=HW2.out.trans (if_pos (.inr (.inr hm0)))
     subst e1
     have e2:=HES.out.trans (if_neg (by decide))
     subst e2
     go_wp2_with fail
     go_ret2
     exact ⟨I,_,Hp.sub.refl _,rfl,H3.out.ents_nil⟩
    ·have HW3:=Zh (HW2.out.trans (if_neg (by omega)))
     obtain ⟨⟨vt,vc,vl,va⟩,hrI,h4⟩:=(H3.out.pull 1 _ rfl).jn_open
     obtain ⟨Al,cl,e1,hncl,_,hnil⟩:=(h4.pull 1 _ rfl).ents_slice
     simp only at e1 hrI h4
     subst e1
     have k4:=jn_c4 h4
     rw [←HFI.out] at k4
     have k8:=jn_c8 h4
     simp only at k8
     have lq:=h4.lt
     have HRI:=Zh hrI
     have H4:=Zh h4
     clear hrI h4 H3
     by_cases hpf:pos<fi - 1
     ·have e1:=HW3.out.trans (if_pos hpf)
      subst e1
      have e2:=HES.out.trans (if_neg (by decide))
      subst e2
      have h5:=St.jn_shut (J:=J) (V:=⟨vt,vc,.slice Al J.l.length cl,va⟩) HRI.out H4.out
      have H5:=Zh (h5.pull 1 _ rfl)
      clear h5 H4
      go_wp2_with fail
      go_ret2
      exact ⟨I,_,Hp.sub.refl _,rfl,H5.out.ents_nil⟩
     ·have e1:=HW3.out.trans (if_neg hpf)
      subst e1
      have e2:=HES.out.trans (if_pos rfl)
      have HES2:=Zh e2
      obtain ⟨n,hnn⟩:∃ x,x=J.l.length:=⟨_,rfl⟩
      have HNN:=Zh hnn
      obtain ⟨k,hk⟩:∃ k:Nat,(k:Int)=pos - fi+1:=⟨(pos - fi+1).toNat,by omega⟩
      have hkn:k≤n:=by
       have:=HEN.out
       unfold endJ at this
       rw [←HFI.out,←hnn] at this
       omega
      rw [←hnn] at k8 H4 hncl
      have w2:IntKind.i64.wrap (pos - fi)=pos - fi:=by rw [IntKind.wrap_i64];omega
      have w3:IntKind.i64.wrap (pos - fi+1)=(k:Int):=by rw [IntKind.wrap_i64];omega
      clear e2 hnn
      go_upto_region 9 with fail
      go_quiet (fail)
      have hkt:(pos - fi+1).toNat=k:=by omega
      rw [hkt]
      obtain ⟨A9,hA9⟩:∃ x,x=(if cl=k then Al else Option.map (fun x=>x.add (k*3)) Al):=⟨_,rfl⟩
      rw [←hA9]
      have HA9:=Zh (show ∀ g qq,Al=some ⟨g,qq,none⟩→cl≠k→A9=some ⟨g,qq+k*3,none⟩ from fun g qq e hc=>by
       rw [hA9,if_neg hc,e,Option.map_some,add_plain])
      obtain ⟨n2,hn2⟩:∃ x,x=n - k:=⟨_,rfl⟩
      obtain ⟨c2,hc2⟩:∃ x,x=cl - k:=⟨_,rfl⟩
      rw [←hn2,←hc2]
      have hnc2:n2≤c2:=by omega
      obtain ⟨t,ht⟩:∃ t:Nat,(t:Int)=min most (n2:Int):=⟨(min most (n2:Int)).toNat,by omega⟩
      have htn:t≤n2:=by omega
      have hmin:=ht.symm
      have HLST:=Zh (show es=((J.l.drop k).take t) by
       rw [HES2.out]
       unfold readL
       rw [←HFI.out,hkt]
       have hdl:(J.l.drop k).length=n2:=by rw [List.length_drop,←HNN.out];omega
       by_cases hle:most≤(n2:Int)
       ·rw [show most.toNat=t by omega]
       ·rw [List.take_of_length_le (by omega),List.take_of_length_le (by omega)])
      have H5:=Zh ((H4.out.drewN nq).ents_nil)
      have HLE:=Zh (show k+t≤n∧n≤cl by omega)
      clear hA9 hkt ht w2 w3 hk hncl hnil H4 k4 k8 lq HES2 HES HWHY HW2 HW3 HE HEN hn2 hc2
      go_wp2_with fail
      go_loopw [9,60] (fun a9 a60 wr=>∃ (i:Nat) (I':Hp) (A8:Option Addr) (c8:Nat),a60=.int .i64 i∧a9=.slice A8 i c8∧i≤t∧I.sub I'∧St W I' wr (Zq23 (.slice A8 i c8) ((J.l.drop k).take i)::jnBlk q p J ⟨vt,vc,.slice Al n cl,va⟩::Zq23 (.slice Al n cl) J.l::Zq20 va J.at_::Zq10 p S::l)) (fun _ a60 _=>t - (intOf a60).toNat)
      case atStart=>exact ⟨0,I,none,0,rfl,rfl,Nat.zero_le _,Hp.sub.refl _,H5.out⟩
      case round =>
       obtain ⟨i,I',A8,c8,rfl,rfl,hi,hsub,hst⟩:=hrel
       have hle:=HLE.out
       have hn5:=HB.out.len
       rw [←HNN.out] at hn5
       clear H5
       by_cases hlt:i<t
       ·have hlt2:(i:Int)<(t:Int):=by omega
        have hkl:k+i<J.l.length:=by rw [←HNN.out];omega
        obtain ⟨e,he⟩:∃ e,J.l[k+i]?=some e:=⟨_,List.getElem?_eq_getElem hkl⟩
        obtain ⟨g,qq,c3,vd,e2,hg,hbd,hbb,y0,y1,y2⟩:=(hst.pull 2 _ rfl).ents_cell he
        rw [←HNN.out] at e2
        simp only [Value.slice.injEq] at e2
        obtain ⟨rfl,hnn,rfl⟩:=e2
        clear hnn
        obtain rfl:=HA9.out g qq rfl (by omega)
        have ha1:qq+(k+i)*3=qq+k*3+i*3:=by omega
        rw [ha1] at y0 y1 y2
        obtain ⟨Ad,cd,rfl⟩:=hbd.isSl
        have htk:(J.l.drop k).take (i+1)=(J.l.drop k).take i++[e]:=by
         rw [List.take_add_one,List.getElem?_drop,he];rfl
        have hil:((J.l.drop k).take i).length=i:=by rw [List.length_take,List.length_drop];omega
        have h5:=hst.alloc (.cells #[.int .i64 e.tag,.int .i64 e.seq,.slice Ad e.data.length cd] 50)
        have hcl:=fun w1 (L:List HP) (h1:St W I' w1 L)=>Zq24 (.slice Ad e.data.length cd) e.data.length (e.data.map byteV) w1 (Zq29 h1 hbd)
        have HTK:=Zh htk
        have HIL:=Zh hil
        have HBB:=Zh hbb
        have HSUB:=Zh hsub
        have HCL:=Zh hcl
        have hok:=HEE.out e (List.mem_of_getElem? he)
        obtain ⟨tg,sq,d⟩:=e
        simp only at y0 y1 y2 h5 HBB HCL
        obtain ⟨dl,hdl⟩:∃ x,x=d.length:=⟨_,rfl⟩
        have hdl9:dl≤1000000:=by have:=(En.okB_iff.1 hok).2.2;simp only at this;omega
        have HDL:=Zh hdl
        rw [←hdl] at y2 h5 HCL
        obtain ⟨g12,hg12⟩:∃ x,x=wr.heap.size:=⟨_,rfl⟩
        rw [←hg12] at h5
        have H5:=Zh h5
        clear hst h5 htk hil hbb hsub hcl he hbd hdl ha1 hkl hok
        go_upto_region 13 with fail
        rw [←hg12]
        have h5:=H5.out
        generalize (World.alloc _ _:World)=w5 at h5 ⊢
        clear y0 y1 y2 hg H5 hg12
        obtain ⟨z0,z1,z2⟩:=Zq40 h5
        have lg:=h5.lt
        have fg:=frozen_of_row h5.heap
        have HC2:=Zh (HCL.out w5 _ h5 hdl9)
        have H5:=Zh h5
        clear h5 HCL
        go_wp2_with fail
        refine HC2.out.mono ?_
        rintro e w6 ⟨v6,rfl,ho6,hb6⟩
        obtain ⟨A6,c6,rfl⟩:=Zq17 ho6
        rw [HDL.out] at ho6
        obtain ⟨I6,s6,hB6,h6⟩:=Zq31 H5.out hb6 ho6
        rw [←HDL.out] at hB6
        clear z0 z1 z2 lg fg ho6 hb6 H5 HC2
        obtain ⟨z0,z1,z2⟩:=Zq40 h6
        have lg:=h6.lt
        have fg:=frozen_of_row h6.heap
        have h7:=(h6.set3 (.int .i64 tg) (.int .i64 sq) (.slice A6 dl c6))
        have h7:St W I6 (w6.setCell ⟨g12,2,none⟩ (.slice A6 dl c6)) (HP.pt g12 (.cells #[.int .i64 tg,.int .i64 sq,.slice A6 dl c6] 50)::Zq23 (.slice A8 i c8) ((J.l.drop k).take i)::jnBlk q p J ⟨vt,vc,.slice (some ⟨g,qq,none⟩) n cl,va⟩::Zq23 (.slice (some ⟨g,qq,none⟩) n cl) J.l::Zq20 va J.at_::Zq10 p S::l):=by
         have:=h6.setCell 2 (.slice A6 dl c6)
         simp only [List.setIfInBounds_toArray,Zl4,Zl5] at this
         exact this
        obtain ⟨A9,c9,w9,hr9,h9⟩:=St.ents_append (e:=⟨tg,sq,d⟩) (g:=(w6.setCell ⟨g12,2,none⟩ (.slice A6 dl c6)).heap.size) rfl (h7.pull 1 _ rfl) (vd:=.slice A6 dl c6) hB6 HBB.out (by rw [HIL.out];have:=HB.out.len;rw [←HNN.out] at this;omega)
        rw [HIL.out] at hr9 h9
        rw [←HTK.out] at h9
        rw [World.size_setCell] at hr9
        have H9:=Zh ((h9.pull 1 _ rfl).drop)
        have HR9:=Zh hr9
        have S6:=Zh (HSUB.out.trans s6)
        clear h6 h9 hr9 s6 hB6 HTK HIL HBB
        go_wp2_with (at_builtin;refine Lib.wpList_append_run _ rfl (.tmp 68) (.tmp 70) 58 58 rfl _ _ rfl rfl _ _ HR9.out ?_)
        go_roundw
        case rel=>exact ⟨i+1,I6,A9,c9,by go_num,rfl,by omega,S6.out,H9.out⟩
        case measure=>first|(simp [intOf];done)|(simp [intOf];omega)|fail
       ·obtain rfl:i=t:=by omega
        have hlt2:¬ (i:Int)<(i:Int):=by omega
        rw [←HLST.out] at hst
        have h5:=St.jn_shut (J:=J) (V:=⟨vt,vc,.slice Al n cl,va⟩) (HRI.out.mono hsub) (hst.perm (by ((try simp only [Zl0,Zl1,Zl2,Zl3]);repeat (first|with_reducible exact List.Perm.refl _|(apply Zq4;(· repeat (first|with_reducible exact Zq3|with_reducible apply Zq2)))))):St W I' wr (jnBlk q p J ⟨vt,vc,.slice Al n cl,va⟩::Zq23 (.slice Al n cl) J.l::Zq20 va J.at_::Zq23 (.slice A8 i c8) es::Zq10 p S::l))
        have H5:=Zh h5
        have HSUB:=Zh hsub
        clear hst h5 hsub
        go_wp2_with fail
        go_ret2
        have h6:St W I' wr (Zq23 (.slice A8 i c8) es::Zq10 p S::jnHP q p J::l):=H5.out.perm (by ((try simp only [Zl0,Zl1,Zl2,Zl3]);repeat (first|with_reducible exact List.Perm.refl _|(apply Zq4;(· repeat (first|with_reducible exact Zq3|with_reducible apply Zq2))))))
        first|exact ⟨I',_,HSUB.out,rfl,h6⟩|exact ⟨I',HSUB.out,_,rfl,h6⟩|fail
 ·have e1:=HWHY.out.trans (if_pos h0)
  subst e1
  have hes:=HES.out.trans (if_neg h0)
  subst hes
  have hne:(why != 0)=true:=by simpa using h0
  go_enter Tryz.func28,Tryz.ntmps28
  go_wp2_with fail
  refine HM.out.mono ?_
  rintro e w2 ⟨rfl,h2⟩
  have H2:=Zh h2
  clear h2
  go_wp2_with fail
  go_ret2
  exact ⟨I,_,Hp.sub.refl _,rfl,H2.out.ents_nil⟩
end
end Go.Proofs.YtpjchngjhijgmaaGreat
namespace Go.Proofs.YtpjchngjhijgmaaGreat
open Go.RowKit
section
variable {W w w' : World} {I : Hp} {l : List HP} {p q : Nat} {J : Jn} {S : Str}
set_option maxRecDepth 8000
set_option maxHeartbeats 8000000
end
end Go.Proofs.YtpjchngjhijgmaaGreat
namespace Go.Proofs.YtpjchngjhijgmaaGreat
open Go.RowKit
def Zq902 (J:Jn) (ts:List Tag):Bool:=J.l.all fun e=>decide (tagOf ts e.seq=e.tag)
def tagsR (r:Rc) (ts:List Tag):Rc:=⟨r.shape,r.first,r.set,ts,r.cls⟩
def leadJ (S:Str) (J:Jn) (ts:List Tag):Int × Str × Jn :=
 if mayJ S J≠0 then (mayJ S J,S,mayJ2 S J) else if Zq43 ts=false then (1,S,J) else if Zq902 J ts=false then (1,S,J) else keepJ S J (tagsR J.r ts)
section
variable {W w w' : World} {I : Hp} {l : List HP} {p q : Nat} {J : Jn} {S : Str}
set_option maxRecDepth 8000
set_option maxHeartbeats 8000000
end
end Go.Proofs.YtpjchngjhijgmaaGreat
namespace Go.Proofs.YtpjchngjhijgmaaGreat
open Go.RowKit
def Zq903 (cs:List Cl):List Value:=cs.flatMap Cl.vals
def Zq909 (v:Value) (cs:List Cl):HP:=HP.row 212 3 v cs.length (Zq903 cs)
section
variable {W w : World} {I : Hp} {l : List HP}
def Zq915:List Value:=[.int .i64 0,.int .i64 0,.bool false]
end
end Go.Proofs.YtpjchngjhijgmaaGreat
namespace Go.Proofs.YtpjchngjhijgmaaGreat
open Go.RowKit
def cinsK (i:Nat) (k:Cl) (ks:List Cl):List Cl:=ks.take i++k::ks.drop i
section
variable {P : Program} {W w : World} {I : Hp} {l : List HP}
end
end Go.Proofs.YtpjchngjhijgmaaGreat
namespace Go.Proofs.YtpjchngjhijgmaaGreat
open Go.RowKit
section
variable {W w : World} {I : Hp} {l : List HP}
end
end Go.Proofs.YtpjchngjhijgmaaGreat
namespace Go.Proofs.YtpjchngjhijgmaaGreat
open Go.RowKit
section
variable {W w w' : World} {I : Hp} {l : List HP}
set_option maxRecDepth 4000
set_option maxHeartbeats 4000000
end
end Go.Proofs.YtpjchngjhijgmaaGreat
namespace Go.Proofs.YtpjchngjhijgmaaGreat
open Go.RowKit
section
variable {W w w' : World} {I : Hp} {l : List HP} {p q : Nat} {J : Jn} {S : Str}
set_option maxRecDepth 4000
set_option maxHeartbeats 4000000
def addJ2 (S:Str) (J:Jn) (id pos:Int):Int × Str × Jn:=if uptoJ S J id pos≠0 then (uptoJ S J id pos,S,mayJ2 S J) else withJ S J (addC J.r.cls id pos).1 (addC J.r.cls id pos).2
def Zq910 (S:Str) (J:Jn) (id pos:Int):Int × Str × Jn:=if uptoJ S J id pos≠0 then (uptoJ S J id pos,S,mayJ2 S J) else withJ S J (Zq788 J.r.cls id pos).1 (Zq788 J.r.cls id pos).2
def dropJ (S:Str) (J:Jn) (id:Int):Int × Str × Jn:=if mayJ S J≠0 then (mayJ S J,S,mayJ2 S J) else withJ S J (dropC J.r.cls id).1 (dropC J.r.cls id).2
def turnJ (S:Str) (J:Jn) (id:Int) (off:Bool):Int × Str × Jn:=if mayJ S J≠0 then (mayJ S J,S,mayJ2 S J) else withJ S J (turnC J.r.cls id off).1 (turnC J.r.cls id off).2
end
end Go.Proofs.YtpjchngjhijgmaaGreat
namespace Go.Proofs.YtpjchngjhijgmaaGreat
open Go.RowKit
def posD (J:Jn):Int:=if (slowC J.r.cls).2=true then min J.safe (slowC J.r.cls).1 else J.safe
def Zq836 (pos:Int):List En→List Pl→Nat→Int→Nat × Int→Nat × Int
 | e::es,p::ps,i,q,r=>if p.set=r.2 then Zq836 pos es ps (i+1) e.seq r else if pos<q then r else Zq836 pos es ps (i+1) e.seq (i,p.set)
 | _,_,_,_,r=>r
def doneJ (J:Jn):Nat × Int:=Zq836 (posD J) J.l J.at_ 0 0 (0,J.r.set)
section
variable {W w w' : World} {I : Hp} {l : List HP} {p q : Nat} {J : Jn} {S : Str}
set_option maxRecDepth 4000
set_option maxHeartbeats 8000000
end
end Go.Proofs.YtpjchngjhijgmaaGreat
namespace Go.Proofs.YtpjchngjhijgmaaGreat
open Go.RowKit
def goneR (r:Rc) (n set:Int):Rc:=⟨r.shape,r.first+n,set,r.tags,r.cls⟩
def goneJ (J:Jn) (n:Nat):Jn:=lJ J (J.l.drop n) (J.at_.drop n) J.fill
def Zq911 (S:Str) (J:Jn):(Int × Int) × Str × Jn :=
 if mayJ S J≠0 then ((0,mayJ S J),S,mayJ2 S J)
 else if (doneJ J).1=0 then ((0,(Zq14 S).1),(Zq14 S).2,endsJ J (Zq14 S).1)
 else if (keepJ S J (goneR J.r (doneJ J).1 (doneJ J).2)).1≠0 then ((0,(keepJ S J (goneR J.r (doneJ J).1 (doneJ J).2)).1),(keepJ S J (goneR J.r (doneJ J).1 (doneJ J).2)).2.1,(keepJ S J (goneR J.r (doneJ J).1 (doneJ J).2)).2.2)
 else if (trimJ (keepJ S J (goneR J.r (doneJ J).1 (doneJ J).2)).2.1 (goneJ (recJ J (goneR J.r (doneJ J).1 (doneJ J).2)) (doneJ J).1)).1≠0 then
  ((0,(trimJ (keepJ S J (goneR J.r (doneJ J).1 (doneJ J).2)).2.1 (goneJ (recJ J (goneR J.r (doneJ J).1 (doneJ J).2)) (doneJ J).1)).1),
    (trimJ (keepJ S J (goneR J.r (doneJ J).1 (doneJ J).2)).2.1 (goneJ (recJ J (goneR J.r (doneJ J).1 (doneJ J).2)) (doneJ J).1)).2,
    endsJ (goneJ (recJ J (goneR J.r (doneJ J).1 (doneJ J).2)) (doneJ J).1) (trimJ (keepJ S J (goneR J.r (doneJ J).1 (doneJ J).2)).2.1 (goneJ (recJ J (goneR J.r (doneJ J).1 (doneJ J).2)) (doneJ J).1)).1)
 else (((doneJ J).1,0),(trimJ (keepJ S J (goneR J.r (doneJ J).1 (doneJ J).2)).2.1 (goneJ (recJ J (goneR J.r (doneJ J).1 (doneJ J).2)) (doneJ J).1)).2,goneJ (recJ J (goneR J.r (doneJ J).1 (doneJ J).2)) (doneJ J).1)
section
variable {W w w' : World} {I : Hp} {l : List HP} {p q : Nat} {J : Jn} {S : Str}
set_option maxRecDepth 8000
set_option maxHeartbeats 8000000
end
end Go.Proofs.YtpjchngjhijgmaaGreat
namespace Go.Proofs.YtpjchngjhijgmaaGreat
open Go.RowKit
def sumS (L:List (K4 × TS)):Int:=(L.map fun x=>x.2.size).sum
theorem Zq746 (t:TS):0≤t.size:=by
 unfold TS.size Zq101
 have:∀ l:List (ByteArray × List Int),0≤(l.map fun x=>(x.1.size:Int)+x.2.length).sum:=fun l=>by
  induction l with
  | nil=>simp
  | cons a l ih=>simp only [List.map_cons,List.sum_cons];omega
 have:=this t.attr
 omega
theorem Zq312:∀ L:List (K4 × TS),0≤sumS L
 | []=>by simp [sumS]
 | x::L=>by
  have:=Zq312 L
  have h:=Zq746 x.2
  have e:sumS (x::L)=x.2.size+sumS L:=by simp [sumS]
  omega
theorem Zq822 {l k:List Int} (h:l.Perm k):l.sum=k.sum:=by
 induction h with
 | nil=>rfl
 | cons a _ ih=>simp [ih]
 | swap a b l=>simp only [List.sum_cons];omega
 | trans _ _ i j=>exact i.trans j
theorem Zq668 {L:List (K4 × TS)} (hn:(L.map (·.1)).Nodup) (k:K4):sumS L=sizeO (get k L)+sumS (del k L):=by
 cases hg:get k L with
 | none=>rw [Zq53 hg];simp [sizeO]
 | some t =>
  have h:=Zq822 ((Zq72 hn hg).map fun x=>x.2.size)
  unfold sumS
  rw [h]
  simp [sizeO]
end Go.Proofs.YtpjchngjhijgmaaGreat
