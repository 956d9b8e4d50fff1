import Derived.Test.YtpjchngjhijgmaaGreatJM01
set_option linter.all false
namespace Go.Proofs.YtpjchngjhijgmaaGreat
open Go.RowKit
set_option maxRecDepth 100000 in
set_option maxHeartbeats 2000000 in
theorem Zq330 (A:Option Addr) (n c:Nat) (l:List Tag) (w:World) (hl:TagsAt w A n l) (hn:n≤1000000) :
  Calls Tryz.prog 96 #[.slice A n c] w fun e w'=>e=.returned (.bool (Zq43 l))∧Below w.heap.size w w':=by
 by_cases h32:1≤n∧n≤32
 ·obtain ⟨h1,h2⟩:=h32
  obtain ⟨b,off,x0,rfl,hB,hx0,_,_,_,a3⟩:=hl.at_ (k:=0) (by omega)
  simp only [Nat.zero_mul,Nat.add_zero] at a3
  have d1:decide ((n:Int)<1)=false:=by simp;omega
  have d2:decide ((32:Int)<n)=false:=by simp;omega
  by_cases hat:x0.at_=0
  ·have d3:(x0.at_ != 0)=false:=by simpa using hat
   have HAT:=Zh hat
   have HX0:=Zh hx0
   clear hat hx0
   go_enter Tryz.func96,Tryz.ntmps96
   go_wp2
   go_loopw [3] (fun v3 wr=>∃ k:Nat,k≤n∧v3=.int .i64 k∧Zq98 l k=true∧Below w.heap.size w wr) (fun v3 _=>n - (intOf v3).toNat)
   case atStart=>exact ⟨0,Nat.zero_le _,rfl,rfl,Below.refl _ _⟩
   case round =>
    obtain ⟨k,hk,rfl,hd,hb⟩:=hrel
    clear d1 d2 d3
    obtain ⟨wo,rfl⟩:∃ wo:World,wo=wr:=⟨_,rfl⟩
    by_cases hlt:k<n
    ·obtain ⟨b',off',x,hbo,_,hx,c0,c1,c2,c3⟩:=hl.at_ hlt
     injection hbo with hbo
     injection hbo with e1 e2
     subst e1 e2
     have hcell:∀ o,wo.cell? ⟨b,o,none⟩=w.cell? ⟨b,o,none⟩:=fun o=>hb.cell (p:=⟨b,o,none⟩) hB
     rw [←hcell] at c0 c1 c2 c3
     have HX:=Zh hx
     clear hx hcell a3
     have hBr:b<wo.heap.size:=by have:=hb.size;omega
     obtain ⟨prev,hprev⟩:∃ prev,Zq124 (l.take k)=prev:=⟨_,rfl⟩
     have HP:=Zh hprev
     have hx00:k=0→x.at_=0:=fun h=>by
      subst h
      have:=HX.out.symm.trans HX0.out
      injection this with this
      rw [this];exact HAT.out
     have hpl:(l.take k).length=k:=by rw [List.length_take,hl.1];omega
     have hbad:Zq175 x k prev→Zq43 l=false:=fun h=>Zq196 hl.1 hlt HX.out hd (Zq691 (by rw [hpl,HP.out];exact h) (by rw [hpl];exact hx00))
     have hgood:¬ Zq175 x k prev→tagOk x (l.take k)=noDup x (l.take k):=fun h=>Zq578 (by rw [hpl,HP.out];exact h) (by rw [hpl];exact hx00)
     have hways:=Zq792 x k prev
     have HB:=Zh hbad
     have HGD:=Zh hgood
     have HW:=Zh hways
     have HL:=Zh hl
     clear hbad hgood hways hprev hpl hx00 hl
     go_wp2_with fail
     rcases HW.out with ⟨hr,q1⟩|⟨hr,q1,q2⟩|⟨q1,q2,⟨hr,q3⟩|⟨hr,q3,q4⟩|⟨q3,q4,⟨hr,q5⟩|⟨hr,q5,q6⟩|⟨q5,q6,⟨hr,q7⟩|⟨hr,q7,q8⟩|⟨q7,q8,hr⟩⟩⟩⟩
     case inr.inr.inr.inr.inr.inr.inr.inr =>
      rcases Nat.eq_zero_or_pos k with hk0|hk0
      ·have HN:=Zh (HGD.out (fun h=>by have:=hr.1 h;omega))
       have q9:decide ((0:Int)<k)=false:=by simp;omega
       clear hr
       go_quiet (fail)
       go_wp2
       have HBW:Below w.heap.size w ((wo.alloc (.cells #[.int .i64 x.id,.int .i64 x.own,.int .i64 x.heir,.int .i64 x.at_] 80)).drewN nq):=below_drewN (hb.alloc hb.size _) _
       have hbx:((wo.alloc (.cells #[.int .i64 x.id,.int .i64 x.own,.int .i64 x.heir,.int .i64 x.at_] 80)).drewN nq).cell? ⟨wo.heap.size,0,none⟩=some (.int .i64 x.id):=World.cell?_alloc_new wo _ _ 0
       generalize (wo.alloc (.cells #[.int .i64 x.id,.int .i64 x.own,.int .i64 x.heir,.int .i64 x.at_] 80)).drewN nq=W at *
       clear c0 c1 c2 c3 q1 q2 q3 q4 q5 q6 q7 q8
       go_loopw [5] (fun v5 wi=>∃ j:Nat,j≤k∧v5=.int .i64 j∧noDup x (l.take j)=true∧Below w.heap.size w wi∧wi.cell? ⟨wo.heap.size,0,none⟩=some (.int .i64 x.id)) (fun v5 _=>k - (intOf v5).toNat)
       case atStart=>exact ⟨0,Nat.zero_le _,rfl,rfl,HBW,hbx⟩
       case round =>
        obtain ⟨j,hj,rfl,hnd,hbi,hbx'⟩:=hrel
        have HND:=Zh hnd
        clear hnd hbx
        by_cases hjk:j<k
        ·exact absurd hjk (by omega)
        ·obtain rfl:j=k:=by omega
         have HT:=Zh ((Zq85 HX.out hd).trans (HN.out.trans HND.out))
         go_wp2
         go_roundw
         case rel=>exact ⟨j+1,by omega,by go_num,HT.out,hbi⟩
         case measure=>simp [intOf];omega
      ·obtain ⟨b',off',p,hbo,_,hp,_,_,_,p3⟩:=HL.out.at_ (k:=k - 1) (by omega)
       injection hbo with hbo
       injection hbo with e1 e2
       subst e1 e2
       have hpp:prev=p.at_:=by rw [←HP.out,show k=k - 1+1 by omega,Zq290 hp]
       have q9:decide ((0:Int)<k)=true:=by simp;omega
       have p3':wo.cell? ⟨b,off+((k:Int) - 1).toNat*4+3,none⟩=some (.int .i64 p.at_):=by
        rw [hb.cell (p:=⟨b,_,none⟩) hB,show ((k:Int) - 1).toNat=k - 1 by omega];exact p3
       have p3'':wo.cell? ⟨b,off+(k - 1)*4+3,none⟩=some (.int .i64 p.at_):=by
        rw [hb.cell (p:=⟨b,_,none⟩) hB];exact p3
       have i0:(0:Int)≤(k:Int) - 1:=by omega
       have i1:(k:Int) - 1<n:=by omega
       have i2:(1:Int)≤k:=by omega
       have i3:IntKind.i64.wrap ((k:Int) - 1)=(k:Int) - 1:=IntWalk.i64_in _ (by omega)
       have HPP:=Zh hpp
       clear p3 hpp hp
       by_cases hpa:x.at_<p.at_
       ·have q10:decide (x.at_<p.at_)=true:=by simpa using hpa
        have HR:=Zh (HB.out (hr.2 ⟨hk0,by rw [HPP.out];exact hpa⟩))
        clear hr hpa
        go_quiet (fail)
        go_wp2
        go_ret
        exact ⟨ret_bool HR.out.symm,(below_drewN (hb.alloc hb.size _) _)⟩
       ·have q10:decide (x.at_<p.at_)=false:=by simpa using hpa
        have HN:=Zh (HGD.out (fun h=>by have:=hr.1 h;rw [HPP.out] at this;exact hpa this.2))
        clear hr hpa
        go_quiet (fail)
        go_wp2
        have HBW:Below w.heap.size w ((wo.alloc (.cells #[.int .i64 x.id,.int .i64 x.own,.int .i64 x.heir,.int .i64 x.at_] 80)).drewN nq):=below_drewN (hb.alloc hb.size _) _
        have hbx:((wo.alloc (.cells #[.int .i64 x.id,.int .i64 x.own,.int .i64 x.heir,.int .i64 x.at_] 80)).drewN nq).cell? ⟨wo.heap.size,0,none⟩=some (.int .i64 x.id):=World.cell?_alloc_new wo _ _ 0
        generalize (wo.alloc (.cells #[.int .i64 x.id,.int .i64 x.own,.int .i64 x.heir,.int .i64 x.at_] 80)).drewN nq=W at *
        clear c0 c1 c2 c3 q1 q2 q3 q4 q5 q6 q7 q8
        go_loopw [5] (fun v5 wi=>∃ j:Nat,j≤k∧v5=.int .i64 j∧noDup x (l.take j)=true∧Below w.heap.size w wi∧wi.cell? ⟨wo.heap.size,0,none⟩=some (.int .i64 x.id)) (fun v5 _=>k - (intOf v5).toNat)
        case atStart=>exact ⟨0,Nat.zero_le _,rfl,rfl,HBW,hbx⟩
        case round =>
         obtain ⟨j,hj,rfl,hnd,hbi,hbx'⟩:=hrel
         have HND:=Zh hnd
         clear hnd hbx
         by_cases hjk:j<k
         ·obtain ⟨b',off',y,hbo,_,hy,y0,_,_,_⟩:=HL.out.at_ (k:=j) (by omega)
          injection hbo with hbo
          injection hbo with e1 e2
          subst e1 e2
          have y0':wr.cell? ⟨b,off+j*4,none⟩=some (.int .i64 y.id):=by
           rw [hbi.cell (p:=⟨b,_,none⟩) hB];exact y0
          have hyk:(l.take k)[j]?=some y:=by rw [List.getElem?_take,if_pos hjk];exact hy
          have HY:=Zh hy
          have HYK:=Zh hyk
          clear y0 hy hyk
          have j0:(0:Int)≤j:=by omega
          have j1:(j:Int)<n:=by omega
          by_cases hid:y.id=x.id
          ·have qe:(y.id==x.id)=true:=by simpa using hid
           have HT:=Zh (Zq196 HL.out.1 hlt HX.out hd (Zq473 HYK.out qe))
           clear hid
           go_wp2
           go_quiet (fail)
           go_wp2
           go_ret
           exact ⟨ret_bool HT.out.symm,below_drewN hbi _⟩
          ·have qe:(y.id==x.id)=false:=by simpa using hid
           have HT:=Zh (Zq363 HY.out qe HND.out)
           clear hid
           go_wp2
           go_quiet (fail)
           go_wp2
           go_roundw
           case rel=>exact ⟨j+1,by omega,by go_num,HT.out,below_drewN hbi _,by simpa using hbx'⟩
           case measure=>simp [intOf];omega
         ·obtain rfl:j=k:=by omega
          have HT:=Zh ((Zq85 HX.out hd).trans (HN.out.trans HND.out))
          go_wp2
          go_roundw
          case rel=>exact ⟨j+1,by omega,by go_num,HT.out,hbi⟩
          case measure=>simp [intOf];omega
     all_goals
      have HR:=Zh (HB.out hr)
      clear hr
      go_quiet (fail)
      go_wp2
      go_ret
      exact ⟨ret_bool HR.out.symm,(below_drewN (hb.alloc hb.size _) _)⟩
    ·go_wp2
     go_ret
     obtain rfl:k=n:=by omega
     exact ⟨ret_bool (by rw [Zq43,hl.1,hd];simp [h1,h2]),hb⟩
  ·have d3:(x0.at_ != 0)=true:=by simpa using hat
   have hr:Zq43 l=false:=Zq196 hl.1 (by omega) hx0 rfl (Zq523 hat)
   rw [hr]
   clear hat
   go_enter Tryz.func96,Tryz.ntmps96
   go_wp2
   go_ret
   exact ⟨rfl,Below.refl _ _⟩
 ·have hr:Zq43 l=false:=by rw [Zq43,hl.1,decide_eq_false h32,Bool.false_and]
  rw [hr]
  by_cases h1:1≤n
  ·have d1:decide ((n:Int)<1)=false:=by simp;omega
   have d2:decide ((32:Int)<n)=true:=by simp;omega
   go_enter Tryz.func96,Tryz.ntmps96
   go_wp2
   go_ret
   exact ⟨rfl,Below.refl _ _⟩
  ·have d1:decide ((n:Int)<1)=true:=by simp;omega
   go_enter Tryz.func96,Tryz.ntmps96
   go_wp2
   go_ret
   exact ⟨rfl,Below.refl _ _⟩
end Go.Proofs.YtpjchngjhijgmaaGreat
