import Derived.Test.YtpjchngjhijgmaaGreatJM14
set_option linter.all false
namespace Go.Proofs.YtpjchngjhijgmaaGreat
open Go.RowKit
def sevN:Nat→Nat→List Int
 | 0,u=>[(u:Int)]
 | f+1,u=>if 128≤u then (((u % 128:Nat):Int)+128)::sevN f (u / 128) else [(u:Int)]
def varB (n:Int):List Int:=sevN 8 n.toNat
theorem Zq225:∀ (f u:Nat),1≤(sevN f u).length∧(sevN f u).length≤f+1
 | 0,u=>by simp [sevN]
 | f+1,u=>by
  have:=Zq225 f (u / 128)
  unfold sevN
  split <;> simp <;> omega
theorem Zq169 (n:Int):1≤(varB n).length∧(varB n).length≤9:=Zq225 8 _
theorem Zq383:∀ (f u:Nat),u<2 ^ (7*f+7)→∀ x ∈ sevN f u,isByte x
 | 0,u,hu=>by
  simp only [sevN,List.mem_singleton,forall_eq,isByte]
  simp at hu
  omega
 | f+1,u,hu=>by
  unfold sevN
  split
  ·intro x hx
   rcases List.mem_cons.1 hx with rfl|hx
   ·unfold isByte;omega
   ·refine Zq383 f (u / 128) ?_ x hx
    rw [show 7*(f+1)+7=(7*f+7)+7 by omega,Nat.pow_add] at hu
    omega
  ·intro x hx
   rw [List.mem_singleton] at hx
   subst hx
   unfold isByte
   omega
theorem Zq384 {n:Int} (h:n<9223372036854775808):∀ x ∈ varB n,isByte x:=Zq383 8 _ (by simp;omega)
theorem u8_or128 (x:Int) (h0:0≤x) (h1:x<256):bits .or .u8 x 128=x % 128+128:=by
 obtain ⟨X,rfl⟩:∃ X:Nat,x=X:=⟨x.toNat,by omega⟩
 have:∀ X:Nat,X<256→bits .or .u8 (X:Int) 128=(X:Int) % 128+128:=by decide +kernel
 exact this X (by omega)
theorem Zq492 (x:Int) (h0:0≤x) (h1:x<256):bits .and .u8 x 127=x % 128:=by
 obtain ⟨X,rfl⟩:∃ X:Nat,x=X:=⟨x.toNat,by omega⟩
 have:∀ X:Nat,X<256→bits .and .u8 (X:Int) 127=(X:Int) % 128:=by decide +kernel
 exact this X (by omega)
section
variable {W w : World} {I : Hp} {l : List HP}
set_option maxRecDepth 4000
set_option maxHeartbeats 4000000
theorem Zq814 (v:Value) (b:List Int) (n:Int) (w:World) (hs:SliceSrc w 1 v b.length (b.map byteV)) (hn0:0≤n) (hn:n<9223372036854775808) (hbl:b.length≤1000000) :
  Calls Tryz.prog 204 #[v,.int .i64 n] w fun e w'=>∃ v',e=.returned v'∧Below w.heap.size w w'∧w'.ownsRow w.heap.size 5 1 v' (b++varB n).length ((b++varB n).map byteV):=by
 obtain ⟨N,rfl⟩:∃ N:Nat,n=N:=⟨n.toNat,by omega⟩
 have hn63:N<9223372036854775808:=by omega
 go_enter Tryz.func204,Tryz.ntmps204
 go_wp2_with fail
 refine (Zq24 v b.length (b.map byteV) w hs hbl).mono ?_
 rintro e w1 ⟨v1,rfl,ho1,hb1⟩
 have h1:St w w.hp w1 (HP.row 5 1 v1 b.length (b.map byteV)::[]):=(St.init w).row_fresh hb1 ho1
 obtain ⟨A1,c1,rfl⟩:=Zq17 ho1
 have H1:=Zh h1
 have hmx:max (N:Int) 0=N:=by omega
 clear h1 ho1 hb1
 go_wp2_with fail
 have hst0:(128:Nat)≤128:=Nat.le_refl _
 go_loopw [5,6] (fun a5 a6 wr=>∃ (p:List Int) (f u:Nat) (A:Option Addr) (c:Nat),a6=.int .u64 u∧a5=.slice A (b++p).length c∧p++sevN f u=sevN 8 N∧u<2 ^ (7*f+7)∧f≤8∧p.length+f=8∧St w w.hp wr (HP.row 5 1 (.slice A (b++p).length c) (b++p).length ((b++p).map byteV)::[])) (fun _ a6 _=>(intOf a6).toNat)
 case atStart=>exact ⟨[],8,N,A1,c1,rfl,by simp,rfl,by simp;omega,by omega,rfl,by simpa using H1.out⟩
 case round =>
  obtain ⟨p,f,u,A,c,rfl,rfl,hp,hu,hf,hpf,hst⟩:=hrel
  have hu63:u<9223372036854775808:=Nat.lt_of_lt_of_le hu (by
   have:=Nat.pow_le_pow_right (show 1≤2 by decide) (show 7*f+7≤63 by omega)
   omega)
  by_cases hge:128≤u
  ·have dg:decide ((128:Int)≤(u:Int))=true:=by rw [decide_eq_true_eq];omega
   cases f with
   | zero=>simp at hu;omega
   | succ f =>
    have ho:=u8_or128 ((u:Int) % 256) (by omega) (by omega)
    have e0:(u:Int) % 256 % 128+128=((u % 128:Nat):Int)+128:=by omega
    have hst2:=hst.keep (Zq7 wr (.cells #[.int .u8 (((u % 128:Nat):Int)+128)] 5))
    obtain ⟨v',w',hr,h2⟩:=St.bytes_append 46 hst2 (Zq449 wr (((u % 128:Nat):Int)+128)) (by rw [List.length_append];omega)
    obtain ⟨A',c',rfl⟩:=Zq17 h2.row_owns
    have e2:(b++p).length+1=(b++(p++[((u % 128:Nat):Int)+128])).length:=by simp [Nat.add_assoc]
    have e3:(b++p).map byteV++[.int .u8 (((u % 128:Nat):Int)+128)]=(b++(p++[((u % 128:Nat):Int)+128])).map byteV:=by rw [←List.append_assoc,List.map_append (l₂:=[((u % 128:Nat):Int)+128])];rfl
    rw [e3,e2] at h2
    rw [e2] at hr
    have HP:=Zh (show (p++[((u % 128:Nat):Int)+128])++sevN f (u / 128)=sevN 8 N by
     rw [←hp,List.append_assoc]
     conv=>rhs;unfold sevN
     rw [if_pos hge]
     rfl)
    have HU:=Zh (show u / 128<2 ^ (7*f+7) by
     rw [show 7*(f+1)+7=(7*f+7)+7 by omega,Nat.pow_add] at hu
     omega)
    have ho:=ho.trans e0
    have HR:=Zh hr
    have H2:=Zh h2
    have HL:=Zh hpf
    clear hst hst2 hr h2 e2 e3 e0 hp hu hpf hst0
    go_wp2_with (at_builtin;refine Lib.wpList_append_run _ rfl (.tmp 14) (.tmp 18) 46 46 rfl _ _ rfl rfl _ _ HR.out ?_)
    go_roundw
    case rel=>exact ⟨_,f,u / 128,A',c',by go_num,by simp,HP.out,HU.out,by omega,by have:=HL.out;rw [List.length_append,List.length_singleton];omega,H2.out⟩
    case measure=>simp [intOf];omega
  ·have dg:decide ((128:Int)≤(u:Int))=false:=by rw [decide_eq_false_iff_not];omega
   have hs:sevN f u=[(u:Int)]:=by
    cases f with
    | zero=>rfl
    | succ f=>unfold sevN;rw [if_neg hge]
   rw [hs] at hp
   have e0:(u:Int) % 256=u:=by omega
   have hst2:=hst.keep (Zq7 wr (.cells #[.int .u8 (u:Int)] 5))
   obtain ⟨v',w',hr,h2⟩:=St.bytes_append 46 hst2 (Zq449 wr (u:Int)) (by rw [List.length_append];omega)
   obtain ⟨A',c',rfl⟩:=Zq17 h2.row_owns
   have e2:(b++p).length+1=(b++varB N).length:=by
    have:varB (N:Int)=p++[(u:Int)]:=by rw [hp];rfl
    rw [this]
    simp [Nat.add_assoc]
   have e3:(b++p).map byteV++[.int .u8 (u:Int)]=(b++varB N).map byteV:=by
    have:varB (N:Int)=p++[(u:Int)]:=by rw [hp];rfl
    rw [this,←List.append_assoc,List.map_append (l₂:=[(u:Int)])]
    rfl
   rw [e3,e2] at h2
   rw [e2] at hr
   have HR:=Zh hr
   have H2:=Zh h2
   clear hst hst2 hr h2 e2 e3 hp hu hpf hst0 hs
   go_wp2_with (at_builtin;refine Lib.wpList_append_run _ rfl (.tmp 22) (.tmp 25) 46 46 rfl _ _ rfl rfl _ _ HR.out ?_)
   go_ret
   refine ⟨_,rfl,H2.out.below,?_⟩
   have e9:b.length+(varB (N:Int)).length=(b++varB N).length:=by simp
   show w'.ownsRow _ _ _ (.slice A' (b.length+(varB (N:Int)).length) c') _ _
   rw [e9]
   exact H2.out.row_new
theorem Zq857 {n x:Int} {i:Nat} (h0:0≤n) (h1:n<2 ^ (7*i)) (hx0:0≤x) (hx1:x<128) (hi:i<9):bits .or .u64 n (IntKind.u64.wrap (x*2 ^ (7*i)))=n+x*2 ^ (7*i):=by
 obtain ⟨N,rfl⟩:∃ N:Nat,n=N:=⟨n.toNat,by omega⟩
 obtain ⟨X,rfl⟩:∃ X:Nat,x=X:=⟨x.toNat,by omega⟩
 have hN:N<2 ^ (7*i):=by exact_mod_cast h1
 have hX:X<128:=by omega
 have hp:X*2 ^ (7*i)+2 ^ (7*i)≤2 ^ 63:=by
  have h2:2 ^ (7*i)*128≤2 ^ 63:=by
   rw [show (128:Nat)=2 ^ 7 by rfl,←Nat.pow_add]
   exact Nat.pow_le_pow_right (by decide) (by omega)
  have h3:(X+1)*2 ^ (7*i)≤128*2 ^ (7*i):=Nat.mul_le_mul_right _ (by omega)
  rw [Nat.add_mul,Nat.one_mul] at h3
  omega
 have e1:(X:Int)*2 ^ (7*i)=((X*2 ^ (7*i):Nat):Int):=by push_cast;rfl
 rw [e1,IntKind.wrap_u64]
 have e2:((X*2 ^ (7*i):Nat):Int) % 18446744073709551616=((X*2 ^ (7*i):Nat):Int):=by omega
 rw [e2]
 show IntKind.u64.wrap ((BitVec.ofInt 64 (N:Int) ||| BitVec.ofInt 64 ((X*2 ^ (7*i):Nat):Int)).toNat:Nat)=_
 rw [BitVec.toNat_or,BitVec.ofInt_natCast,BitVec.ofInt_natCast,BitVec.toNat_ofNat,BitVec.toNat_ofNat,Nat.mod_eq_of_lt (by omega),Nat.mod_eq_of_lt (by omega),Nat.or_comm,Nat.mul_comm,←Nat.two_pow_add_eq_or_of_lt hN,IntKind.wrap_u64,Nat.mul_comm]
 omega
theorem Zq204 (v:Value) (b rest:List Int) (at':Nat) (N:Nat) (w:World) (hs:SliceSrc w 1 v b.length (b.map byteV)) (hb:b.drop at'=varB N++rest) (hn:N<9223372036854775808) (hbl:b.length≤1000000) :
  Calls Tryz.prog 212 #[v,.int .i64 at'] w fun e w'=>e=.returned (.tuple #[.int .i64 N,.int .i64 (at'+(varB N).length:Nat),.bool true])∧w=w':=by
 obtain ⟨A,c,rfl,hsrc,_⟩:=hs
 have hvl:=Zq169 (N:Int)
 have hbl2:b.length=at'+((varB N).length+rest.length):=by
  have:=congrArg List.length hb
  rw [List.length_drop,List.length_append] at this
  omega
 obtain ⟨g,o,rfl,hlt0,hc⟩:=Zq727 hsrc (by omega)
 have HC:=Zh hc
 have HB:=Zh hb
 clear hc hsrc hb
 have h1:decide ((at':Int)<0)=false:=by rw [decide_eq_false_iff_not];omega
 go_enter Tryz.func212,Tryz.ntmps212
 go_wp2_with fail
 go_loop [7,8,9] (fun a7 a8 a9=>∃ (i f u:Nat),a8=.int .i64 i∧i+f=8∧a7=.int .u64 ((N:Int) % 2 ^ (7*i))∧u=N / 2 ^ (7*i)∧b.drop (at'+i)=sevN f u++rest∧(varB N).length=i+(sevN f u).length∧(0<i→0<u)) (fun _ a8 _=>9 - (intOf a8).toNat)
 case atStart=>exact ⟨0,8,N,rfl,rfl,by simp [Nat.mod_one],by simp,HB.out,by simp [varB],by omega⟩
 case round =>
  obtain ⟨i,f,u,rfl,hif,rfl,hu,hd,hl,hpos⟩:=hrel
  have hlen:=congrArg List.length hd
  rw [List.length_drop,List.length_append] at hlen
  have hl1:=Zq225 f u
  have d0:decide ((i:Int)<9)=true:=by rw [decide_eq_true_eq];omega
  have d1:decide ((at':Int)<(b.length:Int) - (i:Int))=true:=by rw [decide_eq_true_eq];omega
  have hin:(at':Int)+(i:Int)<(b.length:Int):=by omega
  have hp0:0<2 ^ (7*i):=Nat.pow_pos (by decide)
  have hmod:N % 2 ^ (7*i)<2 ^ (7*i):=Nat.mod_lt _ hp0
  have hor:=Zq857 (n:=((N % 2 ^ (7*i):Nat):Int)) (x:=((u % 128:Nat):Int)) (i:=i) (by omega) (by exact_mod_cast hmod) (by omega) (by omega) (by omega)
  have hdm:=Nat.div_add_mod N (2 ^ (7*i))
  rw [←hu] at hdm
  have e1:((N % 2 ^ (7*i):Nat):Int)+((u % 128:Nat):Int)*2 ^ (7*i)=((N % 2 ^ (7*i)+2 ^ (7*i)*(u % 128):Nat):Int):=by push_cast;rw [Int.mul_comm]
  rw [e1] at hor
  by_cases hge:128≤u
  ·cases f with
   | zero =>
    have:2 ^ 63≤2 ^ (7*i)*u:=by
     obtain rfl:i=8:=by omega
     omega
    omega
   | succ f =>
    have hs1:sevN (f+1) u=(((u % 128:Nat):Int)+128)::sevN f (u / 128):=by
     conv=>lhs;unfold sevN
     rw [if_pos hge]
    have hx:b[at'+i]?=some (((u % 128:Nat):Int)+128):=by
     have:=congrArg (fun l=>l[0]?) hd
     simpa [hs1] using this
    have y1:w.cell? ⟨g,o+(at'+i),none⟩=some (.int .u8 (((u % 128:Nat):Int)+128)):=HC.out (at'+i) _ (by rw [List.getElem?_map,hx];rfl)
    have ha:=Zq492 (((u % 128:Nat):Int)+128) (by omega) (by omega)
    have ha2:(((u % 128:Nat):Int)+128) % 128=((u % 128:Nat):Int):=by omega
    rw [ha2] at ha
    have dg:decide ((128:Int)≤((u % 128:Nat):Int)+128)=true:=by rw [decide_eq_true_eq];omega
    rw [show N % 2 ^ (7*i)+2 ^ (7*i)*(u % 128)=N % 2 ^ (7*(i+1)) by
     rw [show 7*(i+1)=7*i+7 by omega,Nat.pow_add,Nat.mod_mul,←hu]] at hor
    push_cast at hor ha
    have HOR:=Zh hor
    have HA:=Zh ha
    have hw5:IntKind.u64.wrap ((u:Int) % 128)=(u:Int) % 128:=by rw [IntKind.wrap_u64];omega
    have HW5:=Zh hw5
    have HD:=Zh (show b.drop (at'+(i+1))=sevN f (u / 128)++rest by
     rw [←Nat.add_assoc,←List.drop_drop,hd,hs1]
     rfl)
    have HU:=Zh (show u / 128=N / 2 ^ (7*(i+1)) by
     rw [show 7*(i+1)=7*i+7 by omega,Nat.pow_add,←Nat.div_div_eq_div_mul,←hu])
    have HL:=Zh (show (varB (N:Int)).length=(i+1)+(sevN f (u / 128)).length by rw [hl,hs1,List.length_cons];omega)
    have hq:0<u / 128:=by omega
    clear hs1 hx hd hl hlen hl1 hdm hmod hu e1 hpos hp0 ha2 hor ha hw5
    go_wp2_with fail
    go_round
    case rel=>exact ⟨i+1,f,u / 128,by go_num,by omega,by rw [HA.out,HW5.out,HOR.out],HU.out,HD.out,HL.out,fun _=>hq⟩
    case measure=>simp [intOf];omega
  ·have hs1:sevN f u=[(u:Int)]:=by
    cases f with
    | zero=>rfl
    | succ f=>unfold sevN;rw [if_neg hge]
   have hx:b[at'+i]?=some (u:Int):=by
    have:=congrArg (fun l=>l[0]?) hd
    simpa [hs1] using this
   have hu128:u % 128=u:=by omega
   rw [hu128] at hor
   have y1:w.cell? ⟨g,o+(at'+i),none⟩=some (.int .u8 (u:Int)):=HC.out (at'+i) _ (by rw [List.getElem?_map,hx];rfl)
   have ha:=Zq492 (u:Int) (by omega) (by omega)
   have ha2:(u:Int) % 128=(u:Int):=by omega
   rw [ha2] at ha
   have dg:decide ((128:Int)≤(u:Int))=false:=by rw [decide_eq_false_iff_not];omega
   have e2:N % 2 ^ (7*i)+2 ^ (7*i)*u=N:=by omega
   rw [e2] at hor
   push_cast at hor
   have hl2:(varB (N:Int)).length=i+1:=by rw [hl,hs1];rfl
   have HL:=Zh hl2
   have hw1:IntKind.i64.wrap (N:Int)=N:=by rw [IntKind.wrap_i64];omega
   clear hs1 hx hd hl hlen hl1 hdm hmod hu e1 hp0 ha2 hl2 hbl2 hvl hu128
   by_cases h0:u=0
   ·subst h0
    obtain rfl:i=0:=by
     rcases Nat.eq_zero_or_pos i with h|h
     ·exact h
     ·exact absurd (hpos h) (by omega)
    obtain rfl:N=0:=by
     rw [←e2]
     simp [Nat.mod_one]
    have y2:w.cell? ⟨g,o+at',none⟩=some (.int .u8 0):=by simpa using y1
    have hor0:bits .or .u64 0 0=0:=by decide
    have hand0:bits .and .u8 0 127=0:=by decide
    clear y1 e2 hpos hor ha hif dg hge hw1
    go_wp2_with fail
    refine bodyPost_ret (v:=.tuple #[.int .i64 0,.int .i64 (at'+(0+1):Nat),.bool true]) (by simp [results,Tryz.results212,go_sem,Int.add_assoc]) rfl ?_
    exact ⟨rfl,rfl⟩
   ·clear e2
    have hq0:(((u:Int))==0)=false:=by simpa using h0
    go_wp2_with fail
    refine bodyPost_ret (v:=.tuple #[.int .i64 N,.int .i64 (at'+(i+1):Nat),.bool true]) (by simp [results,Tryz.results212,go_sem,Int.add_assoc]) rfl ?_
    rw [HL.out]
    exact ⟨rfl,rfl⟩
end
end Go.Proofs.YtpjchngjhijgmaaGreat
namespace Go.Proofs.YtpjchngjhijgmaaGreat
open Go.RowKit
theorem Zq93 {α:Type} {mk:α→List Value} {k:Nat} (hk:∀ a,(mk a).length=k):∀ (l:List α) (i j:Nat) (a:α),l[i]?=some a→j<k→(l.flatMap mk)[i*k+j]?=(mk a)[j]?
 | [],i,j,a,h,_=>by simp at h
 | b::l,0,j,a,h,hj=>by
  simp only [Zl6,Option.some.injEq] at h
  subst h
  rw [List.flatMap_cons,Nat.zero_mul,Nat.zero_add,List.getElem?_append_left (by rw [hk];exact hj)]
 | b::l,i+1,j,a,h,hj=>by
  rw [List.flatMap_cons,List.getElem?_append_right (by rw [hk,Nat.add_mul];omega),hk,show (i+1)*k+j - k=i*k+j by rw [Nat.add_mul];omega]
  exact Zq93 hk l i j a (by simpa using h) hj
theorem Zq205 {α:Type} {mk:α→List Value} {k:Nat} (hk:∀ a,(mk a).length=k):∀ l:List α,(l.flatMap mk).length=l.length*k
 | []=>by simp
 | a::l=>by rw [List.flatMap_cons,List.length_append,hk,Zq205 hk l,List.length_cons,Nat.add_mul];omega
theorem Zq115 {α:Type} {mk:α→List Value} {k:Nat} {W w:World} {I I':Hp} {m:List HP} {v:Value} {l:List α} (h:RowI I k v l.length (l.flatMap mk)) (hs:I.sub I') (hst:St W I' w m) (hmk:∀ a,(mk a).length=k) {i:Nat} {a:α} (ha:l[i]?=some a) :
  ∃ b off,v=.slice (some ⟨b,off,none⟩) l.length (match v with|.slice _ _ c=>c|_=>0)∧∀ j,j<k→w.cell? ⟨b,off+i*k+j,none⟩=(mk a)[j]?:=by
 obtain ⟨A,c',rfl,h2,h3,h4,h5,h6⟩:=h
 have hjl:=(List.getElem?_eq_some_iff.1 ha).1
 obtain ⟨b,off,cs,t,f,rfl,e2,e3⟩:=h6 (by omega)
 refine ⟨b,off,rfl,fun j hj=>?_⟩
 rw [Zq1 (hst.imm_heap (hs _ _ e2)),Nat.add_assoc]
 have h7:=Zq93 hmk l i j a ha hj
 obtain ⟨u,hu⟩:∃ u,(mk a)[j]?=some u:=⟨_,List.getElem?_eq_getElem (by rw [hmk];exact hj)⟩
 rw [hu]
 exact e3 (i*k+j) u (by rw [h7,hu])
section
variable {W w : World} {I : Hp} {l : List HP}
end
end Go.Proofs.YtpjchngjhijgmaaGreat
namespace Go.Proofs.YtpjchngjhijgmaaGreat
open Go.RowKit
def Tag.nums (t:Tag):List Int:=[t.id,t.own,t.heir,t.at_]
def tagB (t:Tag) (k:Nat):List Int:=(t.nums.take k).flatMap varB
def Zq28 (l:List Tag) (i:Nat):List Int:=varB l.length++(l.take i).flatMap fun t=>tagB t 4
def Zq35 (l:List Tag):List Int:=Zq28 l l.length
def chainB (l:List Tag):List Int:=if Zq43 l then Zq35 l else []
theorem Zq87 {l:List Tag} (h:Zq43 l=true):1≤l.length∧l.length≤32:=by
 unfold Zq43 at h
 simp only [Bool.and_eq_true,decide_eq_true_eq] at h
 omega
theorem Zq385 {l:List Tag}:∀ k,k≤l.length→Zq98 l k=true→∀ j,j<k→∀ t,l[j]?=some t→Zq89 t j (Zq124 (l.take j))∧0≤t.at_:=by
 intro k
 induction k with
 | zero=>intro _ _ j hj;omega
 | succ k ih =>
  intro hk ho j hj t ht
  obtain ⟨tk,htk⟩:∃ t,l[k]?=some t:=⟨_,List.getElem?_eq_getElem (by omega)⟩
  have hk1:Zq98 l k=true:=by
   cases hq:Zq98 l k with
   | true=>rfl
   | false=>rw [Zq223 hq 1] at ho;cases ho
  rw [Zq85 htk hk1] at ho
  rcases Nat.lt_or_ge j k with h1|h1
  ·exact ih (by omega) hk1 j h1 t ht
  ·obtain rfl:j=k:=by omega
   rw [htk] at ht
   cases ht
   unfold tagOk at ho
   simp only [Bool.and_eq_true,decide_eq_true_eq] at ho
   have h2:=ho.2
   rw [List.length_take,Nat.min_eq_left (by omega)] at h2
   refine ⟨h2,?_⟩
   unfold Zq89 at h2
   rcases Nat.eq_zero_or_pos j with h0|h0
   ·subst h0
    have:=h2.1
    omega
   ·obtain ⟨tp,htp⟩:∃ t,l[j - 1]?=some t:=⟨_,List.getElem?_eq_getElem (by omega)⟩
    have h3:=(ih (by omega) hk1 (j - 1) (by omega) tp htp).2
    have h4:=Zq222 htp
    rw [show j - 1+1=j by omega] at h4
    have:=h2.2.1
    omega
theorem Zq226 {l:List Tag} (h:Zq43 l=true):∀ t ∈ l,∀ x ∈ t.nums,0≤x∧x≤1099511627776:=by
 unfold Zq43 at h
 simp only [Bool.and_eq_true,decide_eq_true_eq] at h
 intro t ht x hx
 obtain ⟨j,hj,he⟩:=List.getElem_of_mem ht
 obtain ⟨h1,h2⟩:=Zq385 l.length (Nat.le_refl _) h.2 j hj t (by rw [List.getElem?_eq_getElem hj,he])
 unfold Zq89 at h1
 obtain ⟨_,_,h3,h4,h5,h6,h7,h8,h9⟩:=h1
 simp only [Tag.nums,List.mem_cons,List.not_mem_nil,or_false] at hx
 rcases hx with rfl|rfl|rfl|rfl
 ·omega
 ·omega
 ·by_cases h0:0<t.own
  ·have:=h8 h0
   omega
  ·have:=h9 h0
   omega
 ·omega
theorem Zq125 (t:Tag) (k:Nat):(tagB t k).length≤9*k:=by
 unfold tagB
 induction k with
 | zero=>simp
 | succ k ih =>
  rw [List.take_add_one,List.flatMap_append,List.length_append]
  have:((t.nums[k]?).toList.flatMap varB).length≤9:=by
   cases t.nums[k]? with
   | none=>simp
   | some x=>simpa using (Zq169 x).2
  omega
theorem Zq48 (l:List Tag):∀ i,(Zq28 l i).length≤9+36*i:=by
 intro i
 unfold Zq28
 rw [List.length_append]
 have h1:=(Zq169 (l.length:Int)).2
 have h2:((l.take i).flatMap fun t=>tagB t 4).length≤36*i:=by
  induction i with
  | zero=>simp
  | succ i ih =>
   rw [List.take_add_one,List.flatMap_append,List.length_append]
   have:((l[i]?).toList.flatMap fun t=>tagB t 4).length≤36:=by
    cases l[i]? with
    | none=>simp
    | some x=>simpa using Zq125 x 4
   omega
 omega
theorem Zq157 {l:List Tag} {i:Nat} {t:Tag} (h:l[i]?=some t):Zq28 l (i+1)=Zq28 l i++tagB t 4:=by
 unfold Zq28
 rw [List.take_add_one,h,List.flatMap_append,List.append_assoc]
 simp
section
variable {W w : World} {I : Hp} {l : List HP}
set_option maxRecDepth 4000
set_option maxHeartbeats 8000000
theorem St.var_call {A:Option Addr} {c:Nat} {b:List Int} (n:Int) (h:St W I w (HP.row 5 1 (.slice A b.length c) b.length (b.map byteV)::l)) (hn0:0≤n) (hn:n<9223372036854775808) (hbl:b.length≤1000000) :
  Calls Tryz.prog 204 #[.slice A b.length c,.int .i64 n] w fun e w'=>∃ A' c' q,e=.returned (.slice A' q.length c')∧q=b++varB n∧St W I w' (HP.row 5 1 (.slice A' q.length c') q.length (q.map byteV)::l):=by
 refine (Zq814 _ b n w (SliceSrc.of_owns h.row_owns (Zq64 b)) hn0 hn hbl).mono ?_
 rintro e w' ⟨v',rfl,hb,ho⟩
 obtain ⟨A',c',rfl⟩:=Zq17 ho
 exact ⟨A',c',_,rfl,rfl,h.drop.row_fresh hb ho⟩
theorem Zq493 (A:Option Addr) (c:Nat) (l:List Tag) (w:World) (hl:TagsAt w A l.length l) (hn:l.length≤1000000) (hcap:l.length≤c) :
  Calls Tryz.prog 185 #[.slice A l.length c] w fun e w'=>∃ A' c',e=.returned (.tuple #[.slice A' (chainB l).length c',.int .i64 (if Zq43 l then 0 else 1)])∧St w w.hp w' [HP.row 5 1 (.slice A' (chainB l).length c') (chainB l).length ((chainB l).map byteV)]:=by
 have HR:=Zh (Zq475 A l.length c l w hl hn hcap)
 cases hr:Zq43 l with
 | false =>
  rw [hr] at HR
  have hc:chainB l=[]:=by unfold chainB;rw [hr];rfl
  rw [hc]
  clear hc hr
  go_enter Tryz.func185,Tryz.ntmps185
  go_wp2_with fail
  refine HR.out.mono ?_
  rintro e w2 ⟨rfl,hb2⟩
  go_wp2_with fail
  go_ret2
  refine ⟨none,0,rfl,?_⟩
  exact ((St.init w).keep hb2).row_nil _ _
 | true =>
  rw [hr] at HR
  obtain ⟨r,hc⟩:∃ r,chainB l=r:=⟨_,rfl⟩
  have HC:=Zh (show Zq35 l=r by rw [←hc];unfold chainB;rw [hr];rfl)
  have hsm:=Zq87 hr
  have HN:=Zh (Zq226 hr)
  rw [hc]
  have HL:=Zh hl
  clear hl hn hr hc
  go_enter Tryz.func185,Tryz.ntmps185
  go_wp2_with fail
  refine HR.out.mono ?_
  rintro e w2 ⟨rfl,hb2⟩
  have h2:=((St.init w).keep hb2).row_nil 5 1
  have HV:=Zh (St.var_call (b:=[]) (A:=none) (c:=0) (l.length:Int) h2 (by omega) (by omega) (by simp))
  clear h2 hb2 HR
  go_wp2_with fail
  refine HV.out.mono ?_
  rintro e w3 ⟨A3,c3,q3,rfl,hq3,h3⟩
  have H3:=Zh h3
  have HQ3:=Zh hq3
  clear h3 hq3
  go_wp2_with fail
  go_loopw [4,17] (fun a4 a17 wr=>∃ (i:Nat) (A':Option Addr) (c':Nat) (q:List Int),a17=.int .i64 i∧i≤l.length∧a4=.slice A' q.length c'∧q=Zq28 l i∧St w w.hp wr [HP.row 5 1 (.slice A' q.length c') q.length (q.map byteV)]) (fun _ a17 _=>l.length - (intOf a17).toNat)
  case atStart=>exact ⟨0,A3,c3,q3,rfl,Nat.zero_le _,rfl,by rw [HQ3.out];simp [Zq28],H3.out⟩
  case round =>
   obtain ⟨i,A',c',q,rfl,hi,rfl,hq,hst⟩:=hrel
   have HQ:=Zh hq
   clear hq
   by_cases hlt:i<l.length
   ·have d0:decide ((i:Int)<(l.length:Int))=true:=by rw [decide_eq_true_eq];omega
    obtain ⟨b,off,t,rfl,hbl,ht,x0,x1,x2,x3⟩:=(HL.out.below hst.below (Nat.le_refl _)).at_ hlt
    have HNT:=Zh (HN.out t (List.mem_of_getElem? ht))
    have HS:=Zh (Zq157 ht)
    obtain ⟨tid,town,their,tat⟩:=t
    simp only at x0 x1 x2 x3
    have hst1:=hst.keep (Zq7 wr (.cells #[.int .i64 tid,.int .i64 town,.int .i64 their,.int .i64 tat] 80))
    have HST:=Zh hst1
    have hin:(i:Int)<(l.length:Int):=by omega
    clear hst hst1 ht
    have i0:∀ w:World,(Instr.index 106 (.agg #[.int .i64 tid,.int .i64 town,.int .i64 their,.int .i64 tat]) (.int .i64 0)).run Tryz.prog w=.ok (.int .i64 tid) w:=fun _=>by kernel_rfl
    have i1:∀ w:World,(Instr.index 106 (.agg #[.int .i64 tid,.int .i64 town,.int .i64 their,.int .i64 tat]) (.int .i64 1)).run Tryz.prog w=.ok (.int .i64 town) w:=fun _=>by kernel_rfl
    have i2:∀ w:World,(Instr.index 106 (.agg #[.int .i64 tid,.int .i64 town,.int .i64 their,.int .i64 tat]) (.int .i64 2)).run Tryz.prog w=.ok (.int .i64 their) w:=fun _=>by kernel_rfl
    have i3:∀ w:World,(Instr.index 106 (.agg #[.int .i64 tid,.int .i64 town,.int .i64 their,.int .i64 tat]) (.int .i64 3)).run Tryz.prog w=.ok (.int .i64 tat) w:=fun _=>by kernel_rfl
    go_wp2_with fail
    go_loopw [4,30] (fun a4 a30 wr=>∃ (j:Nat) (A':Option Addr) (c':Nat) (q:List Int),a30=.int .i64 j∧j≤4∧a4=.slice A' q.length c'∧q=Zq28 l i++tagB (⟨tid,town,their,tat⟩:Tag) j∧St w w.hp wr [HP.row 5 1 (.slice A' q.length c') q.length (q.map byteV)]) (fun _ a30 _=>4 - (intOf a30).toNat)
    case atStart=>exact ⟨0,A',c',q,rfl,Nat.zero_le _,rfl,by rw [HQ.out];simp [tagB],HST.out⟩
    case round =>
     obtain ⟨j,A',c',q,rfl,hj,rfl,hq,hst2⟩:=hrel
     clear HQ HST
     rcases (show j=0∨j=1∨j=2∨j=3∨j=4 by omega) with rfl|rfl|rfl|rfl|rfl
     ·have hv:=St.var_call tid hst2 (HNT.out _ (by simp [Tag.nums])).1 (by have:=(HNT.out tid (by simp [Tag.nums])).2;omega) (by have:=Zq125 (⟨tid,town,their,tat⟩:Tag) 0;have:=Zq48 l i;rw [hq,List.length_append];omega)
      have HQ:=Zh hq
      have HV:=Zh hv
      clear hv hst2 hq
      go_wp2_with fail
      refine HV.out.mono ?_
      rintro e w6 ⟨A6,c6,q6,rfl,hq6,h6⟩
      have H6:=Zh h6
      have HQ6:=Zh (show q6=Zq28 l i++tagB (⟨tid,town,their,tat⟩:Tag) 1 by rw [hq6,HQ.out,List.append_assoc];simp [tagB,Tag.nums])
      clear h6 HV hq6
      go_wp2_with fail
      go_roundw
      case rel=>exact ⟨1,A6,c6,q6,rfl,by omega,rfl,HQ6.out,H6.out⟩
      case measure=>simp [intOf]
     ·have hv:=St.var_call town hst2 (HNT.out _ (by simp [Tag.nums])).1 (by have:=(HNT.out town (by simp [Tag.nums])).2;omega) (by have:=Zq125 (⟨tid,town,their,tat⟩:Tag) 1;have:=Zq48 l i;rw [hq,List.length_append];omega)
      have HQ:=Zh hq
      have HV:=Zh hv
      clear hv hst2 hq
      go_wp2_with fail
      refine HV.out.mono ?_
      rintro e w6 ⟨A6,c6,q6,rfl,hq6,h6⟩
      have H6:=Zh h6
      have HQ6:=Zh (show q6=Zq28 l i++tagB (⟨tid,town,their,tat⟩:Tag) 2 by rw [hq6,HQ.out,List.append_assoc];simp [tagB,Tag.nums])
      clear h6 HV hq6
      go_wp2_with fail
      go_roundw
      case rel=>exact ⟨2,A6,c6,q6,rfl,by omega,rfl,HQ6.out,H6.out⟩
      case measure=>simp [intOf]
     ·have hv:=St.var_call their hst2 (HNT.out _ (by simp [Tag.nums])).1 (by have:=(HNT.out their (by simp [Tag.nums])).2;omega) (by have:=Zq125 (⟨tid,town,their,tat⟩:Tag) 2;have:=Zq48 l i;rw [hq,List.length_append];omega)
      have HQ:=Zh hq
      have HV:=Zh hv
      clear hv hst2 hq
      go_wp2_with fail
      refine HV.out.mono ?_
      rintro e w6 ⟨A6,c6,q6,rfl,hq6,h6⟩
      have H6:=Zh h6
      have HQ6:=Zh (show q6=Zq28 l i++tagB (⟨tid,town,their,tat⟩:Tag) 3 by rw [hq6,HQ.out,List.append_assoc];simp [tagB,Tag.nums])
      clear h6 HV hq6
      go_wp2_with fail
      go_roundw
      case rel=>exact ⟨3,A6,c6,q6,rfl,by omega,rfl,HQ6.out,H6.out⟩
      case measure=>simp [intOf]
     ·have hv:=St.var_call tat hst2 (HNT.out _ (by simp [Tag.nums])).1 (by have:=(HNT.out tat (by simp [Tag.nums])).2;omega) (by have:=Zq125 (⟨tid,town,their,tat⟩:Tag) 3;have:=Zq48 l i;rw [hq,List.length_append];omega)
      have HQ:=Zh hq
      have HV:=Zh hv
      clear hv hst2 hq
      go_wp2_with fail
      refine HV.out.mono ?_
      rintro e w6 ⟨A6,c6,q6,rfl,hq6,h6⟩
      have H6:=Zh h6
      have HQ6:=Zh (show q6=Zq28 l i++tagB (⟨tid,town,their,tat⟩:Tag) 4 by rw [hq6,HQ.out,List.append_assoc];simp [tagB,Tag.nums])
      clear h6 HV hq6
      go_wp2_with fail
      go_roundw
      case rel=>exact ⟨4,A6,c6,q6,rfl,by omega,rfl,HQ6.out,H6.out⟩
      case measure=>simp [intOf]
     ·have HQ:=Zh (hq.trans HS.out.symm)
      have H9:=Zh hst2
      clear hst2 hq
      go_wp2_with fail
      go_roundw
      case rel=>exact ⟨i+1,A',c',q,by go_num,by omega,rfl,HQ.out,H9.out⟩
      case measure=>first|(simp [intOf];done)|(simp [intOf];omega)|fail
   ·obtain rfl:i=l.length:=by omega
    have d0:decide (((l.length:Nat):Int)<(l.length:Int))=false:=by rw [decide_eq_false_iff_not];omega
    have HST:=Zh hst
    clear hst
    go_wp2_with fail
    go_ret2
    obtain rfl:q=r:=HQ.out.trans HC.out
    exact ⟨A',c',rfl,HST.out⟩
end
end Go.Proofs.YtpjchngjhijgmaaGreat
