import Derived.Laws.BytesArg
import Derived.Lib.SlBytesConst
import Derived.Test.YtpjchngjhijgmaaGreatJM13
import Derived.ProofKit
import Derived.OpenShut
import Derived.Deep.Slices
import Derived.Lib.SmallJoins
import Derived.Deep.Fields
import Derived.Test.YtpjchngjhijgmaaGreatJM01
import Derived.Test.YtpjchngjhijgmaaGreatJM02
set_option linter.all false
namespace Go.Proofs.YtpjchngjhijgmaaGreat
open Go.RowKit
theorem Zq156 {w:World} {v:Value} {n:Nat} {xs:List Int} (h:SliceSrc w 1 v n (xs.map byteV)):(convert 46 9 v).run Tryz.prog w=.ok (.string (strOfNums xs)) w:=by
 obtain ⟨A,c,rfl,hsrc,hA⟩:=h
 have hl:=hsrc.len
 rw [List.length_map,Nat.mul_one] at hl
 rcases Nat.eq_zero_or_pos n with h0|h0
 ·subst h0
  obtain rfl:=List.eq_nil_of_length_eq_zero hl
  rw [run_convert_bytes_string w 46 9 _ A 0 c Tryz.underlying46 (by kernel_rfl) Tryz.underlying9]
  cases A with
  | none=>simp [Conv.bytesToString];rfl
  | some a =>
   have hz:(loadCells a 0).run Tryz.prog w=.ok #[] w:=by
    have:=run_loadCells_list (P:=Tryz.prog) w a [] (fun j v hj=>by simp at hj)
    simpa using this
   rw [run_bytesToString w a 0 c [] (by simpa using hz)]
   rfl
 ·obtain ⟨ad,rfl,hc⟩:=hsrc.cells h0
  have hl2:(loadCells ad n).run Tryz.prog w=.ok (xs.map (Value.int .u8)).toArray w:=by
   have:=run_loadCells_list (P:=Tryz.prog) w ad (xs.map byteV) (fun j v hj=>hc j v hj)
   rw [List.length_map,hl] at this
   exact this
  rw [run_convert_bytes_string w 46 9 _ _ n c Tryz.underlying46 (by kernel_rfl) Tryz.underlying9,run_bytesToString w ad n c xs hl2,foldl_push_bytes]
  simp [strOfNums,ByteArray.empty,ByteArray.emptyWithCapacity]
  rfl
theorem Zq625 (w:World) (C:Array Value) (n c:Nat):(convert 46 46 (.slice (some ⟨w.heap.size,0,none⟩) n c)).run Tryz.prog (w.alloc (.cells C 5))=.ok (.slice (some ⟨w.heap.size,0,none⟩) n c) (w.alloc (.cells C 5 (C.size,C.size+1))) :=
 Lib.run_convert_bytes_const w 46 5 C n c Tryz.underlying46 Tryz.underlying5
theorem Zq855 (w:World) (cs:Array Value) (xs:List Int) (n:Nat) (f:Nat × Nat) (h1:cs.toList=xs.map byteV) (h2:xs.length=n):SliceSrc (w.alloc (.cells cs 5 f)) 1 (.slice (some ⟨w.heap.size,0,none⟩) n n) n (xs.map byteV):=by
 refine ⟨_,_,rfl,⟨by simp [h2],fun _=>⟨_,rfl,fun j u hu=>?_⟩,Zq64 xs⟩,fun e=>by cases e⟩
 rw [add_plain,Nat.zero_add,Zq1 (heap_alloc_new _ _) j,←hu,←h1]
 simp
section
variable {W w : World} {I : Hp} {l : List HP}
end
section
variable {W w : World} {I : Hp} {l : List HP}
theorem St.bytes_append {v v2:Value} {n m:Nat} {xs ys:List Value} (ty:TypeId) (h:St W I w (HP.row 5 1 v n xs::l)) (hs:SliceSrc w 1 v2 m ys) (hb:n+m≤1000000000) :
  ∃ v' w',(Builtin.append_ #[46,46] ty #[v,v2]).run Tryz.prog w=.ok v' w'∧St W I w' (HP.row 5 1 v' (n+m) (xs++ys)::l):=by
 obtain ⟨A,c,rfl,hsrc,hA⟩:=hs
 obtain ⟨i0,hi0,hz0,hz1,hz2⟩:=info_parts Zq293
 obtain ⟨v',w',hr,ho',hgr,hv'⟩:=Zq57 (P:=Tryz.prog) w 0 46 ty 5 i0 _ 1 1 Tryz.underlying46 hi0 hz0 hz1 hz2 rfl (by decide) v n xs h.row_owns A m c ys hsrc hA (by unfold maxLen;omega) (by omega) (Nat.zero_le _)
 exact ⟨v',w',hr,h.row_grown ho' hgr hv'⟩
end
end Go.Proofs.YtpjchngjhijgmaaGreat
namespace Go.Proofs.YtpjchngjhijgmaaGreat
open Go.RowKit Go.ChangeShapes Go.WideShapes Go.ChangeAt Go.Deep Go.Joins
set_option maxRecDepth 100000
theorem Zq255 (b o j:Nat):(⟨b,o,none⟩:Addr).add j=⟨b,o+j,none⟩:=by
 unfold Addr.add;split
 ·subst j;rfl
 ·rfl
theorem Zq626 {w:World} {b o:Nat} {v:Value} (h:w.cell? ⟨b,o,none⟩=some v):∃ cs t f,w.heap[b]?=some (.cells cs t f)∧cs[o]?=some v:=by
 unfold World.cell? at h
 simp only at h
 split at h
 ·rename_i cs t f hb
  simp only [Option.isSome_none,Bool.false_eq_true,if_false] at h
  exact ⟨cs,t,f,hb,h⟩
 ·cases h
section
variable {H : Type} {enc : TypeId × Value → H} {P : Program} {w : World} {base : Nat} {spare : Nat → Bool} {held : Bool}
theorem Zq811 {t e:TypeId} {k:Nat} (ht:P.underlying t=some (.slice e)) (hk:P.cellsOf e=k) (h0:0<k) {v:Value} {d:DataW H} {p:List MemPlace} (h:DataW.Trod enc P w base spare held t v d p) (hs:∃ A n c,v=.slice A n c) :
  ∃ A n c,v=.slice A n c∧n≤c∧c≤maxLen∧(A=none→n=0∧c=0)∧(0<n→∃ b off,A=some ⟨b,off,none⟩∧b<w.heap.size∧∀ i,i<n→∃ cs fuel x,DataW.trod enc P w base spare held fuel e cs=some x∧cs.length=k∧∀ j,j<k→w.cell? ⟨b,off+(i*k+j),none⟩=cs[j]?):=by
 obtain ⟨A,n,c,rfl⟩:=hs
 obtain ⟨fuel,hf⟩:=h
 rcases open_slice ht hf with ⟨hcs,_⟩|⟨a,len,cap,m,n',D,Pl,hcs,_,hl,hm,hmm,_,hi⟩
 ·simp [Value.cells] at hcs
  obtain ⟨rfl,rfl,rfl⟩:=hcs
  exact ⟨none,0,0,rfl,Nat.le_refl _,Nat.zero_le _,fun _=>⟨rfl,rfl⟩,fun h=>absurd h (by omega)⟩
 ·simp [Value.cells] at hcs
  obtain ⟨rfl,rfl,rfl⟩:=hcs
  rw [hk] at hi
  have hlm:n≤m:=by rw [hmm];split <;> omega
  refine ⟨some a,n,c,rfl,hl,hm,fun e=>by (cases e),fun hn=>?_⟩
  have key:∀ i,i<n→∃ cs fuel x,DataW.trod enc P w base spare held fuel e cs=some x∧cs.length=k∧∀ j,j<k→w.cell? ((a.add (i*k)).add j)=cs[j]?:=fun i hin=>by
   obtain ⟨cs',hc,ht⟩:=hi i (by omega)
   obtain ⟨_,hcl,hat⟩:=World.cells?_some hc
   exact ⟨cs',n',_,ht,hcl,hat⟩
  obtain ⟨b,off,spot⟩:=a
  have hspot:spot=none:=by
   obtain ⟨cs,_,_,_,hcl,hat⟩:=key 0 hn
   have h1:=hat 0 h0
   rw [List.getElem?_eq_getElem (by omega)] at h1
   simpa [Addr.add] using World.cell?_spot h1
  subst hspot
  refine ⟨b,off,rfl,?_,fun i hin=>?_⟩
  ·obtain ⟨cs,_,_,_,hcl,hat⟩:=key 0 hn
   have h1:=hat 0 h0
   rw [Zq255,Zq255,List.getElem?_eq_getElem (by omega)] at h1
   exact World.block_lt_of_cell? w _ h1
  ·obtain ⟨cs,fuel,x,h1,h2,h3⟩:=key i hin
   refine ⟨cs,fuel,x,h1,h2,fun j hj=>?_⟩
   rw [←h3 j hj,Zq255,Zq255,Nat.add_assoc]
end
def isByte (x:Int):Prop:=0≤x∧x<256
def isInt (x:Int):Prop:=-9223372036854775808≤x∧x≤9223372036854775807
def boolV (b:Bool):Value:=.bool b
section
variable {H : Type} {enc : TypeId × Value → H} {w : World} {base : Nat} {spare : Nat → Bool} {held : Bool}
theorem Zq142:Tryz.prog.cellsOf 3=1:=by kernel_rfl
variable {r : Reach} {b0 : Nat} {v : Value} {d : DataW H} {p : List MemPlace}
def RowsI (I:Hp) (v:Value) (l:List (List Int)):Prop:=∃ vs:List Value,vs.length=l.length∧RowI I 1 v l.length vs∧(∀ (i:Nat) x q,vs[i]?=some x→l[i]?=some q→BytesI I x q)∧∀ q ∈ l,(∀ x ∈ q,isByte x)∧q.length≤maxLen
end
end Go.Proofs.YtpjchngjhijgmaaGreat
namespace Go.Proofs.YtpjchngjhijgmaaGreat
open Go.RowKit
def isU32 (x:Int):Prop:=0≤x∧x<4294967296
def Zq428 (c:Int):Int:=if c % 2=1 then bits .xor .u32 (c / 2) 2197175160 else c / 2
def crcN:Nat→Int→Int
 | 0,c=>c
 | n+1,c=>Zq428 (crcN n c)
def Zq153 (c b:Int):Int:=crcN 8 (bits .xor .u32 c b)
theorem Zq343 (x:Int):IntKind.u32.wrap x=x % 4294967296:=by
 unfold IntKind.wrap
 first|rfl|simp [IntKind.bits,IntKind.signed]|(simp only [IntKind.signed,IntKind.size];rfl)
theorem u32_xor (a b:Int):isU32 (bits .xor .u32 a b):=by
 have e:bits .xor .u32 a b=IntKind.u32.wrap ((BitVec.ofInt 32 a ^^^ BitVec.ofInt 32 b).toNat:Nat):=rfl
 rw [e,Zq343]
 unfold isU32
 omega
theorem Zq812 (n:Int):bits .and .u32 n 1=n % 2:=by
 show IntKind.u32.wrap ((BitVec.ofInt 32 n &&& BitVec.ofInt 32 ((1:Nat):Int)).toNat:Nat)=n % 2
 rw [BitVec.toNat_and,BitVec.toNat_ofInt,show (BitVec.ofInt 32 ((1:Nat):Int)).toNat=2 ^ 1 - 1 by decide,Nat.and_two_pow_sub_one_eq_mod,Zq343]
 omega
theorem Zq627 {c:Int} (h:isU32 c):isU32 (Zq428 c):=by
 unfold Zq428
 split
 ·exact u32_xor _ _
 ·unfold isU32 at *;omega
theorem Zq448 {c:Int} (h:isU32 c):∀ n,isU32 (crcN n c)
 | 0=>h
 | n+1=>Zq627 (Zq448 h n)
section
set_option maxRecDepth 4000
set_option maxHeartbeats 4000000
theorem Zq813 (c b:Int) (w:World) (hb:0≤b∧b<256):Calls Tryz.prog 171 #[.int .u32 c,.int .u8 b] w fun e w'=>e=.returned (.int .u32 (Zq153 c b))∧w=w':=by
 have hw:IntKind.u32.wrap b=b:=by rw [Zq343];omega
 obtain ⟨x,hx⟩:∃ x,bits .xor .u32 c b=x:=⟨_,rfl⟩
 have hxu:isU32 x:=by rw [←hx];exact u32_xor _ _
 have HXU:=Zh hxu
 have HX:=Zh hx
 clear hxu
 go_enter Tryz.func171,Tryz.ntmps171
 go_wp2_with fail
 go_loopw [0,5,10] (fun a0 a5 a10 wr=>∃ i:Nat,a10=.int .i64 i∧i≤8∧a0=.int .u32 (crcN i x)∧wr=w) (fun _ _ a10 _=>8 - (intOf a10).toNat)
 case atStart=>exact ⟨0,rfl,by omega,rfl,rfl⟩
 case round =>
  obtain ⟨i,rfl,hi,rfl,rfl⟩:=hrel
  by_cases hlt:i<8
  ·have d0:decide ((i:Int)<8)=true:=by rw [decide_eq_true_eq];omega
   obtain ⟨y,hy⟩:∃ y,crcN i x=y:=⟨_,rfl⟩
   have hyu:isU32 y:=by rw [←hy];exact Zq448 HXU.out i
   have hand:=Zq812 y
   have hsh:IntKind.u32.wrap (y / 2)=y / 2:=by rw [Zq343];unfold isU32 at hyu;omega
   have HN:=Zh (show crcN (i+1) x=Zq428 y by rw [←hy];rfl)
   rw [hy]
   by_cases h2:y % 2=1
   ·have HB:=Zh (show Zq428 y=bits .xor .u32 (y / 2) 2197175160 by unfold Zq428;rw [if_pos h2])
    have d2:decide (y % 2=1)=true:=decide_eq_true h2
    clear hy hyu
    go_wp2_with fail
    go_roundw
    case rel=>exact ⟨i+1,by go_num,by omega,by rw [HN.out,HB.out],trivial⟩
    case measure=>first|(simp [intOf];done)|(simp [intOf];omega)|fail
   ·have HB:=Zh (show Zq428 y=y / 2 by unfold Zq428;rw [if_neg h2])
    have d2:decide (y % 2=1)=false:=decide_eq_false h2
    clear hy hyu
    go_wp2_with fail
    go_roundw
    case rel=>exact ⟨i+1,by go_num,by omega,by rw [HN.out,HB.out],trivial⟩
    case measure=>first|(simp [intOf];done)|(simp [intOf];omega)|fail
  ·obtain rfl:i=8:=by omega
   go_wp2_with fail
   go_ret
   rw [show Zq153 c b=crcN 8 x by unfold Zq153;rw [HX.out]]
   exact ⟨rfl,rfl⟩
def crcOf (b:List Int):Int:=bits .xor .u32 4294967295 (b.foldl Zq153 4294967295)
theorem Zq543 (c b:Int):isU32 (Zq153 c b):=Zq448 (u32_xor _ _) 8
theorem Zq299:∀ (b:List Int) (c:Int),isU32 c→isU32 (b.foldl Zq153 c)
 | [],_,h=>h
 | x::b,c,_=>Zq299 b _ (Zq543 c x)
theorem Zq856 (v:Value) (b:List Int) (w:World) (hs:SliceSrc w 1 v b.length (b.map byteV)) (hb:∀ x ∈ b,isByte x) (hl:b.length≤1000000) :
  Calls Tryz.prog 129 #[v] w fun e w'=>e=.returned (.int .u32 (crcOf b))∧w=w':=by
 obtain ⟨A,c,rfl,hsrc,hA⟩:=hs
 have HSRC:=Zh hsrc
 have HB:=Zh hb
 clear hsrc hb
 go_enter Tryz.func129,Tryz.ntmps129
 go_wp2_with fail
 go_loopw [3,5,8] (fun a3 a5 a8 wr=>∃ i:Nat,a8=.int .i64 i∧i≤b.length∧a3=.int .u32 ((b.take i).foldl Zq153 4294967295)∧wr=w) (fun _ _ a8 _=>b.length - (intOf a8).toNat)
 case atStart=>exact ⟨0,rfl,by omega,rfl,rfl⟩
 case round =>
  obtain ⟨i,rfl,hi,rfl,rfl⟩:=hrel
  by_cases hlt:i<b.length
  ·have d0:decide ((i:Int)<(b.length:Int))=true:=by rw [decide_eq_true_eq];omega
   obtain ⟨x,hx⟩:∃ x,b[i]?=some x:=⟨_,List.getElem?_eq_getElem hlt⟩
   have hbx:=HB.out x (List.mem_of_getElem? hx)
   obtain ⟨ad,rfl,hc⟩:=HSRC.out.cells (by omega)
   have hc0:=hc i (byteV x) (by rw [List.getElem?_map,hx];rfl)
   have HN:=Zh (show (b.take (i+1)).foldl Zq153 4294967295=Zq153 ((b.take i).foldl Zq153 4294967295) x by
    obtain ⟨hil,he⟩:=List.getElem?_eq_some_iff.1 hx
    rw [List.take_succ_eq_append_getElem hil,List.foldl_append,he];rfl)
   have HCN:=Zh (Zq813 ((b.take i).foldl Zq153 4294967295) x wr (by unfold isByte at hbx;omega))
   unfold byteV at hc0
   clear hx hbx hc
   obtain ⟨gb,goff,gp⟩:=ad
   obtain ⟨y,hy⟩:∃ y,(b.take i).foldl Zq153 4294967295=y:=⟨_,rfl⟩
   rw [hy] at HCN HN ⊢
   clear hy
   go_wp2_with fail
   refine HCN.out.mono ?_
   rintro e w2 ⟨rfl,rfl⟩
   go_wp2_with fail
   go_roundw
   case rel=>exact ⟨i+1,by go_num,by omega,by rw [HN.out],trivial⟩
   case measure=>first|(simp [intOf];done)|(simp [intOf];omega)|fail
  ·obtain rfl:i=b.length:=by omega
   have d0:decide (((b.length:Nat):Int)<(b.length:Int))=false:=by rw [decide_eq_false_iff_not];omega
   rw [List.take_length]
   go_wp2_with fail
   go_ret
   exact ⟨rfl,rfl⟩
end
end Go.Proofs.YtpjchngjhijgmaaGreat
namespace Go.Proofs.YtpjchngjhijgmaaGreat
open Go.RowKit
theorem Zq727 {w:World} {A:Option Addr} {n:Nat} {xs:List Value} (h:SrcAt w 1 A n xs) (hn:0<n):∃ b off,A=some ⟨b,off,none⟩∧b<w.heap.size∧∀ j u,xs[j]?=some u→w.cell? ⟨b,off+j,none⟩=some u:=by
 obtain ⟨ad,rfl,hc⟩:=h.cells hn
 have hl:=h.len
 obtain ⟨u0,hu0⟩:∃ u,xs[0]?=some u:=⟨_,List.getElem?_eq_getElem (by omega)⟩
 have h0:=hc 0 u0 hu0
 obtain ⟨b,off,spot⟩:=ad
 have hspot:spot=none:=by simpa [Addr.add] using World.cell?_spot h0
 subst hspot
 refine ⟨b,off,rfl,?_,fun j u hu=>?_⟩
 ·rw [add_plain] at h0
  exact World.block_lt_of_cell? w _ h0
 ·have:=hc j u hu
  rwa [add_plain] at this
section
set_option maxRecDepth 4000
set_option maxHeartbeats 2000000
end
end Go.Proofs.YtpjchngjhijgmaaGreat
namespace Go.Proofs.YtpjchngjhijgmaaGreat
open Go.RowKit
def putB (n:Int) (k:Nat):List Int:=(List.range k).map fun i=>n / 2 ^ (8*i) % 256
theorem Zq728 (n:Int) (k:Nat):putB n (k+1)=putB n k++[n / 2 ^ (8*k) % 256]:=by
 unfold putB
 rw [List.range_succ,List.map_append]
 rfl
theorem Zq33 (n:Int) (k:Nat):(putB n k).length=k:=by simp [putB]
def getB:List Int→Int
 | []=>0
 | x::l=>x+256*getB l
section
variable {W w : World} {I : Hp} {l : List HP}
theorem St.pt_new {b:Nat} {o:Obj} (h:St W I w (HP.pt b o::l)):W.heap.size≤b:=by
 obtain ⟨k,a,d,h1,h2,_,a',_,p,_⟩:=h.own
 rcases Nat.lt_or_ge b W.heap.size with hlt|hge
 ·have e:W.hp b=some W.heap[b]:=Array.getElem?_eq_getElem hlt
  have h3:=h.base _ _ e
  rcases d b with q|q
  ·rw [h3] at q;cases q
  ·rw [a' _ _ (show h1 b=some o from p)] at q;cases q
 ·exact hge
theorem St.row_new {e:TypeId} {size:Nat} {v:Value} {n:Nat} {xs:List Value} (h:St W I w (HP.row e size v n xs::l)):w.ownsRow W.heap.size e size v n xs:=by
 obtain ⟨hl,⟨p1,p2,_⟩|⟨g,cap,cur,p1,p3,p4,p5,p6,s⟩⟩:=h.row_open
 ·exact ⟨hl,.inl ⟨p1,p2⟩⟩
 ·exact ⟨hl,.inr ⟨g,cap,cur,p1,s.pt_new,s.heap,p3,p4,p5,p6⟩⟩
theorem Zq449 (w:World) (x:Int):SliceSrc (w.alloc (.cells #[.int .u8 x] 5)) 1 (.slice (some ⟨w.heap.size,0,none⟩) 1 1) 1 [.int .u8 x]:=by
 refine ⟨_,_,rfl,⟨rfl,fun _=>⟨_,rfl,fun j u hu=>?_⟩,fun u hu=>by (rw [List.mem_singleton.1 hu];rfl)⟩,fun e=>by cases e⟩
 rw [add_plain,Nat.zero_add,Zq1 (heap_alloc_new _ _) j,←hu]
 simp
set_option maxRecDepth 4000
set_option maxHeartbeats 4000000
theorem Zq628 (v:Value) (b:List Int) (n:Int) (k:Nat) (w:World) (hs:SliceSrc w 1 v b.length (b.map byteV)) (hn0:0≤n) (hn:n<18446744073709551616) (hk1:1≤k) (hk8:k≤8) (hbl:b.length≤1000000) :
  Calls Tryz.prog 128 #[v,.int .u64 n,.int .i64 k] w fun e w'=>∃ v',e=.returned v'∧Below w.heap.size w w'∧w'.ownsRow w.heap.size 5 1 v' (b++putB n k).length ((b++putB n k).map byteV):=by
 have hk1':(1:Int)≤(k:Int):=by omega
 have hk8':(k:Int)≤8:=by omega
 go_enter Tryz.func128,Tryz.ntmps128
 go_wp2_with fail
 refine (Zq24 v b.length (b.map byteV) w hs hbl).mono ?_
 rintro e w1 ⟨v1,rfl,ho1,hb1⟩
 have h1:St w w.hp w1 (HP.row 5 1 v1 b.length (b.map byteV)::[]):=(St.init w).row_fresh hb1 ho1
 obtain ⟨A1,c1,rfl⟩:=Zq17 ho1
 have H1:=Zh h1
 clear h1 ho1 hb1
 go_wp2_with fail
 go_loopw [7,19] (fun a7 a19 wr=>∃ (i:Nat) (A:Option Addr) (c:Nat),a19=.int .i64 i∧a7=.slice A (b++putB n i).length c∧i≤k∧St w w.hp wr (HP.row 5 1 (.slice A (b++putB n i).length c) (b++putB n i).length ((b++putB n i).map byteV)::[])) (fun _ a19 _=>k - (intOf a19).toNat)
 case atStart=>exact ⟨0,A1,c1,rfl,by simp [putB],Nat.zero_le _,by simpa [putB] using H1.out⟩
 case round =>
  obtain ⟨i,A,c,rfl,rfl,hi,hst⟩:=hrel
  by_cases hlt:i<k
  ·have hp:=Zq728 n i
   have hst2:=hst.keep (Zq7 wr (.cells #[.int .u8 (n / 2 ^ (8*i) % 256)] 5))
   have hle:(b++putB n i).length+1≤1000000000:=by rw [List.length_append,Zq33];omega
   obtain ⟨v',w',hr,h2⟩:=St.bytes_append 46 hst2 (Zq449 wr (n / 2 ^ (8*i) % 256)) hle
   obtain ⟨A',c',rfl⟩:=Zq17 h2.row_owns
   have e2:(b++putB n i).length+1=(b++putB n (i+1)).length:=by rw [hp];simp [Nat.add_assoc]
   have e3:(b++putB n i).map byteV++[.int .u8 (n / 2 ^ (8*i) % 256)]=(b++putB n (i+1)).map byteV:=by rw [hp,←List.append_assoc,List.map_append (l₂:=[n / 2 ^ (8*i) % 256])];rfl
   rw [e3,e2] at h2
   rw [e2] at hr
   have HR:=Zh hr
   have H2:=Zh h2
   clear hst hst2 hr h2 hp e2 e3 hle
   go_wp2_with (at_builtin;refine Lib.wpList_append_run _ rfl (.tmp 22) (.tmp 28) 46 46 rfl _ _ rfl rfl _ _ HR.out ?_)
   go_roundw
   case rel=>exact ⟨i+1,A',c',by go_num,by rw [List.length_append],by omega,H2.out⟩
   case measure=>simp [intOf];omega
  ·obtain rfl:i=k:=by omega
   have HST:=Zh hst
   clear hst
   go_wp2_with fail
   go_ret
   refine ⟨_,rfl,HST.out.below,?_⟩
   exact HST.out.row_new
end
end Go.Proofs.YtpjchngjhijgmaaGreat
namespace Go.Proofs.YtpjchngjhijgmaaGreat
open Go.RowKit
def getAt (b:List Int) (at' k:Int):Int × Bool :=
 if k<1∨8<k∨at'<0∨(b.length:Int)<at'∨(b.length:Int) - at'<k then (0,false) else (getB ((b.drop at'.toNat).take k.toNat),true)
theorem Zq776:∀ {l:List Int},(∀ x ∈ l,isByte x)→0≤getB l∧getB l<2 ^ (8*l.length)
 | [],_=>by simp [getB]
 | x::l,h=>by
  have h1:=Zq776 (l:=l) fun y hy=>h y (List.mem_cons_of_mem _ hy)
  have h2:=h x (List.mem_cons_self ..)
  unfold isByte at h2
  have e:(2:Int) ^ (8*(x::l).length)=256*2 ^ (8*l.length):=by
   rw [List.length_cons,show 8*(l.length+1)=8+8*l.length by omega,Int.pow_add]
   rfl
  rw [e,getB]
  omega
theorem Zq491:∀ (l:List Int) (x:Int),getB (l++[x])=getB l+x*2 ^ (8*l.length)
 | [],x=>by simp [getB]
 | y::l,x=>by
  rw [Zl2,getB,Zq491,getB,List.length_cons,show 8*(l.length+1)=8+8*l.length by omega,Int.pow_add]
  rw [show (2:Int) ^ 8=256 by rfl,Int.mul_add,Int.mul_comm x (256*2 ^ (8*l.length)),Int.mul_assoc,Int.mul_comm x]
  omega
theorem Zq894 {n x:Int} {i:Nat} (h0:0≤n) (h1:n<2 ^ (8*i)) (hx0:0≤x) (hx1:x<256) (hi:i<8):bits .or .u64 n (IntKind.u64.wrap (x*2 ^ (8*i)))=n+x*2 ^ (8*i):=by
 obtain ⟨N,rfl⟩:∃ N:Nat,n=N:=⟨n.toNat,by omega⟩
 obtain ⟨X,rfl⟩:∃ X:Nat,x=X:=⟨x.toNat,by omega⟩
 have hN:N<2 ^ (8*i):=by exact_mod_cast h1
 have hX:X<256:=by omega
 have hp:X*2 ^ (8*i)+2 ^ (8*i)≤2 ^ 64:=by
  have h2:2 ^ (8*i)*256≤2 ^ 64:=by
   rw [show (256:Nat)=2 ^ 8 by rfl,←Nat.pow_add]
   exact Nat.pow_le_pow_right (by decide) (by omega)
  have h3:(X+1)*2 ^ (8*i)≤256*2 ^ (8*i):=Nat.mul_le_mul_right _ (by omega)
  rw [Nat.add_mul,Nat.one_mul] at h3
  omega
 have e1:(X:Int)*2 ^ (8*i)=((X*2 ^ (8*i):Nat):Int):=by push_cast;rfl
 rw [e1,IntKind.wrap_u64]
 have e2:((X*2 ^ (8*i):Nat):Int) % 18446744073709551616=((X*2 ^ (8*i):Nat):Int):=by omega
 rw [e2]
 show IntKind.u64.wrap ((BitVec.ofInt 64 (N:Int) ||| BitVec.ofInt 64 ((X*2 ^ (8*i):Nat):Int)).toNat:Nat)=_
 rw [BitVec.toNat_or,BitVec.ofInt_natCast,BitVec.ofInt_natCast,BitVec.toNat_ofNat,BitVec.toNat_ofNat,Nat.mod_eq_of_lt (by omega),Nat.mod_eq_of_lt (by omega),Nat.or_comm,Nat.mul_comm,←Nat.two_pow_add_eq_or_of_lt hN,IntKind.wrap_u64,Nat.mul_comm]
 omega
section
variable {W w : World} {I : Hp} {l : List HP}
set_option maxRecDepth 4000
set_option maxHeartbeats 4000000
theorem Zq629 (v:Value) (b:List Int) (at' k:Nat) (w:World) (hs:SliceSrc w 1 v b.length (b.map byteV)) (hb:∀ x ∈ b,isByte x) (hk1:1≤k) (hk8:k≤8) (hl:at'+k≤b.length) (hbl:b.length≤1000000) :
  Calls Tryz.prog 202 #[v,.int .i64 at',.int .i64 k] w fun e w'=>e=.returned (.tuple #[.int .u64 (getB ((b.drop at').take k)),.bool true])∧w=w':=by
 obtain ⟨A,c,rfl,hsrc,_⟩:=hs
 obtain ⟨g,o,rfl,hlt0,hc⟩:=Zq727 hsrc (by omega)
 have hk1':(1:Int)≤(k:Int):=by omega
 have hk8':(k:Int)≤8:=by omega
 have h1:decide ((at':Int)<0)=false:=by rw [decide_eq_false_iff_not];omega
 have h2:decide (b.length<at')=false:=by rw [decide_eq_false_iff_not];omega
 have h3:IntKind.i64.wrap ((b.length:Int) - (at':Int))=((b.length - at':Nat):Int):=by rw [IntKind.wrap_i64];omega
 have h4:decide (b.length - at'<k)=false:=by rw [decide_eq_false_iff_not];omega
 have HC:=Zh hc
 clear hc hsrc
 go_enter Tryz.func202,Tryz.ntmps202
 go_wp2_with fail
 go_loop [8,35] (fun a8 a35=>∃ i:Nat,i≤k∧a35=.int .i64 i∧a8=.int .u64 (getB ((b.drop at').take i))) (fun _ a35=>k - (intOf a35).toNat)
 case atStart=>exact ⟨0,Nat.zero_le _,rfl,by simp [getB]⟩
 case round =>
  obtain ⟨i,hi,rfl,rfl⟩:=hrel
  by_cases hlt:i<k
  ·obtain ⟨x,hx⟩:∃ x,b[at'+i]?=some x:=⟨_,List.getElem?_eq_getElem (by omega)⟩
   have hxb:=hb x (List.mem_of_getElem? hx)
   unfold isByte at hxb
   have y1:w.cell? ⟨g,o+(at'+i),none⟩=some (.int .u8 x):=HC.out (at'+i) _ (by rw [List.getElem?_map,hx];rfl)
   have hx0:=hxb.1
   have hx1:=hxb.2
   have hi8:(i:Int)<8:=by omega
   have hx':=hx
   have hlt8:i<8:=by omega
   clear hx hxb
   have hgb:=Zq776 (l:=(b.drop at').take i) fun y hy=>hb y (List.mem_of_mem_drop (List.mem_of_mem_take hy))
   have hli:((b.drop at').take i).length=i:=by rw [List.length_take,List.length_drop];omega
   rw [hli] at hgb
   have hor:=Zq894 (i:=i) hgb.1 hgb.2 hx0 hx1 hlt8
   have htk:(b.drop at').take (i+1)=(b.drop at').take i++[x]:=by
    rw [List.take_add_one,List.getElem?_drop,hx']
    rfl
   have hnew:getB ((b.drop at').take (i+1))=getB ((b.drop at').take i)+x*2 ^ (8*i):=by rw [htk,Zq491,hli]
   have HOR:=Zh (hor.trans hnew.symm)
   clear hgb hli hor htk hnew hx'
   go_wp2_with fail
   go_round
   case rel=>exact ⟨i+1,by omega,by go_num,by rw [HOR.out]⟩
   case measure=>simp [intOf];omega
  ·obtain rfl:i=k:=by omega
   go_wp2_with fail
   go_ret2
   exact ⟨rfl,rfl⟩
end
end Go.Proofs.YtpjchngjhijgmaaGreat
namespace Go.Proofs.YtpjchngjhijgmaaGreat
open Go.RowKit
def headB (e:En):List Int:=[72,71,74,69]++putB e.tag 4++putB e.seq 8++putB e.data.length 2++e.data
def Zq46 (e:En):List Int:=headB e++putB (crcOf (headB e)) 4
def En.okB (e:En):Bool:=decide (1≤e.tag∧e.tag≤1073741824∧1≤e.seq∧e.seq≤1099511627776∧1≤e.data.length∧e.data.length≤90)
theorem Zq143 (e:En):(headB e).length=18+e.data.length:=by
 simp [headB,Zq33]
 omega
theorem Zq38 (e:En):(Zq46 e).length=22+e.data.length:=by
 simp [Zq46,Zq143,Zq33]
 omega
end Go.Proofs.YtpjchngjhijgmaaGreat
