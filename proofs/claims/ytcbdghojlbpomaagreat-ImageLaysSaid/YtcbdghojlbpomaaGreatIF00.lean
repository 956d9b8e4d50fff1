import Derived.Lib.Hide
import Derived.Laws.Bits128
import Derived.Maps.AppendAt
import Derived.Laws.AppendOwnNone
import Derived.Deep.AppendLies
import Derived.RegionTactic
import Derived.OwnWalk
import Derived.Below
import Derived.Lib.AppendZerosOnto
import Derived.StillTailTactics
import Derived.BigQuiet
import Derived.Deep.RegionHeld3
import Derived.Control
set_option linter.all false
set_option maxRecDepth 4000
set_option maxHeartbeats 8000000
open Go.RowKit
open Go.IntKind (i64 u64)
open Go.Value (int pointer slice)
open Go.Obj (cells)
namespace Go.Proofs.YtcbdghojlbpomaaGreat
end Go.Proofs.YtcbdghojlbpomaaGreat
namespace Go.RowKit
theorem Hid.o {p:Prop} (h:Hid p):p:=h.out
end Go.RowKit
namespace Go.Proofs.YtcbdghojlbpomaaGreat
universe u
theorem Zh {p : Prop} (h : p) : RowKit.Hid p:=h
theorem Zx {α : Type u} {a : α} {l : List α} {i : Nat} : (a :: l).eraseIdx (i + 1) = a :: l.eraseIdx i:=rfl
theorem Zy {α : Type u} {a : α} {l : List α} : (a :: l).eraseIdx 0 = l:=rfl
theorem ZZ {α : Type u} {a : α} {l m : List α} : (a :: l) ++ m = a :: (l ++ m):=rfl
theorem ZP {α : Type u} (l : List α) : [] ++ l = l:=rfl
theorem Zl {α : Type u} {a b : α} {l : List α} : (a :: l).set 0 b = b :: l:=rfl
theorem Zm {α : Type u} {a b : α} {l : List α} {i : Nat} : (a :: l).set (i + 1) b = a :: l.set i b:=rfl
theorem Zg {α : Type u} {a : α} {l : List α} : (a :: l)[0]? = some a:=rfl
theorem Zi {α : Type u} {a : α} {l : List α} {i : Nat} : (a :: l)[i + 1]? = l[i]?:=rfl
open Go.RowKit
theorem Zn {α:Sort _} (e:α):∃ x,x=e:=⟨e,rfl⟩
set_option linter.defProp false
def Za:=@if_neg
def Zb:=@if_pos
def Ze:=@decide_eq_true_eq
def Zk:=@decide_eq_false_iff_not
def Zo:=@List.setIfInBounds_toArray
def Zu:=@NoPanic.normal
def ZA:=@List.length_append
def ZE:=@List.length_map
def ZF:=@Value.slice.injEq
def ZH:=@List.mem_map
def ZK:=@true_and
def ZL:=@List.getElem?_eq_getElem
def ZN:=@List.length_take
def ZO:=@List.mem_cons
def ZQ:=@Nat.le_trans
def ZR:=@Below.refl
def ZS:=@List.getElem?_eq_some_iff
def ZY:=@List.mem_append
def Z0:=@List.mem_cons_self
def Z1:=@List.mem_filter
def Z2:=@IntKind.wrap_i64
def Z4:=@List.map_append
def Z8:=@List.mem_cons_of_mem
def Z9:=@Nat.le_refl
def Zad:=@List.Perm.refl
def Zae:=@and_true
def Zah:=@Option.some.injEq
def Zai:=@Bool.eq_iff_iff
def Zak:=@Bool.and_eq_true
def Zam:=@List.append_assoc
def Zar:=@Nat.zero_add
def Zas:=@List.length_drop
def Zat:=@List.length_cons
def Zau:=@if_false
def Zav:=@List.map_cons
def Zaw:=@if_true
def Zax:=@Lib.wpList_append_run
def Zay:=@List.mem_of_getElem?
def Zaz:=@List.mem_singleton
def ZaH:=@List.length_nil
def ZaI:=@wpStill_nil
def ZaJ:=@List.flatMap_cons
def ZaK:=@bodyPost_ret
def ZaM:=@List.filter_cons
def ZaN:=@List.getElem?_map
def ZaS:=@Bool.false_eq_true
def ZaT:=@Nat.mul_one
def ZaU:=@Nat.mod_lt
def ZaY:=@Nat.zero_le
def Za3:=@run_underlying
def Za7:=@List.length_replicate
def Za8:=@List.mem_range
def Za9:=@List.nodup_cons
def Zba:=@Prod.mk.injEq
def Zbb:=@Option.map_some
def Zbf:=@Nat.eq_zero_or_pos
def Zbg:=@Nat.add_zero
def Zbh:=@heap_alloc_new
def Zbi:=@List.length_filter_le
def Zbj:=@Nat.add_mul
def Zbk:=@List.take_length
def Zby:=@Array.getElem?_eq_some_iff
def Zbz:=@List.mem_map_of_mem
def ZbF:=@List.getD_eq_getElem?_getD
def ZbG:=@List.take_succ_eq_append_getElem
def ZbH:=@decide_eq_false
def ZbR:=@Bool.true_and
def ZbZ:=@List.eq_nil_of_length_eq_zero
def Zb0:=@Nat.zero_mul
def Zb1:=@List.getElem?_eq_none
def Zb2:=@World.size_alloc
def Zb3:=@Nat.add_assoc
def Zb4:=@Option.some.inj
def Zb8:=@List.perm_middle
def Zb9:=@List.getElem?_drop
def Zca:=@List.filter_append
def Zcb:=@decide_eq_true
def Zcc:=@Nat.mul_comm
def Zci:=@List.getElem?_take
def Zcj:=@Nat.mul_le_mul_right
def Zck:=@Int.le_refl
def Zcl:=@Nat.div_add_mod
def Zcw:=@List.all_eq_true
def Zcx:=@wpOp_mono
def Zcy:=@List.filter_eq_self
def Zcz:=@List.mem_flatMap
def ZcP:=@List.filter_map
def ZcQ:=@or_false
def ZcR:=@List.map_take
def ZcS:=@List.drop_of_length_le
def ZcT:=@Int.toNat_natCast
def ZcU:=@List.pairwise_cons
def ZcV:=@Nat.le_add_right
def ZcW:=@List.contains_iff_mem
def ZcX:=@List.flatMap_append
def Zc6:=@List.map_nil
def Zc7:=@List.size_toArray
def Zc8:=@List.getElem?_of_mem
def Zc9:=@not_true_eq_false
def Zda:=@List.getElem?_append_left
def Zdb:=@List.map_drop
def Zdc:=@Option.isSome_some
def Zdd:=@List.getElem?_range
def Zde:=@List.length_set
def ZdC:=@Array.length_toList
def ZdD:=@List.map_map
def ZdE:=@List.not_mem_nil
def ZdF:=@List.getElem?_append_right
def ZdG:=@List.append_nil
def ZdH:=@List.take_append_drop
def ZdI:=@List.drop_eq_getElem_cons
def ZdJ:=@Option.isSome_none
def ZdK:=@Option.isSome_iff_exists
def ZdY:=@List.filter_filter
def ZdZ:=@List.filter_cons_of_neg
def Zd0:=@List.cons.injEq
def Zd1:=@List.sum_cons
def Zd2:=@List.filter_eq_nil_iff
def Zd3:=@List.mem_of_mem_take
def Zd4:=@List.pairwise_append
def Zd5:=@Value.pointer.injEq
def Zd6:=@List.filter_congr
def Zd7:=@List.mem_of_find?_eq_some
def Zd8:=@Nat.one_mul
def Zd9:=@List.getElem?_replicate
def Zes:=@List.perm_append_comm
def Zet:=@List.mem_append_left
def Zeu:=@Bool.eq_false_iff
def Zev:=@List.take_take
def Zew:=@List.take_of_length_le
def Zex:=@Nat.min_eq_left
def Zey:=@List.eraseIdx_eq_take_drop_succ
def Zez:=@List.take_left'
def ZeA:=@Option.getD_some
def ZeB:=@List.length_pos_iff
def ZeC:=@Nat.pow_add
def ZeD:=@List.map_congr_left
def ZeE:=@List.length_range
def ZeF:=@Nat.mul_le_mul
def ZeG:=@Int.natCast_add
def Zfg:=@Bool.or_eq_true
def Zfh:=@Array.getElem?_eq_getElem
def Zfi:=@World.ownsRow_nil
def Zfj:=@List.mem_append_right
def Zfk:=@beq_eq_false_iff_ne
def Zfl:=@List.take_append
def Zfm:=@Nat.sub_self
def Zfn:=@List.filter_cons_of_pos
def Zfo:=@List.find?_eq_none
def Zfp:=@Nat.div_le_self
def Zgm:=@List.take_left
def Zgn:=@Nat.lt_of_lt_of_le
def Zgo:=@List.nodup_append
def Zgp:=@List.ext_getElem?
def Zgq:=@List.map_replicate
def Zgr:=@Bool.not_eq_true'
def Zgs:=@List.pairwise_singleton
def Zgt:=@List.find?_append
def Zgu:=@Nat.mod_eq_of_lt
def Zgv:=@List.find?_cons_of_neg
def Zgw:=@Nat.pow_le_pow_right
def Zgx:=@List.drop_left
def Zh4:=@List.ext_getElem
def Zh5:=@Array.getElem?_toList
def Zh6:=@List.getElem?_set
def Zh7:=@List.filter_append_perm
def Zh8:=@World.block_lt_of_cell?
def Zh9:=@not_false_eq_true
def Zia:=@List.pairwise_iff_getElem
def Zib:=@List.Pairwise.filter
def Zic:=@List.find?_cons_of_pos
def Zid:=@List.getElem?_take_of_lt
def Zie:=@List.length_singleton
def Zif:=@BitVec.ofInt_natCast
def Zig:=@BitVec.toNat_ofNat
def Zih:=@Int.natCast_mul
def Zii:=@Int.natCast_emod
def Zij:=@Array.getD_eq_getD_getElem?
def Zik:=@List.replicate_zero
def ZlA:=@Nat.and_two_pow_sub_one_eq_mod
def ZlB:=@List.eraseIdx_sublist
def ZlC:=@List.getLast?_eq_none_iff
def ZlD:=@List.getLast?_eq_some_iff
theorem ZgD (n:Int) (m i:Nat) (hm:(BitVec.ofInt 64 (m:Int)).toNat=2 ^ i - 1) :
  (BitVec.ofInt 64 n &&& BitVec.ofInt 64 (m:Int)).toNat=(n % ((2 ^ 64:Nat):Int)).toNat % 2 ^ i:=by
 rw [BitVec.toNat_and,BitVec.toNat_ofInt,hm,ZlA]
theorem Zkr (n:Int):bits .and i64 n 3=n % 4:=by
 show IntKind.i64.wrap ((BitVec.ofInt 64 n &&& BitVec.ofInt 64 ((3:Nat):Int)).toNat:Nat)=n % 4;rw [ZgD n 3 2 (by decide),Z2];omega
theorem Zm0 (n:Int):bits .and i64 n 255=n % 256:=by
 show IntKind.i64.wrap ((BitVec.ofInt 64 n &&& BitVec.ofInt 64 ((255:Nat):Int)).toNat:Nat)=n % 256;rw [ZgD n 255 8 (by decide),Z2];omega
end Go.Proofs.YtcbdghojlbpomaaGreat
namespace Go.Proofs.YtcbdghojlbpomaaGreat
open Go.RowKit
structure SrcAt (w:World) (size:Nat) (A:Option Addr) (m:Nat) (news:List Value):Prop where
 len:news.length=m*size
 cells:0<m->∃ ad,A=some ad∧∀ j u,news[j]?=some u->w.cell? (ad.add j)=some u
 one:∀ u ∈ news,u.oneCell'=true
section
variable {P : Program} (w : World)
theorem Zdf (base:Nat) (t ty e:TypeId) (i:TypeInfo) (z:Value) (size bytes:Nat) (ht:P.underlying t=some (.slice e)) (hi:P.info? e=some i) (hz:i.zero=some z)
  (hsize:i.size=size) (hby:i.bytes=bytes) (hzs:z.cells.size=size) (hsz:0<size)
  (v:Value) (n:Nat) (xs:List Value) (hown:w.ownsRow base e size v n xs)
  (A:Option Addr) (m c:Nat) (news:List Value) (hs:SrcAt w size A m news) (hA:A=none->c=0)
  (h63:n+m<=maxLen) (hbytes:(n+m)*bytes<=140737488355328) (hbase:base<=w.heap.size) :
  ∃ v' w',(Builtin.append_ #[t,t] ty #[v,slice A m c]).run P w=.ok v' w'∧w'.ownsRow base e size v' (n+m) (xs++news)∧w.grownBy w' v.ownBlock ∧
   (v'.ownBlock=v.ownBlock∨v'.ownBlock=some w.heap.size):=by
 cases A with
 | none =>
  have h0:m=0:=by
   rcases Zbf m with h|h
   ·exact h
   ·obtain ⟨_,e,_⟩:=hs.cells h;cases e
  subst h0;obtain rfl:=hA rfl;have hn:news=[]:=ZbZ (by rw [hs.len,Zb0]);subst hn;exact ⟨v,w,run_append_owned_none (P:=P) (w:=w) base t ty e i size ht hi v n xs hown,by simpa using hown,World.grownBy.refl w _,.inl rfl⟩
 | some ad =>
  have hn:∀ j u,news[j]?=some u->w.cell? (ad.add j)=some u:=fun j u hu=>by
   have hm:0<m:=by
    rcases Zbf m with h|h
    ·subst h;have:news=[]:=ZbZ (by rw [hs.len,Zb0]);subst this;cases hu
    ·exact h
   obtain ⟨_,e,hc⟩:=hs.cells hm;cases e;exact hc j u hu
  obtain ⟨v',w',hr,h2,h3,_,h5⟩:=run_append_own_at (P:=P) w base t ty e i z size bytes ht hi hz hsize hby hzs hsz v n xs hown ad m c news hs.len hn hs.one h63 hbytes hbase;exact ⟨v',w',hr,h2,h3,h5⟩
theorem ZlM {o:Oper} {a:Act} {K:Act->World->Prop} {Q:Exit->Act->World->Prop} (s x:Operand) (t:TypeId)
  (ho:o.op=.call { callee:=.builtin .append,args:=#[s,x],argTypes:=#[t,t] })
  (base:Nat) (e:TypeId) (i:TypeInfo) (z:Value) (size bytes:Nat) (ht:P.underlying t=some (.slice e)) (hi:P.info? e=some i) (hz:i.zero=some z)
  (hsize:i.size=size) (hby:i.bytes=bytes) (hzs:z.cells.size=size) (hsz:0<size)
  (v:Value) (n:Nat) (xs:List Value) (hs:a.eval s=v) (hown:w.ownsRow base e size v n xs)
  (A:Option Addr) (m c:Nat) (news:List Value) (hx:a.eval x=slice A m c) (hsrc:SrcAt w size A m news) (hA:A=none->c=0)
  (h63:n+m<=maxLen) (hbytes:(n+m)*bytes<=140737488355328) (hbase:base<=w.heap.size)
  (h:∀ v' w',w'.ownsRow base e size v' (n+m) (xs++news)->w.grownBy w' v.ownBlock->(v'.ownBlock=v.ownBlock∨v'.ownBlock=some w.heap.size)->K (a.put o.dst v') w'):o.wp P a w K Q:=by
 obtain ⟨v',w',hr,h2,h3,h4⟩:=Zdf (P:=P) w base t o.type e i z size bytes ht hi hz hsize hby hzs hsz v n xs hown A m c news hsrc hA h63 hbytes hbase;unfold Oper.wp execOp;simp only [ho,resolve,invoke,builtin,Sem.run_bind,Sem.run_pure,Result.andThen_ok,List.map_toArray,Zav,Zc6,hs,hx,hr];exact h v' w' h2 h3 h4
theorem Zgy {ops:Array Oper} {rest:List Oper} {o:Oper} {a:Act} {Q:Exit->Act->World->Prop} (hgd:o.guard=none) (s x:Operand) (t:TypeId)
  (ho:o.op=.call { callee:=.builtin .append,args:=#[s,x],argTypes:=#[t,t] })
  (base:Nat) (e:TypeId) (i:TypeInfo) (z:Value) (size bytes:Nat) (ht:P.underlying t=some (.slice e)) (hi:P.info? e=some i) (hz:i.zero=some z)
  (hsize:i.size=size) (hby:i.bytes=bytes) (hzs:z.cells.size=size) (hsz:0<size)
  (v:Value) (n:Nat) (xs:List Value) (hs:a.eval s=v) (hown:w.ownsRow base e size v n xs)
  (A:Option Addr) (m c:Nat) (news:List Value) (hx:a.eval x=slice A m c) (hsrc:SrcAt w size A m news) (hA:A=none->c=0)
  (h63:n+m<=maxLen) (hbytes:(n+m)*bytes<=140737488355328) (hbase:base<=w.heap.size)
  (h:∀ v' w',w'.ownsRow base e size v' (n+m) (xs++news)->w.grownBy w' v.ownBlock->(v'.ownBlock=v.ownBlock∨v'.ownBlock=some w.heap.size)->wpList P ops Q rest (a.put o.dst v') w'):wpList P ops Q (o::rest) a w :=
 wpList_plain hgd fun _ hK=>ZlM w s x t ho base e i z size bytes ht hi hz hsize hby hzs hsz v n xs hs hown A m c news hx hsrc hA h63 hbytes hbase fun v' w' h2 h3 h4=>hK _ _ (h v' w' h2 h3 h4)
end
end Go.Proofs.YtcbdghojlbpomaaGreat
namespace Go.Proofs.YtcbdghojlbpomaaGreat
open Go.RowKit
section
variable {P : Program} (w : World)
theorem ZlG (base:Nat) (t tn ty e:TypeId) (i:TypeInfo) (z:Value) (kq kn:IntKind) (ht:P.underlying t=some (.slice e)) (htn:P.underlying tn=some (.int kn)) (hi:P.info? e=some i) (hz:i.zero=some z)
  (hsize:i.size=1) (hby:i.bytes=1) (hzc:z.cells=#[z]) (hz1:z.oneCell'=true)
  (v:Value) (n:Nat) (xs:List Value) (hown:w.ownsRow base e 1 v n xs) (m:Nat)
  (h63:n+m<=maxLen) (hbytes:n+m<=140737488355328) (hbase:base<=w.heap.size) :
  ∃ v' w',(Builtin.append_ #[t,tn] ty #[v,int kq m]).run P w=.ok v' w'∧w'.ownsRow base e 1 v' (n+m) (xs++List.replicate m z)∧w.grownBy w' v.ownBlock∧(v'.ownBlock=v.ownBlock∨v'.ownBlock=some w.heap.size):=by
 have hzl:∀ k,(Builtin.zeroCells z.cells k).toList=List.replicate k z:=fun k=>by
  rw [hzc];apply Zh4
  ·simp [Builtin.zeroCells]
  ·intro i h1 h2;simp [Builtin.zeroCells,Nat.mod_one]
 have hsmall:n+m<=9223372036854775807:=by simp only [maxLen] at h63;omega
 have hlen:(xs++List.replicate m z).length=(n+m)*1:=by rw [ZA,hown.1,Za7];omega
 have grown:∀ (old:Nat) (row:Option Nat),
   (w.drew.alloc (cells (xs.toArray++Builtin.zeroCells z.cells m++Builtin.zeroCells z.cells (grownCap w (n+m) old e - (n+m))) e)).ownsRow base e 1
    (slice (some ⟨w.heap.size,0,none⟩) (n+m) (grownCap w (n+m) old e)) (n+m) (xs++List.replicate m z) ∧
   w.grownBy (w.drew.alloc (cells (xs.toArray++Builtin.zeroCells z.cells m++Builtin.zeroCells z.cells (grownCap w (n+m) old e - (n+m))) e)) row:=by
  intro old row;have hge:=grownCap_ge w (n+m) old e;have hcm:grownCap w (n+m) old e<=maxLen:=grownCap_le_maxLen w (n+m) old e h63;refine ⟨⟨hlen,.inr ⟨w.heap.size,_,_,rfl,hbase,Zbh w.drew _,hge,hcm,?_,?_⟩⟩,⟨rfl,rfl,rfl,by simp,fun k hk _=>heap_alloc_old w.drew _ k hk⟩⟩
  ·have h1:=hown.1;simp only [Array.size_append,Zc7,size_zeroCells,hzc,Zc7];simp;omega
  ·simp only [Array.toList_append,hzl,Zam];rw [<-Zam,<-hlen];exact Zgm
 by_cases hm:m=0
 ·subst hm;have hw:IntKind.i64.wrap ((0:Nat):Int)=0:=by rw [Z2];omega
  refine ⟨v,w,?_,by simpa using hown,World.grownBy.refl w _,.inl rfl⟩;rcases hown.2 with ⟨rfl,rfl⟩|⟨g,cap,cur,rfl,hbg,hg,hnc,hcm,hcs,htake⟩
  ·simp [Builtin.append_,Za3 ht,Za3 htn,sizeOf,typeInfo,hi,asInt,asIntOf,Z2]
  ·simp [Builtin.append_,Za3 ht,Za3 htn,sizeOf,typeInfo,hi,asInt,asIntOf,Z2,hnc,storeCells]
 ·rcases hown.2 with ⟨rfl,rfl⟩|⟨g,cap,cur,rfl,hbg,hg,hnc,hcm,hcs,htake⟩
  ·have hx:xs=[]:=ZbZ (by simpa using hown.1);subst hx;have hr:=Lib.run_append_nil_zeros (P:=P) w t tn ty e i z kq kn ht htn hi hz m (by omega) (by omega) (by omega) (by rw [hby];omega);have hgr:=grown 0 (Value.ownBlock (slice none 0 0));simp only [Zar,ZP,Array.empty_append] at hgr |-;exact ⟨_,_,hr,hgr.1,hgr.2,Or.inr rfl⟩
  ·by_cases hroom:n+m<=cap
   ·have hw:IntKind.i64.wrap (m:Int)=m:=by rw [Z2];omega
    have hneg:¬ ((m:Int)<0):=by omega
    have h48:¬ (281474976710656<(m:Int)):=by omega
    have hst:=run_storeCells_at P g n e (List.replicate m z) 0 cur w hg (by simp;omega) (by intro u hu;rw [List.eq_of_mem_replicate hu];exact hz1);simp only [Zbg,Za7] at hst;have hr:(Builtin.append_ #[t,tn] ty #[slice (some ⟨g,0,none⟩) n cap,int kq m]).run P w=.ok (slice (some ⟨g,0,none⟩) (n+m) cap) (w.setRow g (cur.toList.take n++List.replicate m z++cur.toList.drop (n+m)).toArray):=by
     simp [Builtin.append_,Za3 ht,Za3 htn,sizeOf,typeInfo,zeroValue,hi,hz,hsize,hby,asInt,asIntOf,hw,hneg,h48,hm,hroom,hzl,Addr.add_lit,hst]
    refine ⟨_,_,hr,⟨hlen,.inr ⟨g,cap,_,rfl,hbg,setRow_heap w g cur _ e _ hg,hroom,hcm,?_,?_⟩⟩,⟨rfl,rfl,rfl,by simp,fun k _ hk=>setRow_other w g k _ (fun e=>hk (by simp [Value.ownBlock,e]))⟩,Or.inl rfl⟩
    ·simp only [Zc7,ZA,ZN,Zas,ZdC,Za7];omega
    ·have ht':cur.toList.take n=xs:=by simpa using htake
     rw [ht',<-hlen];exact Zgm
   ·have holds:∀ j u,xs[j]?=some u->w.cell? ((⟨g,0,none⟩:Addr).add j)=some u:=hown.cells (g:=g) rfl;have hr:=Lib.run_append_grow_zeros (P:=P) w t tn ty e i z kq kn ht htn hi hz (some ⟨g,0,none⟩) n cap xs (by rw [hsize];exact run_firstCells_some w.drew 1 n _ n cap xs hown.1 holds) m (by omega) (by omega) (by omega) (by omega) (by rw [hby];omega) (growslice_fits (by omega) (by rw [hby];omega));have hgr:=grown cap (Value.ownBlock (slice (some ⟨g,0,none⟩) n cap));exact ⟨_,_,hr,hgr.1,hgr.2,Or.inr rfl⟩
theorem ZlF {ops:Array Oper} {o:Oper} {a:Act} {K:Act->World->Prop} {Q:Exit->Act->World->Prop} {E:Prop} (hgd:o.guard=none) (s x:Operand) (t tn:TypeId)
  (ho:o.op=.call { callee:=.builtin .append,args:=#[s,x],argTypes:=#[t,tn] })
  (base:Nat) (e:TypeId) (i:TypeInfo) (z:Value) (kq kn:IntKind) (ht:P.underlying t=some (.slice e)) (htn:P.underlying tn=some (.int kn)) (hi:P.info? e=some i) (hz:i.zero=some z)
  (hsize:i.size=1) (hby:i.bytes=1) (hzc:z.cells=#[z]) (hz1:z.oneCell'=true)
  (v:Value) (n:Nat) (xs:List Value) (hs:a.eval s=v) (hown:w.ownsRow base e 1 v n xs) (m:Nat) (hx:a.eval x=int kq m)
  (h63:n+m<=maxLen) (hbytes:n+m<=140737488355328) (hbase:base<=w.heap.size)
  (h:∀ v' w',w'.ownsRow base e 1 v' (n+m) (xs++List.replicate m z)->w.grownBy w' v.ownBlock->(v'.ownBlock=v.ownBlock∨v'.ownBlock=some w.heap.size)->K (a.put o.dst v') w') :
  if Region.wanted o (yielded ops a.tmps)=true then Oper.wp P o a w K Q else E:=by
 rw [Zb (by simp [Region.wanted,hgd])];obtain ⟨v',w',hr,h2,h3,h4⟩:=ZlG (P:=P) w base t tn o.type e i z kq kn ht htn hi hz hsize hby hzc hz1 v n xs hown m h63 hbytes hbase;exact Lib.wp_append_run w s x t tn ho v (int kq m) hs hx v' w' hr (h v' w' h2 h3 h4)
end
end Go.Proofs.YtcbdghojlbpomaaGreat
namespace Go.Proofs.YtcbdghojlbpomaaGreat
open Go.RowKit
section
variable {P : Program} {ops : Array Oper} {md : Region.Mode} {w : World}
def Zdv (P:Program) (ops:Array Oper) (K:Act->Prop):List Oper->Act->Prop
 | [],a=>K a
 | o::l,a=>∃ v,Yields P ops o v a∧Zdv P ops K l (a.put o.dst v)
theorem ZaB {K:Act->Prop} {a:Act} (h:K a):Zdv P ops K [] a:=h
theorem ZaA {K:Act->Prop} {a:Act} {o:Oper} {l:List Oper} (v:Value) (hy:Yields P ops o v a) (h:Zdv P ops K l (a.put o.dst v)):Zdv P ops K (o::l) a:=⟨v,hy,h⟩
def ShutDown (md:Region.Mode) (ops:Array Oper) (listed:Array Bool):Prop :=
 ∀ j o,ops[j]?=some o->listed.getD j false=true->∀ e ∈ o.after,Region.binds md e=true->listed.getD e.on false=true
theorem Zdg {listed:Array Bool} {i:Nat} (h:listed.getD i true=false):listed.getD i false=false:=by
 by_cases hi:i<listed.size
 ·simpa [hi] using h
 ·simp [Array.getElem?_eq_none (Nat.le_of_not_lt hi)]
theorem ShutDown.start (n:Nat):ShutDown md ops (Array.replicate n false):=fun j _ _ h=>by
 exfalso;by_cases hj:j<n
 ·simp [hj] at h
 ·simp [hj] at h
theorem ShutDown.next {listed:Array Bool} {i:Nat} (h:ShutDown md ops listed) (hi:i ∈ Region.ready md ops listed):ShutDown md ops (listed.setIfInBounds i true):=fun j o ho hl e he hb=>by
 by_cases hij:i=j
 ·subst hij;obtain ⟨_,o',ho',hall⟩:=mem_ready.1 hi;rw [ho] at ho';cases ho';exact getD_set_true (hall e he hb)
 ·rw [getD_set_ne false hij] at hl;exact getD_set_true (h j o ho hl e he hb)
def reaches (md:Region.Mode) (ops:Array Oper) (i:Nat):Nat->Nat->Bool
 | 0,_=>false
 | f+1,t=>match ops[t]? with
  | some o=>o.after.any fun e=>Region.binds md e&&(e.on==i||reaches md ops i f e.on)
  | none=>false
theorem ZeH {listed:Array Bool} {i:Nat} (h:ShutDown md ops listed):∀ (f t:Nat),(∀ o,ops[t]?=some o->∀ e ∈ o.after,Region.binds md e=true->listed.getD e.on false=true) ->
  reaches md ops i f t=true->listed.getD i false=true
 | 0,_,_,hr=>by cases hr
 | f+1,t,ht,hr=>by
  unfold reaches at hr;split at hr
  ·rename_i o ho;obtain ⟨e,he,hb⟩:=Array.any_eq_true'.1 hr;simp only [Zak,Zfg,beq_iff_eq] at hb;have h1:=ht o ho e he hb.1;rcases hb.2 with h2|h2
   ·rw [<-h2];exact h1
   ·exact ZeH h f e.on (fun o' ho'=>h e.on o' ho' h1) h2
  ·cases hr
def Zfb (P:Program) (md:Region.Mode) (ops:Array Oper) (w:World) (M:Nat->Bool) (L:Array Bool->Act->Prop):Nat->Array Bool->Act->Prop
 | 0,listed,a=>L listed a
 | f+1,listed,a=>Region.ready md ops listed≠[]∧∀ i ∈ Region.ready md ops listed,M i=true∧stOp P ops w i (Zfb P md ops w M L f (listed.setIfInBounds i true)) a
theorem Zim {M:Nat->Bool} {L:Array Bool->Act->Prop} {Q:Exit->Act->World->Prop} {g:Nat} (hL:∀ listed a,L listed a->wpAny P md ops Q g listed a w) :
  ∀ (f:Nat) (listed:Array Bool) (a:Act),Zfb P md ops w M L f listed a->wpAny P md ops Q (f+g) listed a w
 | 0,listed,a,h=>by rw [Zar];exact hL _ _ h
 | f+1,listed,a,h=>by
  rw [show f+1+g=(f+g)+1 by omega];exact ⟨fun h0=>absurd h0 h.1,fun i hi=>wpOp_of_stOp (fun a' h'=>Zim hL f _ a' h') (h.2 i hi).2⟩
def Zh2 (md:Region.Mode) (ops:Array Oper) (M:Nat->Bool) (l0:Array Bool):Prop :=
 ∀ listed,ShutDown md ops listed->(∀ j,l0.getD j false=true->listed.getD j false=true)->∀ i,M i=true->listed.getD i true=false->∀ t ∈ Region.ready md ops listed,M t=true
theorem ZlN {M:Nat->Bool} {l0:Array Bool} {L:Array Bool->Act->Prop} {i:Nat} {oi:Oper} {v:Value} (hi:ops[i]?=some oi) (hsel:∀ (j:Nat) (o:Oper) cs b,ops[j]?=some o->o.op≠.select cs b)
  (hM:M i=true) (hG:Zh2 md ops M l0) (hL:∀ listed a,L listed a->∀ j ∈ Region.ready md ops listed,M j=false) :
  ∀ (f:Nat) (listed:Array Bool) (a:Act),ShutDown md ops listed->(∀ j,l0.getD j false=true->listed.getD j false=true) ->
   (∀ j oj,ops[j]?=some oj->j≠i->listed.getD j true=false->(∀ e ∈ oj.after,Region.binds md e=true->e.on≠i)->oi.apart ops oj=true) ->
   i ∈ Region.ready md ops listed->YieldsAt P ops w oi v a ->
   Zfb P md ops w M L f (listed.setIfInBounds i true) (a.put oi.dst v)->Zfb P md ops w M L (f+1) listed a:=by
 intro f;induction f with
 | zero =>
  intro listed a hs h0 _ hr hy H;refine ⟨fun h=>(by rw [h] at hr;cases hr),fun j hj=>?_⟩;have hMj:=hG listed hs h0 i hM (mem_ready.1 hr).1 j hj;refine ⟨hMj,?_⟩;by_cases hji:j=i
  ·subst hji;exact hy.stOp hi H
  ·have:=hL _ _ H j (ready_mono hj hji);rw [hMj] at this;cases this
 | succ f ih =>
  intro listed a hs h0 hfree hr hy H;have hun:=(mem_ready.1 hr).1;refine ⟨fun h=>(by rw [h] at hr;cases hr),fun j hj=>?_⟩;refine ⟨hG listed hs h0 i hM hun j hj,?_⟩;by_cases hji:j=i
  ·subst hji;exact hy.stOp hi H
  ·obtain ⟨hjun,oj,hoj,hall⟩:=mem_ready.1 hj;have hnot:∀ e ∈ oj.after,Region.binds md e=true->e.on≠i:=fun e he hb heq=>by
    have h2:=hall e he hb;rw [heq,Zdg hun] at h2;cases h2
   have h3:=stOp_put hoj (hfree j oj hoj hji hjun hnot) (fun cs b=>hsel i oi cs b hi) (fun cs b=>hsel j oj cs b hoj) hy (H.2 j (ready_mono hj hji)).2;refine stOp_mono (fun a' h4=>?_) h3;refine ih (listed.setIfInBounds j true) a' (hs.next hj) (fun k hk=>getD_set_true (h0 k hk)) (fun k ok hk hki hkun hno=>hfree k ok hk hki ?_ hno) (ready_mono hr (Ne.symm hji)) h4.1 ?_
   ·by_cases hjk:j=k
    ·subst hjk;exact hjun
    ·rwa [getD_set_ne true hjk] at hkun
   ·rw [Array.setIfInBounds_comm _ _ hji];exact h4.2
def Zbd (md:Region.Mode) (ops:Array Oper):List Nat->Array Bool->Bool
 | [],_=>true
 | k::l,listed=>(Region.ready md ops listed).contains k&&Region.free md ops listed k&&Zbd md ops l (listed.setIfInBounds k true)
def Zal:List Nat->Array Bool->Array Bool
 | [],listed=>listed
 | k::l,listed=>Zal l (listed.setIfInBounds k true)
def tailB (md:Region.Mode) (ops:Array Oper):List Nat->Array Bool->Bool
 | [],listed=>(Region.ready md ops listed).isEmpty
 | k::l,listed=>decide (Region.ready md ops listed=[k])&&tailB md ops l (listed.setIfInBounds k true)
def Zgj (md:Region.Mode) (ops:Array Oper) (M:Nat->Bool) (head:List Nat) (l0:Array Bool):Bool :=
 (List.range ops.size).all fun t=>l0.getD t false||M t||head.all fun k=>reaches md ops k ops.size t
def pickL (l:List Oper):List Nat->List Oper
 | []=>[]
 | k::ks=>match l[k]? with
  | some o=>o::pickL l ks
  | none=>pickL l ks
def planB (md:Region.Mode) (l:List Oper) (early head tail:List Nat):Bool :=
 Region.noSelect l.toArray&&Zbd md l.toArray early (Array.replicate l.length false)&&Zbd md l.toArray head (Zal early (Array.replicate l.length false)) &&
  Zgj md l.toArray (fun t=>head.contains t) head (Zal early (Array.replicate l.length false))&&tailB md l.toArray tail (Zal head (Zal early (Array.replicate l.length false))) &&
  decide (early.length+(head.length+tail.length)=l.length)&&tail.all (fun t=>!head.contains t)
theorem ZcF {listed:Array Bool} {k:Nat} (h:k ∈ Region.ready md ops listed):∃ o,ops[k]?=some o:=by
 obtain ⟨_,o,ho,_⟩:=mem_ready.1 h;exact ⟨o,ho⟩
theorem ZgL {Q:Exit->Act->World->Prop} {l:List Oper} {K:Act->Prop} {g:Nat} (hsel:Region.noSelect l.toArray=true) (hQ:∀ c (a:Act) d v w,Q (.panic c) (a.put d v) w->Q (.panic c) a w) :
  ∀ (ks:List Nat) (listed:Array Bool) (a:Act),Zbd md l.toArray ks listed=true->(∀ a',K a'->wpAny P md l.toArray Q g (Zal ks listed) a' w)->Zdv P l.toArray K (pickL l ks) a ->
  wpAny P md l.toArray Q (ks.length+g) listed a w
 | [],listed,a,_,hK,h=>by rw [ZaH,Zar];exact hK a h
 | k::ks,listed,a,hB,hK,h=>by
  simp only [Zbd,Zak] at hB;obtain ⟨⟨hr,hf⟩,hB'⟩:=hB;have hr':k ∈ Region.ready md l.toArray listed:=by simpa using hr
  obtain ⟨o,ho⟩:=ZcF hr';have ho':l[k]?=some o:=by simpa using ho
  have e:pickL l (k::ks)=o::pickL l ks:=by simp [pickL,ho']
  rw [e] at h;obtain ⟨v,hy,h⟩:=h;rw [Zat,show ks.length+1+g=(ks.length+g)+1 by omega];exact wpAny_first ho (Region.noSelect_spec hsel) (fun c a w=>hQ c a _ _ w) _ listed a w (Region.free_spec ho hf) hr' hy (ZgL hsel hQ ks _ _ hB' hK h)
theorem Ziv {l:List Oper} {M:Nat->Bool} {l0:Array Bool} {K:Act->Prop} {L:Array Bool->Act->Prop} (hsel:Region.noSelect l.toArray=true) (hG:Zh2 md l.toArray M l0) (hL:∀ listed a,L listed a->∀ j ∈ Region.ready md l.toArray listed,M j=false) :
  ∀ (ks:List Nat) (listed:Array Bool) (a:Act),(∀ k ∈ ks,M k=true)->ShutDown md l.toArray listed->(∀ j,l0.getD j false=true->listed.getD j false=true)->Zbd md l.toArray ks listed=true ->
  (∀ a',K a'->L (Zal ks listed) a')->wpStill P l.toArray w K (pickL l ks) a->Zfb P md l.toArray w M L ks.length listed a
 | [],listed,a,_,_,_,_,hK,h=>hK a h
 | k::ks,listed,a,hM,hs,h0,hB,hK,h=>by
  simp only [Zbd,Zak] at hB;obtain ⟨⟨hr,hf⟩,hB'⟩:=hB;have hr':k ∈ Region.ready md l.toArray listed:=by simpa using hr
  obtain ⟨o,ho⟩:=ZcF hr';have ho':l[k]?=some o:=by simpa using ho
  have e:pickL l (k::ks)=o::pickL l ks:=by simp [pickL,ho']
  rw [e] at h;have hst:stOp P l.toArray w k (wpStill P l.toArray w K (pickL l ks)) a:=by unfold stOp;simp only [ho];exact h
  obtain ⟨v,hy,hK'⟩:=yieldsAt_of_stOp ho hst;exact ZlN ho (Region.noSelect_spec hsel) (hM k (Z0 ..)) hG hL ks.length listed a hs h0 (Region.free_spec ho hf) hr' hy
   (Ziv hsel hG hL ks _ _ (fun j hj=>hM j (Z8 _ hj)) (hs.next hr') (fun j hj=>getD_set_true (h0 j hj)) hB' hK hK')
theorem ZgY {Q:Exit->Act->World->Prop} {l:List Oper}:∀ (ks:List Nat) (listed:Array Bool) (a:Act) (w:World),tailB md l.toArray ks listed=true->wpList P l.toArray Q (pickL l ks) a w->wpAny P md l.toArray Q ks.length listed a w
 | [],listed,a,w,hB,h=>⟨by simpa [tailB] using hB,h⟩
 | k::ks,listed,a,w,hB,h=>by
  simp only [tailB,Zak,Ze] at hB;refine ⟨fun h1=>(by rw [hB.1] at h1;cases h1),fun i hi=>?_⟩;have hi':=hi;rw [hB.1] at hi';obtain rfl:i=k:=by simpa using hi'
  obtain ⟨o,ho⟩:=ZcF hi;have ho':l[i]?=some o:=by simpa using ho
  have e:pickL l (i::ks)=o::pickL l ks:=by simp [pickL,ho']
  rw [e] at h;have hw:wpOp P l.toArray Q i (wpList P l.toArray Q (pickL l ks)) a w:=by unfold wpOp;simp only [ho];exact h
  exact Zcx (fun a' w' h'=>ZgY ks _ a' w' hB.2 h') hw
theorem ZgE {l:List Oper}:∀ (ks:List Nat) (listed:Array Bool),Zbd md l.toArray ks listed=true->ShutDown md l.toArray listed->ShutDown md l.toArray (Zal ks listed)
 | [],_,_,h=>h
 | k::ks,listed,hB,h=>by
  simp only [Zbd,Zak] at hB;exact ZgE ks _ hB.2 (h.next (by simpa using hB.1.1))
theorem ZlI {id:Nat} {Q:Exit->Act->World->Prop} {a:Act} {l:List Oper} (early head tail:List Nat) (hm:P.follows .mixedOrders=true) (hB:planB .any l early head tail=true)
  (hQ:∀ c (a:Act) d v w,Q (.panic c) (a.put d v) w->Q (.panic c) a w)
  (h:Zdv P l.toArray (wpStill P l.toArray w.drew (fun a2=>wpList P l.toArray Q (pickL l tail) a2 w.drew) (pickL l head)) (pickL l early) a):(Code.region id l.toArray true).wp P Q a w:=by
 simp only [planB,Zak,Ze] at hB;obtain ⟨⟨⟨⟨⟨⟨hsel,he⟩,hh⟩,hg⟩,ht⟩,hn⟩,htl⟩:=hB;refine wp_region_any hm ?_;change wpAny P .any l.toArray Q l.toArray.size _ a w.drew;have hsz:l.toArray.size=early.length+(head.length+tail.length):=by rw [hn];simp
 have hrep:Array.replicate l.toArray.size false=Array.replicate l.length false:=by simp
 rw [hrep,hsz];refine ZgL hsel hQ early _ a he (fun a1 h1=>?_) h;have hs:=ZgE early _ he (ShutDown.start _);have hG:Zh2 .any l.toArray (fun t=>head.contains t) (Zal early (Array.replicate l.length false)):=fun listed hsd h0 i hi hun t htr=>by
  simp only [Zgj,Zcw,Za8,Zfg] at hg;obtain ⟨htun,o,ho,hall⟩:=mem_ready.1 htr;have h2:=hg t (Zby.1 ho).1;rcases h2 with (h2|h2)|h2
  ·have:=h0 t h2;rw [Zdg htun] at this;cases this
  ·exact h2
  ·have h3:=h2 i (by simpa using hi);have h4:=ZeH hsd _ t (fun o' ho' e he' hb=>by rw [ho] at ho';cases ho';exact hall e he' hb) h3;rw [Zdg hun] at h4;cases h4
 have hL:∀ (listed:Array Bool) (a:Act),(tailB .any l.toArray tail listed=true∧wpList P l.toArray Q (pickL l tail) a w.drew)->∀ j ∈ Region.ready .any l.toArray listed,head.contains j=false:=fun listed a hL j hj=>by
  cases tail with
  | nil =>
   have:=hL.1;simp only [tailB,List.isEmpty_iff] at this;rw [this] at hj;cases hj
  | cons k ks =>
   have:=hL.1;simp only [tailB,Zak,Ze] at this;rw [this.1] at hj;obtain rfl:j=k:=by simpa using hj
   simp only [List.all_cons,Zak] at htl;simpa using htl.1
 have H:=Ziv (L:=fun listed a=>tailB .any l.toArray tail listed=true∧wpList P l.toArray Q (pickL l tail) a w.drew) hsel hG hL head _ a1 (fun k hk=>by simpa using hk) hs (fun j hj=>hj) hh (fun a' h'=>⟨ht,h'⟩) h1;exact Zim (L:=fun listed a=>tailB .any l.toArray tail listed=true∧wpList P l.toArray Q (pickL l tail) a w.drew) (fun listed a' hl=>ZgY tail listed a' _ hl.1 hl.2) _ _ _ H
theorem ZaD {id:Nat} {Q:Exit->Act->World->Prop} {a:Act} {l:List Oper} (early head tail:List Nat) (hm:P.follows .mixedOrders=true) (hB:planB .any l early head tail=true)
  (h:Zdv P l.toArray (wpStill P l.toArray w.drew (fun a2=>wpList P l.toArray (NoPanic Q) (pickL l tail) a2 w.drew) (pickL l head)) (pickL l early) a):(Code.region id l.toArray true).wp P Q a w :=
 wp_region_noPanic (ZlI early head tail hm hB (fun _ _ _ _ _ h=>h) h)
/-! The same,where what is taken first hangs on a word S of the world,which must be shown anew behind what may come up ahead of it. -/
def Zdw (P:Program) (ops:Array Oper) (S:World->Prop) (K:Act->Prop):List Oper->Act->Prop
 | [],a=>K a
 | o::l,a=>∃ v,YieldsIf P ops S o v a∧Zdw P ops S K l (a.put o.dst v)
theorem ZC {S:World->Prop} {K:Act->Prop} {a:Act} (h:K a):Zdw P ops S K [] a:=h
theorem Zs {S:World->Prop} {K:Act->Prop} {a:Act} {o:Oper} {l:List Oper} (v:Value) (hy:YieldsIf P ops S o v a) (h:Zdw P ops S K l (a.put o.dst v)):Zdw P ops S K (o::l) a:=⟨v,hy,h⟩
def Zcg (S:World->Prop) (Q:Exit->Act->World->Prop) (K:Act->World->Prop):Exit->Act->World->Prop
 | .normal,a,w=>S w∧K a w
 | e,a,w=>Q e a w
theorem Zt {S:World->Prop} {Q:Exit->Act->World->Prop} {K:Act->World->Prop} {a:Act} (hS:S w) (h:K a w):Zcg S Q K .normal a w:=⟨hS,h⟩
def Zp (P:Program) (ops:Array Oper) (S:World->Prop) (Q:Exit->Act->World->Prop) (T:Act->World->Prop):List Oper->Act->World->Prop
 | [],a,w=>T a w
 | o::l,a,w=>wpList P ops (Zcg S Q (Zp P ops S Q T l)) [o] a w
def ZbN (P:Program) (md:Region.Mode) (ops:Array Oper) (Q:Exit->Act->World->Prop) (S:World->Prop) (N:Nat->Bool):Nat->Array Bool->Act->World->Prop
 | 0,listed,a,w=>Region.ready md ops listed=[]∧Q .normal a w
 | f+1,listed,a,w=>(Region.ready md ops listed=[]->Q .normal a w) ∧
  ∀ i ∈ Region.ready md ops listed,wpOp P ops Q i (fun a' w'=>(N i=true->S w')∧ZbN P md ops Q S N f (listed.setIfInBounds i true) a' w') a w
section
variable {Q : Exit -> Act -> World -> Prop} {S : World -> Prop} {N : Nat -> Bool}
theorem ZfA:∀ (f:Nat) (listed:Array Bool) (a:Act) (w:World),ZbN P md ops Q S N f listed a w->wpAny P md ops Q f listed a w
 | 0,_,_,_,h=>h
 | f+1,_,_,_,h=>⟨h.1,fun i hi=>Zcx (fun a' w' h'=>ZfA f _ a' w' h'.2) (h.2 i hi)⟩
theorem Zl2 {i:Nat} {oi:Oper} {v:Value} (hi:ops[i]?=some oi) (hsel:∀ (j:Nat) (o:Oper) cs b,ops[j]?=some o->o.op≠.select cs b)
  (hQ:∀ c (a:Act) d v w,Q (.panic c) (a.put d v) w->Q (.panic c) a w) (hN:∀ listed,ShutDown md ops listed->listed.getD i true=false->∀ j ∈ Region.ready md ops listed,N j=true) :
  ∀ (f:Nat) (listed:Array Bool) (a:Act) (w:World),ShutDown md ops listed ->
   (∀ j oj,ops[j]?=some oj->j≠i->listed.getD j true=false->(∀ e ∈ oj.after,Region.binds md e=true->e.on≠i)->oi.apart ops oj=true) ->
   i ∈ Region.ready md ops listed->YieldsIf P ops S oi v a->S w ->
   ZbN P md ops Q S N f (listed.setIfInBounds i true) (a.put oi.dst v) w->ZbN P md ops Q S N (f+1) listed a w:=by
 intro f;induction f with
 | zero =>
  intro listed a w _ _ hr hy hS H;refine ⟨fun h=>(by rw [h] at hr;cases hr),fun j hj=>?_⟩;by_cases hji:j=i
  ·subst hji;exact hy.wpOp hi hS ⟨fun _=>hS,H⟩
  ·have:=ready_mono hj hji;rw [H.1] at this;cases this
 | succ f ih =>
  intro listed a w hs hfree hr hy hS H;have hun:=(mem_ready.1 hr).1;refine ⟨fun h=>(by rw [h] at hr;cases hr),fun j hj=>?_⟩;by_cases hji:j=i
  ·subst hji;exact hy.wpOp hi hS ⟨fun _=>hS,H⟩
  ·have hNj:=hN listed hs hun j hj;obtain ⟨hjun,oj,hoj,hall⟩:=mem_ready.1 hj;have hnot:∀ e ∈ oj.after,Region.binds md e=true->e.on≠i:=fun e he hb heq=>by
    have h2:=hall e he hb;rw [heq,Zdg hun] at h2;cases h2
   have h3:=wpOp_putIf hoj (hfree j oj hoj hji hjun hnot) (fun cs b=>hsel i oi cs b hi) (fun cs b=>hsel j oj cs b hoj) (fun c a w=>hQ c a _ _ w) hy (H.2 j (ready_mono hj hji));refine Zcx (fun a' w' h4=>⟨h4.2.1,?_⟩) h3;refine ih (listed.setIfInBounds j true) a' w' (hs.next hj) (fun k ok hk hki hkun hno=>hfree k ok hk hki ?_ hno) (ready_mono hr (Ne.symm hji)) h4.1 (h4.2.1 hNj) ?_
   ·by_cases hjk:j=k
    ·subst hjk;exact hjun
    ·rwa [getD_set_ne true hjk] at hkun
   ·rw [Array.setIfInBounds_comm _ _ hji];exact h4.2.2
theorem Zpt {o:Oper} {a:Act} {K:Act->World->Prop} {Q':Exit->Act->World->Prop} (h:∀ e a w,e≠Exit.normal->Q' e a w->Q e a w) (hh:o.wp P a w K Q'):o.wp P a w K Q:=by
 unfold Oper.wp at *;generalize (execOp a.eval o).run P w=r at *;cases r with
 | ok n w' =>
  cases n <;> simp only [Oper.upon] at hh |- <;> first|exact hh|skip
  refine Calls.mono hh fun e w'' he=>?_;cases e with
  | returned u=>exact he
  | panicked c=>exact h _ _ _ (by simp) he
  | outgrown=>obtain ⟨a0,w0,h0⟩:=he;exact ⟨a0,w0,h _ _ _ (by simp) h0⟩
 | halt x w'=>cases x <;> simp only [Oper.upon] at hh |- <;> first|exact hh|exact h _ _ _ (by simp) hh
theorem ZdL {o:Oper} {i:Nat} {a:Act} {K:Act->World->Prop} (ho:ops[i]?=some o) (h:wpList P ops (Zcg S Q K) [o] a w):wpOp P ops Q i (fun a' w'=>S w'∧K a' w') a w:=by
 have hx:∀ e (a:Act) (w:World),e≠Exit.normal->Zcg S Q K e a w->Q e a w:=fun e a w hne h=>by cases e <;> first|exact absurd rfl hne|exact h
 unfold wpOp;simp only [ho];simp only [wpList] at h;split
 ·rename_i hw;rw [Zb hw] at h;rcases h with h|⟨h1,a0,w0,h2⟩
  ·exact .inl (Zpt hx h)
  ·exact .inr ⟨h1,a0,w0,hx _ _ _ (by simp) h2⟩
 ·rename_i hw;rw [Za hw] at h;exact h
theorem Zfs {l:List Oper} {K:Act->Prop} {g:Nat} (hsel:Region.noSelect l.toArray=true) (hQ:∀ c (a:Act) d v w,Q (.panic c) (a.put d v) w->Q (.panic c) a w) (hS:S w) :
  ∀ (ks:List Nat) (listed:Array Bool) (a:Act),(∀ k ∈ ks,∀ listed,ShutDown md l.toArray listed->listed.getD k true=false->∀ j ∈ Region.ready md l.toArray listed,N j=true)->ShutDown md l.toArray listed->Zbd md l.toArray ks listed=true ->
  (∀ a',K a'->ZbN P md l.toArray Q S N g (Zal ks listed) a' w)->Zdw P l.toArray S K (pickL l ks) a->ZbN P md l.toArray Q S N (ks.length+g) listed a w
 | [],listed,a,_,_,_,hK,h=>by rw [ZaH,Zar];exact hK a h
 | k::ks,listed,a,hN,hs,hB,hK,h=>by
  simp only [Zbd,Zak] at hB;obtain ⟨⟨hr,hf⟩,hB'⟩:=hB;have hr':k ∈ Region.ready md l.toArray listed:=by simpa using hr
  obtain ⟨o,ho⟩:=ZcF hr';have ho':l[k]?=some o:=by simpa using ho
  have e:pickL l (k::ks)=o::pickL l ks:=by simp [pickL,ho']
  rw [e] at h;obtain ⟨v,hy,h⟩:=h;rw [Zat,show ks.length+1+g=(ks.length+g)+1 by omega];exact Zl2 ho (Region.noSelect_spec hsel) hQ (hN k (Z0 ..)) _ listed a w hs (Region.free_spec ho hf) hr' hy hS (Zfs hsel hQ hS ks _ _ (fun j hj=>hN j (Z8 _ hj)) (hs.next hr') hB' hK h)
theorem ZgM {l:List Oper}:∀ (ks:List Nat) (listed:Array Bool) (a:Act) (w:World),(∀ k ∈ ks,N k=false)->tailB md l.toArray ks listed=true->wpList P l.toArray Q (pickL l ks) a w->ZbN P md l.toArray Q S N ks.length listed a w
 | [],listed,a,w,_,hB,h=>⟨by simpa [tailB] using hB,h⟩
 | k::ks,listed,a,w,hN,hB,h=>by
  simp only [tailB,Zak,Ze] at hB;refine ⟨fun h1=>(by rw [hB.1] at h1;cases h1),fun i hi=>?_⟩;have hi':=hi;rw [hB.1] at hi';obtain rfl:i=k:=by simpa using hi'
  obtain ⟨o,ho⟩:=ZcF hi;have ho':l[i]?=some o:=by simpa using ho
  have e:pickL l (i::ks)=o::pickL l ks:=by simp [pickL,ho']
  rw [e] at h;have hw:wpOp P l.toArray Q i (wpList P l.toArray Q (pickL l ks)) a w:=by unfold wpOp;simp only [ho];exact h
  exact Zcx (fun a' w' h'=>⟨fun hn=>(by rw [hN i (Z0 ..)] at hn;cases hn),ZgM ks _ a' w' (fun j hj=>hN j (Z8 _ hj)) hB.2 h'⟩) hw
theorem ZiE {l:List Oper} {tail:List Nat}:∀ (ks:List Nat) (listed:Array Bool) (a:Act) (w:World),(∀ k ∈ tail,N k=false)->tailB md l.toArray (ks++tail) listed=true ->
  Zp P l.toArray S Q (wpList P l.toArray Q (pickL l tail)) (pickL l ks) a w->ZbN P md l.toArray Q S N (ks.length+tail.length) listed a w
 | [],listed,a,w,hN,hB,h=>by rw [ZaH,Zar];exact ZgM tail listed a w hN hB h
 | k::ks,listed,a,w,hN,hB,h=>by
  simp only [ZZ,tailB,Zak,Ze] at hB;rw [Zat,show ks.length+1+tail.length=(ks.length+tail.length)+1 by omega];refine ⟨fun h1=>(by rw [hB.1] at h1;cases h1),fun i hi=>?_⟩;have hi':=hi;rw [hB.1] at hi';obtain rfl:i=k:=by simpa using hi'
  obtain ⟨o,ho⟩:=ZcF hi;have ho':l[i]?=some o:=by simpa using ho
  have e:pickL l (i::ks)=o::pickL l ks:=by simp [pickL,ho']
  rw [e] at h;exact Zcx (fun a' w' h'=>⟨fun _=>h'.1,ZiE ks _ a' w' hN hB.2 h'.2⟩) (ZdL ho h)
end
def keepB (md:Region.Mode) (l:List Oper) (early hold tail:List Nat):Bool :=
 Region.noSelect l.toArray&&Zbd md l.toArray early (Array.replicate l.length false)&&tailB md l.toArray (hold++tail) (Zal early (Array.replicate l.length false)) &&
  ((List.range l.length).all fun t=>(early.contains t||hold.contains t)||early.all fun k=>reaches md l.toArray k l.length t) &&
  decide (early.length+(hold.length+tail.length)=l.length)&&tail.all (fun t=>!(early.contains t||hold.contains t))
theorem Z3 {id:Nat} {Q:Exit->Act->World->Prop} {a:Act} {l:List Oper} (S:World->Prop) (early hold tail:List Nat) (hm:P.follows .mixedOrders=true) (hB:keepB .any l early hold tail=true) (hS:S w.drew)
  (h:Zdw P l.toArray S (fun a1=>Zp P l.toArray S (NoPanic Q) (wpList P l.toArray (NoPanic Q) (pickL l tail)) (pickL l hold) a1 w.drew) (pickL l early) a):(Code.region id l.toArray true).wp P Q a w:=by
 refine wp_region_noPanic ?_;simp only [keepB,Zak,Ze] at hB;obtain ⟨⟨⟨⟨⟨hsel,he⟩,ht⟩,hg⟩,hn⟩,htl⟩:=hB;refine wp_region_any hm (ZfA (S:=S) (N:=fun t=>early.contains t||hold.contains t) _ _ _ _ ?_);change ZbN P .any l.toArray _ _ _ l.toArray.size _ a w.drew;have hsz:l.toArray.size=early.length+(hold.length+tail.length):=by rw [hn];simp
 have hrep:Array.replicate l.toArray.size false=Array.replicate l.length false:=by simp
 rw [hrep,hsz];refine Zfs hsel (fun _ _ _ _ _ h=>h) hS early _ a (fun k hk listed hsd hun j hj=>?_) (ShutDown.start _) he (fun a1 h1=>?_) h
 ·simp only [Zcw,Za8] at hg;obtain ⟨_,o,ho,hall⟩:=mem_ready.1 hj;have h2:=hg j (by simpa using (Zby.1 ho).1);rw [Zfg] at h2;rcases h2 with h2|h2
  ·exact h2
  ·have h3:=Zcw.1 h2 k hk;have h4:=ZeH hsd _ j (fun o' ho' e he' hb=>by rw [ho] at ho';cases ho';exact hall e he' hb) h3;rw [Zdg hun] at h4;cases h4
 ·exact ZiE hold _ a1 _ (fun k hk=>by
   have:=Zcw.1 htl k hk
   simpa using this) ht h1
end
end Go.Proofs.YtcbdghojlbpomaaGreat
namespace Go.Proofs.YtcbdghojlbpomaaGreat
open Go.RowKit
section
variable {P : Program} {ops : Array Oper} {md : Region.Mode} {w : World}
variable {Q : Exit -> Act -> World -> Prop} {S : World -> Prop} {N : Nat -> Bool}
theorem Zip:∀ (f:Nat) (listed:Array Bool) (a:Act) (w:World),(∀ j,N j=true->listed.getD j false=true)->wpAny P md ops Q f listed a w->ZbN P md ops Q S N f listed a w
 | 0,_,_,_,_,h=>h
 | f+1,listed,a,w,hN,h=>⟨h.1,fun i hi=>Zcx (fun a' w' h'=>⟨fun hn=>(by
   have h1:=hN i hn;rw [Zdg (mem_ready.1 hi).1] at h1
   cases h1),Zip f _ a' w' (fun j hj=>getD_set_true (hN j hj)) h'⟩) (h.2 i hi)⟩
def Zdx (md:Region.Mode) (ops:Array Oper):List Nat->Array Bool->Bool
 | [],_=>true
 | k::l,listed=>decide (Region.ready md ops listed=[k])&&Zdx md ops l (listed.setIfInBounds k true)
theorem Ziq {l:List Oper} {g:Nat} {K:Act->World->Prop}:∀ (ks:List Nat) (listed:Array Bool) (a:Act) (w:World),Zdx md l.toArray ks listed=true->(∀ a' w',K a' w'->ZbN P md l.toArray Q S N g (Zal ks listed) a' w') ->
  Zp P l.toArray S Q K (pickL l ks) a w->ZbN P md l.toArray Q S N (ks.length+g) listed a w
 | [],listed,a,w,_,hK,h=>by rw [ZaH,Zar];exact hK a w h
 | k::ks,listed,a,w,hB,hK,h=>by
  simp only [Zdx,Zak,Ze] at hB;rw [Zat,show ks.length+1+g=(ks.length+g)+1 by omega];refine ⟨fun h1=>(by rw [hB.1] at h1;cases h1),fun i hi=>?_⟩;have hi':=hi;rw [hB.1] at hi';obtain rfl:i=k:=by simpa using hi'
  obtain ⟨o,ho⟩:=ZcF hi;have ho':l[i]?=some o:=by simpa using ho
  have e:pickL l (i::ks)=o::pickL l ks:=by simp [pickL,ho']
  rw [e] at h;exact Zcx (fun a' w' h'=>⟨fun _=>h'.1,Ziq ks _ a' w' hB.2 hK h'.2⟩) (ZdL ho h)
theorem Ziw {l:List Oper} {g:Nat} {K:Act->World->Prop}:∀ (ks:List Nat) (listed:Array Bool) (a:Act) (w:World),Zdx md l.toArray ks listed=true->(∀ a' w',K a' w'->wpAny P md l.toArray Q g (Zal ks listed) a' w') ->
  Zp P l.toArray (fun _=>True) Q K (pickL l ks) a w->wpAny P md l.toArray Q (ks.length+g) listed a w
 | [],listed,a,w,_,hK,h=>by rw [ZaH,Zar];exact hK a w h
 | k::ks,listed,a,w,hB,hK,h=>by
  simp only [Zdx,Zak,Ze] at hB;rw [Zat,show ks.length+1+g=(ks.length+g)+1 by omega];refine ⟨fun h1=>(by rw [hB.1] at h1;cases h1),fun i hi=>?_⟩;have hi':=hi;rw [hB.1] at hi';obtain rfl:i=k:=by simpa using hi'
  obtain ⟨o,ho⟩:=ZcF hi;have ho':l[i]?=some o:=by simpa using ho
  have e:pickL l (i::ks)=o::pickL l ks:=by simp [pickL,ho']
  rw [e] at h;exact Zcx (fun a' w' h'=>Ziw ks _ a' w' hB.2 hK h'.2) (ZdL ho h)
def mixB (md:Region.Mode) (l:List Oper) (early hold one mid tail:List Nat):Bool :=
 Region.noSelect l.toArray&&Zbd md l.toArray early (Array.replicate l.length false)&&Zdx md l.toArray hold (Zal early (Array.replicate l.length false)) &&
  Zdx md l.toArray one (Zal hold (Zal early (Array.replicate l.length false))) &&
  Zbd md l.toArray mid (Zal one (Zal hold (Zal early (Array.replicate l.length false)))) &&
  tailB md l.toArray tail (Zal mid (Zal one (Zal hold (Zal early (Array.replicate l.length false))))) &&
  ((List.range l.length).all fun t=>(early.contains t||hold.contains t)||early.all fun k=>reaches md l.toArray k l.length t) &&
  decide (early.length+(hold.length+(one.length+(mid.length+tail.length)))=l.length) &&
  (early++hold).all fun t=>(Zal hold (Zal early (Array.replicate l.length false))).getD t false
theorem ZlO {id:Nat} {a:Act} {l:List Oper} (S:World->Prop) (early hold one mid tail:List Nat) (hm:P.follows .mixedOrders=true) (hB:mixB .any l early hold one mid tail=true) (hS:S w.drew)
  (h:Zdw P l.toArray S (fun a1=>Zp P l.toArray S (NoPanic Q) (fun a2 w2=>Zp P l.toArray (fun _=>True) (NoPanic Q) (fun a3 w3 =>
    Zdv P l.toArray (fun a4=>wpList P l.toArray (NoPanic Q) (pickL l tail) a4 w3) (pickL l mid) a3) (pickL l one) a2 w2) (pickL l hold) a1 w.drew) (pickL l early) a):(Code.region id l.toArray true).wp P Q a w:=by
 refine wp_region_noPanic ?_;simp only [mixB,Zak,Ze] at hB;obtain ⟨⟨⟨⟨⟨⟨⟨⟨hsel,he⟩,hh⟩,h1⟩,hmid⟩,ht⟩,hg⟩,hn⟩,hl⟩:=hB;refine wp_region_any hm (ZfA (S:=S) (N:=fun t=>early.contains t||hold.contains t) _ _ _ _ ?_);change ZbN P .any l.toArray _ _ _ l.toArray.size _ a w.drew;have hsz:l.toArray.size=early.length+(hold.length+(one.length+(mid.length+tail.length))):=by rw [hn];simp
 have hrep:Array.replicate l.toArray.size false=Array.replicate l.length false:=by simp
 rw [hrep,hsz];refine Zfs hsel (fun _ _ _ _ _ h=>h) hS early _ a (fun k hk listed hsd hun j hj=>?_) (ShutDown.start _) he (fun a1 h1'=>?_) h
 ·simp only [Zcw,Za8] at hg;obtain ⟨_,o,ho,hall⟩:=mem_ready.1 hj;have h2:=hg j (by simpa using (Zby.1 ho).1);rw [Zfg] at h2;rcases h2 with h2|h2
  ·exact h2
  ·have h3:=Zcw.1 h2 k hk;have h4:=ZeH hsd _ j (fun o' ho' e he' hb=>by rw [ho] at ho';cases ho';exact hall e he' hb) h3;rw [Zdg hun] at h4;cases h4
 ·refine Ziq hold _ a1 _ hh (fun a2 w2 h2=>?_) h1';refine Zip _ _ a2 w2 (fun j hj=>?_) ?_
  ·have:=Zcw.1 hl j (by simpa using hj);exact this
  refine Ziw one _ a2 w2 h1 (fun a3 w3 h3=>?_) h2;exact ZgL hsel (fun _ _ _ _ _ h=>h) mid _ a3 hmid (fun a4 h4=>ZgY tail _ a4 w3 ht h4) h3
end
end Go.Proofs.YtcbdghojlbpomaaGreat
namespace Go.Proofs.YtcbdghojlbpomaaGreat
open Go.RowKit
inductive Tr where
 | leaf:Tr
 | one:Nat->Tr->Tr
 | two:Nat->Tr->Nat->Tr->Tr
def Tr.size:Tr->Nat
 | .leaf=>0
 | .one _ t=>t.size+1
 | .two _ t _ _=>t.size+1
section
variable {P : Program} {ops : Array Oper} {md : Region.Mode} {w : World}
variable {Q : Exit -> Act -> World -> Prop} {S : World -> Prop} {N : Nat -> Bool}
def wpTr (P:Program) (l:List Oper) (S:World->Prop) (Q:Exit->Act->World->Prop) (T:Act->World->Prop):Tr->Act->World->Prop
 | .leaf,a,w=>T a w
 | .one i t,a,w=>wpList P l.toArray (Zcg S Q (wpTr P l S Q T t)) (pickL l [i]) a w
 | .two i t j u,a,w=>wpList P l.toArray (Zcg S Q (wpTr P l S Q T t)) (pickL l [i]) a w∧wpList P l.toArray (Zcg S Q (wpTr P l S Q T u)) (pickL l [j]) a w
def trB (md:Region.Mode) (l:List Oper) (tail:List Nat):Tr->Array Bool->Bool
 | .leaf,listed=>tailB md l.toArray tail listed
 | .one i t,listed=>decide (Region.ready md l.toArray listed=[i])&&trB md l tail t (listed.setIfInBounds i true)
 | .two i t j u,listed=>(decide (Region.ready md l.toArray listed=[i,j])&&decide (t.size=u.size))&&(trB md l tail t (listed.setIfInBounds i true)&&trB md l tail u (listed.setIfInBounds j true))
def treeB (md:Region.Mode) (l:List Oper) (early hold:List Nat) (t:Tr) (tail:List Nat):Bool :=
 Region.noSelect l.toArray&&Zbd md l.toArray early (Array.replicate l.length false)&&trB md l tail t (Zal early (Array.replicate l.length false)) &&
  ((List.range l.length).all fun t=>(early.contains t||hold.contains t)||early.all fun k=>reaches md l.toArray k l.length t) &&
  decide (early.length+(t.size+tail.length)=l.length)&&tail.all (fun t=>!(early.contains t||hold.contains t))
end
end Go.Proofs.YtcbdghojlbpomaaGreat
namespace Go.Proofs.YtcbdghojlbpomaaGreat
def headR:Code->Option Nat
 | .region i _ _=>some i
 | _=>none
def fromR (n:Nat):Code->Option Code
 | .region i o d=>if i=n then some (.region i o d) else none
 | .seq a b=>if headR a=some n then some (.seq a b) else match fromR n a with
  | some c=>some c
  | none=>fromR n b
 | .cond _ t e=>match fromR n t with
  | some c=>some c
  | none=>fromR n e
 | .block _ b=>fromR n b
 | .loop b=>fromR n b
 | .scope b=>fromR n b
 | _=>none
end Go.Proofs.YtcbdghojlbpomaaGreat
namespace Go.Proofs.YtcbdghojlbpomaaGreat
def headD:Code->Option Nat
 | .region i _ _=>some i
 | .seq a _=>headD a
 | _=>none
def fromS (n:Nat):Code->Option Code
 | .region i o d=>if i=n then some (.region i o d) else none
 | .seq a b=>if headD a=some n then some (.seq a b) else match fromS n a with
  | some c=>some c
  | none=>fromS n b
 | .cond _ t e=>match fromS n t with
  | some c=>some c
  | none=>fromS n e
 | .block _ b=>fromS n b
 | .loop b=>fromS n b
 | .scope b=>fromS n b
 | _=>none
end Go.Proofs.YtcbdghojlbpomaaGreat
namespace Go.Proofs.YtcbdghojlbpomaaGreat
end Go.Proofs.YtcbdghojlbpomaaGreat
