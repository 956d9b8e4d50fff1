import Derived.Test.YtpjchngjhijgmaaGreatJM06
import Derived.Test.YtpjchngjhijgmaaGreatJM15
import Derived.Lib.Bytes
set_option linter.all false
namespace Go.Proofs.YtpjchngjhijgmaaGreat
open Go.RowKit
section
variable {K V : Type} [DecidableEq K]
theorem get_put (k k':K) (v:V) (L:List (K × V)):get k' (put k v L)=if k'=k then some v else get k' L:=by
 by_cases e:k'=k
 ·subst e;simp [Zq44]
 ·simp [Zq74 e,e]
theorem Zq858 (k k':K) (L:List (K × V)):get k' (del k L)=if k'=k then none else get k' L:=by
 by_cases e:k'=k
 ·subst e;simp [Zq436]
 ·simp [Zq198 e,e]
end
def Coh (S:Str):Prop:=∀ k,get k S.seen=(lateAt S k).foldl stepD (get k S.dry)
theorem Zq494 (S:Str) (k k':K4) (was:Int) (o:Option TS):get k' (showS S k was o).seen=if k'=k then o else get k' S.seen:=by
 cases o with
 | none=>exact Zq858 k k' S.seen
 | some t=>exact get_put k k' t S.seen
theorem Zq859 (x:Int):IntKind.i64.wrap x=wrap64 x:=by rw [IntKind.wrap_i64];unfold wrap64;omega
structure Done (S S':Str) (k:K4) (d:Dd):Prop where
 room:S'.room=S.room
 on:S'.on=S.on
 armed:S'.armed=S.armed
 keep:S'.keep=S.keep
 torn:S'.torn=S.torn
 dry:S'.dry=S.dry
 seen:∀ k',get k' S'.seen=if k'=k then stepD (get k S.seen) d else get k' S.seen
 late:∀ k',lateAt S' k'=if k'=k then lateAt S k++[d] else lateAt S k'
 used:S'.used=wrap64 (S.used+(sizeO (stepD (get k S.seen) d) - wrap64 (sizeO (get k S.seen))))
 deeds:S'.deeds=wrap64 (S.deeds+1)
 wet:S'.wet=wrap64 (S.wet+1)
 fuse:S.armed=true→0<S.fuse∧S'.fuse=S.fuse - 1
theorem Zq300 {S:Str} (h:(Zq32 S).1=false):∃ f,(Zq32 S).2={ S with fuse:=f }∧(S.armed=true→0<S.fuse∧f=S.fuse - 1):=by
 unfold Zq32 at *
 split
 ·rename_i ha
  rw [if_pos ha] at h
  split
  ·rename_i hf
   exact ⟨_,rfl,fun _=>⟨hf,rfl⟩⟩
  ·rename_i hf
   rw [if_neg hf] at h
   cases h
 ·rename_i ha
  exact ⟨S.fuse,rfl,fun h=>absurd h ha⟩
theorem Zq815 {S:Str} {k:K4} {d:Dd} (h:(Zq32 S).1=true):doS S k d=(true,(Zq32 S).2):=by simp [doS,h]
theorem Zq495 {S:Str} {k:K4} {d:Dd} (h:(Zq32 S).1=false):(doS S k d).1=false∧Done S (doS S k d).2 k d:=by
 obtain ⟨f,hf,hfu⟩:=Zq300 h
 have e:doS S k d=(false,{ showS { S with fuse:=f } k (wrap64 (sizeO (get k S.seen))) (stepD (get k S.seen) d) with late:=put k (lateAt { S with fuse:=f } k++[d]) S.late,wet:=wrap64 (S.wet+1),deeds:=wrap64 (S.deeds+1) }):=by
  unfold doS
  rw [h,hf]
  rfl
 rw [e]
 refine ⟨rfl,rfl,rfl,rfl,rfl,rfl,rfl,fun k'=>Zq494 { S with fuse:=f } k k' (wrap64 (sizeO (get k S.seen))) (stepD (get k S.seen) d),fun k'=>?_,?_,rfl,rfl,hfu⟩
 ·show (get k' (put k (lateAt S k++[d]) S.late)).getD []=_
  rw [get_put]
  split
  ·rfl
  ·rfl
 ·exact Zq859 _
theorem Done.coh {S S':Str} {k:K4} {d:Dd} (h:Done S S' k d) (hc:Coh S):Coh S':=fun k'=>by
 rw [h.seen,h.late,h.dry]
 split
 ·rename_i e
  subst e
  rw [List.foldl_append,←hc]
  rfl
 ·exact hc k'
structure Fell (S S':Str) (keep:List Int) (torn:Int):Prop where
 room:S'.room=S.room
 on:S'.on=false
 armed:S'.armed=false
 late:S'.late=[]
 wet:S'.wet=0
 deeds:S'.deeds=S.deeds
 obj:∃ N:K4→Int,∀ k,get k S'.seen=(leftS S k (N k) torn).1∧get k S'.dry=(leftS S k (N k) torn).1
theorem Zq544 {S:Str} {k:K4} (h:k ∉ S.late.map (·.1)):lateAt S k=[]:=by
 unfold lateAt
 have:get k S.late=none:=get_none.2 fun x hx e=>h (List.mem_map.2 ⟨x,hx,e⟩)
 rw [this];rfl
theorem Zq630 (S:Str) (k:K4):get k (Zq217 S)=if k ∈ S.late.map (·.1) then get k S.seen else get k S.dry:=by
 unfold Zq217 dryBy
 by_cases hk:k ∈ S.late.map (·.1)
 ·rw [if_pos hk]
  have h1:∀ (L R:List (K4 × TS)),get k (L.filter (fun x=>!(S.late.map (·.1)).contains x.1)++R)=get k R:=fun L R=>by
   induction L with
   | nil=>rfl
   | cons x L ih =>
    by_cases hx:(S.late.map (·.1)).contains x.1=true
    ·rw [List.filter_cons_of_neg (by simpa using hx)];exact ih
    ·rw [List.filter_cons_of_pos (by simpa using hx),Zl2]
     have hne:k≠x.1:=fun e=>hx (by rw [←e];exact List.contains_iff_mem.2 hk)
     obtain ⟨a,b⟩:=x
     simp only [get,hne,if_false]
     exact ih
  rw [h1]
  induction S.seen with
  | nil=>rfl
  | cons x L ih =>
   obtain ⟨a,b⟩:=x
   by_cases hx:(S.late.map (·.1)).contains a=true
   ·rw [List.filter_cons_of_pos (by simpa using hx)]
    unfold get
    rw [ih]
   ·rw [List.filter_cons_of_neg (by simpa using hx)]
    have hne:k≠a:=fun e=>hx (by rw [←e];exact List.contains_iff_mem.2 hk)
    rw [show get k ((a,b)::L)=get k L by simp [get,hne]]
    exact ih
 ·rw [if_neg hk]
  have h2:∀ (R:List (K4 × TS)),get k (R.filter (fun x=>(S.late.map (·.1)).contains x.1))=none:=fun R=>get_none.2 fun x hx e=>hk (by
   have:=(List.mem_filter.1 hx).2
   rw [e] at this
   exact List.contains_iff_mem.1 this)
  have h3:∀ (L R:List (K4 × TS)),get k R=none→get k (L.filter (fun x=>!(S.late.map (·.1)).contains x.1)++R)=get k L:=fun L R hR=>by
   induction L with
   | nil=>simpa [get] using hR
   | cons x L ih =>
    obtain ⟨a,b⟩:=x
    by_cases hx:(S.late.map (·.1)).contains a=true
    ·rw [List.filter_cons_of_neg (by simpa using hx)]
     have hne:k≠a:=fun e=>hk (by rw [e];exact List.contains_iff_mem.1 hx)
     rw [show get k ((a,b)::L)=get k L by simp [get,hne]]
     exact ih
    ·rw [List.filter_cons_of_pos (by simpa using hx),Zl2]
     unfold get
     rw [ih]
  exact h3 _ _ (h2 _)
structure Dried (S S':Str):Prop where
 room:S'.room=S.room
 on:S'.on=S.on
 armed:S'.armed=S.armed
 keep:S'.keep=S.keep
 torn:S'.torn=S.torn
 seen:S'.seen=S.seen
 used:S'.used=S.used
 late:S'.late=[]
 wet:S'.wet=0
 deeds:S'.deeds=wrap64 (S.deeds+1)
 dry:∀ k,get k S'.dry=get k S.seen
 fuse:S.armed=true→0<S.fuse∧S'.fuse=S.fuse - 1
theorem Zq158 {S:Str} (hon:S.on=true) (hc:Coh S) (h:(Zq32 S).1=false):(Zq14 S).1=0∧Dried S (Zq14 S).2:=by
 obtain ⟨f,hf,hfu⟩:=Zq300 h
 have e:Zq14 S=(0,{ S with fuse:=f,dry:=Zq217 S,late:=[],wet:=0,deeds:=wrap64 (S.deeds+1) }):=by
  unfold Zq14
  rw [if_neg (by simp [hon]),h,hf]
  rfl
 rw [e]
 refine ⟨rfl,rfl,rfl,rfl,rfl,rfl,rfl,rfl,rfl,rfl,rfl,fun k=>?_,hfu⟩
 show get k (Zq217 S)=_
 rw [Zq630]
 split
 ·rfl
 ·rename_i hk
  rw [hc k,Zq544 hk]
  rfl
theorem Dried.coh {S S':Str} (h:Dried S S'):Coh S':=fun k=>by
 have:lateAt S' k=[]:=by unfold lateAt;rw [h.late];rfl
 rw [this,h.seen,h.dry]
 rfl
end Go.Proofs.YtpjchngjhijgmaaGreat
namespace Go.Proofs.YtpjchngjhijgmaaGreat
open Go.RowKit
def oL (K:K4):Option TS→List (K4 × TS)
 | none=>[]
 | some t=>[(K,t)]
def lL (K:K4) (ds:List Dd):List (K4 × List Dd):=if ds=[] then [] else [(K,ds)]
structure One (S:Str) (K:K4) (x y:Option TS) (ds:List Dd):Prop where
 seen:S.seen=oL K x
 dry:S.dry=oL K y
 late:S.late=lL K ds
 used:S.used=sizeO x
 fold:x=ds.foldl stepD y
def fine (o:Option TS):Prop:=0≤sizeO o∧sizeO o≤1000000000
def stays (y:Option TS) (ds:List Dd) (n torn:Int):Option TS :=
 match ds[keptN n ds.length]? with
 | some d=>if d.kind=1∧0<torn∧d.p≠[] then stepD ((ds.take (keptN n ds.length)).foldl stepD y) (tornD torn d) else (ds.take (keptN n ds.length)).foldl stepD y
 | none=>(ds.take (keptN n ds.length)).foldl stepD y
end Go.Proofs.YtpjchngjhijgmaaGreat
namespace Go.Proofs.YtpjchngjhijgmaaGreat
open Go.RowKit
def kL:K4:=⟨5,0,0,0⟩
def nmO:ByteArray:=⟨#[111]⟩
def lmayS (S:Str) (who:Int):Int:=if S.on=false then 7 else if who<1∨1073741824<who then 1 else 0
def numV (b:List Int):Int:=if b.length<8 then 0 else wrap64 (getB (b.take 8))
def whoS (S:Str):Int × Int:=if S.on=false then (0,7) else (numV (attrS S kL nmO).1,0)
def keepS (S:Str) (K:K4) (nm:ByteArray) (b:List Int):Int × Str :=
 if whyS S K≠0∧(makeS S K).1≠0 then makeS S K
 else if (setS (if whyS S K≠0 then (makeS S K).2 else S) K nm b).1≠0 then setS (if whyS S K≠0 then (makeS S K).2 else S) K nm b
 else Zq14 (setS (if whyS S K≠0 then (makeS S K).2 else S) K nm b).2
def brkS (S:Str) (who:Int):Int × Str:=if lmayS S who≠0 then (lmayS S who,S) else keepS S kL nmO (putB who 8)
def takeS (S:Str) (who:Int):Int × Str:=if lmayS S who≠0 then (lmayS S who,S) else if (whoS S).1≠0∧(whoS S).1≠who then (8,S) else brkS S who
def Zq901 (S:Str) (who:Int):Int × Str:=if lmayS S who≠0 then (lmayS S who,S) else if (whoS S).1≠who then (8,S) else keepS S kL nmO []
section
variable {W w : World} {I : Hp} {l : List HP} {p : Nat} {S : Str}
set_option maxRecDepth 4000
set_option maxHeartbeats 4000000
end
end Go.Proofs.YtpjchngjhijgmaaGreat
namespace Go.Proofs.YtpjchngjhijgmaaGreat
open Go.RowKit
def kObj (nm:ByteArray) (v:List Int):Option TS:=some ⟨[],if v=[] then [] else [(nm,v)]⟩
def objV (nm:ByteArray) (x:Option TS) (v:List Int):Prop:=(x=none∧v=[])∨x=kObj nm v
def Kept (S:Str) (K:K4) (nm:ByteArray) (v b:List Int) (r:Int × Str):Prop :=
 (r.1=0∧r.2.on=true∧One r.2 K (kObj nm b) (kObj nm b) []∧r.2.room=S.room∧r.2.armed=S.armed) ∨
 (S.armed=true∧r.1=7∧r.2.on=false∧r.2.room=S.room∧r.2.armed=false∧∃ z,One r.2 K z z []∧(objV nm z v∨objV nm z b))
end Go.Proofs.YtpjchngjhijgmaaGreat
namespace Go.Proofs.YtpjchngjhijgmaaGreat
open Go.RowKit
theorem Zq450:∀ (k:Nat) (n:Int),0≤n→n<2 ^ (8*k)→getB (putB n k)=n
 | 0,n,h0,h1=>by
  have:n=0:=by simp at h1;omega
  subst this;rfl
 | k+1,n,h0,h1=>by
  have e:putB n (k+1)=(n % 256)::putB (n / 256) k:=by
   unfold putB
   rw [List.range_succ_eq_map,List.map_cons,List.map_map]
   congr 1
   ·simp
   ·refine List.map_congr_left fun i _=>?_
    show n / 2 ^ (8*(i+1)) % 256=n / 256 / 2 ^ (8*i) % 256
    rw [show 8*(i+1)=8+8*i by omega,Int.pow_add,show (2:Int) ^ 8=256 by rfl,Int.ediv_ediv_of_nonneg (by decide)]
  have h2:(2:Int) ^ (8*(k+1))=256*2 ^ (8*k):=by
   rw [show 8*(k+1)=8+8*k by omega,Int.pow_add];rfl
  rw [e,getB,Zq450 k (n / 256) (by omega) (by omega)]
  omega
theorem Zq77 (n:Int) (k:Nat):∀ x ∈ putB n k,isByte x:=fun x hx=>by
 obtain ⟨i,_,rfl⟩:=List.mem_map.1 hx
 unfold isByte
 omega
def ownV (v:List Int) (o:Int):Prop:=(v=[]∧o=0)∨(v=putB o 8∧1≤o∧o≤1073741824)
structure LkJ (S:Str) (o:Int):Prop where
 room:S.room=1000
 one:∃ x v,One S kL x x []∧objV nmO x v∧ownV v o
def Went (S:Str) (o o':Int) (r:Int × Str):Prop :=
 (r.1=0∧r.2.on=true∧LkJ r.2 o'∧r.2.armed=S.armed)∨(S.armed=true∧r.1=7∧r.2.on=false∧r.2.armed=false∧∃ n,LkJ r.2 n∧(n=o∨n=o'))
def Zq908 (own what who:Int):Int × Int :=
 if what<0∨2<what then (own,0) else if who<1∨1073741824<who then (own,1)
 else if (what=0∧own≠0∧own≠who)∨(what=1∧own≠who) then (own,8) else if what=1 then (0,0) else (who,0)
def oursS (S:Str) (what who:Int):Int × Str:=if what=0 then takeS S who else if what=1 then Zq901 S who else if what=2 then brkS S who else (0,S)
end Go.Proofs.YtpjchngjhijgmaaGreat
namespace Go.Proofs.YtpjchngjhijgmaaGreat
open Go.RowKit
section
variable {W w : World} {I : Hp} {l : List HP} {p : Nat} {S : Str}
end
section
variable {W w : World} {I : Hp} {l : List HP} {p : Nat} {S : Str}
structure LkC (S:Str) (o:Int) (m:Nat):Prop where
 j:LkJ S o
 on:S.on=true
 arm:S.armed=false
 keeps:Keeps S m
set_option maxRecDepth 4000
set_option maxHeartbeats 4000000
end
end Go.Proofs.YtpjchngjhijgmaaGreat
namespace Go.Proofs.YtpjchngjhijgmaaGreat
open Go.RowKit
section
variable {W w : World} {I : Hp} {l : List HP}
set_option maxRecDepth 4000
set_option maxHeartbeats 8000000
def mayF (a s n:Int):Bool:=decide (1≤a∧a≤1073741824∧1≤s∧s≤1099511627776∧1≤n∧n≤90)
theorem Zq860 {a s n:Int} {b:Bool} (h:b=true↔(1≤a∧a≤1073741824∧1≤s∧s≤1099511627776∧1≤n∧n≤90)):b=mayF a s n:=by
 rw [Bool.eq_iff_iff,h,mayF,decide_eq_true_eq]
theorem Zq496 (a s n:Int) (w:World):Calls Tryz.prog 170 #[.int .u64 a,.int .u64 s,.int .u64 n] w fun e w'=>e=.returned (.bool (mayF a s n))∧w=w':=by
 go_enter Tryz.func170,Tryz.ntmps170
 go_wp2
 all_goals
  go_ret
  refine ⟨ret_bool (Zq860 ?_),rfl⟩
  simp only [decide_eq_true_eq,Bool.false_eq_true,false_iff]
  omega
theorem Zq545 (tag seq:Int) (A:Option Addr) (n c:Nat) (w:World) (h0:mayF tag seq n=true):Calls Tryz.prog 127 #[.agg #[.int .i64 tag,.int .i64 seq,.slice A n c]] w fun e w'=>e=.returned (.bool true)∧Below w.heap.size w w':=by
 have hm:=Zq496 tag seq n
 have hk:=h0
 unfold mayF at hk
 rw [decide_eq_true_eq] at hk
 rw [h0] at hm
 have HM:=Zh hm
 have hw1:IntKind.u64.wrap tag=tag:=by rw [IntKind.wrap_u64];omega
 have hw2:IntKind.u64.wrap seq=seq:=by rw [IntKind.wrap_u64];omega
 have hw3:IntKind.u64.wrap (n:Int)=n:=by rw [IntKind.wrap_u64];omega
 have d1:decide (1≤tag)=true:=decide_eq_true (by omega)
 have d2:decide (1≤seq)=true:=decide_eq_true (by omega)
 clear hm hk h0
 go_enter Tryz.func127,Tryz.ntmps127
 go_wp2_with fail
 refine (HM.out _).mono ?_
 rintro e w2 ⟨rfl,rfl⟩
 go_wp2_with fail
 go_ret
 exact ⟨rfl,Zq7 _ _⟩
theorem St.put_call {A:Option Addr} {c:Nat} {b:List Int} (n:Int) (k:Nat) (h:St W I w (HP.row 5 1 (.slice A b.length c) b.length (b.map byteV)::l)) (hn0:0≤n) (hn:n<18446744073709551616) (hk1:1≤k) (hk8:k≤8) (hbl:b.length≤1000000) :
  Calls Tryz.prog 128 #[.slice A b.length c,.int .u64 n,.int .i64 k] w fun e w'=>∃ A' c' q,e=.returned (.slice A' q.length c')∧q=b++putB n k∧St W I w' (HP.row 5 1 (.slice A' q.length c') q.length (q.map byteV)::l):=by
 refine (Zq628 _ b n k w (SliceSrc.of_owns h.row_owns (Zq64 b)) hn0 hn hk1 hk8 hbl).mono ?_
 rintro e w' ⟨v',rfl,hb,ho⟩
 obtain ⟨A',c',rfl⟩:=Zq17 ho
 exact ⟨A',c',_,rfl,rfl,h.drop.row_fresh hb ho⟩
theorem Zq497 (tag seq:Int) (d:List Int) (A:Option Addr) (c:Nat) (w:World) (h0:mayF tag seq d.length=true) (hs:SliceSrc w 1 (.slice A d.length c) d.length (d.map byteV)) (hb:∀ x ∈ d,isByte x) :
  Calls Tryz.prog 68 #[.agg #[.int .i64 tag,.int .i64 seq,.slice A d.length c]] w fun e w'=>∃ A' c' q,e=.returned (.tuple #[.slice A' q.length c',.int .i64 0])∧q=Zq46 ⟨tag,seq,d⟩∧St w w.hp w' [HP.row 5 1 (.slice A' q.length c') q.length (q.map byteV)]:=by
 have hk:=h0
 unfold mayF at hk
 rw [decide_eq_true_eq] at hk
 have hR:=Zq545 tag seq A d.length c
 have HR:=Zh (fun w=>hR w h0)
 have HS:=Zh hs
 have HB:=Zh hb
 obtain ⟨n,hn⟩:∃ n,d.length=n:=⟨_,rfl⟩
 have h1:=(St.init w).alloc (.cells #[.int .i64 tag,.int .i64 seq,.slice A d.length c] 50)
 have H1:=Zh h1
 have hw1:IntKind.u64.wrap tag=tag:=by rw [IntKind.wrap_u64];omega
 have hw2:IntKind.u64.wrap seq=seq:=by rw [IntKind.wrap_u64];omega
 have hw3:IntKind.u64.wrap (d.length:Int)=d.length:=by rw [IntKind.wrap_u64];omega
 have HK:=Zh hk
 clear hs hb hR h0 h1 hk hn n
 go_enter Tryz.func68,Tryz.ntmps68
 go_wp2_with fail
 refine (HR.out _).mono ?_
 rintro e w2 ⟨rfl,hb2⟩
 have h2:=H1.out.keep hb2
 obtain ⟨x0,x1,x2⟩:=Zq40 h2
 have hlt2:=h2.lt
 have hcl:=Zq625 w2 #[.int .u8 72,.int .u8 71,.int .u8 74,.int .u8 69] 4 4
 have h3:=h2.keep (Zq7 w2 (.cells #[.int .u8 72,.int .u8 71,.int .u8 74,.int .u8 69] 5 (4,5)))
 have hpu:=Zq628 _ [72,71,74,69] tag 4 _ (Zq855 w2 #[.int .u8 72,.int .u8 71,.int .u8 74,.int .u8 69] [72,71,74,69] 4 (4,5) rfl rfl) (by have:=HK.out;omega) (by have:=HK.out;omega) (by decide) (by decide) (by decide)
 have H3:=Zh h3
 have HPU:=Zh hpu
 clear h2 h3 hpu hb2
 go_wp2_with fail
 refine HPU.out.mono ?_
 rintro e w4 ⟨v4,rfl,hb4,ho4⟩
 obtain ⟨q4,hq4⟩:∃ q,[72,71,74,69]++putB tag 4=q:=⟨_,rfl⟩
 rw [hq4] at ho4
 obtain ⟨A4,c4,rfl⟩:=Zq17 ho4
 have h4:=H3.out.row_fresh hb4 ho4
 clear x0 x1 x2 hcl hb4 ho4
 obtain ⟨x0,x1,x2⟩:=Zq40 (h4.pull 1 _ rfl)
 have HQ4:=Zh hq4
 have hl4:q4.length=8:=by rw [←hq4];simp [Zq33]
 have hpu:=St.put_call seq 8 h4 (by have:=HK.out;omega) (by have:=HK.out;omega) (by decide) (by decide) (by omega)
 have HPU:=Zh hpu
 have HL4:=Zh hl4
 clear h4 hpu hq4 hl4
 go_wp2_with fail
 refine HPU.out.mono ?_
 rintro e w5 ⟨A5,c5,q5,rfl,hq5,h5⟩
 clear x0 x1 x2
 obtain ⟨x0,x1,x2⟩:=Zq40 (h5.pull 1 _ rfl)
 have hl5:q5.length=16:=by have:=HL4.out;rw [hq5,List.length_append,Zq33];omega
 have hpu:=St.put_call (d.length:Int) 2 h5 (by have:=HK.out;omega) (by have:=HK.out;omega) (by decide) (by decide) (by omega)
 have HPU:=Zh hpu
 have HL5:=Zh hl5
 have HQ5:=Zh hq5
 clear h5 hpu hq5 hl5
 go_wp2_with fail
 refine HPU.out.mono ?_
 rintro e w6 ⟨A6,c6,q6,rfl,hq6,h6⟩
 clear x0 x1 x2
 obtain ⟨x0,x1,x2⟩:=Zq40 (h6.pull 1 _ rfl)
 have hl6:q6.length=18:=by have:=HL5.out;rw [hq6,List.length_append,Zq33];omega
 obtain ⟨v7,w7,hr,h7⟩:=St.bytes_append 46 h6 (HS.out.below h6.below) (by have:=HK.out;omega)
 obtain ⟨A7,c7,rfl⟩:=Zq17 h7.row_owns
 obtain ⟨q7,hq7⟩:∃ q,q6++d=q:=⟨_,rfl⟩
 have e7:q6.length+d.length=q7.length:=by rw [←hq7,List.length_append]
 rw [←List.map_append,hq7,e7] at h7
 rw [e7] at hr
 have HR7:=Zh hr
 have HL6:=Zh hl6
 have HQ6:=Zh hq6
 have HQ7:=Zh hq7
 have HE7:=Zh e7
 have H7:=Zh h7
 have h7b:∀ x ∈ q7,isByte x:=by
  rw [←hq7,hq6,HQ5.out,←HQ4.out]
  intro x hx
  simp only [List.mem_append] at hx
  rcases hx with (((hx|hx)|hx)|hx)|hx
  ·simp at hx
   unfold isByte
   omega
  ·exact Zq77 _ _ x hx
  ·exact Zq77 _ _ x hx
  ·exact Zq77 _ _ x hx
  ·exact HB.out x hx
 have HB7:=Zh h7b
 clear h6 h7 hr hq6 hl6 hq7 e7 h7b
 go_wp2_with (at_builtin;refine Lib.wpList_append_run _ rfl (.tmp 25) (.tmp 27) 46 46 rfl _ _ rfl rfl _ _ HR7.out ?_)
 have hl7:q7.length=18+d.length:=by have:=HE7.out;have:=HL6.out;omega
 refine (Zq856 _ q7 w7 (SliceSrc.of_owns H7.out.row_owns (Zq64 q7)) HB7.out (by have:=HK.out;omega)).mono ?_
 rintro e w8 ⟨rfl,rfl⟩
 have hu:=Zq299 q7 4294967295 (by unfold isU32;omega)
 have hu2:isU32 (crcOf q7):=u32_xor _ _
 unfold isU32 at hu2
 obtain ⟨cr,hcr⟩:∃ cr,crcOf q7=cr:=⟨_,rfl⟩
 rw [hcr] at hu2 ⊢
 have hw8:IntKind.u64.wrap cr=cr:=by rw [IntKind.wrap_u64];omega
 have hpu:=St.put_call cr 4 H7.out (by omega) (by omega) (by decide) (by decide) (by have:=HK.out;omega)
 have HPU:=Zh hpu
 have HCR:=Zh hcr
 clear hpu hcr hu hu2 hl7 x0 x1 x2
 go_wp2_with fail
 refine HPU.out.mono ?_
 rintro e w9 ⟨A9,c9,q9,rfl,hq9,h9⟩
 have HQ9:=Zh hq9
 have H9:=Zh h9
 clear hq9 h9
 go_wp2_with fail
 go_ret2
 refine ⟨A9,c9,q9,rfl,?_,((H9.out.pull 1 _ rfl).drop)⟩
 have e7:headB ⟨tag,seq,d⟩=q7:=by
  rw [←HQ7.out,HQ6.out,HQ5.out,←HQ4.out]
  rfl
 unfold Zq46
 rw [e7,HCR.out]
 exact HQ9.out
end
end Go.Proofs.YtpjchngjhijgmaaGreat
namespace Go.Proofs.YtpjchngjhijgmaaGreat
open Go.RowKit
theorem Zq498:∀ {a b:List Int},(∀ x ∈ a,isByte x)→(∀ x ∈ b,isByte x)→Lib.bytesOf a=Lib.bytesOf b→a=b
 | [],[],_,_,_=>rfl
 | [],_::_,_,_,h=>by simp [Lib.bytesOf] at h
 | _::_,[],_,_,h=>by simp [Lib.bytesOf] at h
 | x::a,y::b,ha,hb,h=>by
  simp only [Lib.bytesOf,List.map_cons,List.cons.injEq] at h
  have h1:=ha x (List.mem_cons_self ..)
  have h2:=hb y (List.mem_cons_self ..)
  unfold isByte at h1 h2
  have h3:=congrArg UInt8.toNat h.1
  simp only [UInt8.toNat_ofNat'] at h3
  have h4:x=y:=by omega
  rw [h4,Zq498 (fun z hz=>ha z (List.mem_cons_of_mem _ hz)) (fun z hz=>hb z (List.mem_cons_of_mem _ hz)) h.2]
theorem Zq499 {a b:List Int} (ha:∀ x ∈ a,isByte x) (hb:∀ x ∈ b,isByte x):((strOfNums a).toList==(strOfNums b).toList)=decide (a=b):=by
 rw [Bool.eq_iff_iff,decide_eq_true_eq,beq_iff_eq,Lib.strOfNums_toList,Lib.strOfNums_toList]
 exact ⟨Zq498 ha hb,fun h=>by rw [h]⟩
theorem Zq344 {w:World} {s:Nat} {A:Option Addr} {n c m:Nat} {xs:List Value} (h:SliceSrc w s (.slice A n c) n xs) (hm:m≤n):SliceSrc w s (.slice A m c) m (xs.take (m*s)):=by
 obtain ⟨A1,c1,e,hsrc,hA⟩:=h
 simp only [Value.slice.injEq,true_and] at e
 obtain ⟨rfl,rfl⟩:=e
 have hms:=Nat.mul_le_mul_right s hm
 refine ⟨_,_,rfl,⟨by rw [List.length_take,hsrc.len];omega,fun hp=>?_,fun u hu=>hsrc.one u (List.mem_of_mem_take hu)⟩,hA⟩
 obtain ⟨ad,e,hc⟩:=hsrc.cells (by omega)
 refine ⟨ad,e,fun j u hu=>hc j u ?_⟩
 rw [List.getElem?_take] at hu
 split at hu
 ·exact hu
 ·cases hu
section
variable {W w : World} {I : Hp} {l : List HP}
set_option maxRecDepth 4000
set_option maxHeartbeats 4000000
theorem Zq170 (va vb:Value) (a b:List Int) (w:World) (ha:SliceSrc w 1 va a.length (a.map byteV)) (hb:SliceSrc w 1 vb b.length (b.map byteV)) (ba:∀ x ∈ a,isByte x) (bb:∀ x ∈ b,isByte x) :
  Calls Tryz.prog 150 #[va,vb] w fun e w'=>e=.returned (.bool (decide (a=b)))∧w=w':=by
 obtain ⟨A,ca,rfl,hsa,hna⟩:=ha
 obtain ⟨B,cb,rfl,hsb,hnb⟩:=hb
 have h1:(convert 46 9 (.slice A a.length ca)).run Tryz.prog w=.ok (.string (strOfNums a)) w:=Zq156 ⟨A,ca,rfl,hsa,hna⟩
 have h2:(convert 46 9 (.slice B b.length cb)).run Tryz.prog w=.ok (.string (strOfNums b)) w:=Zq156 ⟨B,cb,rfl,hsb,hnb⟩
 clear hsa hsb
 go_enter Tryz.func150,Tryz.ntmps150
 go_wp2
 go_ret
 exact ⟨ret_bool (Zq499 ba bb),rfl⟩
theorem Zq451 (A:Option Addr) (ca:Nat) (vb:Value) (a b:List Int) (w:World) (ha:SliceSrc w 1 (.slice A a.length ca) a.length (a.map byteV)) (hca:a.length≤ca) (hb:SliceSrc w 1 vb b.length (b.map byteV)) (ba:∀ x ∈ a,isByte x) (bb:∀ x ∈ b,isByte x) :
  Calls Tryz.prog 155 #[.slice A a.length ca,vb] w fun e w'=>e=.returned (.bool (decide (b<+:a)))∧w=w':=by
 obtain ⟨B,cb,rfl,hsb,hnb⟩:=hb
 by_cases hle:b.length≤a.length
 ·have hq:=fun v h=>Zq170 v (.slice B b.length cb) (a.take b.length) b w h ⟨B,cb,rfl,hsb,hnb⟩ (fun x hx=>ba x (List.mem_of_mem_take hx)) bb
  have e1:decide (a.take b.length=b)=decide (b<+:a):=by
   rw [Bool.eq_iff_iff,decide_eq_true_eq,decide_eq_true_eq,List.prefix_iff_eq_take]
   exact ⟨fun h=>h.symm,fun h=>h.symm⟩
  rw [e1] at hq
  have e2:(a.take b.length).length=b.length:=by rw [List.length_take];omega
  rw [e2] at hq
  have HQ:=Zh hq
  have d1:decide ((b.length:Int)≤(a.length:Int))=true:=by rw [decide_eq_true_eq];omega
  have hsl:=Zq344 ha hle
  rw [Nat.mul_one,←List.map_take] at hsl
  clear hq e1 e2 hsb
  have HS:=Zh hsl
  clear hsl ha
  go_enter Tryz.func155,Tryz.ntmps155
  go_wp2_with fail
  refine (HQ.out _ HS.out).mono ?_
  rintro e w2 ⟨rfl,rfl⟩
  go_wp2_with fail
  go_ret
  exact ⟨rfl,rfl⟩
 ·have d1:decide ((b.length:Int)≤(a.length:Int))=false:=by rw [decide_eq_false_iff_not];omega
  have e1:decide (b<+:a)=false:=decide_eq_false fun h=>hle h.length_le
  rw [e1]
  go_enter Tryz.func155,Tryz.ntmps155
  go_wp2_with fail
  go_ret
  exact ⟨rfl,rfl⟩
end
end Go.Proofs.YtpjchngjhijgmaaGreat
