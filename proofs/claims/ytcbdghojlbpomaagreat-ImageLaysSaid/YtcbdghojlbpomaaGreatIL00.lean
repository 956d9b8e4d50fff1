import Derived.ProofKit
import Derived.OpenShut
import Derived.Deep.Slices
import Derived.Lib.SmallJoins
import Derived.Deep.Fields
import Derived.Deep.CutRange
import Derived.Test.YtcbdghojlbpomaaGreatIF00
import Derived.Test.YtcbdghojlbpomaaGreatIF01
import Derived.Test.YtcbdghojlbpomaaGreatIF02
import Derived.Test.YtcbdghojlbpomaaGreatIF03
import Derived.Test.YtcbdghojlbpomaaGreatIF04
import Derived.Test.YtcbdghojlbpomaaGreatIF05
import Derived.Test.YtcbdghojlbpomaaGreatIF06
import Derived.Test.YtcbdghojlbpomaaGreatIF07
import Derived.Test.YtcbdghojlbpomaaGreatIF08
import Derived.Test.YtcbdghojlbpomaaGreatIF09
import Derived.Test.YtcbdghojlbpomaaGreatIF10
import Derived.Test.YtcbdghojlbpomaaGreatIF11
import Derived.Test.YtcbdghojlbpomaaGreatIF12
import Derived.Test.YtcbdghojlbpomaaGreatIF13
import Derived.Test.YtcbdghojlbpomaaGreatIF14
import Derived.Test.YtcbdghojlbpomaaGreatIF15
import Derived.Test.YtcbdghojlbpomaaGreatIF16
import Derived.Test.YtcbdghojlbpomaaGreatIF17
import Derived.Test.YtcbdghojlbpomaaGreatIF18
import Derived.Test.YtcbdghojlbpomaaGreatIF19
import Derived.Test.YtcbdghojlbpomaaGreatIF20
import Derived.Test.YtcbdghojlbpomaaGreatIF21
import Derived.Test.YtcbdghojlbpomaaGreatIF22
import Derived.Test.YtcbdghojlbpomaaGreatIF23
import Derived.Test.YtcbdghojlbpomaaGreatIF24
import Derived.Test.YtcbdghojlbpomaaGreatIF25
import Derived.Test.YtcbdghojlbpomaaGreatIF26
import Derived.Test.YtcbdghojlbpomaaGreatIF27
import Derived.Test.YtcbdghojlbpomaaGreatIF28
import Derived.Test.YtcbdghojlbpomaaGreatIF29
import Derived.Test.YtcbdghojlbpomaaGreatIF30
import Derived.Test.YtcbdghojlbpomaaGreatIF31
import Derived.Test.YtcbdghojlbpomaaGreatIF32
import Derived.Test.YtcbdghojlbpomaaGreatIF33
import Derived.Test.YtcbdghojlbpomaaGreatIF34
import Derived.Test.YtcbdghojlbpomaaGreatIF35
import Derived.Test.YtcbdghojlbpomaaGreatIF36
import Derived.Test.YtcbdghojlbpomaaGreatIF37
import Derived.Test.YtcbdghojlbpomaaGreatIF38
set_option linter.all false
namespace Go.Proofs.YtcbdghojlbpomaaGreat
open Tryz
open HP (pt mapOf)
open Go.IntKind (i64 u64)
open Go.Value (int pointer slice)
open Go.Obj (cells)
open Go.RowKit
theorem claySn_keeps {S:Str} {img num newest:Int} {p:List Int} {m:Nat} (h:Keeps S (m+16)):Keeps (Zlt S img num newest p).2 m:=by
 unfold Zlt;split
 ·exact h.fewer (by omega)
 ·exact ZcZ (Zdh h) (by omega) fun h2=>Zmw h2
end Go.Proofs.YtcbdghojlbpomaaGreat
namespace Go.Proofs.YtcbdghojlbpomaaGreat
open Tryz
open HP (pt mapOf)
open Go.IntKind (i64 u64)
open Go.Value (int pointer slice)
open Go.Obj (cells)
open Go.RowKit
theorem rat_head (o:RO) (newest:Int) (b:Option (List Int)):ratR (ZbM o newest b) 0=b:=rfl
end Go.Proofs.YtcbdghojlbpomaaGreat
namespace Go.Proofs.YtcbdghojlbpomaaGreat
open Tryz
open HP (pt mapOf)
open Go.IntKind (i64 u64)
open Go.Value (int pointer slice)
open Go.Obj (cells)
open Go.RowKit
theorem MarksI.hold {ms:List Mk} (h:MarksI ms) {m:Mk} (hi:∀ x ∈ ms,x.id<m.id) (hg:m.gone=false) (hn:holdN m.name=true) (h0:heldM ms=none):MarksI (ms++[m]):=by
 have hh:heldM (ms++[m])=some m:=by rw [ZmE,h0,hn];rfl
 have hno:=h.no h0;have hn0:=Zfo.1 h0;have hall:ms.filter Mk.seen=ms:=Zcy.2 fun y hy=>by
  have a:=hno y hy;have b:=hn0 y hy;unfold Mk.seen;rw [a];simpa using b
 have h8:=h.seen;rw [hall] at h8;refine ⟨?_,?_,fun e=>?_,fun x e=>?_,fun x e=>?_,fun x e=>?_⟩
 ·rw [Z4];refine Zd4.2 ⟨h.inc,Zgs _ _,fun a ha b hb=>?_⟩;obtain ⟨y,hy,rfl⟩:=ZH.1 ha;simp at hb;subst hb;exact hi y hy
 ·rw [Zca,hall,ZdZ (by unfold Mk.seen;rw [hn];simp)];simpa using h8
 ·rw [hh] at e;cases e
 ·rw [hh] at e;injection e with e;subst e;rw [Zca,ZA,ZdZ (by simp)];have:=Zbi (fun y:Mk=>decide (y.id<m.id)) ms;simp only [List.filter_nil,ZaH];omega
 ·rw [hh] at e;injection e with e;subst e;intro y hy hyg;rcases ZY.1 hy with q|q
  ·exact hi y q
  ·rw [Zaz.1 q,hg] at hyg;cases hyg
 ·rw [hh] at e;injection e with e;subst e;intro y hy hyn;rcases ZY.1 hy with q|q
  ·exact absurd hyn (hn0 y q)
  ·rw [Zaz.1 q]
end Go.Proofs.YtcbdghojlbpomaaGreat
namespace Go.Proofs.YtcbdghojlbpomaaGreat
open Tryz
open HP (pt mapOf)
open Go.IntKind (i64 u64)
open Go.Value (int pointer slice)
open Go.Obj (cells)
open Go.RowKit
section
variable {P : Program} {ops : Array Oper} {md : Region.Mode} {S : World -> Prop}
theorem Det.of_same {o:Oper} {v:Value} {a a':Act} (hy:Det P ops S o v a) (he:execOp a'.eval o=execOp a.eval o)
  (hw:Region.wanted o (yielded ops a'.tmps)=Region.wanted o (yielded ops a.tmps)):Det P ops S o v a':=by
 unfold Det at *;rw [he,hw];exact hy
theorem Det.wpOp {Q:Exit->Act->World->Prop} {i:Nat} {o:Oper} {v:Value} {a:Act} (hi:ops[i]?=some o) (hy:Det P ops S o v a) {K:Act->World->Prop} {w:World} (hS:S w)
  (h:∀ w',S w'->K (a.put o.dst v) w'):wpOp P ops Q i K a w:=by
 unfold Go.wpOp;simp only [hi];rcases hy with ⟨hw,hv⟩|⟨hw,rfl⟩
 ·rw [Zb hw];left;unfold Oper.wp;rcases hv w hS with hr|⟨f,args,w1,hr,hc⟩
  ·rw [hr];exact h w hS
  ·rw [hr,Oper.upon_enter];refine Calls.mono hc fun e w' he=>?_;obtain ⟨rfl,hS'⟩:=he;exact h w' hS'
 ·rw [Za (by simp [hw])];exact h w hS
theorem wpAny_of_U {Q:Exit->Act->World->Prop} {M:Nat->Bool} {L:Array Bool->Act->Prop} {g:Nat} (hL:∀ listed a,L listed a->∀ w,S w->wpAny P md ops Q g listed a w) :
  ∀ (f:Nat) (listed:Array Bool) (a:Act),wpU P md ops S M L f listed a->∀ w,S w->wpAny P md ops Q (f+g) listed a w
 | 0,listed,a,h,w,hS=>by rw [Zar];exact hL _ _ h w hS
 | f+1,listed,a,h,w,hS=>by
  rw [show f+1+g=(f+g)+1 by omega];refine ⟨fun h0=>absurd h0 h.1,fun i hi=>?_⟩;obtain ⟨_,o,v,ho,hd,hn⟩:=h.2 i hi;exact hd.wpOp ho hS fun w' hS'=>wpAny_of_U hL f _ _ hn w' hS'
theorem wpU_first {M:Nat->Bool} {l0:Array Bool} {L:Array Bool->Act->Prop} {i:Nat} {oi:Oper} {v:Value} (hi:ops[i]?=some oi) (hsel:∀ (j:Nat) (o:Oper) cs b,ops[j]?=some o->o.op≠.select cs b)
  (hM:M i=true) (hG:Zh2 md ops M l0) (hL:∀ listed a,L listed a->∀ j ∈ Region.ready md ops listed,M j=false) :
  ∀ (f:Nat) (listed:Array Bool) (a:Act),ShutDown md ops listed->(∀ j,l0.getD j false=true->listed.getD j false=true) ->
   (∀ j oj,ops[j]?=some oj->j≠i->listed.getD j true=false->(∀ e ∈ oj.after,Region.binds md e=true->e.on≠i)->oi.apart ops oj=true) ->
   i ∈ Region.ready md ops listed->Det P ops S oi v a ->
   wpU P md ops S M L f (listed.setIfInBounds i true) (a.put oi.dst v)->wpU P md ops S M L (f+1) listed a:=by
 intro f;induction f with
 | zero =>
  intro listed a hs h0 _ hr hy H;refine ⟨fun h=>(by rw [h] at hr;cases hr),fun j hj=>?_⟩;have hMj:=hG listed hs h0 i hM (mem_ready.1 hr).1 j hj;refine ⟨hMj,?_⟩;by_cases hji:j=i
  ·subst hji;exact ⟨oi,v,hi,hy,H⟩
  ·have:=hL _ _ H j (ready_mono hj hji);rw [hMj] at this;cases this
 | succ f ih =>
  intro listed a hs h0 hfree hr hy H;have hun:=(mem_ready.1 hr).1;refine ⟨fun h=>(by rw [h] at hr;cases hr),fun j hj=>?_⟩;refine ⟨hG listed hs h0 i hM hun j hj,?_⟩;by_cases hji:j=i
  ·subst hji;exact ⟨oi,v,hi,hy,H⟩
  ·obtain ⟨hjun,oj,hoj,hall⟩:=mem_ready.1 hj;have hnot:∀ e ∈ oj.after,Region.binds md e=true->e.on≠i:=fun e he hb heq=>by
    have h2:=hall e he hb;rw [heq,Zdg hun] at h2;cases h2
   have hap:=hfree j oj hoj hji hjun hnot;obtain ⟨h1,h2,h3⟩:=Oper.apart_spec hap;obtain ⟨_,o,u,ho,hd,hn⟩:=H.2 j (ready_mono hj hji);rw [hoj] at ho;cases ho;have hd':Det P ops S oj u a:=hd.of_same (execOp_put oj (fun cs b=>hsel j oj cs b hoj) a oi.dst v h1).symm (wanted_put oj a oi.dst v h1).symm;refine ⟨oj,u,hoj,hd',?_⟩;refine ih (listed.setIfInBounds j true) (a.put oj.dst u) (hs.next hj) (fun k hk=>getD_set_true (h0 k hk)) (fun k ok hk hki hkun hno=>hfree k ok hk hki ?_ hno) (ready_mono hr (Ne.symm hji))
    (hy.of_same (execOp_put oi (fun cs b=>hsel i oi cs b hi) a oj.dst u h3) (wanted_put oi a oj.dst u h3)) ?_
   ·by_cases hjk:j=k
    ·subst hjk;exact hjun
    ·rwa [getD_set_ne true hjk] at hkun
   ·rw [Array.setIfInBounds_comm _ _ hji,<-Act.put_comm a v u h2];exact hn
theorem wpDet_nil {K:Act->Prop} {a:Act} (h:K a):wpDet P ops S K [] a:=h
theorem wpDet_step {K:Act->Prop} {a:Act} {o:Oper} {l:List Oper} (v:Value) (hw:Region.wanted o (yielded ops a.tmps)=true) (hy:∀ w,S w->(execOp a.eval o).run P w=.ok (.value v) w) (h:wpDet P ops S K l (a.put o.dst v)):wpDet P ops S K (o::l) a :=
 ⟨v,.inl ⟨hw,fun w hS=>.inl (hy w hS)⟩,h⟩
theorem wpDet_skip {K:Act->Prop} {a:Act} {o:Oper} {l:List Oper} (hw:Region.wanted o (yielded ops a.tmps)=false) (h:wpDet P ops S K l (a.put o.dst undef)):wpDet P ops S K (o::l) a :=
 ⟨undef,.inr ⟨hw,rfl⟩,h⟩
theorem wpDet_call {K:Act->Prop} {a:Act} {o:Oper} {l:List Oper} (v:Value) (f:FuncId) (args:Array Value) (hw:Region.wanted o (yielded ops a.tmps)=true) (hy:∀ w,(execOp a.eval o).run P w=.ok (.enter f args) w)
  (hc:∀ w,S w->Calls P f args w (fun e w'=>e=.returned v∧S w')) (h:wpDet P ops S K l (a.put o.dst v)):wpDet P ops S K (o::l) a :=
 ⟨v,.inl ⟨hw,fun w hS=>.inr ⟨f,args,w,hy w,hc w hS⟩⟩,h⟩
theorem wpU_head {l:List Oper} {M:Nat->Bool} {l0:Array Bool} {K:Act->Prop} {L:Array Bool->Act->Prop} (hsel:Region.noSelect l.toArray=true) (hG:Zh2 md l.toArray M l0) (hL:∀ listed a,L listed a->∀ j ∈ Region.ready md l.toArray listed,M j=false) :
  ∀ (ks:List Nat) (listed:Array Bool) (a:Act),(∀ k ∈ ks,M k=true)->ShutDown md l.toArray listed->(∀ j,l0.getD j false=true->listed.getD j false=true)->Zbd md l.toArray ks listed=true ->
  (∀ a',K a'->L (Zal ks listed) a')->wpDet P l.toArray S K (pickL l ks) a->wpU P md l.toArray S M L ks.length listed a
 | [],listed,a,_,_,_,_,hK,h=>hK a h
 | k::ks,listed,a,hM,hs,h0,hB,hK,h=>by
  simp only [Zbd,Zak] at hB;obtain ⟨⟨hr,hf⟩,hB'⟩:=hB;have hr':k ∈ Region.ready md l.toArray listed:=by simpa using hr
  obtain ⟨o,ho⟩:=ZcF hr';have ho':l[k]?=some o:=by simpa using ho
  have e:pickL l (k::ks)=o::pickL l ks:=by simp [pickL,ho']
  rw [e] at h;obtain ⟨v,hy,hK'⟩:=h;exact wpU_first ho (Region.noSelect_spec hsel) (hM k (Z0 ..)) hG hL ks.length listed a hs h0 (Region.free_spec ho hf) hr' hy
   (wpU_head hsel hG hL ks _ _ (fun j hj=>hM j (Z8 _ hj)) (hs.next hr') (fun j hj=>getD_set_true (h0 j hj)) hB' hK hK')
theorem wp_region_det {id:Nat} {w:World} {Q:Exit->Act->World->Prop} {a:Act} {l:List Oper} (S:World->Prop) (head tail:List Nat) (hm:P.follows .mixedOrders=true) (hB:detB .any l head tail=true) (hS:S w.drew)
  (h:wpDet P l.toArray S (fun a2=>∀ w',S w'->wpList P l.toArray (NoPanic Q) (pickL l tail) a2 w') (pickL l head) a):(Code.region id l.toArray true).wp P Q a w:=by
 refine wp_region_noPanic ?_;simp only [detB,Zak,Ze] at hB;obtain ⟨⟨⟨⟨⟨hsel,hh⟩,hg⟩,ht⟩,hn⟩,htl⟩:=hB;refine wp_region_any hm ?_;change wpAny P .any l.toArray (NoPanic Q) l.toArray.size _ a w.drew;have hsz:l.toArray.size=head.length+tail.length:=by rw [hn];simp
 have hrep:Array.replicate l.toArray.size false=Array.replicate l.length false:=by simp
 rw [hrep,hsz];have hG:Zh2 .any l.toArray (fun t=>head.contains t) (Array.replicate l.length false):=fun listed hsd h0 i hi hun t htr=>by
  simp only [Zgj,Zcw,Za8,Zfg] at hg;obtain ⟨htun,o,ho,hall⟩:=mem_ready.1 htr;have h2:=hg t (Zby.1 ho).1;rcases h2 with (h2|h2)|h2
  ·have:=h0 t h2;rw [Zdg htun] at this;cases this
  ·exact h2
  ·have h3:=h2 i (by simpa using hi);have h4:=ZeH hsd _ t (fun o' ho' e he' hb=>by rw [ho] at ho';cases ho';exact hall e he' hb) h3;rw [Zdg hun] at h4;cases h4
 obtain ⟨L,hLd⟩:∃ L:Array Bool->Act->Prop,L=fun listed a=>tailB .any l.toArray tail listed=true∧∀ w',S w'->wpList P l.toArray (NoPanic Q) (pickL l tail) a w':=⟨_,rfl⟩;have hL:∀ (listed:Array Bool) (a:Act),L listed a->∀ j ∈ Region.ready .any l.toArray listed,head.contains j=false:=fun listed a hL j hj=>by
  rw [hLd] at hL;cases tail with
  | nil =>
   have:=hL.1;simp only [tailB,List.isEmpty_iff] at this;rw [this] at hj;cases hj
  | cons k ks =>
   have:=hL.1;simp only [tailB,Zak,Ze] at this;rw [this.1] at hj;obtain rfl:j=k:=by simpa using hj
   simp only [List.all_cons,Zak] at htl;simpa using htl.1
 have H:=wpU_head (L:=L) hsel hG hL head _ a (fun k hk=>by simpa using hk) (ShutDown.start _) (fun j hj=>hj) hh (fun a' h'=>by rw [hLd];exact ⟨ht,h'⟩) h;exact wpAny_of_U (L:=L) (fun listed a' hl w' hS'=>by rw [hLd] at hl;exact ZgY tail listed a' _ hl.1 (hl.2 w' hS')) _ _ _ H _ hS
end
end Go.Proofs.YtcbdghojlbpomaaGreat
namespace Go.Proofs.YtcbdghojlbpomaaGreat
open Tryz
open HP (pt mapOf)
open Go.IntKind (i64 u64)
open Go.Value (int pointer slice)
open Go.Obj (cells)
open Go.RowKit Go.ChangeShapes Go.WideShapes Go.ChangeAt Go.Deep Go.Joins
set_option maxRecDepth 100000
section
variable {H : Type} {enc : TypeId × Value -> H} {P : Program} {w : World} {base : Nat} {spare : Nat -> Bool} {held : Bool}
end
section
variable {H : Type} {enc : TypeId × Value -> H} {w : World} {base : Nat} {spare : Nat -> Bool} {held : Bool}
variable {r : Reach} {b0 : Nat} {v : Value} {d : DataW H} {p : List MemPlace}
theorem open_bytes (hv:Value.okWide prog w r b0 32 v) (h:DataW.Trod enc prog w base spare held 32 v d p):∃ q,Zw w.hp v q∧(∀ x ∈ q,isByte x)∧q.length<=maxLen:=by
 obtain ⟨A,n,c,e⟩:=okWide_slice underlying32 hv;obtain ⟨l,h1,h2,h3⟩:=ZqV (P:=prog) byteV isByte underlying32 ZpT ZqC h ⟨A,n,c,e⟩;exact ⟨l,h1,h2,h3⟩
end
end Go.Proofs.YtcbdghojlbpomaaGreat
namespace Go.Proofs.YtcbdghojlbpomaaGreat
open Tryz
open HP (pt mapOf)
open Go.IntKind (i64 u64)
open Go.Value (int pointer slice)
open Go.Obj (cells)
open Go.RowKit
section
variable {W w : World} {I : Hp} {l : List HP}
set_option maxRecDepth 4000
set_option maxHeartbeats 8000000
theorem shape1_spec (o u c:Int) (w:World):Calls prog 58 #[.agg #[int i64 o,int i64 u,int i64 c]] w fun e w'=>e=.returned (.bool (Zff o u c))∧Below w.heap.size w w':=by
 go_enter func58,ntmps58;go_wp2;all_goals
  go_ret;refine ⟨retB (ZoR ?_),ZM _ _⟩;simp only [Ze,ZaS,false_iff];omega
end
end Go.Proofs.YtcbdghojlbpomaaGreat
namespace Go.Proofs.YtcbdghojlbpomaaGreat
open Tryz
open HP (pt mapOf)
open Go.IntKind (i64 u64)
open Go.Value (int pointer slice)
open Go.Obj (cells)
open Go.RowKit
theorem IsObjs.same {l:Ly} {size n m:Nat} (h:IsObjs l size n) (h2:IsObjs l size m):n=m:=by
 have a:∀ {n m:Nat},IsObjs l size n->IsObjs l size m->n<=m:=fun {n m} h h2=>by
  rcases h.top with e|⟨x,hx,e⟩
  ·omega
  ·have:=h2.all x hx;omega
 exact Nat.le_antisymm (a h h2) (a h2 h)
theorem IsObjs.succ {l:Ly} {size n:Nat} (h:IsObjs l size n):IsObjs l (size+1) (max n ((ZB l size).1+1)):=by
 refine ⟨fun x hx=>?_,?_⟩
 ·by_cases e:x=size
  ·subst e;omega
  ·have:=h.all x (by omega);omega
 ·by_cases e:n<=(ZB l size).1+1
  ·exact .inr ⟨size,by omega,by omega⟩
  ·rcases h.top with q|⟨x,hx,q⟩
   ·omega
   ·exact .inr ⟨x,by omega,by omega⟩
theorem IsBytes.same {l:Ly} {size o n m:Nat} (h:IsBytes l size o n) (h2:IsBytes l size o m):n=m:=by
 have a:∀ {n m:Nat},IsBytes l size o n->IsBytes l size o m->n<=m:=fun {n m} h h2=>by
  rcases h.top with e|⟨x,hx,e1,e2⟩
  ·omega
  ·have:=h2.all x hx e1;omega
 exact Nat.le_antisymm (a h h2) (a h2 h)
theorem IsBytes.succ {l:Ly} {size o n:Nat} (h:IsBytes l size o n):IsBytes l (size+1) o (if (ZB l size).1=o then max n ((ZB l size).2+1) else n):=by
 refine ⟨fun x hx e=>?_,?_⟩
 ·by_cases q:x=size
  ·subst q;rw [Zb e];omega
  ·have:=h.all x (by omega) e;split <;> omega
 ·split
  ·rename_i q;by_cases e:n<=(ZB l size).2+1
   ·exact .inr ⟨size,by omega,q,by omega⟩
   ·rcases h.top with r|⟨x,hx,r,s⟩
    ·omega
    ·exact .inr ⟨x,by omega,r,by omega⟩
  ·rcases h.top with r|⟨x,hx,r,s⟩
   ·exact .inl r
   ·exact .inr ⟨x,by omega,r,s⟩
end Go.Proofs.YtcbdghojlbpomaaGreat
namespace Go.Proofs.YtcbdghojlbpomaaGreat
open Tryz
open HP (pt mapOf)
open Go.IntKind (i64 u64)
open Go.Value (int pointer slice)
open Go.Obj (cells)
open Go.RowKit
section
variable {W w : World} {I : Hp} {l : List HP} {p : Nat} {S : Str}
set_option maxRecDepth 4000
set_option maxHeartbeats 4000000
end
section
variable {W w : World} {I : Hp} {l : List HP} {p : Nat} {S : Str}
set_option maxRecDepth 4000
set_option maxHeartbeats 8000000
end
section
variable {W w : World} {I : Hp} {l : List HP} {p : Nat} {S : Str}
set_option maxRecDepth 4000
set_option maxHeartbeats 8000000
end
section
variable {W w : World} {I : Hp} {l : List HP} {p : Nat} {S : Str}
set_option maxRecDepth 4000
set_option maxHeartbeats 8000000
end
section
variable {W w : World} {I : Hp} {l : List HP} {p : Nat} {S : Str}
set_option maxRecDepth 4000
set_option maxHeartbeats 8000000
end
section
variable {W w : World} {I : Hp} {l : List HP} {p : Nat} {S : Str}
set_option maxRecDepth 4000
set_option maxHeartbeats 8000000
theorem clayn_spec (img num newest:Int) (pv:Value) (b:List Int) {m:Nat} (h:St W I w (Zd p S::l)) (hk:Keeps S (m+16)) (hb:Zw I pv b) (hbl:b.length<=1000000) :
  Calls prog 97 #[pointer (some ⟨p,0,none⟩),int i64 img,int i64 num,int i64 newest,pv] w (DoesE W I p l (Zlt S img num newest b)):=by
 have HB:=Zh hb;obtain ⟨Ap,cp,rfl,_⟩:=hb;have hm:=fun b=>Zdp b h;have HM:=Zh hm;have H:=Zh h;have HK:=Zh hk;clear hm h hk;cases g0:objB img num with
 | false =>
  have hf:(objB img num&&snapB newest&&ZG 0 b.length)=false:=by rw [g0] <;> simp
  have HX:=Zh (show Zlt S img num newest b=((cmayS S false),S) by unfold Zlt;rw [hf,Zb (Zab S)]);have hm:=HM.o false;have hne:(cmayS S false != 0)=true:=by simpa using Zab S
  obtain ⟨e0,he0⟩:∃ e0,cmayS S false=e0:=⟨_,rfl⟩;rw [he0] at hm hne HX;have HMF:=Zh hm;clear hm hf he0;have hg0:=ZaE img num w;rw [g0] at hg0;have HG0:=Zh hg0;clear hg0;go_enter func97,ntmps97;go_wp2_with fail;refine HG0.o.mono ?_;rintro e w2 ⟨rfl,rfl⟩;go_wp2_with fail;refine HMF.o.mono ?_;rintro e w2 ⟨rfl,rfl⟩;go_wp2;go_ret;rw [HX.o];exact ⟨I,Hp.sub.refl _,rfl,H.o⟩
 | true =>
  cases g1:snapB newest with
  | false =>
   have hf:(objB img num&&snapB newest&&ZG 0 b.length)=false:=by rw [g0,g1] <;> simp
   have HX:=Zh (show Zlt S img num newest b=((cmayS S false),S) by unfold Zlt;rw [hf,Zb (Zab S)]);have hm:=HM.o false;have hne:(cmayS S false != 0)=true:=by simpa using Zab S
   obtain ⟨e0,he0⟩:∃ e0,cmayS S false=e0:=⟨_,rfl⟩;rw [he0] at hm hne HX;have HMF:=Zh hm;clear hm hf he0;have hg0:=ZaE img num w;rw [g0] at hg0;have HG0:=Zh hg0;clear hg0;have hg1:=Za5 newest w;rw [g1] at hg1;have HG1:=Zh hg1;clear hg1;go_enter func97,ntmps97;go_wp2_with fail;refine HG0.o.mono ?_;rintro e w2 ⟨rfl,rfl⟩;go_wp2_with fail;refine HG1.o.mono ?_;rintro e w2 ⟨rfl,rfl⟩;go_wp2_with fail;refine HMF.o.mono ?_;rintro e w2 ⟨rfl,rfl⟩;go_wp2;go_ret;rw [HX.o];exact ⟨I,Hp.sub.refl _,rfl,H.o⟩
  | true =>
   cases g2:ZG 0 b.length with
   | false =>
    have hf:(objB img num&&snapB newest&&ZG 0 b.length)=false:=by rw [g0,g1,g2] <;> simp
    have HX:=Zh (show Zlt S img num newest b=((cmayS S false),S) by unfold Zlt;rw [hf,Zb (Zab S)]);have hm:=HM.o false;have hne:(cmayS S false != 0)=true:=by simpa using Zab S
    obtain ⟨e0,he0⟩:∃ e0,cmayS S false=e0:=⟨_,rfl⟩;rw [he0] at hm hne HX;have HMF:=Zh hm;clear hm hf he0;have hg0:=ZaE img num w;rw [g0] at hg0;have HG0:=Zh hg0;clear hg0;have hg1:=Za5 newest w;rw [g1] at hg1;have HG1:=Zh hg1;clear hg1;have hg2:=Zdi 0 b.length w;rw [g2] at hg2;have HG2:=Zh hg2;clear hg2;go_enter func97,ntmps97;go_wp2_with fail;refine HG0.o.mono ?_;rintro e w2 ⟨rfl,rfl⟩;go_wp2_with fail;refine HG1.o.mono ?_;rintro e w2 ⟨rfl,rfl⟩;go_wp2_with fail;refine HG2.o.mono ?_;rintro e w2 ⟨rfl,rfl⟩;go_wp2_with fail;refine HMF.o.mono ?_;rintro e w2 ⟨rfl,rfl⟩;go_wp2;go_ret;rw [HX.o];exact ⟨I,Hp.sub.refl _,rfl,H.o⟩
   | true =>
    have hf:(objB img num&&snapB newest&&ZG 0 b.length)=true:=by rw [g0,g1,g2] <;> rfl
    have hm:=HM.o true;obtain ⟨e0,he0⟩:∃ e0,cmayS S true=e0:=⟨_,rfl⟩;have HX:=Zh (show Zlt S img num newest b=_ by unfold Zlt;rw [hf,he0]);rw [he0] at hm;have HMF:=Zh hm;clear hm hf he0;have hg0:=ZaE img num w;rw [g0] at hg0;have HG0:=Zh hg0;clear hg0;have hg1:=Za5 newest w;rw [g1] at hg1;have HG1:=Zh hg1;clear hg1;have hg2:=Zdi 0 b.length w;rw [g2] at hg2;have HG2:=Zh hg2;clear hg2;by_cases h0:e0=0
    ·subst h0;have HX:=Zh (HX.o.trans (Za (by simp)));have ha:=ZeR img num newest H.o (m:=m+6) HK.o;obtain ⟨⟨e1,S1⟩,hae⟩:∃ r,Zbq S img num newest=r:=⟨_,rfl⟩;have hk1:=Zdh (m:=m+6) (img:=img) (num:=num) (newest:=newest) HK.o;rw [hae] at ha hk1 HX;have HA:=Zh ha;have HK1:=Zh hk1;clear ha hae hk1;go_enter func97,ntmps97;go_wp2_with fail;refine HG0.o.mono ?_;rintro e w2 ⟨rfl,rfl⟩;go_wp2_with fail;refine HG1.o.mono ?_;rintro e w2 ⟨rfl,rfl⟩;go_wp2_with fail;refine HG2.o.mono ?_;rintro e w2 ⟨rfl,rfl⟩;go_wp2_with fail;refine HMF.o.mono ?_;rintro e w2 ⟨rfl,rfl⟩;go_wp2_with fail;refine HA.o.mono ?_;rintro e w3 ⟨I3,hs3,rfl,h3⟩;by_cases he:e1=0
     ·subst he;have HX2:=Zh (HX.o.trans (Zce _ _));have H3:=Zh h3;have HS3:=Zh hs3;clear h3 hs3;go_wp2_with fail;refine (Zb5 img num 0 w3).mono ?_;rintro e w4 ⟨rfl,hb4⟩;have h4:=H3.o.keep hb4;have hly:=Zkh ⟨4,img,num,0⟩ _ b h4 HK1.o ((Zbv _ _).mono HS3.o HB.o) hbl;simp only [K4.val] at hly;have HLY:=Zh hly;clear h4 hb4 hly;go_wp2_with fail;refine HLY.o.mono ?_;rintro e w5 ⟨I5,hs5,rfl,h5⟩;have H5:=Zh h5;have HS5:=Zh (HS3.o.trans hs5);clear h5 hs5;go_wp2;go_ret;rw [HX2.o];exact ⟨I5,HS5.o,rfl,H5.o⟩
     ·have de:(e1 != 0)=true:=by simpa using he
      have HX2:=Zh (HX.o.trans (Zcp he _ _));have H3:=Zh h3;have HS3:=Zh hs3;clear h3 hs3;go_wp2;go_ret;rw [HX2.o];exact ⟨I3,HS3.o,rfl,H3.o⟩
    ·have d0:(e0 != 0)=true:=by simpa using h0
     have HX2:=Zh (HX.o.trans (Zb h0));go_enter func97,ntmps97;go_wp2_with fail;refine HG0.o.mono ?_;rintro e w2 ⟨rfl,rfl⟩;go_wp2_with fail;refine HG1.o.mono ?_;rintro e w2 ⟨rfl,rfl⟩;go_wp2_with fail;refine HG2.o.mono ?_;rintro e w2 ⟨rfl,rfl⟩;go_wp2_with fail;refine HMF.o.mono ?_;rintro e w2 ⟨rfl,rfl⟩;go_wp2;go_ret;rw [HX2.o];exact ⟨I,Hp.sub.refl _,rfl,H.o⟩
end
section
variable {W w : World} {I : Hp} {l : List HP} {p : Nat} {S : Str}
set_option maxRecDepth 4000
set_option maxHeartbeats 8000000
end
section
variable {W w : World} {I : Hp} {l : List HP} {p : Nat} {S : Str}
set_option maxRecDepth 4000
set_option maxHeartbeats 8000000
end
end Go.Proofs.YtcbdghojlbpomaaGreat
namespace Go.Proofs.YtcbdghojlbpomaaGreat
open Tryz
open HP (pt mapOf)
open Go.IntKind (i64 u64)
open Go.Value (int pointer slice)
open Go.Obj (cells)
open Go.RowKit
section
variable {S : Str} {R : List RO} {ids : List Int} {next newest : Int} {k : Nat}
theorem IStore.lay (H:IStore S newest R) (M:MidI ids next newest R) (hk:k<every) {p:List Int} (ho:p.length<=64):OneStep (Zlt S 0 k newest p) S ids next newest (R.set k (rlay (objAt R k) newest p)):=by
 have:=IStore.one (a:=actV 3 k newest 0 0 0 p) H M hk rfl (by simp [actV]) (fun h=>(by simp [actV] at h)) ⟨fun h=>(by simp [actV] at h),fun h=>(by simp [actV] at h),fun h=>(by simp [actV] at h),fun _=>(by unfold ZG actV;rw [Ze];simp only;omega)⟩;exact ⟨this.1,this.2.1,this.2.2.1,this.2.2.2⟩
end
end Go.Proofs.YtcbdghojlbpomaaGreat
namespace Go.Proofs.YtcbdghojlbpomaaGreat
open Tryz
open HP (pt mapOf)
open Go.IntKind (i64 u64)
open Go.Value (int pointer slice)
open Go.Obj (cells)
open Go.RowKit
theorem HdI.hold {h:Hd} {R:List RO} (H:HdI h R) {nm:ByteArray} (hh:holdN nm=true) (hz:2<=nm.size∧nm.size<=13) (hn:nameB (nm.extract 1 nm.size)=true) (hx:h.next<1073741824) (h0:heldM h.marks=none):HdI (snapH h nm) R:=by
 refine H.marked (.inl ⟨hh,rfl,hz.1,hz.2,hn⟩) hx (H.marks.hold (ZqM H.ok) rfl hh h0) ?_;rw [Zpa,hh,Zb rfl,ZdG];exact H.ok.diff
end Go.Proofs.YtcbdghojlbpomaaGreat
namespace Go.Proofs.YtcbdghojlbpomaaGreat
open Tryz
open HP (pt mapOf)
open Go.IntKind (i64 u64)
open Go.Value (int pointer slice)
open Go.Obj (cells)
open Go.RowKit
def Mk.clr (m:Mk):Mk:={ m with gone:=false }
def heldL (ms:List Mk):List Mk:=match heldM ms with
 | none=>[]
 | some x=>(ms.filter fun m=>decide (m.id<=x.id)).map Mk.clr
theorem heldL_some {ms:List Mk} {x:Mk} (h:heldM ms=some x):heldL ms=(ms.filter fun m=>decide (m.id<=x.id)).map Mk.clr:=by unfold heldL;rw [h]
theorem heldL_none {ms:List Mk} (h:heldM ms=none):heldL ms=[]:=by unfold heldL;rw [h]
theorem held_in {ms:List Mk} {m:Mk} (h:m ∈ heldL ms):∃ x m',heldM ms=some x∧m' ∈ ms∧m'.id<=x.id∧m=m'.clr:=by
 cases hx:heldM ms with
 | none=>rw [heldL_none hx] at h;cases h
 | some x =>
  rw [heldL_some hx] at h;obtain ⟨m',h1,h2⟩:=ZH.1 h;obtain ⟨h3,h4⟩:=Z1.1 h1;exact ⟨x,m',rfl,h3,by simpa using h4,h2.symm⟩
def heldV (h:Hd) (R:List RO):List (ByteArray × List Int):=(heldL h.marks).map fun m=>(m.name,Zag h.l R m.id m.size)
structure Stays (h:Hd) (R:List RO) (h':Hd) (R':List RO):Prop where
 l:h'.l=h.l
 held:heldL h'.marks=heldL h.marks
 hold:heldM h'.marks=heldM h.marks
 bytes:∀ m ∈ heldL h.marks,∀ x,byteR h.l R' m.id x=byteR h.l R m.id x
theorem held_id {h:Hd} {R:List RO} (H:ImgI h R) {m:Mk} (hm:m ∈ heldL h.marks):0<m.id∧m.id<=h.newest:=by
 obtain ⟨x,m',_,h2,_,rfl⟩:=held_in hm;have:=mk_id h2;exact ⟨H.ids.pos m'.id this,H.ids.last m'.id this⟩
theorem MarksI.all {h:Hd} (M:MarksI h.marks) (h0:heldM h.marks=none):h.seen=h.marks∧∀ m ∈ h.marks,m.clr=m:=by
 have hg:=M.no h0;have hn:∀ m ∈ h.marks,holdN m.name=false:=fun m hm=>by
  have:=Zfo.1 h0 m hm;simpa using this
 refine ⟨Zcy.2 fun m hm=>by unfold Mk.seen;rw [hg m hm,hn m hm];rfl,fun m hm=>?_⟩;unfold Mk.clr;have:=hg m hm;obtain ⟨a,b,c,d⟩:=m;simp only at this;rw [this]
theorem hold_held {h:Hd} {R:List RO} (H:HdI h R) (h0:heldM h.marks=none) {nm:ByteArray} (hh:holdN nm=true) :
  (∃ x,heldM (snapH h nm).marks=some x)∧heldV (snapH h nm) R=(viewI h R).snaps++[(nm,(viewI h R).data)]:=by
 obtain ⟨hs,hc⟩:=H.marks.all h0;have hm:heldM (snapH h nm).marks=some ⟨h.next,nm,h.size,false⟩:=by
  show heldM (h.marks++[⟨h.next,nm,h.size,false⟩])=_;rw [ZmE,h0];show (if holdN nm=true then _ else _)=_;rw [Zb hh]
 refine ⟨⟨_,hm⟩,?_⟩;have hl:heldL (snapH h nm).marks=h.marks++[⟨h.next,nm,h.size,false⟩]:=by
  rw [heldL_some hm];show ((h.marks++[(⟨h.next,nm,h.size,false⟩:Mk)]).filter fun m:Mk=>decide (m.id<=h.next)).map Mk.clr=_;have hself:(h.marks++[(⟨h.next,nm,h.size,false⟩:Mk)]).filter (fun m=>decide (m.id<=h.next))=h.marks++[(⟨h.next,nm,h.size,false⟩:Mk)]:=Zcy.2 fun m hm=>by
   rw [Ze];rcases ZY.1 hm with q|q
   ·have:=ZqM H.ok m q;omega
   ·rw [Zaz.1 q];exact Zck _
  rw [hself];rw [Z4];congr 1;conv=>rhs;rw [<-List.map_id h.marks]
  exact ZeD hc
 unfold heldV;rw [hl,Z4];have e2:(viewI h R).snaps=h.marks.map fun m=>(m.name,Zag h.l R m.id m.size):=by
  show h.seen.map _=_;rw [hs]
 rw [e2];congr 1;simp only [Zav,Zc6,Zd0,Zba,Zae,ZK];exact ZeJ fun x _=>Zek (fun k=>by rw [Zlc (H.img.objs k),Zcr]) x
theorem held_byte {h:Hd} {R:List RO} {m:Mk} {num k:Nat} (hl:h.l.ok) (hk:k<ZI h.l m.size num):byteO (objAt R num) m.id k=(Zag h.l R m.id m.size).getD (backN h.l num k) 0:=by
 have hk2:k<2 ^ h.l.order:=Zgn hk (ZhE ..);have hb:=(ZfV hl m.size num hk2).1 hk;have hp:=Znl hl (o:=num) hk2;rw [ZbF];unfold Zag;rw [ZaN,Zdd hb];show _=byteR h.l R m.id (backN h.l num k);unfold byteR;rw [hp]
def freeH (h:Hd):Hd:={ h with marks:=h.marks.filter fun m=>!(m.gone||holdN m.name) }
def freeR (h:Hd) (R:List RO):List RO:=Za1 ((h.marks.filter fun m=>!(m.gone||holdN m.name)).map (·.id)) R
end Go.Proofs.YtcbdghojlbpomaaGreat
