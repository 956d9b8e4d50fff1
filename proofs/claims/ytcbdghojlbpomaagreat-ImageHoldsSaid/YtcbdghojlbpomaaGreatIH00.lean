import Derived.Deep.CutRange
import Derived.Test.YtcbdghojlbpomaaGreatIF00
import Derived.Test.YtcbdghojlbpomaaGreatIF01
import Derived.Test.YtcbdghojlbpomaaGreatIF02
import Derived.Test.YtcbdghojlbpomaaGreatIF03
import Derived.Test.YtcbdghojlbpomaaGreatIF04
import Derived.Test.YtcbdghojlbpomaaGreatIF05
import Derived.Test.YtcbdghojlbpomaaGreatIF06
import Derived.Test.YtcbdghojlbpomaaGreatIF07
import Derived.Test.YtcbdghojlbpomaaGreatIF08
import Derived.Test.YtcbdghojlbpomaaGreatIF09
import Derived.Test.YtcbdghojlbpomaaGreatIF10
import Derived.Test.YtcbdghojlbpomaaGreatIF11
import Derived.Test.YtcbdghojlbpomaaGreatIF12
import Derived.Test.YtcbdghojlbpomaaGreatIF13
import Derived.Test.YtcbdghojlbpomaaGreatIF14
import Derived.Test.YtcbdghojlbpomaaGreatIF15
import Derived.Test.YtcbdghojlbpomaaGreatIF16
import Derived.Test.YtcbdghojlbpomaaGreatIF17
import Derived.Test.YtcbdghojlbpomaaGreatIF18
import Derived.Test.YtcbdghojlbpomaaGreatIF19
import Derived.Test.YtcbdghojlbpomaaGreatIF20
import Derived.Test.YtcbdghojlbpomaaGreatIF21
import Derived.Test.YtcbdghojlbpomaaGreatIF22
import Derived.Test.YtcbdghojlbpomaaGreatIF23
import Derived.Test.YtcbdghojlbpomaaGreatIF24
import Derived.Test.YtcbdghojlbpomaaGreatIF25
import Derived.Test.YtcbdghojlbpomaaGreatIF26
import Derived.Test.YtcbdghojlbpomaaGreatIF27
import Derived.Test.YtcbdghojlbpomaaGreatIF28
import Derived.Test.YtcbdghojlbpomaaGreatIF29
import Derived.Test.YtcbdghojlbpomaaGreatIF30
import Derived.Test.YtcbdghojlbpomaaGreatIF31
import Derived.Test.YtcbdghojlbpomaaGreatIF32
import Derived.Test.YtcbdghojlbpomaaGreatIF33
import Derived.Test.YtcbdghojlbpomaaGreatIF34
import Derived.Test.YtcbdghojlbpomaaGreatIF35
import Derived.Test.YtcbdghojlbpomaaGreatIF36
import Derived.Test.YtcbdghojlbpomaaGreatIF37
import Derived.Test.YtcbdghojlbpomaaGreatIF38
set_option linter.all false
namespace Go.Proofs.YtcbdghojlbpomaaGreat
open Tryz
open HP (pt mapOf)
open Go.IntKind (i64 u64)
open Go.Value (int pointer slice)
open Go.Obj (cells)
open Go.RowKit
theorem hold_view {h:Hd} {R:List RO} {name:ByteArray} (hn:holdN name=true):viewI (snapH h name) R=viewI h R:=by
 unfold viewI;show Vw.mk _ _=_;have e:(snapH h name).seen=h.seen:=by
  unfold Hd.seen;show (h.marks++_).filter _=_;rw [Zca];simp [Mk.seen,hn]
 rw [e];rfl
end Go.Proofs.YtcbdghojlbpomaaGreat
namespace Go.Proofs.YtcbdghojlbpomaaGreat
open Tryz
open HP (pt mapOf)
open Go.IntKind (i64 u64)
open Go.Value (int pointer slice)
open Go.Obj (cells)
open Go.RowKit
theorem free_view {h:Hd} {R:List RO} (H:ImgI h R):ImgI { h with marks:=h.marks.filter fun m=>!(m.gone||holdN m.name) } (Za1 ((h.marks.filter fun m=>!(m.gone||holdN m.name)).map (·.id)) R)∧viewI { h with marks:=h.marks.filter fun m=>!(m.gone||holdN m.name) } (Za1 ((h.marks.filter fun m=>!(m.gone||holdN m.name)).map (·.id)) R)=viewI h R:=by
 have h1:((h.marks.filter fun m=>!(m.gone||holdN m.name)).map (·.id)).Sublist h.ids:=List.filter_sublist.map _;have h2:∀ m ∈ h.marks.filter (fun m=>!(m.gone||holdN m.name)),∃ m' ∈ h.marks,m'.id=m.id∧m'.size=m.size:=fun m hm=>⟨m,(Z1.1 hm).1,rfl,rfl⟩;refine ⟨(H.fewer h1 h2).1,?_⟩;rw [Zno H h1 h2];unfold viewI;simp only [Vw.mk.injEq,ZK];congr 1;unfold Hd.seen;rw [ZdY];congr 1;funext m;unfold Mk.seen;cases m.gone <;> cases holdN m.name <;> rfl
end Go.Proofs.YtcbdghojlbpomaaGreat
namespace Go.Proofs.YtcbdghojlbpomaaGreat
open Tryz
open HP (pt mapOf)
open Go.IntKind (i64 u64)
open Go.Value (int pointer slice)
open Go.Obj (cells)
open Go.RowKit
theorem MarksI.hold {ms:List Mk} (h:MarksI ms) {m:Mk} (hi:∀ x ∈ ms,x.id<m.id) (hg:m.gone=false) (hn:holdN m.name=true) (h0:heldM ms=none):MarksI (ms++[m]):=by
 have hh:heldM (ms++[m])=some m:=by rw [ZmE,h0,hn];rfl
 have hno:=h.no h0;have hn0:=Zfo.1 h0;have hall:ms.filter Mk.seen=ms:=Zcy.2 fun y hy=>by
  have a:=hno y hy;have b:=hn0 y hy;unfold Mk.seen;rw [a];simpa using b
 have h8:=h.seen;rw [hall] at h8;refine ⟨?_,?_,fun e=>?_,fun x e=>?_,fun x e=>?_,fun x e=>?_⟩
 ·rw [Z4];refine Zd4.2 ⟨h.inc,Zgs _ _,fun a ha b hb=>?_⟩;obtain ⟨y,hy,rfl⟩:=ZH.1 ha;simp at hb;subst hb;exact hi y hy
 ·rw [Zca,hall,ZdZ (by unfold Mk.seen;rw [hn];simp)];simpa using h8
 ·rw [hh] at e;cases e
 ·rw [hh] at e;injection e with e;subst e;rw [Zca,ZA,ZdZ (by simp)];have:=Zbi (fun y:Mk=>decide (y.id<m.id)) ms;simp only [List.filter_nil,ZaH];omega
 ·rw [hh] at e;injection e with e;subst e;intro y hy hyg;rcases ZY.1 hy with q|q
  ·exact hi y q
  ·rw [Zaz.1 q,hg] at hyg;cases hyg
 ·rw [hh] at e;injection e with e;subst e;intro y hy hyn;rcases ZY.1 hy with q|q
  ·exact absurd hyn (hn0 y q)
  ·rw [Zaz.1 q]
theorem MarksI.free {ms:List Mk} (h:MarksI ms):MarksI (ms.filter fun m=>!(m.gone||holdN m.name)):=by
 have hn:heldM (ms.filter fun m=>!(m.gone||holdN m.name))=none:=by
  unfold heldM;rw [Zfo];intro m hm q;have:=(Z1.1 hm).2;rw [q] at this;simp at this
 refine ⟨List.Pairwise.sublist (List.filter_sublist.map _) h.inc,?_,fun _ m hm=>?_,fun x e=>?_,fun x e=>?_,fun x e=>?_⟩
 ·rw [ZdY];exact ZQ (Zf1 fun m _ hm=>(by simp only [Zak] at hm;exact hm.1)) h.seen
 ·have:=(Z1.1 hm).2;cases q:m.gone with
  | false=>rfl
  | true=>rw [q] at this;simp at this
 ·rw [hn] at e;cases e
 ·rw [hn] at e;cases e
 ·rw [hn] at e;cases e
end Go.Proofs.YtcbdghojlbpomaaGreat
namespace Go.Proofs.YtcbdghojlbpomaaGreat
open Tryz
open HP (pt mapOf)
open Go.IntKind (i64 u64)
open Go.Value (int pointer slice)
open Go.Obj (cells)
open Go.RowKit
section
variable {P : Program} {ops : Array Oper} {md : Region.Mode} {S : World -> Prop}
theorem Det.of_same {o:Oper} {v:Value} {a a':Act} (hy:Det P ops S o v a) (he:execOp a'.eval o=execOp a.eval o)
  (hw:Region.wanted o (yielded ops a'.tmps)=Region.wanted o (yielded ops a.tmps)):Det P ops S o v a':=by
 unfold Det at *;rw [he,hw];exact hy
theorem Det.wpOp {Q:Exit->Act->World->Prop} {i:Nat} {o:Oper} {v:Value} {a:Act} (hi:ops[i]?=some o) (hy:Det P ops S o v a) {K:Act->World->Prop} {w:World} (hS:S w)
  (h:∀ w',S w'->K (a.put o.dst v) w'):wpOp P ops Q i K a w:=by
 unfold Go.wpOp;simp only [hi];rcases hy with ⟨hw,hv⟩|⟨hw,rfl⟩
 ·rw [Zb hw];left;unfold Oper.wp;rcases hv w hS with hr|⟨f,args,w1,hr,hc⟩
  ·rw [hr];exact h w hS
  ·rw [hr,Oper.upon_enter];refine Calls.mono hc fun e w' he=>?_;obtain ⟨rfl,hS'⟩:=he;exact h w' hS'
 ·rw [Za (by simp [hw])];exact h w hS
theorem wpAny_of_U {Q:Exit->Act->World->Prop} {M:Nat->Bool} {L:Array Bool->Act->Prop} {g:Nat} (hL:∀ listed a,L listed a->∀ w,S w->wpAny P md ops Q g listed a w) :
  ∀ (f:Nat) (listed:Array Bool) (a:Act),wpU P md ops S M L f listed a->∀ w,S w->wpAny P md ops Q (f+g) listed a w
 | 0,listed,a,h,w,hS=>by rw [Zar];exact hL _ _ h w hS
 | f+1,listed,a,h,w,hS=>by
  rw [show f+1+g=(f+g)+1 by omega];refine ⟨fun h0=>absurd h0 h.1,fun i hi=>?_⟩;obtain ⟨_,o,v,ho,hd,hn⟩:=h.2 i hi;exact hd.wpOp ho hS fun w' hS'=>wpAny_of_U hL f _ _ hn w' hS'
theorem wpU_first {M:Nat->Bool} {l0:Array Bool} {L:Array Bool->Act->Prop} {i:Nat} {oi:Oper} {v:Value} (hi:ops[i]?=some oi) (hsel:∀ (j:Nat) (o:Oper) cs b,ops[j]?=some o->o.op≠.select cs b)
  (hM:M i=true) (hG:Zh2 md ops M l0) (hL:∀ listed a,L listed a->∀ j ∈ Region.ready md ops listed,M j=false) :
  ∀ (f:Nat) (listed:Array Bool) (a:Act),ShutDown md ops listed->(∀ j,l0.getD j false=true->listed.getD j false=true) ->
   (∀ j oj,ops[j]?=some oj->j≠i->listed.getD j true=false->(∀ e ∈ oj.after,Region.binds md e=true->e.on≠i)->oi.apart ops oj=true) ->
   i ∈ Region.ready md ops listed->Det P ops S oi v a ->
   wpU P md ops S M L f (listed.setIfInBounds i true) (a.put oi.dst v)->wpU P md ops S M L (f+1) listed a:=by
 intro f;induction f with
 | zero =>
  intro listed a hs h0 _ hr hy H;refine ⟨fun h=>(by rw [h] at hr;cases hr),fun j hj=>?_⟩;have hMj:=hG listed hs h0 i hM (mem_ready.1 hr).1 j hj;refine ⟨hMj,?_⟩;by_cases hji:j=i
  ·subst hji;exact ⟨oi,v,hi,hy,H⟩
  ·have:=hL _ _ H j (ready_mono hj hji);rw [hMj] at this;cases this
 | succ f ih =>
  intro listed a hs h0 hfree hr hy H;have hun:=(mem_ready.1 hr).1;refine ⟨fun h=>(by rw [h] at hr;cases hr),fun j hj=>?_⟩;refine ⟨hG listed hs h0 i hM hun j hj,?_⟩;by_cases hji:j=i
  ·subst hji;exact ⟨oi,v,hi,hy,H⟩
  ·obtain ⟨hjun,oj,hoj,hall⟩:=mem_ready.1 hj;have hnot:∀ e ∈ oj.after,Region.binds md e=true->e.on≠i:=fun e he hb heq=>by
    have h2:=hall e he hb;rw [heq,Zdg hun] at h2;cases h2
   have hap:=hfree j oj hoj hji hjun hnot;obtain ⟨h1,h2,h3⟩:=Oper.apart_spec hap;obtain ⟨_,o,u,ho,hd,hn⟩:=H.2 j (ready_mono hj hji);rw [hoj] at ho;cases ho;have hd':Det P ops S oj u a:=hd.of_same (execOp_put oj (fun cs b=>hsel j oj cs b hoj) a oi.dst v h1).symm (wanted_put oj a oi.dst v h1).symm;refine ⟨oj,u,hoj,hd',?_⟩;refine ih (listed.setIfInBounds j true) (a.put oj.dst u) (hs.next hj) (fun k hk=>getD_set_true (h0 k hk)) (fun k ok hk hki hkun hno=>hfree k ok hk hki ?_ hno) (ready_mono hr (Ne.symm hji))
    (hy.of_same (execOp_put oi (fun cs b=>hsel i oi cs b hi) a oj.dst u h3) (wanted_put oi a oj.dst u h3)) ?_
   ·by_cases hjk:j=k
    ·subst hjk;exact hjun
    ·rwa [getD_set_ne true hjk] at hkun
   ·rw [Array.setIfInBounds_comm _ _ hji,<-Act.put_comm a v u h2];exact hn
theorem wpDet_nil {K:Act->Prop} {a:Act} (h:K a):wpDet P ops S K [] a:=h
theorem wpDet_step {K:Act->Prop} {a:Act} {o:Oper} {l:List Oper} (v:Value) (hw:Region.wanted o (yielded ops a.tmps)=true) (hy:∀ w,S w->(execOp a.eval o).run P w=.ok (.value v) w) (h:wpDet P ops S K l (a.put o.dst v)):wpDet P ops S K (o::l) a :=
 ⟨v,.inl ⟨hw,fun w hS=>.inl (hy w hS)⟩,h⟩
theorem wpDet_skip {K:Act->Prop} {a:Act} {o:Oper} {l:List Oper} (hw:Region.wanted o (yielded ops a.tmps)=false) (h:wpDet P ops S K l (a.put o.dst undef)):wpDet P ops S K (o::l) a :=
 ⟨undef,.inr ⟨hw,rfl⟩,h⟩
theorem wpDet_call {K:Act->Prop} {a:Act} {o:Oper} {l:List Oper} (v:Value) (f:FuncId) (args:Array Value) (hw:Region.wanted o (yielded ops a.tmps)=true) (hy:∀ w,(execOp a.eval o).run P w=.ok (.enter f args) w)
  (hc:∀ w,S w->Calls P f args w (fun e w'=>e=.returned v∧S w')) (h:wpDet P ops S K l (a.put o.dst v)):wpDet P ops S K (o::l) a :=
 ⟨v,.inl ⟨hw,fun w hS=>.inr ⟨f,args,w,hy w,hc w hS⟩⟩,h⟩
theorem wpU_head {l:List Oper} {M:Nat->Bool} {l0:Array Bool} {K:Act->Prop} {L:Array Bool->Act->Prop} (hsel:Region.noSelect l.toArray=true) (hG:Zh2 md l.toArray M l0) (hL:∀ listed a,L listed a->∀ j ∈ Region.ready md l.toArray listed,M j=false) :
  ∀ (ks:List Nat) (listed:Array Bool) (a:Act),(∀ k ∈ ks,M k=true)->ShutDown md l.toArray listed->(∀ j,l0.getD j false=true->listed.getD j false=true)->Zbd md l.toArray ks listed=true ->
  (∀ a',K a'->L (Zal ks listed) a')->wpDet P l.toArray S K (pickL l ks) a->wpU P md l.toArray S M L ks.length listed a
 | [],listed,a,_,_,_,_,hK,h=>hK a h
 | k::ks,listed,a,hM,hs,h0,hB,hK,h=>by
  simp only [Zbd,Zak] at hB;obtain ⟨⟨hr,hf⟩,hB'⟩:=hB;have hr':k ∈ Region.ready md l.toArray listed:=by simpa using hr
  obtain ⟨o,ho⟩:=ZcF hr';have ho':l[k]?=some o:=by simpa using ho
  have e:pickL l (k::ks)=o::pickL l ks:=by simp [pickL,ho']
  rw [e] at h;obtain ⟨v,hy,hK'⟩:=h;exact wpU_first ho (Region.noSelect_spec hsel) (hM k (Z0 ..)) hG hL ks.length listed a hs h0 (Region.free_spec ho hf) hr' hy
   (wpU_head hsel hG hL ks _ _ (fun j hj=>hM j (Z8 _ hj)) (hs.next hr') (fun j hj=>getD_set_true (h0 j hj)) hB' hK hK')
theorem wp_region_det {id:Nat} {w:World} {Q:Exit->Act->World->Prop} {a:Act} {l:List Oper} (S:World->Prop) (head tail:List Nat) (hm:P.follows .mixedOrders=true) (hB:detB .any l head tail=true) (hS:S w.drew)
  (h:wpDet P l.toArray S (fun a2=>∀ w',S w'->wpList P l.toArray (NoPanic Q) (pickL l tail) a2 w') (pickL l head) a):(Code.region id l.toArray true).wp P Q a w:=by
 refine wp_region_noPanic ?_;simp only [detB,Zak,Ze] at hB;obtain ⟨⟨⟨⟨⟨hsel,hh⟩,hg⟩,ht⟩,hn⟩,htl⟩:=hB;refine wp_region_any hm ?_;change wpAny P .any l.toArray (NoPanic Q) l.toArray.size _ a w.drew;have hsz:l.toArray.size=head.length+tail.length:=by rw [hn];simp
 have hrep:Array.replicate l.toArray.size false=Array.replicate l.length false:=by simp
 rw [hrep,hsz];have hG:Zh2 .any l.toArray (fun t=>head.contains t) (Array.replicate l.length false):=fun listed hsd h0 i hi hun t htr=>by
  simp only [Zgj,Zcw,Za8,Zfg] at hg;obtain ⟨htun,o,ho,hall⟩:=mem_ready.1 htr;have h2:=hg t (Zby.1 ho).1;rcases h2 with (h2|h2)|h2
  ·have:=h0 t h2;rw [Zdg htun] at this;cases this
  ·exact h2
  ·have h3:=h2 i (by simpa using hi);have h4:=ZeH hsd _ t (fun o' ho' e he' hb=>by rw [ho] at ho';cases ho';exact hall e he' hb) h3;rw [Zdg hun] at h4;cases h4
 obtain ⟨L,hLd⟩:∃ L:Array Bool->Act->Prop,L=fun listed a=>tailB .any l.toArray tail listed=true∧∀ w',S w'->wpList P l.toArray (NoPanic Q) (pickL l tail) a w':=⟨_,rfl⟩;have hL:∀ (listed:Array Bool) (a:Act),L listed a->∀ j ∈ Region.ready .any l.toArray listed,head.contains j=false:=fun listed a hL j hj=>by
  rw [hLd] at hL;cases tail with
  | nil =>
   have:=hL.1;simp only [tailB,List.isEmpty_iff] at this;rw [this] at hj;cases hj
  | cons k ks =>
   have:=hL.1;simp only [tailB,Zak,Ze] at this;rw [this.1] at hj;obtain rfl:j=k:=by simpa using hj
   simp only [List.all_cons,Zak] at htl;simpa using htl.1
 have H:=wpU_head (L:=L) hsel hG hL head _ a (fun k hk=>by simpa using hk) (ShutDown.start _) (fun j hj=>hj) hh (fun a' h'=>by rw [hLd];exact ⟨ht,h'⟩) h;exact wpAny_of_U (L:=L) (fun listed a' hl w' hS'=>by rw [hLd] at hl;exact ZgY tail listed a' _ hl.1 (hl.2 w' hS')) _ _ _ H _ hS
end
end Go.Proofs.YtcbdghojlbpomaaGreat
namespace Go.Proofs.YtcbdghojlbpomaaGreat
open Tryz
open HP (pt mapOf)
open Go.IntKind (i64 u64)
open Go.Value (int pointer slice)
open Go.Obj (cells)
open Go.RowKit
section
variable {W w : World} {I : Hp} {l : List HP}
set_option maxRecDepth 4000
set_option maxHeartbeats 8000000
theorem shape1_spec (o u c:Int) (w:World):Calls prog 58 #[.agg #[int i64 o,int i64 u,int i64 c]] w fun e w'=>e=.returned (.bool (Zff o u c))∧Below w.heap.size w w':=by
 go_enter func58,ntmps58;go_wp2;all_goals
  go_ret;refine ⟨retB (ZoR ?_),ZM _ _⟩;simp only [Ze,ZaS,false_iff];omega
end
end Go.Proofs.YtcbdghojlbpomaaGreat
namespace Go.Proofs.YtcbdghojlbpomaaGreat
open Tryz
open HP (pt mapOf)
open Go.IntKind (i64 u64)
open Go.Value (int pointer slice)
open Go.Obj (cells)
open Go.RowKit
theorem IsObjs.same {l:Ly} {size n m:Nat} (h:IsObjs l size n) (h2:IsObjs l size m):n=m:=by
 have a:∀ {n m:Nat},IsObjs l size n->IsObjs l size m->n<=m:=fun {n m} h h2=>by
  rcases h.top with e|⟨x,hx,e⟩
  ·omega
  ·have:=h2.all x hx;omega
 exact Nat.le_antisymm (a h h2) (a h2 h)
theorem IsObjs.succ {l:Ly} {size n:Nat} (h:IsObjs l size n):IsObjs l (size+1) (max n ((ZB l size).1+1)):=by
 refine ⟨fun x hx=>?_,?_⟩
 ·by_cases e:x=size
  ·subst e;omega
  ·have:=h.all x (by omega);omega
 ·by_cases e:n<=(ZB l size).1+1
  ·exact .inr ⟨size,by omega,by omega⟩
  ·rcases h.top with q|⟨x,hx,q⟩
   ·omega
   ·exact .inr ⟨x,by omega,by omega⟩
theorem IsBytes.same {l:Ly} {size o n m:Nat} (h:IsBytes l size o n) (h2:IsBytes l size o m):n=m:=by
 have a:∀ {n m:Nat},IsBytes l size o n->IsBytes l size o m->n<=m:=fun {n m} h h2=>by
  rcases h.top with e|⟨x,hx,e1,e2⟩
  ·omega
  ·have:=h2.all x hx e1;omega
 exact Nat.le_antisymm (a h h2) (a h2 h)
theorem IsBytes.succ {l:Ly} {size o n:Nat} (h:IsBytes l size o n):IsBytes l (size+1) o (if (ZB l size).1=o then max n ((ZB l size).2+1) else n):=by
 refine ⟨fun x hx e=>?_,?_⟩
 ·by_cases q:x=size
  ·subst q;rw [Zb e];omega
  ·have:=h.all x (by omega) e;split <;> omega
 ·split
  ·rename_i q;by_cases e:n<=(ZB l size).2+1
   ·exact .inr ⟨size,by omega,q,by omega⟩
   ·rcases h.top with r|⟨x,hx,r,s⟩
    ·omega
    ·exact .inr ⟨x,by omega,r,by omega⟩
  ·rcases h.top with r|⟨x,hx,r,s⟩
   ·exact .inl r
   ·exact .inr ⟨x,by omega,r,s⟩
end Go.Proofs.YtcbdghojlbpomaaGreat
namespace Go.Proofs.YtcbdghojlbpomaaGreat
open Tryz
open HP (pt mapOf)
open Go.IntKind (i64 u64)
open Go.Value (int pointer slice)
open Go.Obj (cells)
open Go.RowKit
theorem HdI.hold {h:Hd} {R:List RO} (H:HdI h R) {nm:ByteArray} (hh:holdN nm=true) (hz:2<=nm.size∧nm.size<=13) (hn:nameB (nm.extract 1 nm.size)=true) (hx:h.next<1073741824) (h0:heldM h.marks=none):HdI (snapH h nm) R:=by
 refine H.marked (.inl ⟨hh,rfl,hz.1,hz.2,hn⟩) hx (H.marks.hold (ZqM H.ok) rfl hh h0) ?_;rw [Zpa,hh,Zb rfl,ZdG];exact H.ok.diff
theorem HdI.free {h:Hd} {R:List RO} (H:HdI h R):HdI { h with marks:=h.marks.filter fun m=>!(m.gone||holdN m.name) } (Za1 ((h.marks.filter fun m=>!(m.gone||holdN m.name)).map (·.id)) R):=by
 refine ⟨(free_view H.img).1,H.marks.free,(MarksI.okH (h:={ h with marks:=h.marks.filter fun m=>!(m.gone||holdN m.name) }) H.marks.free) H.ok.size H.ok.shape H.ok.next H.ok.seq (fun x hx=>H.ok.ids x (Z1.1 hx).1) (fun x hx=>H.ok.sizes x (Z1.1 hx).1) (fun x hx=>H.ok.names x (Z1.1 hx).1) ?_,fun k hk=>Zkk (H.nz k hk)⟩;refine List.Pairwise.sublist (List.Sublist.map _ ?_) H.ok.diff;exact List.filter_sublist.filter _
end Go.Proofs.YtcbdghojlbpomaaGreat
namespace Go.Proofs.YtcbdghojlbpomaaGreat
open Tryz
open HP (pt mapOf)
open Go.IntKind (i64 u64)
open Go.Value (int pointer slice)
open Go.Obj (cells)
open Go.RowKit
def Mk.clr (m:Mk):Mk:={ m with gone:=false }
def heldL (ms:List Mk):List Mk:=match heldM ms with
 | none=>[]
 | some x=>(ms.filter fun m=>decide (m.id<=x.id)).map Mk.clr
theorem heldL_some {ms:List Mk} {x:Mk} (h:heldM ms=some x):heldL ms=(ms.filter fun m=>decide (m.id<=x.id)).map Mk.clr:=by unfold heldL;rw [h]
theorem heldL_none {ms:List Mk} (h:heldM ms=none):heldL ms=[]:=by unfold heldL;rw [h]
theorem held_in {ms:List Mk} {m:Mk} (h:m ∈ heldL ms):∃ x m',heldM ms=some x∧m' ∈ ms∧m'.id<=x.id∧m=m'.clr:=by
 cases hx:heldM ms with
 | none=>rw [heldL_none hx] at h;cases h
 | some x =>
  rw [heldL_some hx] at h;obtain ⟨m',h1,h2⟩:=ZH.1 h;obtain ⟨h3,h4⟩:=Z1.1 h1;exact ⟨x,m',rfl,h3,by simpa using h4,h2.symm⟩
def heldV (h:Hd) (R:List RO):List (ByteArray × List Int):=(heldL h.marks).map fun m=>(m.name,Zag h.l R m.id m.size)
structure Stays (h:Hd) (R:List RO) (h':Hd) (R':List RO):Prop where
 l:h'.l=h.l
 held:heldL h'.marks=heldL h.marks
 hold:heldM h'.marks=heldM h.marks
 bytes:∀ m ∈ heldL h.marks,∀ x,byteR h.l R' m.id x=byteR h.l R m.id x
theorem Stays.refl (h:Hd) (R:List RO):Stays h R h R:=⟨rfl,rfl,rfl,fun _ _ _=>rfl⟩
theorem Stays.view {h h':Hd} {R R':List RO} (s:Stays h R h' R'):heldV h' R'=heldV h R:=by
 unfold heldV;rw [s.held,s.l];refine ZeD fun m hm=>?_;rw [ZeJ fun x _=>s.bytes m hm x]
theorem held_id {h:Hd} {R:List RO} (H:ImgI h R) {m:Mk} (hm:m ∈ heldL h.marks):0<m.id∧m.id<=h.newest:=by
 obtain ⟨x,m',_,h2,_,rfl⟩:=held_in hm;have:=mk_id h2;exact ⟨H.ids.pos m'.id this,H.ids.last m'.id this⟩
theorem Stays.data {h h':Hd} {R R':List RO} (H:ImgI h R) (hl:h'.l=h.l) (hm:h'.marks=h.marks) (hb:∀ s,0<s->s<=h.newest->∀ x,byteR h.l R' s x=byteR h.l R s x):Stays h R h' R' :=
 ⟨hl,by rw [hm],by rw [hm],fun m hm x=>hb m.id (held_id H hm).1 (held_id H hm).2 x⟩
theorem plain_keeps {h:Hd} {R:List RO} (H:HdI h R) {e:Ev} (hr:ZU e=true) (hk:e.kind=1∨e.kind=2∨e.kind=3) {off n:Nat} (ho:(spanE e).1=off) (hn:(spanE e).2=n) (hin:off+n<=h.size) {es:List Ext} (c:Cover h.l off n es) :
  ∀ s,0<s->s<=h.newest->∀ x,byteR h.l (es.foldl (Zbt h.l h.size h.newest e es) R) s x=byteR h.l R s x:=by
 have hs:=Zdl hr hk;unfold Zbt;unfold spanE at ho hn hs;by_cases k1:e.kind=1
 ·rw [Zb k1];rw [Zb k1] at ho hn hs;simp only at ho hn hs;have e1:e.data.length=n:=by omega
  subst e1;exact (ZiR H.img c hin).2.1
 ·rw [Za k1];rw [Za k1] at ho hn hs;simp only at ho hn hs;have hww:∀ x ∈ es,(fun x:Ext=>decide (e.kind=2∧sumOf x.obj es=ZI h.l h.size x.obj)) x=true->∀ y,y<h.size->(ZB h.l y).1=x.obj->off<=y∧y<off+n:=fun x _ q=>by
   rw [Ze] at q;exact Zo8 H.ok.shape c hin q.2
  exact (ZiS H.img c hin hww).2.1
theorem great_found {h:Hd} {R:List RO} {e:Ev} (hr:ZU e=true) (hk:e.kind=6∨e.kind=7) (hc:ZJ (viewI h R) e=0):∃ m ∈ h.seen,findM h e.name=some m:=by
 unfold ZJ at hc;rw [Za (by rw [hr];simp),Za (by omega),Za (by omega),Zb (by omega)] at hc;have hfv:(findV (viewI h R) e.name).isSome=true:=by
  cases q:(findV (viewI h R) e.name).isSome with
  | true=>rfl
  | false=>rw [Za (by rw [q];simp)] at hc;cases hc
 rcases Zf0 h R e.name with q|⟨m,i,q1,q2,q3⟩
 ·rw [q.2] at hfv;cases hfv
 ·exact ⟨m,Zay q3,q1⟩
theorem without_held {b:Bool} {id xi:Int} (hb:b=decide (id<=xi)):∀ ms:List Mk,((ZaV b id ms).filter fun m=>decide (m.id<=xi)).map Mk.clr=(ms.filter fun m=>decide (m.id<=xi)).map Mk.clr
 | []=>rfl
 | m::ms=>by
  have ih:=without_held hb ms;unfold ZaV;by_cases hm:m.id=id
  ·rw [Zb hm];by_cases hx:id<=xi
   ·rw [Zcb hx] at hb;rw [Zb hb,Zfn (by rw [Ze];show m.id<=xi;omega),Zfn (by rw [Ze];omega),Zav,Zav,ih];rfl
   ·rw [ZbH hx] at hb;rw [Za (by rw [hb];simp),ZdZ (by rw [Ze];omega),ih]
  ·rw [Za hm,ZaM,ZaM];split
   ·rw [Zav,Zav,ih]
   ·exact ih
theorem great_stays {h:Hd} {R:List RO} (H:HdI h R) {x:Mk} (hx:heldM h.marks=some x) {e:Ev} (hr:ZU e=true) (hk:e.kind=4∨e.kind=5∨e.kind=6∨e.kind=7) (hc:ZJ (viewI h R) e=0) (seq:Int):Stays h R (ZaG h e seq) (ZbE h e R):=by
 unfold ZaG ZbE;by_cases k4:e.kind=4
 ·simp only [Zb k4];have hi:=(Zbl e).1 hr;have h5:0<=e.len∧e.len<=512:=by grind
  exact Stays.data H.img rfl rfl (H.img.resize (n:=e.len.toNat) (by omega)).2.1
 simp only [Za k4];by_cases k5:e.kind=5
 ·simp only [Zb k5];have hn:heldM (h.marks++[⟨h.next,e.name,h.size,false⟩])=some x:=by rw [ZmE,hx]
  have hm:=Zd7 hx;have hlt:=ZqM H.ok x hm;refine ⟨rfl,?_,?_,fun _ _ _=>rfl⟩
  ·show heldL (h.marks++[⟨h.next,e.name,h.size,false⟩])=_;rw [heldL_some hn,heldL_some hx,Zca,ZdZ (by rw [Ze];show ¬ h.next<=x.id;omega)];simp
  ·show heldM (h.marks++[⟨h.next,e.name,h.size,false⟩])=_;rw [hn,hx]
 simp only [Za k5];obtain ⟨m,hm,hf⟩:=great_found hr (by omega) hc;rw [hf];simp only [Zbb,ZeA];by_cases k6:e.kind=6
 ·simp only [Zb k6];have hsn:∀ y ∈ h.marks,y.id=m.id->holdN y.name=false:=fun y hy q=>by
   rw [ZqX H.ok.inc hy (ZcH hm) q];have hs:=(Z1.1 hm).2;unfold Mk.seen at hs;rw [Zak,Zgr,Zgr] at hs;exact hs.2
  have hh:heldM (ZaC h.marks m.id)=heldM h.marks:=ZiC hsn;have hb:Zcv h.marks m.id=decide (m.id<=x.id):=by unfold Zcv;rw [hx]
  have hl:heldL (ZaC h.marks m.id)=heldL h.marks:=by
   rw [heldL_some (hh.trans hx),heldL_some hx];exact without_held hb h.marks
  obtain ⟨w1,w2,_⟩:=ZeK (Zcv h.marks m.id) m.id h.marks;have hfw:=(H.img.fewer w1 w2).2.1;refine ⟨rfl,hl,hh,fun y hy z=>?_⟩;refine hfw y.id ?_ z;rw [<-hl] at hy;obtain ⟨_,y',_,h2,_,rfl⟩:=held_in hy;have:y'.id ∈ (ZaC h.marks m.id).map (·.id):=Zbz h2;exact this
 ·simp only [Za k6];exact Stays.data H.img rfl rfl (H.img.roll (ZcH hm)).2.1
theorem tidied_stays {h:Hd} {R:List RO} (H:HdI h R):Stays h R h (Za1 h.ids R):=by
 have:=(H.img.fewer (ms:=h.marks) (List.Sublist.refl _) fun m hm=>⟨m,hm,rfl,rfl⟩).2.1;refine ⟨rfl,rfl,rfl,fun m hm x=>this m.id ?_ x⟩;obtain ⟨_,y',_,h2,_,rfl⟩:=held_in hm;have:y'.id ∈ h.ids:=mk_id h2;exact this
theorem DoR.stays {h h':Hd} {R R':List RO} {e:Ev} {seq ans:Int} (D:DoR h R e seq ans h' R') (H:HdI h R) {x:Mk} (hx:heldM h.marks=some x):Stays h R h' R':=by
 unfold DoR at D;split at D
 ·obtain ⟨_,rfl,rfl⟩:=D;exact Stays.refl _ _
 ·rename_i c0;have hr:ZU e=true:=by
   cases q:ZU e with
   | true=>rfl
   | false=>exact absurd (.inl q) c0
  split at D
  ·obtain ⟨_,rfl,rfl⟩:=D;exact Stays.refl _ _
  ·rename_i c8;split at D
   ·rename_i c3;split at D
    ·obtain ⟨_,rfl,off,n,es,ho,hn,hin,hc,rfl⟩:=D;exact Stays.data H.img rfl rfl (plain_keeps H hr c3 ho hn hin hc)
    ·obtain ⟨_,rfl,rfl⟩:=D;exact Stays.refl _ _
   ·rename_i c3;split at D
    ·obtain ⟨_,rfl,rfl⟩:=D;exact Stays.refl _ _
    ·split at D
     ·rename_i hc;obtain ⟨_,rfl,rfl⟩:=D;exact great_stays H hx hr (ZeT hr c8 c3) hc seq
     ·split at D
      ·obtain ⟨_,rfl,rfl⟩:=D;exact tidied_stays H
      ·obtain ⟨_,rfl,rfl⟩:=D;exact Stays.refl _ _
theorem MarksI.all {h:Hd} (M:MarksI h.marks) (h0:heldM h.marks=none):h.seen=h.marks∧∀ m ∈ h.marks,m.clr=m:=by
 have hg:=M.no h0;have hn:∀ m ∈ h.marks,holdN m.name=false:=fun m hm=>by
  have:=Zfo.1 h0 m hm;simpa using this
 refine ⟨Zcy.2 fun m hm=>by unfold Mk.seen;rw [hg m hm,hn m hm];rfl,fun m hm=>?_⟩;unfold Mk.clr;have:=hg m hm;obtain ⟨a,b,c,d⟩:=m;simp only at this;rw [this]
theorem hold_held {h:Hd} {R:List RO} (H:HdI h R) (h0:heldM h.marks=none) {nm:ByteArray} (hh:holdN nm=true) :
  (∃ x,heldM (snapH h nm).marks=some x)∧heldV (snapH h nm) R=(viewI h R).snaps++[(nm,(viewI h R).data)]:=by
 obtain ⟨hs,hc⟩:=H.marks.all h0;have hm:heldM (snapH h nm).marks=some ⟨h.next,nm,h.size,false⟩:=by
  show heldM (h.marks++[⟨h.next,nm,h.size,false⟩])=_;rw [ZmE,h0];show (if holdN nm=true then _ else _)=_;rw [Zb hh]
 refine ⟨⟨_,hm⟩,?_⟩;have hl:heldL (snapH h nm).marks=h.marks++[⟨h.next,nm,h.size,false⟩]:=by
  rw [heldL_some hm];show ((h.marks++[(⟨h.next,nm,h.size,false⟩:Mk)]).filter fun m:Mk=>decide (m.id<=h.next)).map Mk.clr=_;have hself:(h.marks++[(⟨h.next,nm,h.size,false⟩:Mk)]).filter (fun m=>decide (m.id<=h.next))=h.marks++[(⟨h.next,nm,h.size,false⟩:Mk)]:=Zcy.2 fun m hm=>by
   rw [Ze];rcases ZY.1 hm with q|q
   ·have:=ZqM H.ok m q;omega
   ·rw [Zaz.1 q];exact Zck _
  rw [hself];rw [Z4];congr 1;conv=>rhs;rw [<-List.map_id h.marks]
  exact ZeD hc
 unfold heldV;rw [hl,Z4];have e2:(viewI h R).snaps=h.marks.map fun m=>(m.name,Zag h.l R m.id m.size):=by
  show h.seen.map _=_;rw [hs]
 rw [e2];congr 1;simp only [Zav,Zc6,Zd0,Zba,Zae,ZK];exact ZeJ fun x _=>Zek (fun k=>by rw [Zlc (H.img.objs k),Zcr]) x
theorem held_byte {h:Hd} {R:List RO} {m:Mk} {num k:Nat} (hl:h.l.ok) (hk:k<ZI h.l m.size num):byteO (objAt R num) m.id k=(Zag h.l R m.id m.size).getD (backN h.l num k) 0:=by
 have hk2:k<2 ^ h.l.order:=Zgn hk (ZhE ..);have hb:=(ZfV hl m.size num hk2).1 hk;have hp:=Znl hl (o:=num) hk2;rw [ZbF];unfold Zag;rw [ZaN,Zdd hb];show _=byteR h.l R m.id (backN h.l num k);unfold byteR;rw [hp]
def freeH (h:Hd):Hd:={ h with marks:=h.marks.filter fun m=>!(m.gone||holdN m.name) }
def freeR (h:Hd) (R:List RO):List RO:=Za1 ((h.marks.filter fun m=>!(m.gone||holdN m.name)).map (·.id)) R
theorem free_held (h:Hd):heldM (freeH h).marks=none:=by
 refine Zfo.2 fun m hm=>?_;have:=(Z1.1 hm).2;rw [Zgr,Bool.or_eq_false_iff] at this;rw [this.2];simp
end Go.Proofs.YtcbdghojlbpomaaGreat
