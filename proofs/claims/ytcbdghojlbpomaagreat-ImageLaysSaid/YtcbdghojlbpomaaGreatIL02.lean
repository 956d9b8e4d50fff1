import Derived.Test.YtcbdghojlbpomaaGreatIL01
set_option linter.all false
namespace Go.Proofs.YtcbdghojlbpomaaGreat
open Tryz
open HP (pt mapOf)
open Go.IntKind (i64 u64)
open Go.Value (int pointer slice)
open Go.Obj (cells)
open Go.RowKit
abbrev Gs:=Nat->Option (Nat × Obj)
def Gs.upd (G:Gs) (i:Nat) (x:Nat × Obj):Gs:=fun j=>if j=i then some x else G j
theorem Gs.upd_comm (G:Gs) {i j:Nat} (h:i≠j) (x y:Nat × Obj):(G.upd i x).upd j y=(G.upd j y).upd i x:=by
 funext k;unfold Gs.upd;by_cases h1:k=i
 ·subst h1;simp [h]
 ·simp [h1]
structure StZ (w0:World) (G:Gs) (w:World):Prop where
 below:Below w0.heap.size w0 w
 blk:∀ i g o,G i=some (g,o)->w0.heap.size<=g∧w.heap[g]?=some o
 inj:∀ i j g o o',G i=some (g,o)->G j=some (g,o')->i=j
theorem StZ.start (w:World):StZ w (fun _=>none) w:=⟨ZR _ _,fun _ _ _ h=>(by cases h),fun _ _ _ _ _ h _=>(by cases h)⟩
theorem StZ.more {w0 w w':World} {G:Gs} (h:StZ w0 G w) (hb:Below w.heap.size w w'):StZ w0 G w' :=
 ⟨h.below.trans (hb.mono h.below.size),fun i g o e=>⟨(h.blk i g o e).1,(hb.block g (Zby.1 (h.blk i g o e).2).1).trans (h.blk i g o e).2⟩,h.inj⟩
theorem StZ.alloc {w0 w:World} {G:Gs} (h:StZ w0 G w) (ob:Obj) (i:Nat):StZ w0 (G.upd i (w.heap.size,ob)) (w.alloc ob):=by
 have hm:=h.more ((ZR w.heap.size w).alloc (Z9 _) ob);refine ⟨hm.below,fun j g o e=>?_,fun j k g o o' e1 e2=>?_⟩
 ·unfold Gs.upd at e;split at e
  ·simp only [Zah,Zba] at e;obtain ⟨rfl,rfl⟩:=e;exact ⟨h.below.size,Zbh _ _⟩
  ·exact hm.blk j g o e
 ·have lt:∀ j g o,G j=some (g,o)->g<w.heap.size:=fun j g o e=>(Zby.1 (h.blk j g o e).2).1;unfold Gs.upd at e1 e2;split at e1 <;> split at e2
  ·rename_i a b;rw [a,b]
  ·simp only [Zah,Zba] at e1;have:=lt _ _ _ e2;omega
  ·simp only [Zah,Zba] at e2;have:=lt _ _ _ e1;omega
  ·exact h.inj j k g o o' e1 e2
section
variable {P : Program} {ops : Array Oper} {md : Region.Mode} {S : World -> Prop} {w0 : World} {Q : Exit -> Act -> World -> Prop} {M : Nat -> Bool}
def DetZ (P:Program) (ops:Array Oper) (S:World->Prop) (o:Oper) (v:Value) (a:Act):Prop :=
 (Region.wanted o (yielded ops a.tmps)=true∧∀ w,S w->(execOp a.eval o).run P w=.ok (.value v) w ∨
   ∃ f args,(execOp a.eval o).run P w=.ok (.enter f args) w∧Calls P f args w (fun e w'=>e=.returned v∧Below w.heap.size w w')) ∨
 (Region.wanted o (yielded ops a.tmps)=false∧v=undef)
theorem DetZ.of_same {o:Oper} {v:Value} {a a':Act} (hy:DetZ P ops S o v a) (he:execOp a'.eval o=execOp a.eval o)
  (hw:Region.wanted o (yielded ops a'.tmps)=Region.wanted o (yielded ops a.tmps)):DetZ P ops S o v a':=by
 unfold DetZ at *;rw [he,hw];exact hy
def AllocZ (P:Program) (ops:Array Oper) (o:Oper) (vf:Nat->Value) (ob:Obj) (a:Act):Prop :=
 Region.wanted o (yielded ops a.tmps)=true∧∀ w,(execOp a.eval o).run P w=.ok (.value (vf w.heap.size)) (w.alloc ob)
theorem AllocZ.of_same {o:Oper} {vf:Nat->Value} {ob:Obj} {a a':Act} (hy:AllocZ P ops o vf ob a) (he:execOp a'.eval o=execOp a.eval o)
  (hw:Region.wanted o (yielded ops a'.tmps)=Region.wanted o (yielded ops a.tmps)):AllocZ P ops o vf ob a':=by
 unfold AllocZ at *;rw [he,hw];exact hy
theorem DetZ.wpOp {i:Nat} {o:Oper} {v:Value} {a:Act} {G:Gs} (hS:∀ w,Below w0.heap.size w0 w->S w) (hi:ops[i]?=some o) (hy:DetZ P ops S o v a) {K:Act->World->Prop} {w:World} (hz:StZ w0 G w)
  (h:∀ w',StZ w0 G w'->K (a.put o.dst v) w'):wpOp P ops Q i K a w:=by
 unfold Go.wpOp;simp only [hi];rcases hy with ⟨hw,hv⟩|⟨hw,rfl⟩
 ·rw [Zb hw];left;unfold Oper.wp;rcases hv w (hS w hz.below) with hr|⟨f,args,hr,hc⟩
  ·rw [hr];exact h w hz
  ·rw [hr,Oper.upon_enter];refine Calls.mono hc fun e w' he=>?_;obtain ⟨rfl,hb⟩:=he;exact h w' (hz.more hb)
 ·rw [Za (by simp [hw])];exact h w hz
theorem AllocZ.wpOp {i:Nat} {o:Oper} {vf:Nat->Value} {ob:Obj} {a:Act} {G:Gs} (hi:ops[i]?=some o) (hy:AllocZ P ops o vf ob a) {K:Act->World->Prop} {w:World} (hz:StZ w0 G w)
  (h:∀ g w',StZ w0 (G.upd i (g,ob)) w'->K (a.put o.dst (vf g)) w'):wpOp P ops Q i K a w:=by
 unfold Go.wpOp;simp only [hi];rw [Zb hy.1];left;unfold Oper.wp;rw [hy.2 w];exact h _ _ (hz.alloc ob i)
def wpZ (P:Program) (md:Region.Mode) (ops:Array Oper) (S:World->Prop) (w0:World) (Q:Exit->Act->World->Prop) (M:Nat->Bool):Nat->Array Bool->Gs->Act->Prop
 | 0,listed,G,a=>Region.ready md ops listed=[]∧∀ w,StZ w0 G w->Q .normal a w
 | f+1,listed,G,a=>(Region.ready md ops listed=[]->∀ w,StZ w0 G w->Q .normal a w) ∧
  ∀ i ∈ Region.ready md ops listed,∃ o,ops[i]?=some o ∧
   ((M i=true∧((∃ v,DetZ P ops S o v a∧wpZ P md ops S w0 Q M f (listed.setIfInBounds i true) G (a.put o.dst v)) ∨
      (∃ vf ob,AllocZ P ops o vf ob a∧∀ g,wpZ P md ops S w0 Q M f (listed.setIfInBounds i true) (G.upd i (g,ob)) (a.put o.dst (vf g))))) ∨
     (M i=false∧∀ w,StZ w0 G w->wpOp P ops Q i (fun a' w'=>wpAny P md ops Q f (listed.setIfInBounds i true) a' w') a w))
theorem wpAny_of_Z (hS:∀ w,Below w0.heap.size w0 w->S w):∀ (f:Nat) (listed:Array Bool) (G:Gs) (a:Act),wpZ P md ops S w0 Q M f listed G a->∀ w,StZ w0 G w->wpAny P md ops Q f listed a w
 | 0,_,_,_,h,w,hz=>⟨h.1,h.2 w hz⟩
 | f+1,listed,G,a,h,w,hz=>by
  refine ⟨fun h0=>h.1 h0 w hz,fun i hi=>?_⟩;obtain ⟨o,ho,⟨_,⟨v,hd,hn⟩|⟨vf,ob,hd,hn⟩⟩|⟨_,hn⟩⟩:=h.2 i hi
  ·exact hd.wpOp hS ho hz fun w' hz'=>wpAny_of_Z hS f _ _ _ hn w' hz'
  ·exact hd.wpOp ho hz fun g w' hz'=>wpAny_of_Z hS f _ _ _ (hn g) w' hz'
  ·exact hn w hz
theorem wpZ_first {k:Nat} {ok:Oper} {v:Value} {pl:Bool} (hk:ops[k]?=some ok) (hsel:∀ (j:Nat) (o:Oper) cs b,ops[j]?=some o->o.op≠.select cs b) (hQ:∀ c (a:Act) d v w,Q (.panic c) (a.put d v) w->Q (.panic c) a w)
  (hM:M k=true) (hT:pl=false->∀ listed,ShutDown md ops listed->listed.getD k true=false->∀ j ∈ Region.ready md ops listed,M j=true) :
  ∀ (f:Nat) (listed:Array Bool) (G:Gs) (a:Act),ShutDown md ops listed ->
   (∀ j oj,ops[j]?=some oj->j≠k->listed.getD j true=false->(∀ e ∈ oj.after,Region.binds md e=true->e.on≠k)->ok.apart ops oj=true) ->
   k ∈ Region.ready md ops listed->DetZ P ops S ok v a->(pl=true->Yields P ops ok v a) ->
   wpZ P md ops S w0 Q M f (listed.setIfInBounds k true) G (a.put ok.dst v)->wpZ P md ops S w0 Q M (f+1) listed G a:=by
 intro f;induction f with
 | zero =>
  intro listed G a hs _ hr hy _ H;refine ⟨fun h=>(by rw [h] at hr;cases hr),fun j hj=>?_⟩;by_cases hji:j=k
  ·subst hji;exact ⟨ok,hk,.inl ⟨hM,.inl ⟨v,hy,H⟩⟩⟩
  ·have:=ready_mono hj hji;rw [H.1] at this;cases this
 | succ f ih =>
  intro listed G a hs hfree hr hy hyp H;have hun:=(mem_ready.1 hr).1;refine ⟨fun h=>(by rw [h] at hr;cases hr),fun j hj=>?_⟩;by_cases hji:j=k
  ·subst hji;exact ⟨ok,hk,.inl ⟨hM,.inl ⟨v,hy,H⟩⟩⟩
  ·obtain ⟨hjun,oj,hoj,hall⟩:=mem_ready.1 hj;have hnot:∀ e ∈ oj.after,Region.binds md e=true->e.on≠k:=fun e he hb heq=>by
    have h2:=hall e he hb;rw [heq,Zdg hun] at h2;cases h2
   have hap:=hfree j oj hoj hji hjun hnot;obtain ⟨h1,h2,h3⟩:=Oper.apart_spec hap;have hfree':∀ m om,ops[m]?=some om->m≠k->(listed.setIfInBounds j true).getD m true=false->(∀ e ∈ om.after,Region.binds md e=true->e.on≠k)->ok.apart ops om=true:=fun m om hm hmk hmun hno=>by
    refine hfree m om hm hmk ?_ hno;by_cases hjm:j=m
    ·subst hjm;exact hjun
    ·rwa [getD_set_ne true hjm] at hmun
   have keepY:∀ u,DetZ P ops S ok v (a.put oj.dst u):=fun u=>hy.of_same (execOp_put ok (fun cs b=>hsel k ok cs b hk) a oj.dst u h3) (wanted_put ok a oj.dst u h3);have keepP:∀ u,pl=true->Yields P ops ok v (a.put oj.dst u):=fun u hp=>(hyp hp).of_same (execOp_put ok (fun cs b=>hsel k ok cs b hk) a oj.dst u h3) (wanted_put ok a oj.dst u h3);obtain ⟨o,ho,⟨hMj,⟨u,hd,hn⟩|⟨vf,ob,hd,hn⟩⟩|⟨hMj,hn⟩⟩:=H.2 j (ready_mono hj hji)
   ·rw [hoj] at ho;cases ho;refine ⟨oj,hoj,.inl ⟨hMj,.inl ⟨u,hd.of_same (execOp_put oj (fun cs b=>hsel j oj cs b hoj) a ok.dst v h1).symm (wanted_put oj a ok.dst v h1).symm,?_⟩⟩⟩;refine ih (listed.setIfInBounds j true) G (a.put oj.dst u) (hs.next hj) hfree' (ready_mono hr (Ne.symm hji)) (keepY u) (keepP u) ?_;rw [Array.setIfInBounds_comm _ _ hji,<-Act.put_comm a v u h2];exact hn
   ·rw [hoj] at ho;cases ho;refine ⟨oj,hoj,.inl ⟨hMj,.inr ⟨vf,ob,hd.of_same (execOp_put oj (fun cs b=>hsel j oj cs b hoj) a ok.dst v h1).symm (wanted_put oj a ok.dst v h1).symm,fun g=>?_⟩⟩⟩;refine ih (listed.setIfInBounds j true) _ (a.put oj.dst (vf g)) (hs.next hj) hfree' (ready_mono hr (Ne.symm hji)) (keepY _) (keepP _) ?_;rw [Array.setIfInBounds_comm _ _ hji,<-Act.put_comm a v (vf g) h2];exact hn g
   ·cases pl with
    | false =>
     have:=hT rfl listed hs hun j hj;rw [hMj] at this;cases this
    | true =>
     refine ⟨oj,hoj,.inr ⟨hMj,fun w hz=>?_⟩⟩;have h5:=wpOp_put hoj hap (fun cs b=>hsel k ok cs b hk) (fun cs b=>hsel j oj cs b hoj) (fun c a w=>hQ c a _ _ w) (hyp rfl) (hn w hz);refine Zcx (fun a' w' h6=>?_) h5;refine wpAny_first hk hsel (fun c a w=>hQ c a _ _ w) f (listed.setIfInBounds j true) a' w' hfree' (ready_mono hr (Ne.symm hji)) h6.1 ?_;rw [Array.setIfInBounds_comm _ _ hji];exact h6.2
theorem wpZ_al1 {k:Nat} {o:Oper} {vf:Nat->Value} {ob:Obj} {f:Nat} {listed:Array Bool} {G:Gs} {a:Act} (hk:ops[k]?=some o) (hM:M k=true) (hr:Region.ready md ops listed=[k]) (ha:AllocZ P ops o vf ob a)
  (H:∀ g,wpZ P md ops S w0 Q M f (listed.setIfInBounds k true) (G.upd k (g,ob)) (a.put o.dst (vf g))):wpZ P md ops S w0 Q M (f+1) listed G a:=by
 refine ⟨fun h=>(by rw [h] at hr;cases hr),fun j hj=>?_⟩;rw [hr] at hj;obtain rfl:j=k:=by simpa using hj
 exact ⟨o,hk,.inl ⟨hM,.inr ⟨vf,ob,ha,H⟩⟩⟩
theorem wpZ_al2 {k1 k2:Nat} {o1 o2:Oper} {vf1 vf2:Nat->Value} {ob1 ob2:Obj} {f:Nat} {listed:Array Bool} {G:Gs} {a:Act} (hk1:ops[k1]?=some o1) (hk2:ops[k2]?=some o2) (hne:k1≠k2) (hM1:M k1=true) (hM2:M k2=true)
  (hsel:∀ (j:Nat) (o:Oper) cs b,ops[j]?=some o->o.op≠.select cs b)
  (hr:Region.ready md ops listed=[k1,k2]) (hr1:Region.ready md ops (listed.setIfInBounds k1 true)=[k2]) (hr2:Region.ready md ops (listed.setIfInBounds k2 true)=[k1])
  (hap:o1.apart ops o2=true) (ha1:AllocZ P ops o1 vf1 ob1 a) (ha2:AllocZ P ops o2 vf2 ob2 a)
  (H:∀ g1 g2,wpZ P md ops S w0 Q M f ((listed.setIfInBounds k1 true).setIfInBounds k2 true) ((G.upd k1 (g1,ob1)).upd k2 (g2,ob2)) ((a.put o1.dst (vf1 g1)).put o2.dst (vf2 g2))):wpZ P md ops S w0 Q M (f+1+1) listed G a:=by
 obtain ⟨h1,h2,h3⟩:=Oper.apart_spec hap;refine ⟨fun h=>(by rw [h] at hr;cases hr),fun j hj=>?_⟩;rw [hr] at hj;rcases (by simpa using hj:j=k1∨j=k2) with rfl|rfl
 ·refine ⟨o1,hk1,.inl ⟨hM1,.inr ⟨vf1,ob1,ha1,fun g1=>?_⟩⟩⟩;refine wpZ_al1 hk2 hM2 hr1 (ha2.of_same (execOp_put o2 (fun cs b=>hsel _ o2 cs b hk2) a o1.dst _ h1) (wanted_put o2 a o1.dst _ h1)) fun g2=>H g1 g2
 ·refine ⟨o2,hk2,.inl ⟨hM2,.inr ⟨vf2,ob2,ha2,fun g2=>?_⟩⟩⟩;refine wpZ_al1 hk1 hM1 hr2 (ha1.of_same (execOp_put o1 (fun cs b=>hsel _ o1 cs b hk1) a o2.dst _ h3) (wanted_put o1 a o2.dst _ h3)) fun g1=>?_;have:=H g1 g2;rw [Array.setIfInBounds_comm _ _ hne,Gs.upd_comm G hne] at this;rw [<-Act.put_comm a (vf1 g1) (vf2 g2) h2];exact this
def wpCh (P:Program) (l:List Oper) (S:World->Prop) (K:Act->Prop):List (Nat × Bool)->Act->Prop
 | [],a=>K a
 |(k,pl)::ks,a=>∃ o v,l[k]?=some o∧DetZ P l.toArray S o v a∧(pl=true->Yields P l.toArray o v a)∧wpCh P l S K ks (a.put o.dst v)
theorem ch_nil {l:List Oper} {K:Act->Prop} {a:Act} (h:K a):wpCh P l S K [] a:=h
theorem ch_plain {l:List Oper} {K:Act->Prop} {a:Act} {k:Nat} {pl:Bool} {ks:List (Nat × Bool)} {o:Oper} (ho:l[k]?=some o) (v:Value) (hw:Region.wanted o (yielded l.toArray a.tmps)=true) (hy:∀ w,(execOp a.eval o).run P w=.ok (.value v) w) (h:wpCh P l S K ks (a.put o.dst v)):wpCh P l S K ((k,pl)::ks) a :=
 ⟨o,v,ho,.inl ⟨hw,fun w _=>.inl (hy w)⟩,fun _=>.inl ⟨hw,hy⟩,h⟩
theorem ch_val {l:List Oper} {K:Act->Prop} {a:Act} {k:Nat} {ks:List (Nat × Bool)} {o:Oper} (ho:l[k]?=some o) (v:Value) (hw:Region.wanted o (yielded l.toArray a.tmps)=true) (hy:∀ w,S w->(execOp a.eval o).run P w=.ok (.value v) w) (h:wpCh P l S K ks (a.put o.dst v)):wpCh P l S K ((k,false)::ks) a :=
 ⟨o,v,ho,.inl ⟨hw,fun w hS=>.inl (hy w hS)⟩,fun h=>(by cases h),h⟩
theorem ch_skip {l:List Oper} {K:Act->Prop} {a:Act} {k:Nat} {pl:Bool} {ks:List (Nat × Bool)} {o:Oper} (ho:l[k]?=some o) (hw:Region.wanted o (yielded l.toArray a.tmps)=false) (h:wpCh P l S K ks (a.put o.dst undef)):wpCh P l S K ((k,pl)::ks) a :=
 ⟨o,undef,ho,.inr ⟨hw,rfl⟩,fun _=>.inr ⟨hw,rfl⟩,h⟩
theorem ch_call {l:List Oper} {K:Act->Prop} {a:Act} {k:Nat} {ks:List (Nat × Bool)} {o:Oper} (ho:l[k]?=some o) (v:Value) (f:FuncId) (args:Array Value) (hw:Region.wanted o (yielded l.toArray a.tmps)=true) (hy:∀ w,(execOp a.eval o).run P w=.ok (.enter f args) w)
  (hc:∀ w,S w->Calls P f args w (fun e w'=>e=.returned v∧Below w.heap.size w w')) (h:wpCh P l S K ks (a.put o.dst v)):wpCh P l S K ((k,false)::ks) a :=
 ⟨o,v,ho,.inl ⟨hw,fun w hS=>.inr ⟨f,args,hy w,hc w hS⟩⟩,fun h=>(by cases h),h⟩
def wpAl (P:Program) (l:List Oper) (K:Gs->Act->Prop) (G:Gs) (a:Act):List Nat->Prop
 | []=>K G a
 | [k]=>∃ o vf ob,l[k]?=some o∧AllocZ P l.toArray o vf ob a∧∀ g,K (G.upd k (g,ob)) (a.put o.dst (vf g))
 | [k1,k2]=>∃ o1 vf1 ob1 o2 vf2 ob2,l[k1]?=some o1∧AllocZ P l.toArray o1 vf1 ob1 a∧l[k2]?=some o2∧AllocZ P l.toArray o2 vf2 ob2 a∧∀ g1 g2,K ((G.upd k1 (g1,ob1)).upd k2 (g2,ob2)) ((a.put o1.dst (vf1 g1)).put o2.dst (vf2 g2))
 | _=>False
theorem al_nil {l:List Oper} {K:Gs->Act->Prop} {G:Gs} {a:Act} (h:K G a):wpAl P l K G a []:=h
def alB (md:Region.Mode) (l:List Oper):List Nat->Array Bool->Bool
 | [],_=>true
 | [k],listed=>decide (Region.ready md l.toArray listed=[k])
 | [k1,k2],listed=>decide (Region.ready md l.toArray listed=[k1,k2])&&decide (Region.ready md l.toArray (listed.setIfInBounds k1 true)=[k2])&&decide (Region.ready md l.toArray (listed.setIfInBounds k2 true)=[k1])&&decide (k1≠k2) &&
   (match l[k1]?,l[k2]? with|some o1,some o2=>o1.apart l.toArray o2|_,_=>false)
 | _,_=>false
def zB (md:Region.Mode) (l:List Oper) (head:List (Nat × Bool)) (al tail:List Nat):Bool :=
 Region.noSelect l.toArray&&Zbd md l.toArray (head.map (·.1)) (Array.replicate l.length false)&&alB md l al (Zal (head.map (·.1)) (Array.replicate l.length false)) &&
  tailB md l.toArray tail (Zal al (Zal (head.map (·.1)) (Array.replicate l.length false))) &&
  decide (head.length+(al.length+tail.length)=l.length)&&tail.all (fun t=>!((head.map (·.1)).contains t||al.contains t)) &&
  (List.range l.length).all (fun t=>((head.map (·.1)).contains t||al.contains t)||head.all (fun h=>h.2||reaches md l.toArray h.1 l.length t))
theorem wpZ_tail {l:List Oper} {listed:Array Bool} {G:Gs} {a:Act}:∀ {tail:List Nat},tailB md l.toArray tail listed=true->(∀ t ∈ tail,M t=false)->(∀ w,StZ w0 G w->wpList P l.toArray Q (pickL l tail) a w)->wpZ P md l.toArray S w0 Q M tail.length listed G a
 | [],ht,_,h=>⟨by simpa [tailB] using ht,fun w hz=>h w hz⟩
 | k::ks,ht,hM,h=>by
  have ht':=ht;simp only [tailB,Zak,Ze] at ht';refine ⟨fun h0=>(by rw [ht'.1] at h0;cases h0),fun j hj=>?_⟩;obtain ⟨_,o,ho,_⟩:=mem_ready.1 hj;have hj':=hj;rw [ht'.1] at hj';obtain rfl:j=k:=by simpa using hj'
  exact ⟨o,ho,.inr ⟨hM _ (Z0 ..),fun w hz=>(ZgY (j::ks) listed a w ht (h w hz)).2 j hj⟩⟩
theorem wpZ_alloc {l:List Oper} {tail:List Nat} (hsel:Region.noSelect l.toArray=true) (hM:∀ t ∈ tail,M t=false):∀ {al:List Nat} {listed:Array Bool} {G:Gs} {a:Act},alB md l al listed=true->(∀ k ∈ al,M k=true)->tailB md l.toArray tail (Zal al listed)=true ->
  wpAl P l (fun G a2=>∀ w',StZ w0 G w'->wpList P l.toArray Q (pickL l tail) a2 w') G a al->wpZ P md l.toArray S w0 Q M (al.length+tail.length) listed G a
 | [],listed,G,a,_,_,ht,h=>by rw [ZaH,Zar];exact wpZ_tail ht hM h
 | [k],listed,G,a,hB,hA,ht,⟨o,vf,ob,ho,hal,h⟩=>by
  simp only [alB,Ze] at hB;rw [show [k].length+tail.length=tail.length+1 by simp;omega];exact wpZ_al1 (by simpa using ho) (hA k (Z0 ..)) hB hal fun g=>wpZ_tail ht hM (h g)
 | [k1,k2],listed,G,a,hB,hA,ht,⟨o1,vf1,ob1,o2,vf2,ob2,ho1,hal1,ho2,hal2,h⟩=>by
  simp only [alB,Zak,Ze] at hB;obtain ⟨⟨⟨⟨hr,hr1⟩,hr2⟩,hne⟩,hap⟩:=hB;rw [ho1,ho2] at hap;simp only at hap;rw [show [k1,k2].length+tail.length=tail.length+1+1 by simp;omega];exact wpZ_al2 (by simpa using ho1) (by simpa using ho2) hne (hA k1 (by simp)) (hA k2 (by simp)) (Region.noSelect_spec hsel) hr hr1 hr2 hap hal1 hal2 fun g1 g2=>wpZ_tail ht hM (h g1 g2)
 | _::_::_::_,_,_,_,hB,_,_,_=>by simp [alB] at hB
theorem wpZ_head {l:List Oper} {K:Act->Prop} {g:Nat} {G:Gs} (hsel:Region.noSelect l.toArray=true) (hQ:∀ c (a:Act) d v w,Q (.panic c) (a.put d v) w->Q (.panic c) a w)
  (hT:∀ k pl,M k=true->(k,pl) ∈ (([]:List (Nat × Bool)))->True) :
  ∀ (ks:List (Nat × Bool)) (listed:Array Bool) (a:Act),(∀ h ∈ ks,M h.1=true∧(h.2=false->∀ listed,ShutDown md l.toArray listed->listed.getD h.1 true=false->∀ j ∈ Region.ready md l.toArray listed,M j=true))->ShutDown md l.toArray listed->Zbd md l.toArray (ks.map (·.1)) listed=true ->
  (∀ a',K a'->wpZ P md l.toArray S w0 Q M g (Zal (ks.map (·.1)) listed) G a')->wpCh P l S K ks a->wpZ P md l.toArray S w0 Q M (ks.length+g) listed G a
 | [],listed,a,_,_,_,hK,h=>by rw [ZaH,Zar];exact hK a h
 |(k,pl)::ks,listed,a,hG,hs,hB,hK,h=>by
  simp only [Zav,Zbd,Zak] at hB;obtain ⟨⟨hr,hf⟩,hB'⟩:=hB;have hr':k ∈ Region.ready md l.toArray listed:=by simpa using hr
  obtain ⟨o,v,ho,hd,hp,hn⟩:=h;have ho':l.toArray[k]?=some o:=by simpa using ho
  rw [Zat,show ks.length+1+g=(ks.length+g)+1 by omega];have hg:=hG (k,pl) (Z0 ..);exact wpZ_first ho' (Region.noSelect_spec hsel) hQ hg.1 hg.2 _ listed G a hs (Region.free_spec ho' hf) hr' hd hp
   (wpZ_head hsel hQ hT ks _ _ (fun j hj=>hG j (Z8 _ hj)) (hs.next hr') hB' hK hn)
theorem wp_region_detz {id:Nat} {w:World} {a:Act} {l:List Oper} (S:World->Prop) (head:List (Nat × Bool)) (al tail:List Nat) (hm:P.follows .mixedOrders=true) (hB:zB .any l head al tail=true) (hS:∀ w',Below w.heap.size w.drew w'->S w')
  (h:wpCh P l S (fun a1=>wpAl P l (fun G a2=>∀ w',StZ w.drew G w'->wpList P l.toArray (NoPanic Q) (pickL l tail) a2 w') (fun _=>none) a1 al) head a):(Code.region id l.toArray true).wp P Q a w:=by
 refine wp_region_noPanic ?_;simp only [zB,Zak,Ze] at hB;obtain ⟨⟨⟨⟨⟨⟨hsel,hh⟩,ha⟩,ht⟩,hn⟩,htl⟩,hg⟩:=hB;refine wp_region_any hm ?_;change wpAny P .any l.toArray (NoPanic Q) l.toArray.size _ a w.drew;have hsz:l.toArray.size=head.length+(al.length+tail.length):=by rw [hn];simp
 have hrep:Array.replicate l.toArray.size false=Array.replicate l.length false:=by simp
 rw [hrep,hsz];obtain ⟨M,hMd⟩:∃ M:Nat->Bool,M=fun t=>(head.map (·.1)).contains t||al.contains t:=⟨_,rfl⟩;have hMt:∀ t ∈ tail,M t=false:=fun t h=>by
  have:=Zcw.1 htl t h;rw [hMd];simpa using this
 have hMa:∀ k ∈ al,M k=true:=fun k h=>by rw [hMd];simp [h]
 have hMh:∀ x ∈ head,M x.1=true:=fun x h=>by
  rw [hMd];simp only [Zfg,ZcW,ZH];exact .inl ⟨x,h,rfl⟩
 have hG:∀ x ∈ head,M x.1=true∧(x.2=false->∀ listed,ShutDown .any l.toArray listed->listed.getD x.1 true=false->∀ j ∈ Region.ready .any l.toArray listed,M j=true):=fun x hx=>⟨hMh x hx,fun hp listed hsd hun j hj=>by
  simp only [Zcw,Za8] at hg;obtain ⟨_,o,ho,hall⟩:=mem_ready.1 hj;have h2:=hg j (by simpa using (Zby.1 ho).1);rw [Zfg] at h2;rcases h2 with h2|h2
  ·rw [hMd];exact h2
  ·have h3:=Zcw.1 h2 x hx;rw [hp,Bool.false_or] at h3;have h4:=ZeH hsd _ j (fun o' ho' e he' hb=>by rw [ho] at ho';cases ho';exact hall e he' hb) h3
   rw [Zdg hun] at h4;cases h4⟩
 have H:=wpZ_head (P:=P) (S:=S) (w0:=w.drew) (Q:=NoPanic Q) (M:=M) (g:=al.length+tail.length) (G:=fun _=>none) hsel (fun _ _ _ _ _ h=>h) (fun _ _ _ _=>trivial) head _ a hG (ShutDown.start _) hh (fun a1 h1=>wpZ_alloc hsel hMt ha hMa ht h1) h;exact wpAny_of_Z (fun w' hb=>hS w' hb) _ _ _ _ H _ (StZ.start _)
end
end Go.Proofs.YtcbdghojlbpomaaGreat
