import Derived.Test.YtcbdghojlbpomaaGreatIF11
set_option linter.all false
set_option maxRecDepth 4000
set_option maxHeartbeats 8000000
open Go.RowKit
open Go.IntKind (i64 u64)
open Go.Value (int pointer slice)
open Go.Obj (cells)
namespace Go.Proofs.YtcbdghojlbpomaaGreat
open Tryz
open HP (pt mapOf)
variable {W w w':World} {I:Hp} {l:List HP}
structure MarksI (ms:List Mk):Prop where
 inc:Inc (ms.map (·.id))
 seen:(ms.filter Mk.seen).length<=8
 no:heldM ms=none->∀ m ∈ ms,m.gone=false
 old:∀ x,heldM ms=some x->(ms.filter fun m=>decide (m.id<x.id)).length<=8
 gone:∀ x,heldM ms=some x->∀ m ∈ ms,m.gone=true->m.id<x.id
 one:∀ x,heldM ms=some x->∀ m ∈ ms,holdN m.name=true->m.id=x.id
theorem ZiB {α:Type} (p:α->Bool) (l:List α):l.length=(l.filter p).length+(l.filter fun x=>!p x).length:=by
 induction l with
 | nil=>rfl
 | cons a l ih =>
  rw [ZaM,ZaM];cases p a <;> simp [ih] <;> omega
theorem Zf1 {α:Type} {p q:α->Bool}:∀ {l:List α},(∀ x ∈ l,p x=true->q x=true)->(l.filter p).length<=(l.filter q).length
 | [],_=>Z9 _
 | a::l,h=>by
  have ih:=Zf1 (l:=l) fun x hx=>h x (Z8 _ hx);rw [ZaM,ZaM];cases hp:p a with
  | true=>rw [Zb rfl,Zb (h a (Z0 ..) hp)];simp only [Zat];omega
  | false =>
   rw [Za (by simp)];split
   ·simp only [Zat];omega
   ·exact ih
theorem Zjh {ms:List Mk} (h:Inc (ms.map (·.id))) (id:Int):(ms.filter fun m=>decide (m.id=id)).length<=1:=by
 induction ms with
 | nil=>simp
 | cons m ms ih =>
  rw [Zav] at h;have h2:=ZcU.1 h;rw [ZaM];split
  ·rename_i hm;rw [Ze] at hm
   rw [Zd2.2 fun x hx=>by
    have:=h2.1 x.id (Zbz hx);simp only [Ze]
    omega]
   simp
  ·exact ih h2.2
theorem MarksI.count {ms:List Mk} (h:MarksI ms):ms.length<=17:=by
 have hs:=h.seen;cases hx:heldM ms with
 | none =>
  have hg:=h.no hx;have hn:=Zfo.1 hx;have:ms.filter Mk.seen=ms:=Zcy.2 fun m hm=>by
   have a:=hg m hm;have b:=hn m hm;unfold Mk.seen;rw [a];simpa using b
  rw [this] at hs;omega
 | some x =>
  have h1:=ZiB (fun m:Mk=>decide (m.id<x.id)) ms;have h2:=h.old x hx;have h3:=ZiB (fun m:Mk=>decide (m.id=x.id)) (ms.filter fun m=>!decide (m.id<x.id));have h4:((ms.filter fun m=>!decide (m.id<x.id)).filter fun m:Mk=>decide (m.id=x.id)).length<=1:=by
   rw [ZdY];exact ZQ (Zf1 fun m _ hm=>(by simp only [Zak] at hm;exact hm.1)) (Zjh h.inc x.id)
  have h5:((ms.filter fun m=>!decide (m.id<x.id)).filter fun m:Mk=>!decide (m.id=x.id)).length<=(ms.filter Mk.seen).length:=by
   rw [ZdY];refine Zf1 fun m hm hp=>?_;simp only [Zak,Zgr,Zk] at hp;unfold Mk.seen;have a:m.gone=false:=by
    cases q:m.gone with
    | false=>rfl
    | true=>exact absurd (h.gone x hx m hm q) hp.2
   have b:holdN m.name=false:=by
    cases q:holdN m.name with
    | false=>rfl
    | true=>exact absurd (h.one x hx m hm q) hp.1
   rw [a,b];rfl
  omega
theorem ZmE (ms:List Mk) (m:Mk):heldM (ms++[m])=match heldM ms with|some x=>some x|none=>if holdN m.name=true then some m else none:=by
 unfold heldM;rw [Zgt];cases ms.find? fun m=>holdN m.name with
 | some x=>rfl
 | none =>
  cases h:holdN m.name with
  | true=>simp [h]
  | false=>simp [h]
theorem MarksI.snap {ms:List Mk} (h:MarksI ms) {m:Mk} (hi:∀ x ∈ ms,x.id<m.id) (hg:m.gone=false) (hn:holdN m.name=false) (h8:(ms.filter Mk.seen).length<8):MarksI (ms++[m]):=by
 have hh:heldM (ms++[m])=heldM ms:=by
  rw [ZmE,hn];cases heldM ms <;> rfl
 refine ⟨?_,?_,fun e=>?_,fun x e=>?_,fun x e=>?_,fun x e=>?_⟩
 ·rw [Z4];refine Zd4.2 ⟨h.inc,Zgs _ _,fun a ha b hb=>?_⟩;obtain ⟨y,hy,rfl⟩:=ZH.1 ha;simp at hb;subst hb;exact hi y hy
 ·rw [Zca,ZA];have:([m].filter Mk.seen).length<=1:=ZQ (Zbi ..) (Z9 _);omega
 ·rw [hh] at e;intro y hy;rcases ZY.1 hy with q|q
  ·exact h.no e y q
  ·rw [Zaz.1 q];exact hg
 ·rw [hh] at e;have hx:x ∈ ms:=Zd7 e;have:=h.old x e;rw [Zca,ZA,ZdZ (by have:=hi x hx;simp only [Ze];omega)];simpa using this
 ·rw [hh] at e;intro y hy hyg;rcases ZY.1 hy with q|q
  ·exact h.gone x e y q hyg
  ·rw [Zaz.1 q,hg] at hyg;cases hyg
 ·rw [hh] at e;intro y hy hyn;rcases ZY.1 hy with q|q
  ·exact h.one x e y q hyn
  ·rw [Zaz.1 q,hn] at hyn;cases hyn
theorem ZeL {b:Bool} {id:Int}:∀ {ms:List Mk} {y:Mk},y ∈ ZaV b id ms->(y ∈ ms∧y.id≠id)∨(b=true∧∃ z ∈ ms,z.id=id∧y={ z with gone:=true })
 | [],_,h=>by cases h
 | m::ms,y,h=>by
  have ih:=ZeL (b:=b) (id:=id) (ms:=ms) (y:=y);have up:(y ∈ ZaV b id ms)->(y ∈ m::ms∧y.id≠id)∨(b=true∧∃ z ∈ m::ms,z.id=id∧y={ z with gone:=true }):=fun q=>by
   rcases ih q with ⟨r,s⟩|⟨r,z,hz,s⟩
   ·exact .inl ⟨Z8 _ r,s⟩
   ·exact .inr ⟨r,z,Z8 _ hz,s⟩
  unfold ZaV at h;by_cases hm:m.id=id
  ·rw [Zb hm] at h;cases b with
   | true =>
    rw [Zb rfl] at h;rcases ZO.1 h with rfl|h
    ·exact .inr ⟨rfl,m,Z0 ..,hm,rfl⟩
    ·exact up h
   | false=>rw [Za (by simp)] at h;exact up h
  ·rw [Za hm] at h;rcases ZO.1 h with rfl|h
   ·exact .inl ⟨Z0 ..,hm⟩
   ·exact up h
theorem Zf2 (m:Mk) (ms:List Mk):heldM (m::ms)=if holdN m.name=true then some m else heldM ms:=by
 unfold heldM;rw [List.find?_cons];cases holdN m.name <;> rfl
theorem ZiC {b:Bool} {id:Int}:∀ {ms:List Mk},(∀ m ∈ ms,m.id=id->holdN m.name=false)->heldM (ZaV b id ms)=heldM ms
 | [],_=>rfl
 | m::ms,h=>by
  have ih:=ZiC (b:=b) (id:=id) fun x hx=>h x (Z8 _ hx);unfold ZaV;by_cases hm:m.id=id
  ·have hn:=h m (Z0 ..) hm;have e:heldM (m::ms)=heldM ms:=by rw [Zf2,hn,Za (by simp)]
   rw [Zb hm,e];cases b with
   | true =>
    rw [Zb rfl,Zf2];show (if holdN m.name=true then _ else _)=_;rw [hn,Za (by simp)];exact ih
   | false=>rw [Za (by simp)];exact ih
  ·rw [Za hm,Zf2,Zf2,ih]
theorem MarksI.without {ms:List Mk} (h:MarksI ms) {id:Int} (hs:∀ m ∈ ms,m.id=id->m.seen=true):MarksI (ZaC ms id):=by
 obtain ⟨h1,_,h3⟩:=ZeK (Zcv ms id) id ms;have hnm:∀ m ∈ ms,m.id=id->holdN m.name=false:=fun m hm e=>by
  have:=hs m hm e;unfold Mk.seen at this;cases q:holdN m.name with
  | false=>rfl
  | true=>rw [q] at this;simp at this
 have hh:heldM (ZaC ms id)=heldM ms:=ZiC hnm;refine ⟨List.Pairwise.sublist h1 h.inc,?_,fun e m hm=>?_,fun x e=>?_,fun x e m hm hg=>?_,fun x e m hm hn=>?_⟩
 ·show ((ZaV (Zcv ms id) id ms).filter Mk.seen).length<=8;rw [h3];exact ZQ (Zbi ..) h.seen
 ·rw [hh] at e;rcases ZeL hm with ⟨q,_⟩|⟨q,_⟩
  ·exact h.no e m q
  ·unfold Zcv at q;rw [e] at q;cases q
 ·rw [hh] at e;have a:=h.old x e;have c:∀ l:List Mk,(l.filter fun m=>decide (m.id<x.id)).length=((l.map (·.id)).filter fun i=>decide (i<x.id)).length:=fun l=>by
   rw [ZcP,ZE];rfl
  rw [c] at a |-;exact ZQ (h1.filter _).length_le a
 ·rw [hh] at e;rcases ZeL hm with ⟨q,_⟩|⟨q,z,hz,hzi,rfl⟩
  ·exact h.gone x e m q hg
  ·unfold Zcv at q;rw [e] at q;simp only [Ze] at q;have hx:x ∈ ms:=Zd7 e;have hxn:=List.find?_some e;have:x.id≠id:=fun r=>by
    have:=hnm x hx r;rw [this] at hxn;cases hxn
   show z.id<x.id;omega
 ·rw [hh] at e;rcases ZeL hm with ⟨q,_⟩|⟨q,z,hz,hzi,rfl⟩
  ·exact h.one x e m q hn
  ·have:=hnm z hz hzi;have hn:holdN z.name=true:=hn;rw [this] at hn;cases hn
def newH (size:Nat) (l:Ly):Hd:=⟨size,l,1,0,[]⟩
def newR:List RO:=List.replicate every noRO
theorem Zep (k:Nat):objAt newR k=noRO:=by
 unfold objAt newR;rw [Zd9];split <;> rfl
theorem ImgI.new {size:Nat} {l:Ly} (hl:l.ok) (hs:size<=512):ImgI (newH size l) newR:=by
 refine ⟨hl,hs,fun m hm=>(by cases hm),⟨List.Pairwise.nil,fun m hm=>(by cases hm),fun m hm=>(by cases hm),.inl rfl⟩,by show (0:Int)<1;omega,by simp [newR],fun k=>?_,fun k=>?_,fun m hm=>(by cases hm)⟩
 ·rw [Zep];exact ⟨List.Pairwise.nil,fun c hc=>(by cases hc),fun c hc=>(by cases hc),fun c hc=>(by cases hc)⟩
 ·rw [Zep];exact ZaY _
theorem ZkL (size:Nat) (l:Ly):viewI (newH size l) newR=⟨List.replicate size 0,[]⟩:=by
 unfold viewI;simp only [Vw.mk.injEq];refine ⟨?_,rfl⟩;show Zag l newR 0 size=_;unfold Zag;refine List.eq_replicate_iff.2 ⟨by simp,fun b hb=>?_⟩;obtain ⟨x,_,rfl⟩:=ZH.1 hb;unfold byteR byteO;rw [Zep,Zeq];rfl
theorem MarksI.new:MarksI []:=⟨List.Pairwise.nil,by simp,fun _ m hm=>(by cases hm),fun x e=>(by cases e),fun x e=>(by cases e),fun x e=>(by cases e)⟩
end Go.Proofs.YtcbdghojlbpomaaGreat
