import Derived.Deep.Draws
import Derived.Laws.OwnMore
import Derived.Maps.RangeWalk
import Derived.Carry
import Derived.WideKeyEntry
import Derived.Test.YtcbdghojlbpomaaGreatProg
import Derived.WalkKit
import Derived.WalkSpells
import Derived.WalkLawsBesides
import Derived.Deep.RegionWith
import Derived.Test.YtcbdghojlbpomaaGreatIF00
set_option linter.all false
set_option maxRecDepth 4000
set_option maxHeartbeats 8000000
open Go.RowKit
open Go.IntKind (i64 u64)
open Go.Value (int pointer slice)
open Go.Obj (cells)
namespace Go.Proofs.YtcbdghojlbpomaaGreat
end Go.Proofs.YtcbdghojlbpomaaGreat
namespace Go.Proofs.YtcbdghojlbpomaaGreat
open Go.RowKit
abbrev Hp:=Nat->Option Obj
def Hp.sub (h k:Hp):Prop:=∀ b o,h b=some o->k b=some o
def Hp.disj (h k:Hp):Prop:=∀ b,h b=none∨k b=none
def Hp.join (h k:Hp):Hp:=fun b=>match h b with|some o=>some o|none=>k b
def Hp.one (b:Nat) (o:Obj):Hp:=fun c=>if c=b then some o else none
def Hp.nil:Hp:=fun _=>none
theorem Hp.sub.refl (h:Hp):h.sub h:=fun _ _ e=>e
theorem Hp.sub.trans {a b c:Hp} (h:a.sub b) (k:b.sub c):a.sub c:=fun _ _ e=>k _ _ (h _ _ e)
theorem Hp.nil_sub (h:Hp):Hp.nil.sub h:=fun _ _ e=>by cases e
theorem Hp.disj.symm {h k:Hp} (d:h.disj k):k.disj h:=fun b=>(d b).symm
theorem Hp.disj.mono {h k h' k':Hp} (d:h.disj k) (s:h'.sub h) (t:k'.sub k):h'.disj k':=fun b=>by
 rcases d b with e|e
 ·left;cases h1:h' b with
  | none=>rfl
  | some o=>rw [s _ _ h1] at e;cases e
 ·right;cases h1:k' b with
  | none=>rfl
  | some o=>rw [t _ _ h1] at e;cases e
theorem Hp.disj_nil (h:Hp):h.disj Hp.nil:=fun _=>.inr rfl
theorem Hp.sub_join_left (h k:Hp):h.sub (h.join k):=fun b o e=>by simp [Hp.join,e]
theorem Hp.sub_join_right {h k:Hp} (d:h.disj k):k.sub (h.join k):=fun b o e=>by
 rcases d b with h1|h1
 ·simp [Hp.join,h1,e]
 ·rw [h1] at e;cases e
theorem Hp.join_sub {h k l:Hp} (a:h.sub l) (b:k.sub l):(h.join k).sub l:=fun c o e=>by
 unfold Hp.join at e;split at e
 ·rename_i q hq;cases e;exact a _ _ hq
 ·exact b _ _ e
theorem Hp.disj_join {h k l:Hp} (a:l.disj h) (b:l.disj k):l.disj (h.join k):=fun c=>by
 rcases a c with e|e
 ·exact .inl e
 ·rcases b c with f|f
  ·exact .inl f
  ·exact .inr (by simp [Hp.join,e,f])
theorem Hp.one_sub {h:Hp} {b:Nat} {o:Obj} (e:h b=some o):(Hp.one b o).sub h:=fun c q hq=>by
 unfold Hp.one at hq;split at hq
 ·cases hq;subst c;exact e
 ·cases hq
theorem Hp.one_same (b:Nat) (o:Obj):Hp.one b o b=some o:=by simp [Hp.one]
end Go.Proofs.YtcbdghojlbpomaaGreat
namespace Go
def World.hp (w:World):Go.Proofs.YtcbdghojlbpomaaGreat.Hp:=fun b=>w.heap[b]?
end Go
namespace Go.Proofs.YtcbdghojlbpomaaGreat
open Go.RowKit
structure HP where
 p:Hp->Hp->Prop
 mono:∀ {I I' h:Hp},I.sub I'->p I h->p I' h
def sepL:List HP->Hp->Hp->Prop
 | [],_,_=>True
 | A::l,I,h=>∃ h1 h2,Hp.disj h1 h2∧h1.sub h∧h2.sub h∧A.p I h1∧sepL l I h2
theorem ZhO:∀ {l:List HP} {I h k:Hp},h.sub k->sepL l I h->sepL l I k
 | [],_,_,_,_,_=>trivial
 | _::_,_,_,_,s,⟨h1,h2,d,a,b,p,q⟩=>⟨h1,h2,d,a.trans s,b.trans s,p,q⟩
theorem Zhe:∀ {l:List HP} {I I' h:Hp},I.sub I'->sepL l I h->sepL l I' h
 | [],_,_,_,_,_=>trivial
 | A::_,_,_,_,s,⟨h1,h2,d,a,b,p,q⟩=>⟨h1,h2,d,a,b,A.mono s p,Zhe s q⟩
theorem Zn6 {l l':List HP} (hp:l.Perm l'):∀ {I h:Hp},sepL l I h->sepL l' I h:=by
 induction hp with
 | nil=>exact fun h=>h
 | cons A _ ih=>exact fun ⟨h1,h2,d,a,b,p,q⟩=>⟨h1,h2,d,a,b,p,ih q⟩
 | swap A B l =>
  rintro I h ⟨h1,h2,d,a,b,p,h3,h4,d',a',b',p',q⟩;exact ⟨h3,h1.join h4,Hp.disj_join ((d.mono (Hp.sub.refl _) a').symm) d',a'.trans b,Hp.join_sub a (b'.trans b),p',h1,h4,d.mono (Hp.sub.refl _) b',Hp.sub_join_left _ _,Hp.sub_join_right (d.mono (Hp.sub.refl _) b'),p,q⟩
 | trans _ _ i j=>exact fun h=>j (i h)
theorem Zq4:∀ {l m:List HP} {I h:Hp},sepL (l++m) I h↔∃ h1 h2,Hp.disj h1 h2∧h1.sub h∧h2.sub h∧sepL l I h1∧sepL m I h2
 | [],m,I,h=>⟨fun q=>⟨Hp.nil,h,(Hp.disj_nil _).symm,Hp.nil_sub _,Hp.sub.refl _,trivial,q⟩,fun ⟨_,_,_,_,b,_,q⟩=>ZhO b q⟩
 | A::l,m,I,h=>by
  constructor
  ·rintro ⟨h1,h2,d,a,b,p,q⟩;obtain ⟨h3,h4,d',a',b',r,s⟩:=Zq4.1 q;exact ⟨h1.join h3,h4,Hp.disj.symm (Hp.disj_join (d.mono (Hp.sub.refl _) b').symm d'.symm),Hp.join_sub a (a'.trans b),b'.trans b,⟨h1,h3,d.mono (Hp.sub.refl _) a',Hp.sub_join_left _ _,Hp.sub_join_right (d.mono (Hp.sub.refl _) a'),p,r⟩,s⟩
  ·rintro ⟨h1,h2,d,a,b,⟨h3,h4,d',a',b',p,r⟩,s⟩;exact ⟨h3,h4.join h2,Hp.disj_join d' (d.mono a' (Hp.sub.refl _)),a'.trans a,Hp.join_sub (b'.trans a) b,p,Zq4.2 ⟨h4,h2,d.mono b' (Hp.sub.refl _),Hp.sub_join_left _ _,Hp.sub_join_right (d.mono b' (Hp.sub.refl _)),r,s⟩⟩
def HP.all (l:List HP):HP:=⟨sepL l,Zhe⟩
def HP.ex {α:Type} (A:α->HP):HP:=⟨fun I h=>∃ x,(A x).p I h,fun s ⟨x,q⟩=>⟨x,(A x).mono s q⟩⟩
def HP.pure (φ:Prop):HP:=⟨fun _ _=>φ,fun _ q=>q⟩
def HP.pt (b:Nat) (o:Obj):HP:=⟨fun _ h=>h b=some o,fun _ q=>q⟩
structure IP where
 p:Hp->Prop
 mono:∀ {I I':Hp},I.sub I'->p I->p I'
def HP.imm (A:IP):HP:=⟨fun I _=>A.p I,fun s q=>A.mono s q⟩
def HP.row (e:TypeId) (size:Nat) (v:Value) (n:Nat) (xs:List Value):HP :=
 ⟨fun _ h=>xs.length=n*size∧((v=slice none 0 0∧n=0) ∨
  ∃ g cap cur,v=slice (some ⟨g,0,none⟩) n cap∧h g=some (cells cur e (0,0))∧n<=cap∧cap<=maxLen∧cur.size=cap*size∧cur.toList.take (n*size)=xs),fun _ q=>q⟩
structure St (W:World) (I:Hp) (w:World) (l:List HP):Prop where
 os:w.os=W.os
 tape:w.tape=W.tape
 output:w.output=W.output
 base:W.hp.sub I
 imm:I.sub w.hp
 own:∃ h:Hp,h.sub w.hp∧I.disj h∧sepL l I h
section
variable {W w w' : World} {I : Hp} {l m : List HP}
theorem St.init (W:World):St W W.hp W []:=⟨rfl,rfl,rfl,Hp.sub.refl _,Hp.sub.refl _,Hp.nil,Hp.nil_sub _,Hp.disj_nil _,trivial⟩
theorem Zme {W w:World} (h:W.hp.sub w.hp):W.heap.size<=w.heap.size:=by
 rcases Zbf W.heap.size with e|e
 ·omega
 ·have:W.hp (W.heap.size - 1)=some W.heap[W.heap.size - 1]:=Zfh (by omega);have:=(Zby.1 (h _ _ this)).1;omega
theorem St.below (h:St W I w l):Below W.heap.size W w:=by
 have hs:=h.base.trans h.imm;refine ⟨h.os,h.tape,h.output,Zme hs,fun k hk=>?_⟩;have e:W.hp k=some W.heap[k]:=Zfh hk;exact (hs _ _ e).trans e.symm
theorem St.perm (h:St W I w l) (p:l.Perm m):St W I w m:=by
 obtain ⟨k,a,b,c⟩:=h.own;exact ⟨h.os,h.tape,h.output,h.base,h.imm,k,a,b,Zn6 p c⟩
theorem Zc0 {α:Type}:∀ (l:List α) (n:Nat) (A:α),l[n]?=some A->l.Perm (A::l.eraseIdx n)
 | a::l,0,A,h=>by simp at h;subst h;exact Zad _
 | a::l,n+1,A,h=>((Zc0 l n A (by simpa using h)).cons a).trans (List.Perm.swap A a _)
theorem St.pull (h:St W I w l) (n:Nat) (A:HP) (hA:l[n]?=some A):St W I w (A::l.eraseIdx n):=by
 exact h.perm (Zc0 _ _ _ hA)
theorem St.imp (h:St W I w l) (p:∀ k,sepL l I k->sepL m I k):St W I w m:=by
 obtain ⟨k,a,b,c⟩:=h.own;exact ⟨h.os,h.tape,h.output,h.base,h.imm,k,a,b,p k c⟩
theorem St.drop {A:HP} (h:St W I w (A::l)):St W I w l:=h.imp fun _ ⟨_,_,_,_,b,_,q⟩=>ZhO b q
theorem St.drops (h:St W I w (l++m)):St W I w m:=h.imp fun _ c=>by
 obtain ⟨_,_,_,_,b,_,q⟩:=Zq4.1 c;exact ZhO b q
theorem St.all_open (h:St W I w (HP.all l::m)):St W I w (l++m):=h.imp fun _ ⟨h1,h2,d,a,b,p,q⟩=>Zq4.2 ⟨h1,h2,d,a,b,p,q⟩
theorem St.all_shut (h:St W I w (l++m)):St W I w (HP.all l::m):=h.imp fun _ c=>by
 obtain ⟨h1,h2,d,a,b,p,q⟩:=Zq4.1 c;exact ⟨h1,h2,d,a,b,p,q⟩
theorem St.ex_open {α:Type} {A:α->HP} (h:St W I w (HP.ex A::m)):∃ x,St W I w (A x::m):=by
 obtain ⟨k,a,b,h1,h2,d,a',b',⟨x,p⟩,q⟩:=h.own;exact ⟨x,h.os,h.tape,h.output,h.base,h.imm,k,a,b,h1,h2,d,a',b',p,q⟩
theorem St.ex_shut {α:Type} {A:α->HP} (x:α) (h:St W I w (A x::m)):St W I w (HP.ex A::m):=h.imp fun _ ⟨h1,h2,d,a',b',p,q⟩=>⟨h1,h2,d,a',b',⟨x,p⟩,q⟩
theorem St.pure_open {φ:Prop} (h:St W I w (HP.pure φ::m)):φ∧St W I w m:=by
 obtain ⟨_,_,_,_,_,_,_,_,p,_⟩:=h.own;exact ⟨p,h.drop⟩
theorem St.pure_shut {φ:Prop} (p:φ) (h:St W I w m):St W I w (HP.pure φ::m):=h.imp fun k c=>⟨Hp.nil,k,(Hp.disj_nil _).symm,Hp.nil_sub _,Hp.sub.refl _,p,c⟩
theorem St.imm_open {A:IP} (h:St W I w (HP.imm A::m)):A.p I∧St W I w m:=by
 obtain ⟨_,_,_,_,_,_,_,_,p,_⟩:=h.own;exact ⟨p,h.drop⟩
theorem St.imm_shut {A:IP} (p:A.p I) (h:St W I w m):St W I w (HP.imm A::m):=h.imp fun k c=>⟨Hp.nil,k,(Hp.disj_nil _).symm,Hp.nil_sub _,Hp.sub.refl _,p,c⟩
theorem St.heap {b:Nat} {o:Obj} (h:St W I w (HP.pt b o::m)):w.heap[b]?=some o:=by
 obtain ⟨k,a,_,h1,h2,_,a',_,p,_⟩:=h.own;exact a _ _ (a' _ _ p)
theorem St.lt {b:Nat} {o:Obj} (h:St W I w (HP.pt b o::m)):b<w.heap.size:=(Zby.1 h.heap).1
theorem St.write {b:Nat} {o o':Obj} (h:St W I w (HP.pt b o::m)) (hos:w'.os=w.os) (ht:w'.tape=w.tape) (ho:w'.output=w.output) (hb:w'.heap[b]?=some o')
  (hne:∀ c,c<w.heap.size->c≠b->w'.heap[c]?=w.heap[c]?):St W I w' (HP.pt b o'::m):=by
 obtain ⟨k,a,dI,h1,h2,d,a',b',p,q⟩:=h.own;have p':h1 b=some o:=p;have hI:I b=none:=by
  rcases dI b with e|e
  ·exact e
  ·rw [a' _ _ p'] at e;cases e
 have h2b:h2 b=none:=by
  rcases d b with e|e
  ·rw [p'] at e;cases e
  ·exact e
 have old:∀ {g:Hp},g.sub w.hp->g b=none->g.sub w'.hp:=fun {g} s e c x hx=>by
  have hc:w.heap[c]?=some x:=s _ _ hx;have hlt:=(Zby.1 hc).1;have hcb:c≠b:=fun q=>by subst c;rw [e] at hx;cases hx
  exact (hne c hlt hcb).trans hc
 refine ⟨hos.trans h.os,ht.trans h.tape,ho.trans h.output,h.base,old h.imm hI,(Hp.one b o').join h2,Hp.join_sub (Hp.one_sub hb) (old (b'.trans a) h2b),Hp.disj_join (fun c=>?_) (dI.mono (Hp.sub.refl _) b'),Hp.one b o',h2,?_,Hp.sub_join_left _ _,Hp.sub_join_right ?_,Hp.one_same b o',q⟩
 ·by_cases e:c=b
  ·subst c;exact .inl hI
  ·exact .inr (by simp [Hp.one,e])
 all_goals
  intro c;by_cases e:c=b
  ·subst c;exact .inr h2b
  ·exact .inl (by simp [Hp.one,e])
theorem St.keep (h:St W I w l) (hb:Below w.heap.size w w'):St W I w' l:=by
 obtain ⟨k,a,b,c⟩:=h.own;have old:∀ {g:Hp},g.sub w.hp->g.sub w'.hp:=fun {g} s c x hx=>by
  have hc:w.heap[c]?=some x:=s _ _ hx;exact (hb.block c (Zby.1 hc).1).trans hc
 exact ⟨hb.os.trans h.os,hb.tape.trans h.tape,hb.output.trans h.output,h.base,old h.imm,k,old a,b,c⟩
theorem St.drew (h:St W I w l):St W I w.drew l:=h.keep (ZR _ _).drew
theorem St.drewN (h:St W I w l) (n:Nat):St W I (w.drewN n) l:=h.keep ⟨rfl,rfl,rfl,Z9 _,fun _ _=>rfl⟩
theorem St.fresh {b:Nat} {o:Obj} (h:St W I w l) (hb:Below w.heap.size w w') (hlt:w.heap.size<=b) (ho:w'.heap[b]?=some o):St W I w' (HP.pt b o::l):=by
 have h':=h.keep hb;obtain ⟨k,a,d,c⟩:=h.own;have none_of:∀ {g:Hp},g.sub w.hp->g b=none:=fun {g} s=>by
  cases e:g b with
  | none=>rfl
  | some x =>
   have hc:w.heap[b]?=some x:=s _ _ e;have:=(Zby.1 hc).1;omega
 have old:k.sub w'.hp:=fun c x hx=>by
  have hc:w.heap[c]?=some x:=a _ _ hx;exact (hb.block c (Zby.1 hc).1).trans hc
 have dk:(Hp.one b o).disj k:=fun c=>by
  by_cases e:c=b
  ·subst c;exact .inr (none_of a)
  ·exact .inl (by simp [Hp.one,e])
 refine ⟨h'.os,h'.tape,h'.output,h'.base,h'.imm,(Hp.one b o).join k,Hp.join_sub (Hp.one_sub ho) old,Hp.disj_join (fun c=>?_) d,Hp.one b o,k,dk,Hp.sub_join_left _ _,Hp.sub_join_right dk,Hp.one_same b o,c⟩;by_cases e:c=b
 ·subst c;exact .inl (none_of h.imm)
 ·exact .inr (by simp [Hp.one,e])
theorem St.alloc (h:St W I w l) (o:Obj):St W I (w.alloc o) (HP.pt w.heap.size o::l) :=
 h.fresh ((ZR _ _).alloc (Z9 _) _) (Z9 _) (Zbh w o)
theorem St.setCell {b:Nat} {cs:Array Value} {t:TypeId} {f:Nat × Nat} (h:St W I w (HP.pt b (cells cs t f)::l)) (i:Nat) (v:Value):St W I (w.setCell ⟨b,i,none⟩ v) (HP.pt b (cells (cs.setIfInBounds i v) t f)::l):=by
 refine h.write rfl rfl rfl ?_ fun c _ hc=>Below.heap_setCell w _ _ _ hc;have:=h.heap;simp [World.setCell,Array.getElem?_modify,this]
theorem St.freeze {b:Nat} {o:Obj} (h:St W I w (HP.pt b o::l)):∃ I':Hp,I.sub I'∧I' b=some o∧St W I' w l:=by
 obtain ⟨k,a,d,h1,h2,d',a',b',p,q⟩:=h.own;have p':h1 b=some o:=p;have hd:I.disj (Hp.one b o):=(d.mono (Hp.sub.refl _) a').mono (Hp.sub.refl _) (Hp.one_sub p');have hd2:(Hp.one b o).disj h2:=d'.mono (Hp.one_sub p') (Hp.sub.refl _);refine ⟨I.join (Hp.one b o),Hp.sub_join_left _ _,Hp.sub_join_right hd _ _ (Hp.one_same b o),h.os,h.tape,h.output,h.base.trans (Hp.sub_join_left _ _),Hp.join_sub h.imm (Hp.one_sub (a _ _ (a' _ _ p'))),h2,b'.trans a,?_,Zhe (Hp.sub_join_left _ _) q⟩;exact (Hp.disj_join (d.mono (Hp.sub.refl _) b').symm hd2.symm).symm
theorem St.imm_heap (h:St W I w l) {b:Nat} {o:Obj} (e:I b=some o):w.heap[b]?=some o:=h.imm _ _ e
theorem St.ne {b c:Nat} {o q:Obj} (h:St W I w (HP.pt b o::HP.pt c q::l)):b≠c:=by
 rintro rfl;obtain ⟨k,a,dI,h1,h2,d,a',b',p,h3,h4,d',a'',b'',p',_⟩:=h.own;rcases d b with e|e
 ·rw [show h1 b=some o from p] at e;cases e
 ·rw [a'' _ _ (show h3 b=some q from p')] at e;cases e
end
section
variable {W w w' : World} {I : Hp} {l : List HP} {e : TypeId} {size : Nat} {v v' : Value} {n n' : Nat} {xs xs' : List Value}
theorem St.row_open (h:St W I w (HP.row e size v n xs::l)):xs.length=n*size∧((v=slice none 0 0∧n=0∧St W I w l) ∨
  ∃ g cap cur,v=slice (some ⟨g,0,none⟩) n cap∧n<=cap∧cap<=maxLen∧cur.size=cap*size∧cur.toList.take (n*size)=xs∧St W I w (HP.pt g (cells cur e (0,0))::l)):=by
 have hd:=h.drop;obtain ⟨k,a,d,h1,h2,d',a',b',⟨hl,p⟩,q⟩:=h.own;refine ⟨hl,?_⟩;rcases p with ⟨p1,p2⟩|⟨g,cap,cur,p1,p2,p3,p4,p5,p6⟩
 ·exact .inl ⟨p1,p2,hd⟩
 ·exact .inr (⟨g,cap,cur,p1,p3,p4,p5,p6,h.os,h.tape,h.output,h.base,h.imm,k,a,d,h1,h2,d',a',b',p2,q⟩)
theorem St.row_nil (h:St W I w l) (e:TypeId) (size:Nat):St W I w (HP.row e size (slice none 0 0) 0 []::l) :=
 h.imp fun k c=>⟨Hp.nil,k,(Hp.disj_nil _).symm,Hp.nil_sub _,Hp.sub.refl _,⟨by simp,.inl ⟨rfl,rfl⟩⟩,c⟩
theorem St.row_shut {g cap:Nat} {cur:Array Value} (h:St W I w (HP.pt g (cells cur e (0,0))::l)) (hx:xs.length=n*size) (hn:n<=cap) (hc:cap<=maxLen) (hs:cur.size=cap*size) (ht:cur.toList.take (n*size)=xs) :
  St W I w (HP.row e size (slice (some ⟨g,0,none⟩) n cap) n xs::l) :=
 h.imp fun _ ⟨h1,h2,d',a',b',p2,q⟩=>⟨h1,h2,d',a',b',⟨hx,.inr ⟨g,cap,cur,rfl,p2,hn,hc,hs,ht⟩⟩,q⟩
theorem St.row_len (h:St W I w (HP.row e size v n xs::l)):xs.length=n*size:=h.row_open.1
theorem St.row_owns (h:St W I w (HP.row e size v n xs::l)):w.ownsRow 0 e size v n xs:=by
 obtain ⟨hl,p⟩:=h.row_open;refine ⟨hl,?_⟩;rcases p with ⟨p1,p2,_⟩|⟨g,cap,cur,p1,p3,p4,p5,p6,s⟩
 ·exact .inl ⟨p1,p2⟩
 ·exact .inr ⟨g,cap,cur,p1,ZaY _,s.heap,p3,p4,p5,p6⟩
theorem St.row_fresh (h:St W I w l) (hb:Below w.heap.size w w') (ho:w'.ownsRow w.heap.size e size v n xs):St W I w' (HP.row e size v n xs::l):=by
 obtain ⟨hl,p⟩:=ho;rcases p with ⟨rfl,rfl⟩|⟨g,cap,cur,rfl,hg,hc,h1,h2,h3,h4⟩
 ·simp at hl;subst hl;exact (h.keep hb).row_nil e size
 ·exact (h.fresh hb hg hc).row_shut hl h1 h2 h3 h4
theorem ZlE (h:w.grownBy w' none):Below w.heap.size w w':=⟨h.os,h.tape,h.output,h.size,fun k hk=>h.block k hk (by simp)⟩
theorem St.row_grown (h:St W I w (HP.row e size v n xs::l)) (ho:w'.ownsRow 0 e size v' n' xs') (hg:w.grownBy w' v.ownBlock) (hv:v'.ownBlock=v.ownBlock∨v'.ownBlock=some w.heap.size):St W I w' (HP.row e size v' n' xs'::l):=by
 obtain ⟨hl,p⟩:=h.row_open;obtain ⟨hl',p'⟩:=ho;rcases p with ⟨rfl,rfl,s⟩|⟨g,cap,cur,rfl,p3,p4,p5,p6,s⟩
 ·have hb:=ZlE hg;rcases p' with ⟨rfl,rfl⟩|⟨g,cap,cur,rfl,_,hc,h1,h2,h3,h4⟩
  ·simp at hl';subst hl';exact (s.keep hb).row_nil e size
  ·rcases hv with hv|hv
   ·simp [Value.ownBlock] at hv
   ·simp [Value.ownBlock] at hv;subst hv;exact (s.fresh hb (Z9 _) hc).row_shut hl' h1 h2 h3 h4
 ·rcases p' with ⟨rfl,rfl⟩|⟨g',cap',cur',rfl,_,hc,h1,h2,h3,h4⟩
  ·rcases hv with hv|hv <;> simp [Value.ownBlock] at hv
  ·have hne:∀ c,c<w.heap.size->c≠g->w'.heap[c]?=w.heap[c]?:=fun c hc hcg=>hg.block c hc (by simpa [Value.ownBlock] using hcg);simp only [Value.ownBlock,Zah] at hv;rcases hv with hv|hv
   ·subst hv;exact (s.write hg.os hg.tape hg.output hc hne).row_shut hl' h1 h2 h3 h4
   ·subst hv
    -- the old block is let go
    have hlt:=s.lt;obtain ⟨o,ho⟩:∃ o,w'.heap[g]?=some o:=⟨_,Zfh (Zgn hlt hg.size)⟩;have s2:=s.write (w':={ w' with heap:=w.heap.set g o }) (o':=o) (by exact hg.os) (by exact hg.tape) (by exact hg.output) (by simp) (fun c hc hcg=>by simp [Array.getElem?_set,Ne.symm hcg])
    have hb:Below w.heap.size ({ w' with heap:=w.heap.set g o }:World) w':=⟨rfl,rfl,rfl,by simpa using hg.size,fun k hk=>by
     by_cases e:k=g
     ·subst k;simp [ho]
     ·simp [Array.getElem?_set,Ne.symm e,hne k hk e]⟩
    exact (s2.drop.fresh (w:={ w' with heap:=w.heap.set g o }) (by simpa using hb) (by simp) hc).row_shut hl' h1 h2 h3 h4
end
theorem Zap {α:Type} {B:α} {l:List α}:(B::l).Perm (B::l):=Zad _
theorem Zao {α:Type} {A B:α} {l k:List α} (h:l.Perm (B::k)):(A::l).Perm (B::A::k):=(h.cons A).trans (List.Perm.swap _ _ _)
theorem Zaq {α:Type} {B:α} {l k m:List α} (h1:l.Perm (B::k)) (h2:k.Perm m):l.Perm (B::m):=h1.trans (h2.cons B)
example {α:Type} (a b c d:α) (l:List α):(a::b::c::d::l).Perm (d::b::a::c::l):=by ((try simp only [Zx,Zy,ZZ,ZP]);repeat (first|with_reducible exact Zad _|(apply Zaq;(· repeat (first|with_reducible exact Zap|with_reducible apply Zao)))))
example {α:Type} (a b c d:α) (l:List α):((a::b::c::d::l).eraseIdx 2).Perm (d::b::a::l):=by ((try simp only [Zx,Zy,ZZ,ZP]);repeat (first|with_reducible exact Zad _|(apply Zaq;(· repeat (first|with_reducible exact Zap|with_reducible apply Zao)))))
end Go.Proofs.YtcbdghojlbpomaaGreat
namespace Go.Proofs.YtcbdghojlbpomaaGreat
open Go.RowKit
open Go.ChangeMaps (setBlock)
def get {K V:Type} [DecidableEq K] (a:K):List (K × V)->Option V
 | []=>none
 |(b,v)::l=>if a=b then some v else get a l
def del {K V:Type} [DecidableEq K] (a:K) (l:List (K × V)):List (K × V):=l.filter fun p=>decide (p.1≠a)
def put {K V:Type} [DecidableEq K] (a:K) (v:V) (l:List (K × V)):List (K × V):=(a,v)::del a l
def at_ {K V:Type} [DecidableEq K] (a:K):List (K × V)->Nat->Option (Nat × V)
 | [],_=>none
 |(b,v)::l,i=>if a=b then some (i,v) else at_ a l (i+1)
theorem Zdj {K V:Type} {l l':List (K × V)} (hn:(l.map (·.1)).Nodup) (p:l.Perm l'):(l'.map (·.1)).Nodup:=(p.map _).nodup_iff.1 hn
section
variable {K V : Type} [DecidableEq K]
theorem get_none {a:K}:∀ {l:List (K × V)},get a l=none↔∀ p ∈ l,p.1≠a
 | []=>by simp [get]
 |(b,v)::l=>by
  unfold get;by_cases e:a=b
  ·subst e;simp
  ·simp only [e,Zau,get_none (l:=l),ZO,forall_eq_or_imp,ne_eq];exact ⟨fun h=>⟨fun q=>e q.symm,h⟩,fun h=>h.2⟩
theorem get_mem {a:K} {v:V}:∀ {l:List (K × V)},get a l=some v->(a,v) ∈ l
 |(b,u)::l,h=>by
  unfold get at h;by_cases e:a=b
  ·subst e;simp at h;subst h;exact Z0 ..
  ·simp only [e,Zau] at h;exact Z8 _ (get_mem h)
theorem get_of_mem {a:K} {v:V}:∀ {l:List (K × V)},(l.map (·.1)).Nodup->(a,v) ∈ l->get a l=some v
 |(b,u)::l,hn,h=>by
  have hn':b ∉ l.map (·.1)∧(l.map (·.1)).Nodup:=Za9.1 hn;unfold get;rcases ZO.1 h with e|h
  ·cases e;simp
  ·have:a≠b:=fun e=>hn'.1 (e ▸ ZH.2 ⟨_,h,rfl⟩);simp only [this,Zau];exact get_of_mem hn'.2 h
theorem ZdR {a:K} {l l':List (K × V)} (hn:(l.map (·.1)).Nodup) (p:l.Perm l'):get a l=get a l':=by
 cases h:get a l with
 | none =>
  refine (get_none.2 fun q hq=>?_).symm;exact get_none.1 h q (p.mem_iff.2 hq)
 | some v=>exact (get_of_mem ((p.map _).nodup_iff.1 hn) (p.mem_iff.1 (get_mem h))).symm
theorem ZjE {a:K} {l:List (K × V)} (hn:(l.map (·.1)).Nodup):((del a l).map (·.1)).Nodup:=((List.filter_sublist (l:=l)).map _).nodup hn
theorem ZfO {a:K} {v:V} {l:List (K × V)} (hn:(l.map (·.1)).Nodup):((put a v l).map (·.1)).Nodup :=
 Za9.2 ⟨fun h=>by
  obtain ⟨p,hp,e⟩:=ZH.1 h;have:=(Z1.1 hp).2;simp at this
  exact this e,ZjE hn⟩
theorem Zcm {a:K} {l:List (K × V)} (h:get a l=none):del a l=l:=Zcy.2 fun p hp=>by simpa using get_none.1 h p hp
theorem Zl3 {a:K} {l:List (K × V)}:get a (del a l)=none:=get_none.2 fun p hp=>by simpa using (Z1.1 hp).2
theorem ZfB {a b:K} (h:b≠a):∀ {l:List (K × V)},get b (del a l)=get b l
 | []=>rfl
 |(c,v)::l=>by
  unfold del;by_cases e:c=a
  ·subst e;simp only [ZaM,ne_eq,Zc9,decide_false,ZaS,Zau];rw [show get b ((c,v)::l)=get b l by simp [get,h]];exact ZfB h
  ·simp only [ZaM,ne_eq,e,Zh9,decide_true,Zaw];unfold get;rw [show get b (List.filter (fun p=>decide (p.1≠a)) l)=get b l from ZfB h]
theorem ZdM {a:K} {v:V} {l:List (K × V)}:get a (put a v l)=some v:=by simp [put,get]
theorem ZeN {a b:K} {v:V} (h:b≠a) {l:List (K × V)}:get b (put a v l)=get b l:=by
 unfold put;rw [show get b ((a,v)::del a l)=get b (del a l) by simp [get,h]];exact ZfB h
theorem ZeI {a:K} {v:V}:∀ {l:List (K × V)},(l.map (·.1)).Nodup->get a l=some v->l.Perm ((a,v)::del a l)
 |(b,u)::l,hn,h=>by
  have hn':b ∉ l.map (·.1)∧(l.map (·.1)).Nodup:=Za9.1 hn;unfold get at h;unfold del;by_cases e:a=b
  ·subst e;simp only [Zaw,Zah] at h;subst h;simp only [ZaM,ne_eq,Zc9,decide_false,ZaS,Zau];rw [show List.filter (fun p:K × V=>decide (p.1≠a)) l=l from Zcm (get_none.2 fun p hp q=>hn'.1 (ZH.2 ⟨p,hp,q⟩))]
  ·simp only [e,Zau] at h;simp only [ZaM,ne_eq,Ne.symm e,Zh9,decide_true,Zaw];exact ((ZeI hn'.2 h).cons _).trans (List.Perm.swap ..)
theorem Zcq {a:K} {l l':List (K × V)} (p:l.Perm l'):(del a l).Perm (del a l'):=p.filter _
theorem Zf4 {a:K} {v:V} {l l':List (K × V)} (p:l.Perm l'):(put a v l).Perm (put a v l'):=(Zcq p).cons _
end
structure KT (P:Program) (k:TypeId) (K:Type) [DecidableEq K] where
 kv:K->Value
 inj:∀ {a b:K},kv a=kv b->a=b
 check:∀ (w:World) (em:Bool) (a:K),(Instr.checkKey em 10000 k (kv a)).run P w=.ok () w
 find:∀ (w:World) (a:K) (L:List (K × Value)) (es:List MapEntry),es.map (fun x=>(x.key,x.val))=L.map (fun p=>(kv p.1,p.2))->(Instr.findKey k (kv a) es).run P w=.ok (at_ a L 0) w
 stays:∀ (w:World) (a:K),(Instr.keyThatStays (kv a) (kv a)).run P w=.ok (kv a) w
section
variable {P : Program} {k : TypeId} {K : Type} [DecidableEq K] (T : KT P k K)
def Lies (es:Array MapEntry) (clock:Nat) (L:List (K × Value)):Prop :=
 es.toList.map (fun x=>(x.key,x.val))=L.map (fun p=>(T.kv p.1,p.2))∧(∀ x ∈ es.toList,x.born<clock)∧(es.toList.map (·.born)).Nodup∧(L.map (·.1)).Nodup
def HP.map (b:Nat) (L:List (K × Value)):HP:=⟨fun _ h=>∃ es clock L',h b=some (.map es clock)∧Lies T es clock L'∧L'.Perm L,fun _ q=>q⟩
theorem Zqh {V:Type} {a:K}:∀ {L:List (K × V)} {i:Nat},at_ a L i=none↔get a L=none
 | [],_=>by simp [at_,get]
 |(b,v)::L,i=>by
  unfold at_ get;by_cases e:a=b
  ·simp [e]
  ·simp only [e,Zau];exact Zqh
theorem Zk6 {V:Type} {a:K}:∀ {L:List (K × V)} {i j:Nat} {v:V},at_ a L i=some (j,v)->i<=j∧L[j - i]?=some (a,v)∧get a L=some v
 |(b,u)::L,i,j,v,h=>by
  unfold at_ at h;unfold get;by_cases e:a=b
  ·simp only [e,Zaw,Zah,Zba] at h |-;obtain ⟨rfl,rfl⟩:=h;simp
  ·simp only [e,Zau] at h |-;obtain ⟨h1,h2,h3⟩:=Zk6 h;refine ⟨by omega,?_,h3⟩;rw [show j - i=(j - (i+1))+1 by omega];simpa using h2
theorem Zfc {V:Type} {a:K} {L:List (K × V)} {v:V} (h:get a L=some v):∃ j,at_ a L 0=some (j,v)∧L[j]?=some (a,v):=by
 cases e:at_ a L 0 with
 | none=>rw [Zqh.1 e] at h;cases h
 | some q =>
  obtain ⟨j,u⟩:=q;obtain ⟨_,h2,h3⟩:=Zk6 e;rw [h] at h3;cases h3;exact ⟨j,rfl,by simpa using h2⟩
variable {W w : World} {I : Hp} {l : List HP} {b : Nat} {L : List (K × Value)}
variable {T}
theorem St.map_open (h:St W I w (HP.map T b L::l)):∃ es clock L',Lies T es clock L'∧L'.Perm L∧St W I w (HP.pt b (.map es clock)::l):=by
 obtain ⟨k,a,d,h1,h2,d',a',b',⟨es,clock,L',p,q,r⟩,s⟩:=h.own;exact ⟨es,clock,L',q,r,h.os,h.tape,h.output,h.base,h.imm,k,a,d,h1,h2,d',a',b',p,s⟩
theorem St.map_shut {es:Array MapEntry} {clock:Nat} {L':List (K × Value)} (h:St W I w (HP.pt b (.map es clock)::l)) (q:Lies T es clock L') (r:L'.Perm L):St W I w (HP.map T b L::l) :=
 h.imp fun _ ⟨h1,h2,d',a',b',p,s⟩=>⟨h1,h2,d',a',b',⟨es,clock,L',p,q,r⟩,s⟩
theorem St.map_perm {L':List (K × Value)} (h:St W I w (HP.map T b L::l)) (r:L.Perm L'):St W I w (HP.map T b L'::l):=by
 obtain ⟨es,clock,L1,q,p,s⟩:=h.map_open;exact s.map_shut q (p.trans r)
theorem St.map_nodup (h:St W I w (HP.map T b L::l)):(L.map (·.1)).Nodup:=by
 obtain ⟨es,clock,L1,q,p,s⟩:=h.map_open;exact Zdj q.2.2.2 p
theorem Zm1:Lies T #[] 0 []:=⟨rfl,by simp,by simp,by simp⟩
theorem St.map_made (h:St W I w (HP.pt b (.map #[] 0)::l)):St W I w (HP.map T b []::l):=h.map_shut Zm1 (Zad _)
theorem St.map_look (h:St W I w (HP.map T b L::l)) {t e:TypeId} (ht:P.underlying t=some (.map k e)) {z:Value} (hz:∀ w,(zeroValue e).run P w=.ok z w) (a:K) (ok:Bool) {w2:World} (hw:Below w.heap.size w w2) :
  (Instr.lookup t (.map (some b)) (T.kv a) ok).run P w2=.ok (if ok then .tuple #[(get a L).getD z,.bool (get a L).isSome] else (get a L).getD z) w2:=by
 obtain ⟨es,clock,L1,q,p,s⟩:=h.map_open;have hf:=T.find w2 a L1 es.toList q.1;have hb:=(hw.block b s.lt).trans s.heap;rw [<-ZdR q.2.2.2 p];cases hg:get a L1 with
 | none =>
  rw [Zqh.2 hg] at hf;simp [Instr.lookup,Za3 ht,MapKept.run_getObj_map hb,T.check,hf,hz,Result.andThen]
 | some v =>
  obtain ⟨j,hj,_⟩:=Zfc hg;rw [hj] at hf;simp [Instr.lookup,Za3 ht,MapKept.run_getObj_map hb,T.check,hf,Result.andThen]
theorem Ze6 {es:Array MapEntry} {clock:Nat} {L:List (K × Value)} (q:Lies T es clock L) {j:Nat} {a:K} {v:Value} (h:L[j]?=some (a,v)):∃ e,es[j]?=some e∧e.key=T.kv a∧e.val=v:=by
 have h1:=congrArg (·[j]?) q.1;simp only [ZaN,h,Zbb] at h1;cases e:es.toList[j]? with
 | none=>rw [e] at h1;cases h1
 | some x =>
  rw [e] at h1;simp only [Zbb,Zah,Zba] at h1;exact ⟨x,by simpa using e,h1.1,h1.2⟩
theorem ZgF {L:List (K × Value)} {j:Nat} {a:K} {u v:Value} (hn:(L.map (·.1)).Nodup) (h:L[j]?=some (a,u)):(L.set j (a,v)).Perm (put a v L):=by
 have h1:L.Perm ((a,u)::L.eraseIdx j):=Zc0 _ _ _ h;have h2:(L.set j (a,v)).Perm ((a,v)::L.eraseIdx j):=by
  have hlt:=(ZS.1 h).1;have:=Zc0 (L.set j (a,v)) j (a,v) (by simp [hlt]);rwa [List.eraseIdx_set_eq] at this
 refine h2.trans (List.Perm.cons _ ?_);have h3:(del a L).Perm (del a ((a,u)::L.eraseIdx j)):=Zcq h1;have hn':=Zdj hn h1;have h4:del a ((a,u)::L.eraseIdx j)=L.eraseIdx j:=by
  unfold del;simp only [ZaM,ne_eq,Zc9,decide_false,ZaS,Zau];exact Zcm (get_none.2 fun p hp e=>(Za9.1 hn').1 (ZH.2 ⟨p,hp,e⟩))
 rw [h4] at h3;exact h3.symm
theorem ZlJ {L:List (K × Value)} {j:Nat} {a:K} {u:Value} (hn:(L.map (·.1)).Nodup) (h:L[j]?=some (a,u)):(L.eraseIdx j).Perm (del a L):=by
 have h1:L.Perm ((a,u)::L.eraseIdx j):=Zc0 _ _ _ h;have h3:(del a L).Perm (del a ((a,u)::L.eraseIdx j)):=Zcq h1;have hn':=Zdj hn h1;have h4:del a ((a,u)::L.eraseIdx j)=L.eraseIdx j:=by
  unfold del;simp only [ZaM,ne_eq,Zc9,decide_false,ZaS,Zau];exact Zcm (get_none.2 fun p hp e=>(Za9.1 hn').1 (ZH.2 ⟨p,hp,e⟩))
 rw [h4] at h3;exact h3.symm
theorem St.block_set {o o':Obj} (h:St W I w (HP.pt b o::l)):St W I (setBlock w b o') (HP.pt b o'::l):=by
 have hb:=MapKept.heap_set (o':=o') h.heap;exact h.write rfl rfl rfl hb.1 fun c _ hc=>hb.2 c hc
theorem St.map_put (h:St W I w (HP.map T b L::l)) {t e:TypeId} (ht:P.underlying t=some (.map k e)) (a:K) (v:Value) :
  ∃ w',(Instr.mapUpdate t (.map (some b)) (T.kv a) v).run P w=.ok () w'∧w'.heap.size=w.heap.size∧St W I w' (HP.map T b (put a v L)::l):=by
 obtain ⟨es,clock,L1,q,p,s⟩:=h.map_open;have hf:=T.find w a L1 es.toList q.1;have hb:=s.heap;cases hg:get a L1 with
 | none =>
  rw [Zqh.2 hg] at hf;refine ⟨setBlock w b (.map (es.push ⟨T.kv a,v,clock⟩) (clock+1)),by simp [Instr.mapUpdate,Za3 ht,MapKept.run_getObj_map hb,T.check,hf,MapKept.run_setObj_map _ hb,Result.andThen,setBlock],by simp [setBlock],?_⟩;refine s.block_set.map_shut (L':=L1++[(a,v)]) ⟨by simp [q.1],fun x hx=>?_,?_,?_⟩ ?_
  ·simp only [Array.toList_push,ZY,Zaz] at hx;rcases hx with hx|rfl
   ·have:=q.2.1 x hx;omega
   ·simp
  ·simp only [Array.toList_push,Z4,Zav,Zc6];refine Zgo.2 ⟨q.2.2.1,by simp,?_⟩;intro x hx y hy;obtain ⟨z,hz,rfl⟩:=ZH.1 hx;have:=q.2.1 z hz;simp at hy;omega
  ·simp only [Z4,Zav,Zc6];refine Zgo.2 ⟨q.2.2.2,by simp,?_⟩;intro x hx y hy;obtain ⟨z,hz,rfl⟩:=ZH.1 hx;simp at hy;subst hy;exact get_none.1 hg z hz
  ·refine Zes.trans ?_;show ((a,v)::L1).Perm (put a v L);rw [show (a,v)::L1=put a v L1 by unfold put;rw [Zcm hg]];exact Zf4 p
 | some u =>
  obtain ⟨j,hj,hL⟩:=Zfc hg;rw [hj] at hf;obtain ⟨x,hx,hxk,hxv⟩:=Ze6 q hL;have hlt:=(Zby.1 hx).1;have hxe:es[j]=x:=(Zby.1 hx).2;have hmod:(es.modify j fun e=>{ e with key:=T.kv a,val:=v }).toList=es.toList.set j { x with key:=T.kv a,val:=v }:=by
   apply Zgp;intro i;simp only [Zh5,Array.getElem?_modify,Zh6];by_cases e:j=i
   ·subst e;simp [hx,hlt,hxe]
   ·simp [e]
  refine ⟨setBlock w b (.map (es.modify j fun e=>{ e with key:=T.kv a,val:=v }) clock),by simp [Instr.mapUpdate,Za3 ht,MapKept.run_getObj_map hb,T.check,hf,hx,hxk,T.stays,MapKept.run_setObj_map _ hb,Result.andThen,setBlock],by simp [setBlock],?_⟩;have hborn:(es.toList.set j { x with key:=T.kv a,val:=v }).map (·.born)=es.toList.map (·.born):=by
   rw [List.map_set];apply Zgp;intro i;simp only [Zh6,ZE,ZaN];by_cases e:j=i
   ·subst e;simp [hx,hlt,hxe]
   ·simp [e]
  refine s.block_set.map_shut (L':=L1.set j (a,v)) ⟨?_,fun y hy=>?_,?_,?_⟩ ?_
  ·rw [hmod,List.map_set,List.map_set,q.1]
  ·rw [hmod] at hy;have:y.born ∈ es.toList.map (·.born):=by rw [<-hborn];exact ZH.2 ⟨y,hy,rfl⟩
   obtain ⟨z,hz,e⟩:=ZH.1 this;rw [<-e];exact q.2.1 z hz
  ·rw [hmod,hborn];exact q.2.2.1
  ·exact Zdj (ZfO q.2.2.2) (ZgF q.2.2.2 hL).symm
  ·exact (ZgF q.2.2.2 hL).trans (Zf4 p)
theorem St.map_del (h:St W I w (HP.map T b L::l)) {t e ty:TypeId} (ht:P.underlying t=some (.map k e)) (a:K) :
  ∃ w',(Builtin.delete_ #[t,k] ty #[.map (some b),T.kv a]).run P w=.ok (.tuple #[]) w'∧w'.heap.size=w.heap.size∧St W I w' (HP.map T b (del a L)::l):=by
 obtain ⟨es,clock,L1,q,p,s⟩:=h.map_open;have hf:=T.find w a L1 es.toList q.1;have hb:=s.heap;cases hg:get a L1 with
 | none =>
  rw [Zqh.2 hg] at hf;refine ⟨setBlock w b (.map es clock),by simp [Builtin.delete_,Za3 ht,MapKept.run_getObj_map hb,T.check,hf,MapKept.run_setObj_map _ hb,Result.andThen,setBlock],by simp [setBlock],?_⟩;refine s.block_set.map_shut q (p.trans ?_);have:=Zcq (a:=a) p;rw [Zcm hg] at this;exact p.symm.trans this
 | some u =>
  obtain ⟨j,hj,hL⟩:=Zfc hg;rw [hj] at hf;obtain ⟨x,hx,hxk,hxv⟩:=Ze6 q hL;have hlt:=(Zby.1 hx).1;have hsub:(es.eraseIdxIfInBounds j).toList=es.toList.eraseIdx j:=by
   unfold Array.eraseIdxIfInBounds;rw [dif_pos hlt];simp
  have hmapE:∀ {α β:Type} (f:α->β) (l:List α) (j:Nat),(l.eraseIdx j).map f=(l.map f).eraseIdx j:=fun f l j=>(Go.ChangeMaps.map_eraseIdx f l j);refine ⟨setBlock w b (.map (es.eraseIdxIfInBounds j) clock),by simp [Builtin.delete_,Za3 ht,MapKept.run_getObj_map hb,T.check,hf,MapKept.run_setObj_map _ hb,Result.andThen,setBlock],by simp [setBlock],?_⟩;refine s.block_set.map_shut (L':=L1.eraseIdx j) ⟨?_,fun y hy=>?_,?_,?_⟩ ((ZlJ q.2.2.2 hL).trans (Zcq p))
  ·rw [hsub,hmapE,hmapE,q.1]
  ·rw [hsub] at hy;exact q.2.1 y ((ZlB _ _).subset hy)
  ·rw [hsub];exact ((ZlB _ _).map _).nodup q.2.2.1
  ·exact ((ZlB _ _).map _).nodup q.2.2.2
/-! ### a range over it -/
def HP.iter (T:KT P k K) (b r:Nat) (L left:List (K × Value)):HP :=
 ⟨fun _ h=>∃ es clock L' since seen c0,h b=some (.map es clock)∧Lies T es clock L'∧L'.Perm L∧h r=some (.mapIter (some b) since seen c0)∧r≠b∧(∀ x ∈ es.toList,x.born<since)∧since<=c0∧since<=clock ∧
  ∃ left':List (K × Value),(leftOf es seen).toList.map (fun x=>(x.key,x.val))=left'.map (fun p=>(T.kv p.1,p.2))∧left'.Perm left,fun _ q=>q⟩
theorem St.iter_shut_map {r:Nat} {left:List (K × Value)} (h:St W I w (HP.iter T b r L left::l)):St W I w (HP.map T b L::l) :=
 h.imp fun _ ⟨h1,h2,d',a',b',⟨es,clock,L',since,seen,c0,hb,q,p,_⟩,s⟩=>⟨h1,h2,d',a',b',⟨es,clock,L',hb,q,p⟩,s⟩
theorem St.range (h:St W I w (HP.map T b L::l)) {t e:TypeId} (ht:P.underlying t=some (.map k e)) :
  ∃ w',(Instr.range t (.map (some b))).run P w=.ok (pointer (some ⟨w.heap.size,0,none⟩)) w'∧w'.heap.size=w.heap.size+1∧St W I w' (HP.iter T b w.heap.size L L::l):=by
 obtain ⟨es,clock,L1,q,p,s⟩:=h.map_open;have hb:=s.heap;have hlt:=s.lt;refine ⟨_,run_range_map w t k e b es clock ht hb,by simp,?_⟩;refine (s.alloc (.mapIter (some b) clock #[] clock)).imp ?_;rintro H ⟨h1,h2,d,a,c,hr,h3,h4,d',a',c',hb',rest⟩;have hr':h1 w.heap.size=some (.mapIter (some b) clock #[] clock):=hr;have hb'':h3 b=some (.map es clock):=hb';refine ⟨h1.join h3,h4,(Hp.disj_join (d.mono (Hp.sub.refl _) c').symm d'.symm).symm,Hp.join_sub a (a'.trans c),c'.trans c,?_,rest⟩;refine ⟨es,clock,L1,clock,#[],clock,Hp.sub_join_right (d.mono (Hp.sub.refl _) a') _ _ hb'',q,p,Hp.sub_join_left _ _ _ _ hr',by omega,q.2.1,Z9 _,Z9 _,L1,?_,p⟩;have e0:leftOf es #[]=es:=by unfold leftOf;exact Array.filter_eq_self.2 fun x _=>by simp
 rw [e0];exact q.1
theorem ZiF:∀ {l:List MapEntry} {i:Nat} {e:MapEntry},(l.map (·.born)).Nodup->l[i]?=some e->l.filter (fun x=>!(x.born==e.born))=l.eraseIdx i
 | x::l,0,e,hn,h=>by
  simp at h;subst h;have hn':x.born ∉ l.map (·.born)∧(l.map (·.born)).Nodup:=Za9.1 hn;simp only [ZaM,beq_self_eq_true,Bool.not_true,ZaS,Zau,Zy];exact Zcy.2 fun y hy=>by
   simp;exact fun e1=>hn'.1 (ZH.2 ⟨y,hy,e1⟩)
 | x::l,i+1,e,hn,h=>by
  have hn':x.born ∉ l.map (·.born)∧(l.map (·.born)).Nodup:=Za9.1 hn;have h':l[i]?=some e:=by simpa using h
  have hne:(x.born==e.born)=false:=by
   cases hc:x.born==e.born with
   | false=>rfl
   | true=>exact absurd (ZH.2 ⟨e,Zay h',(beq_iff_eq.1 hc).symm⟩) hn'.1
  simp only [ZaM,hne,Bool.not_false,Zaw,Zx];rw [ZiF hn'.2 h']
theorem St.next' {r:Nat} {left:List (K × Value)} (h:St W I w (HP.iter T b r L left::l)) (ty:TypeId) :
  (left=[]∧(Instr.next (pointer (some ⟨r,0,none⟩)) false ty).run P w=.ok (.tuple #[.bool false]) w) ∨
  ∃ a v left' w',left.Perm ((a,v)::left')∧(a,v) ∈ L∧(Instr.next (pointer (some ⟨r,0,none⟩)) false ty).run P w=.ok (.tuple #[.bool true,T.kv a,v]) w'∧w'.heap.size=w.heap.size ∧
   (Instr.entry (pointer (some ⟨r,0,none⟩))).run P w'=.ok (.tuple #[T.kv a,v]) w'∧St W I w' (HP.iter T b r L left'::l)∧∃ w1 o,(w1=w∨w1=w.drew)∧w'=setBlock w1 r o:=by
 obtain ⟨H,hs,hd,h1,h2,d,a1,a2,⟨es,clock,L1,since,seen,c0,hb,q,p,hr,hne,hold,hsc,hsk,left1,hl,hp⟩,rest⟩:=h.own;have hbw:w.heap[b]?=some (.map es clock):=hs _ _ (a1 _ _ hb);have hrw:w.heap[r]?=some (.mapIter (some b) since seen c0):=hs _ _ (a1 _ _ hr);rcases run_next_at (P:=P) w ty r b since c0 seen es clock hrw hbw hold hsc with ⟨h0,hrun⟩|⟨e,he,w1,hal,hrun⟩
 ·refine Or.inl ⟨?_,hrun⟩;have hz:(leftOf es seen).toList=[]:=by simpa using h0
  rw [hz] at hl;simp at hl;subst hl;exact hp.nil_eq.symm
 ·right;obtain ⟨hem,hes⟩:=mem_left he;obtain ⟨i,hi⟩:=Zc8 he;have h3:=congrArg (·[i]?) hl;simp only [ZaN,hi,Zbb] at h3;cases hl1:left1[i]? with
  | none=>rw [hl1] at h3;cases h3
  | some av =>
   obtain ⟨a,v⟩:=av;rw [hl1] at h3;simp only [Zbb,Zah,Zba] at h3;obtain ⟨hk,hv⟩:=h3;have hr1:w1.heap[r]?=some (.mapIter (some b) since seen c0):=by rcases hal with rfl|rfl <;> exact hrw
   have hb1:w1.heap[b]?=some (.map es clock):=by rcases hal with rfl|rfl <;> exact hbw
   have hset:=MapKept.heap_set (o':=.mapIter (some b) since (seen.push e.born) clock) hr1;have hb':(setBlock w1 r (.mapIter (some b) since (seen.push e.born) clock)).heap[b]?=some (.map es clock):=(hset.2 b (fun e1=>hne e1.symm)).trans hb1;have hent:=run_entry_at (P:=P) _ r b since seen es clock e hset.1 hb' hem q.2.2.1;have hmemL:(a,v) ∈ L:=by
    obtain ⟨j,hj⟩:=Zc8 hem;have h4:=congrArg (·[j]?) q.1;simp only [ZaN,hj,Zbb] at h4;cases hL1:L1[j]? with
    | none=>rw [hL1] at h4;cases h4
    | some bu =>
     obtain ⟨b',u⟩:=bu;rw [hL1] at h4;simp only [Zbb,Zah,Zba] at h4;have e1:b'=a:=T.inj (h4.1.symm.trans hk);have e2:u=v:=h4.2.symm.trans hv;subst e1;subst e2;exact p.mem_iff.1 (Zay hL1)
   refine ⟨a,v,left1.eraseIdx i,_,hp.symm.trans (Zc0 _ _ _ hl1),hmemL,by rw [hrun,hk,hv],by rcases hal with rfl|rfl <;> simp [setBlock],by rw [hent,hk,hv],?_,w1,_,hal,rfl⟩
   -- the iterator's block is turned
   have hI:∀ g:Hp,g.sub w.hp->g r=none->g.sub (setBlock w1 r (.mapIter (some b) since (seen.push e.born) clock)).hp:=fun g s hg c x hx=>by
    have hcr:c≠r:=fun e=>by subst e;rw [hg] at hx;cases hx
    have hc:w.heap[c]?=some x:=s _ _ hx;refine (hset.2 c hcr).trans ?_;rcases hal with rfl|rfl <;> exact hc
   have hIr:I r=none:=by
    rcases hd r with e|e
    ·exact e
    ·rw [a1 _ _ hr] at e;cases e
   have h2r:h2 r=none:=by
    rcases d r with e|e
    ·rw [hr] at e;cases e
    ·exact e
   have hbr:(Hp.one b (.map es clock)) r=none:=by simp [Hp.one,hne]
   have dbr:(Hp.one b (.map es clock)).disj (Hp.one r (.mapIter (some b) since (seen.push e.born) clock)):=fun c=>by
    by_cases e1:c=b
    ·subst e1;exact .inr (by simp [Hp.one,Ne.symm hne])
    ·exact .inl (by simp [Hp.one,e1])
   have sb:(Hp.one b (.map es clock)).sub h1:=Hp.one_sub hb;have dr:∀ g:Hp,g r=none->g.disj (Hp.one r (.mapIter (some b) since (seen.push e.born) clock)):=fun g hg c=>by
    by_cases e1:c=r
    ·subst e1;exact .inl hg
    ·exact .inr (by simp [Hp.one,e1])
   have dN:((Hp.one b (.map es clock)).join (Hp.one r (.mapIter (some b) since (seen.push e.born) clock))).disj h2 :=
    (Hp.disj_join (d.mono sb (Hp.sub.refl _)).symm (dr h2 h2r)).symm
   refine ⟨?_,?_,?_,h.base,hI I h.imm hIr,((Hp.one b (.map es clock)).join (Hp.one r (.mapIter (some b) since (seen.push e.born) clock))).join h2,?_,?_,_,h2,dN,Hp.sub_join_left _ _,Hp.sub_join_right dN,?_,rest⟩
   ·rcases hal with rfl|rfl <;> exact h.os
   ·rcases hal with rfl|rfl <;> exact h.tape
   ·rcases hal with rfl|rfl <;> exact h.output
   ·exact Hp.join_sub (Hp.join_sub (Hp.one_sub hb') (Hp.one_sub hset.1)) (hI h2 (a2.trans hs) h2r)
   ·exact Hp.disj_join (Hp.disj_join (hd.mono (Hp.sub.refl _) (sb.trans a1)) (dr I hIr)) (hd.mono (Hp.sub.refl _) a2)
   ·refine ⟨es,clock,L1,since,seen.push e.born,clock,Hp.sub_join_left _ _ _ _ (Hp.one_same _ _),q,p,Hp.sub_join_right dbr _ _ (Hp.one_same _ _),hne,hold,hsk,hsk,left1.eraseIdx i,?_,Zad _⟩;have hnod:((leftOf es seen).toList.map (·.born)).Nodup:=by
     refine List.Sublist.nodup (List.Sublist.map _ ?_) q.2.2.1;unfold leftOf;rw [Array.toList_filter];exact List.filter_sublist
    have herase:(leftOf es (seen.push e.born)).toList=(leftOf es seen).toList.eraseIdx i:=by
     have e1:(leftOf es (seen.push e.born)).toList=(leftOf es seen).toList.filter (fun x=>!(x.born==e.born)):=by
      unfold leftOf;rw [Array.toList_filter,Array.toList_filter,ZdY];congr 1;funext x;rw [contains_push];cases seen.contains x.born <;> cases (x.born==e.born) <;> rfl
     rw [e1];exact ZiF hnod hi
    rw [herase,Go.ChangeMaps.map_eraseIdx,Go.ChangeMaps.map_eraseIdx,hl]
theorem St.next {r:Nat} {left:List (K × Value)} (h:St W I w (HP.iter T b r L left::l)) (ty:TypeId) :
  (left=[]∧(Instr.next (pointer (some ⟨r,0,none⟩)) false ty).run P w=.ok (.tuple #[.bool false]) w) ∨
  ∃ a v left' w',left.Perm ((a,v)::left')∧(a,v) ∈ L∧(Instr.next (pointer (some ⟨r,0,none⟩)) false ty).run P w=.ok (.tuple #[.bool true,T.kv a,v]) w'∧w'.heap.size=w.heap.size ∧
   (Instr.entry (pointer (some ⟨r,0,none⟩))).run P w'=.ok (.tuple #[T.kv a,v]) w'∧St W I w' (HP.iter T b r L left'::l):=by
 rcases h.next' ty with h|⟨a,v,left',w',h1,h2,h3,h4,h5,h6,_⟩
 ·exact .inl h
 ·exact .inr ⟨a,v,left',w',h1,h2,h3,h4,h5,h6⟩
end
end Go.Proofs.YtcbdghojlbpomaaGreat
namespace Go.Proofs.YtcbdghojlbpomaaGreat
open Go.RowKit
section
variable {P : Program} {k : TypeId} {K : Type} [DecidableEq K] {α : Type}
def fst3 (m:K × Value × α):K × Value:=(m.1,m.2.1)
def dat3 (m:K × Value × α):K × α:=(m.1,m.2.2)
def own3 (own:Value->α->HP) (m:K × Value × α):HP:=own m.2.1 m.2.2
def HP.mapOf (T:KT P k K) (own:Value->α->HP) (b:Nat) (L:List (K × α)):HP :=
 HP.ex fun M:List (K × Value × α)=>HP.all (HP.pure ((M.map dat3).Perm L)::HP.map T b (M.map fst3)::M.map (own3 own))
def HP.hole (T:KT P k K) (own:Value->α->HP) (b:Nat) (a:K) (v:Value) (L:List (K × α)):HP :=
 HP.ex fun M:List (K × Value × α)=>HP.all (HP.pure ((M.map dat3).Perm L∧∀ p ∈ L,p.1≠a)::HP.map T b ((a,v)::M.map fst3)::M.map (own3 own))
variable {T : KT P k K} {own : Value -> α -> HP} {W w w' : World} {I : Hp} {l : List HP} {b : Nat} {L L' : List (K × α)} {a : K} {x : α} {v : Value}
theorem ZfP {K α:Type} (M:List (K × Value × α)):(M.map fst3).map (·.1)=(M.map dat3).map (·.1):=by
 simp only [ZdD];congr 1
theorem St.mapOf_open (h:St W I w (HP.mapOf T own b L::l)):∃ M:List (K × Value × α),(M.map dat3).Perm L∧St W I w (HP.map T b (M.map fst3)::(M.map (own3 own)++l)):=by
 obtain ⟨M,h⟩:=h.ex_open;obtain ⟨hp,h⟩:=(St.all_open h).pure_open;exact ⟨M,hp,h⟩
theorem St.mapOf_shut {M:List (K × Value × α)} (h:St W I w (HP.map T b (M.map fst3)::(M.map (own3 own)++l))) (hp:(M.map dat3).Perm L):St W I w (HP.mapOf T own b L::l) :=
 St.ex_shut M (St.all_shut (h.pure_shut hp))
theorem St.mapOf_perm (h:St W I w (HP.mapOf T own b L::l)) (p:L.Perm L'):St W I w (HP.mapOf T own b L'::l):=by
 obtain ⟨M,hp,h⟩:=h.mapOf_open;exact h.mapOf_shut (hp.trans p)
theorem St.mapOf_made (h:St W I w (HP.pt b (.map #[] 0)::l)):St W I w (HP.mapOf T own b []::l) :=
 St.mapOf_shut (M:=[]) h.map_made (Zad _)
theorem St.mapOf_nodup (h:St W I w (HP.mapOf T own b L::l)):(L.map (·.1)).Nodup:=by
 obtain ⟨M,hp,h⟩:=h.mapOf_open;have:=h.map_nodup;rw [ZfP] at this;exact Zdj this hp
theorem Zhy (a:K):∀ M:List (K × Value × α),(get a (M.map fst3)=none∧get a (M.map dat3)=none)∨∃ v x,(a,v,x) ∈ M∧get a (M.map fst3)=some v∧get a (M.map dat3)=some x
 | []=>.inl ⟨rfl,rfl⟩
 |(c,u,y)::M=>by
  by_cases e:a=c
  ·subst e;exact .inr ⟨u,y,by simp,by simp [fst3,get],by simp [dat3,get]⟩
  ·rcases Zhy a M with ⟨h1,h2⟩|⟨v,x,h1,h2,h3⟩
   ·exact .inl ⟨by simpa [fst3,get,e] using h1,by simpa [dat3,get,e] using h2⟩
   ·exact .inr ⟨v,x,by simp [h1],by simpa [fst3,get,e] using h2,by simpa [dat3,get,e] using h3⟩
theorem St.mapOf_look (h:St W I w (HP.mapOf T own b L::l)) {t e:TypeId} (ht:P.underlying t=some (.map k e)) {z:Value} (hz:∀ w,(zeroValue e).run P w=.ok z w) (a:K) :
  (get a L=none∧∀ w2,Below w.heap.size w w2->∀ ok,(Instr.lookup t (.map (some b)) (T.kv a) ok).run P w2=.ok (if ok then .tuple #[z,.bool false] else z) w2) ∨
  ∃ v x,get a L=some x∧(∀ w2,Below w.heap.size w w2->∀ ok,(Instr.lookup t (.map (some b)) (T.kv a) ok).run P w2=.ok (if ok then .tuple #[v,.bool true] else v) w2)∧St W I w (own v x::HP.hole T own b a v (del a L)::l):=by
 obtain ⟨M,hp,h⟩:=h.mapOf_open;have hn:=h.map_nodup;have hn2:=hn;rw [ZfP] at hn2;have hlook:=fun w2 (hw:Below w.heap.size w w2) ok=>h.map_look ht hz a ok hw;rcases Zhy a M with ⟨h1,h2⟩|⟨v,x,h1,h2,h3⟩
 ·left;rw [ZdR hn2 hp] at h2;exact ⟨h2,fun w2 hw ok=>by rw [hlook w2 hw ok,h1];rfl⟩
 ·right;have hg:get a L=some x:=by rw [<-ZdR hn2 hp];exact h3
  refine ⟨v,x,hg,fun w2 hw ok=>by rw [hlook w2 hw ok,h2];rfl,?_⟩;obtain ⟨i,hi⟩:=Zc8 h1;have pM:M.Perm ((a,v,x)::M.eraseIdx i):=Zc0 _ _ _ hi;have hnM:(((a,v,x)::M.eraseIdx i).map dat3 |>.map (·.1)).Nodup:=Zdj hn2 (pM.map _);have hd:((M.eraseIdx i).map dat3).Perm (del a L):=by
   have e1:(del a (((a,v,x)::M.eraseIdx i).map dat3)).Perm (del a L):=Zcq ((pM.map _).symm.trans hp);have e2:del a (((a,v,x)::M.eraseIdx i).map dat3)=(M.eraseIdx i).map dat3:=by
    unfold del;simp only [Zav,dat3,ZaM,ne_eq,Zc9,decide_false,ZaS,Zau];exact Zcm (get_none.2 fun p hp' e=>(Za9.1 hnM).1 (ZH.2 ⟨p,hp',e⟩))
   rwa [e2] at e1
  have h':=h.map_perm (pM.map fst3);have h2':St W I w (HP.map T b (((a,v,x)::M.eraseIdx i).map fst3)::(((a,v,x)::M.eraseIdx i).map (own3 own)++l)):=h'.perm (((pM.map (own3 own)).append_right l).cons _);have h3':St W I w (own v x::HP.map T b ((a,v)::(M.eraseIdx i).map fst3)::((M.eraseIdx i).map (own3 own)++l)):=h2'.perm (List.Perm.swap _ _ _)
  have h4:St W I w ((HP.map T b ((a,v)::(M.eraseIdx i).map fst3)::(M.eraseIdx i).map (own3 own))++(own v x::l)):=h3'.perm (by
   simp only [ZZ]
   exact (List.Perm.swap _ _ _).trans (List.Perm.cons _ (Zb8.symm)))
  have h5:St W I w (HP.hole T own b a v (del a L)::own v x::l):=St.ex_shut (M.eraseIdx i) (St.all_shut (St.pure_shut (⟨hd,fun p hp'=>by simpa using (Z1.1 hp').2⟩:_∧_) h4));exact h5.perm (List.Perm.swap _ _ _)
theorem St.hole_open (h:St W I w (HP.hole T own b a v L::l)):∃ M:List (K × Value × α),(M.map dat3).Perm L∧(∀ p ∈ L,p.1≠a)∧St W I w (HP.map T b ((a,v)::M.map fst3)::(M.map (own3 own)++l)):=by
 obtain ⟨M,h⟩:=h.ex_open;obtain ⟨hp,h⟩:=(St.all_open h).pure_open;exact ⟨M,hp.1,hp.2,h⟩
theorem St.hole_back (h:St W I w (own v x::HP.hole T own b a v L::l)):St W I w (HP.mapOf T own b ((a,x)::L)::l):=by
 obtain ⟨M,hp,_,h⟩:=(h.perm (List.Perm.swap _ _ _)).hole_open;refine St.mapOf_shut (M:=(a,v,x)::M) (h.perm ?_) (hp.cons _);refine List.Perm.cons _ ?_;simp only [Zav,ZZ];exact Zb8
theorem St.mapOf_put (h:St W I w (own v x::HP.mapOf T own b L::l)) {t e:TypeId} (ht:P.underlying t=some (.map k e)) (a:K) :
  ∃ w',(Instr.mapUpdate t (.map (some b)) (T.kv a) v).run P w=.ok () w'∧w'.heap.size=w.heap.size∧St W I w' (HP.mapOf T own b (put a x L)::l):=by
 obtain ⟨M,hp,h⟩:=(h.perm (List.Perm.swap _ _ _)).mapOf_open;have hn:=h.map_nodup;obtain ⟨w',hrun,hsz,h⟩:=h.map_put ht a v;refine ⟨w',hrun,hsz,?_⟩;have hM:put a v (M.map fst3)=((a,v,x)::M.filter fun m=>decide (m.1≠a)).map fst3:=by
  simp only [put,del,Zav,ZcP];rfl
 rw [hM] at h;have hD:(((a,v,x)::M.filter fun m=>decide (m.1≠a)).map dat3).Perm (put a x L):=by
  have:put a x (M.map dat3)=((a,v,x)::M.filter fun m=>decide (m.1≠a)).map dat3:=by
   simp only [put,del,Zav,ZcP];rfl
  rw [<-this];exact Zf4 hp
 refine St.mapOf_shut (M:=(a,v,x)::M.filter fun m=>decide (m.1≠a)) ?_ hD
 -- what the old value owned is let go
 have hsplit:(M.map (own3 own)).Perm ((M.filter fun m=>!decide (m.1≠a)).map (own3 own)++(M.filter fun m=>decide (m.1≠a)).map (own3 own)):=by
  rw [<-Z4];exact ((Zes.trans (Zh7 _ M)).symm).map _
 have h2:=h.perm (List.Perm.cons _ (hsplit.append_right (own v x::l)))
 have h3:St W I w' ((M.filter fun m=>!decide (m.1≠a)).map (own3 own)++(HP.map T b (((a,v,x)::M.filter fun m=>decide (m.1≠a)).map fst3)::((M.filter fun m=>decide (m.1≠a)).map (own3 own)++(own v x::l)))):=h2.perm (by
  rw [Zam]
  exact Zb8.symm)
 exact h3.drops.perm (List.Perm.cons _ (by simp only [Zav,ZZ];exact Zb8))
theorem St.hole_put {u:Value} (h:St W I w (own v x::HP.hole T own b a u L::l)) {t e:TypeId} (ht:P.underlying t=some (.map k e)) :
  ∃ w',(Instr.mapUpdate t (.map (some b)) (T.kv a) v).run P w=.ok () w'∧w'.heap.size=w.heap.size∧St W I w' (HP.mapOf T own b ((a,x)::L)::l):=by
 obtain ⟨M,hp,hne,h⟩:=(h.perm (List.Perm.swap _ _ _)).hole_open;have hn:=h.map_nodup;obtain ⟨w',hrun,hsz,h⟩:=h.map_put ht a v;refine ⟨w',hrun,hsz,?_⟩;have hdel:del a ((a,u)::M.map fst3)=M.map fst3:=by
  unfold del;simp only [ZaM,ne_eq,Zc9,decide_false,ZaS,Zau];exact Zcm (get_none.2 fun p hp' e=>(Za9.1 hn).1 (ZH.2 ⟨p,hp',e⟩))
 unfold put at h;rw [hdel] at h;refine St.mapOf_shut (M:=(a,v,x)::M) (h.perm ?_) (hp.cons _);refine List.Perm.cons _ ?_;simp only [Zav,ZZ];exact Zb8
theorem St.mapOf_del (h:St W I w (HP.mapOf T own b L::l)) {t e ty:TypeId} (ht:P.underlying t=some (.map k e)) (a:K) :
  ∃ w',(Builtin.delete_ #[t,k] ty #[.map (some b),T.kv a]).run P w=.ok (.tuple #[]) w'∧w'.heap.size=w.heap.size∧St W I w' (HP.mapOf T own b (del a L)::l):=by
 obtain ⟨M,hp,h⟩:=h.mapOf_open;obtain ⟨w',hrun,hsz,h⟩:=h.map_del (ty:=ty) ht a;refine ⟨w',hrun,hsz,?_⟩;have hM:del a (M.map fst3)=(M.filter fun m=>decide (m.1≠a)).map fst3:=by
  simp only [del,ZcP];rfl
 rw [hM] at h;have hD:((M.filter fun m=>decide (m.1≠a)).map dat3).Perm (del a L):=by
  have:del a (M.map dat3)=(M.filter fun m=>decide (m.1≠a)).map dat3:=by
   simp only [del,ZcP];rfl
  rw [<-this];exact Zcq hp
 refine St.mapOf_shut (M:=M.filter fun m=>decide (m.1≠a)) ?_ hD;have hsplit:(M.map (own3 own)).Perm ((M.filter fun m=>!decide (m.1≠a)).map (own3 own)++(M.filter fun m=>decide (m.1≠a)).map (own3 own)):=by
  rw [<-Z4];exact ((Zes.trans (Zh7 _ M)).symm).map _
 have h2:=h.perm (List.Perm.cons _ (hsplit.append_right l))
 have h3:St W I w' ((M.filter fun m=>!decide (m.1≠a)).map (own3 own)++(HP.map T b ((M.filter fun m=>decide (m.1≠a)).map fst3)::((M.filter fun m=>decide (m.1≠a)).map (own3 own)++l))):=h2.perm (by
  rw [Zam]
  exact Zb8.symm)
 exact h3.drops
theorem St.hole_del (h:St W I w (HP.hole T own b a v L::l)) {t e ty:TypeId} (ht:P.underlying t=some (.map k e)) :
  ∃ w',(Builtin.delete_ #[t,k] ty #[.map (some b),T.kv a]).run P w=.ok (.tuple #[]) w'∧w'.heap.size=w.heap.size∧St W I w' (HP.mapOf T own b L::l):=by
 obtain ⟨M,hp,hne,h⟩:=h.hole_open;have hn:=h.map_nodup;obtain ⟨w',hrun,hsz,h⟩:=h.map_del (ty:=ty) ht a;refine ⟨w',hrun,hsz,?_⟩;have hdel:del a ((a,v)::M.map fst3)=M.map fst3:=by
  unfold del;simp only [ZaM,ne_eq,Zc9,decide_false,ZaS,Zau];exact Zcm (get_none.2 fun p hp' e=>(Za9.1 hn).1 (ZH.2 ⟨p,hp',e⟩))
 rw [hdel] at h;exact h.mapOf_shut hp
theorem St.iter_perm {r:Nat} {L left left':List (K × Value)} (h:St W I w (HP.iter T b r L left::l)) (p:left.Perm left'):St W I w (HP.iter T b r L left'::l) :=
 h.imp fun _ ⟨h1,h2,d',a',b',⟨es,clock,L',since,seen,c0,q1,q2,q3,q4,q5,q6,q7,q8,l1,q9,q10⟩,s⟩=>⟨h1,h2,d',a',b',⟨es,clock,L',since,seen,c0,q1,q2,q3,q4,q5,q6,q7,q8,l1,q9,q10.trans p⟩,s⟩
theorem St.iter_left {r:Nat} {L left:List (K × Value)} (h:St W I w (HP.iter T b r L left::l)):w.rangeLeft b r=left.length:=by
 obtain ⟨k,a,_,h1,h2,_,a',_,⟨es,clock,L',since,seen,c0,q1,q2,q3,q4,q5,q6,q7,q8,l1,q9,q10⟩,_⟩:=h.own;have e1:w.heap[b]?=some (.map es clock):=a _ _ (a' _ _ q1);have e2:w.heap[r]?=some (.mapIter (some b) since seen c0):=a _ _ (a' _ _ q4);simp only [World.rangeLeft,e1,e2];have h3:=congrArg List.length q9;simp only [ZE,ZdC] at h3;rw [h3,q10.length_eq]
theorem St.nextM {r:Nat} {M lm:List (K × Value × α)} (h:St W I w (HP.iter T b r (M.map fst3) (lm.map fst3)::l)) (ty:TypeId) :
  (lm=[]∧(Instr.next (pointer (some ⟨r,0,none⟩)) false ty).run P w=.ok (.tuple #[.bool false]) w) ∨
  ∃ a v x lm' w',lm.Perm ((a,v,x)::lm')∧(Instr.next (pointer (some ⟨r,0,none⟩)) false ty).run P w=.ok (.tuple #[.bool true,T.kv a,v]) w'∧w'.heap.size=w.heap.size ∧
   (Instr.entry (pointer (some ⟨r,0,none⟩))).run P w'=.ok (.tuple #[T.kv a,v]) w'∧St W I w' (HP.iter T b r (M.map fst3) (lm'.map fst3)::l):=by
 rcases h.next ty with ⟨h0,hr⟩|⟨a,v,left',w',hp,_,hr,hs,he,h'⟩
 ·exact .inl ⟨by simpa using h0,hr⟩
 ·right;have hm:(a,v) ∈ lm.map fst3:=hp.mem_iff.2 (by simp);obtain ⟨m,hm1,hm2⟩:=ZH.1 hm;obtain ⟨a',v',x⟩:=m;simp only [fst3,Zba] at hm2;obtain ⟨rfl,rfl⟩:=hm2;obtain ⟨i,hi⟩:=Zc8 hm1;have pM:lm.Perm ((a',v',x)::lm.eraseIdx i):=Zc0 _ _ _ hi;have h2:left'.Perm ((lm.eraseIdx i).map fst3):=((hp.symm.trans (pM.map fst3))).cons_inv;exact ⟨a',v',x,lm.eraseIdx i,w',pM,hr,hs,he,h'.iter_perm h2⟩
end
end Go.Proofs.YtcbdghojlbpomaaGreat
namespace Go.Proofs.YtcbdghojlbpomaaGreat
open Go.RowKit Go.MapKept Go.ChangeMaps
section
variable {P : Program} {k : TypeId} {K α : Type} [DecidableEq K] (T : KT P k K)
def HP.ent (b:Nat) (a:K) (st:Nat) (L:List (K × Value)):HP :=
 ⟨fun _ h=>∃ es clock L',h b=some (.map es clock)∧Lies T es clock L'∧L'.Perm L∧∃ j v e,at_ a L' 0=some (j,v)∧L'[j]?=some (a,v)∧es[j]?=some e∧e.born=st,fun _ q=>q⟩
def HP.held (own:Value->α->HP) (b:Nat) (a:K) (v:Value) (st:Nat) (L:List (K × α)):HP :=
 HP.ex fun M:List (K × Value × α)=>HP.all (HP.pure ((M.map dat3).Perm L∧∀ p ∈ L,p.1≠a)::HP.ent T b a st ((a,v)::M.map fst3)::M.map (own3 own))
variable {T} {own : Value -> α -> HP} {W w w' : World} {I : Hp} {l : List HP} {b : Nat} {a : K} {x : α} {v : Value} {st : Nat}
theorem St.ent_open {L:List (K × Value)} (h:St W I w (HP.ent T b a st L::l)):∃ es clock L',Lies T es clock L'∧L'.Perm L∧St W I w (HP.pt b (.map es clock)::l)∧∃ j v e,at_ a L' 0=some (j,v)∧L'[j]?=some (a,v)∧es[j]?=some e∧e.born=st:=by
 obtain ⟨k,a,d,h1,h2,d',a',b',⟨es,clock,L',p,q,r,t⟩,s⟩:=h.own;exact ⟨es,clock,L',q,r,⟨h.os,h.tape,h.output,h.base,h.imm,k,a,d,h1,h2,d',a',b',p,s⟩,t⟩
theorem St.ent_shut {L L':List (K × Value)} {es:Array MapEntry} {clock j:Nat} {e:MapEntry} (h:St W I w (HP.pt b (.map es clock)::l)) (q:Lies T es clock L') (r:L'.Perm L) (h1:at_ a L' 0=some (j,v)) (h2:L'[j]?=some (a,v)) (h3:es[j]?=some e) (h4:e.born=st):St W I w (HP.ent T b a st L::l) :=
 h.imp fun _ ⟨h1',h2',d',a',b',p,s⟩=>⟨h1',h2',d',a',b',⟨es,clock,L',p,q,r,j,v,e,h1,h2,h3,h4⟩,s⟩
theorem St.ent_map {L:List (K × Value)} (h:St W I w (HP.ent T b a st L::l)):St W I w (HP.map T b L::l):=by
 obtain ⟨es,clock,L',q,r,s,_⟩:=h.ent_open;exact s.map_shut q r
theorem Zpu {L:List (K × Value)} {es:Array MapEntry} {clock j:Nat} {e:MapEntry} (q:Lies T es clock L) (he:es[j]?=some e) (hk:e.key=T.kv a):get a L≠none:=by
 intro hg;have h1:=congrArg (·[j]?) q.1;have he':es.toList[j]?=some e:=by simpa using he
 simp only [ZaN,he',Zbb] at h1;cases hl:L[j]? with
 | none=>rw [hl] at h1;cases h1
 | some x =>
  rw [hl] at h1;simp only [Zbb,Zah,Zba] at h1;exact get_none.1 hg x (Zay hl) (T.inj (h1.1.symm.trans hk))
theorem St.map_entry {L:List (K × Value)} (h:St W I w (HP.map T b L::l)) {t e:TypeId} (ht:P.underlying t=some (.map k e)) {z:Value} (hz:∀ w,(zeroValue e).run P w=.ok z w) (a:K) :
  ∃ st w',(Instr.mapEntry t (.map (some b)) (T.kv a)).run P w=.ok (.tuple #[(get a L).getD z,goInt (st:Nat)]) w'∧w'.heap.size=w.heap.size∧St W I w' (HP.ent T b a st (put a ((get a L).getD z) L)::l):=by
 obtain ⟨es,clock,L1,q,p,s⟩:=h.map_open;have hf:=T.find w a L1 es.toList q.1;have hb:=s.heap;have hgp:=ZdR q.2.2.2 p (a:=a);cases hg:get a L1 with
 | none =>
  rw [hg] at hgp;rw [<-hgp];rw [Zqh.2 hg] at hf;obtain ⟨w',hr,hsz,h2⟩:=h.map_put ht a z;have hr2:(Instr.mapUpdate t (.map (some b)) (T.kv a) z).run P w=.ok () (setBlock w b (.map (es.push ⟨T.kv a,z,clock⟩) (clock+1))):=by
   simp [Instr.mapUpdate,Za3 ht,MapKept.run_getObj_map hb,T.check,hf,MapKept.run_setObj_map _ hb,Result.andThen,setBlock]
  rw [hr2] at hr;obtain rfl:setBlock w b (.map (es.push ⟨T.kv a,z,clock⟩) (clock+1))=w':=by injection hr
  refine ⟨clock,_,by simp [Instr.mapEntry,Za3 ht,MapKept.run_getObj_map hb,T.check,hf,hz,MapKept.run_setObj_map _ hb,Result.andThen,setBlock],hsz,?_⟩;obtain ⟨es2,clock2,L2,q2,p2,s2⟩:=h2.map_open;have e1:=s2.heap;have e0:(setBlock w b (.map (es.push ⟨T.kv a,z,clock⟩) (clock+1))).heap[b]?=_:=(MapKept.heap_set (o':=.map (es.push ⟨T.kv a,z,clock⟩) (clock+1)) hb).1;rw [e0] at e1;simp only [Zah,Obj.map.injEq] at e1;obtain ⟨rfl,rfl⟩:=e1;have hg2:get a L2=some z:=by
   rw [ZdR q2.2.2.2 p2];simp [put,get]
  obtain ⟨j,h5,h6⟩:=Zfc hg2;obtain ⟨x,hx,hxk,hxv⟩:=Ze6 q2 h6;refine s2.ent_shut q2 p2 h5 h6 hx ?_;rw [Array.getElem?_push] at hx;split at hx
  ·simp only [Zah] at hx;rw [<-hx]
  ·exact absurd hg (Zpu q hx hxk)
 | some u =>
  rw [hg] at hgp;rw [<-hgp];obtain ⟨j,hj,hL⟩:=Zfc hg;rw [hj] at hf;obtain ⟨x,hx,hxk,hxv⟩:=Ze6 q hL;have hlt:=(Zby.1 hx).1;have hsame:es.modify j (fun e=>{ e with key:=T.kv a })=es:=by
   apply Array.ext';rw [Array.toList_modify,modify_eq_set _ _ _ _ (show es.toList[j]?=some x by simpa using hx)];have:({ x with key:=T.kv a }:MapEntry)=x:=by rw [<-hxk]
   rw [this];exact WideElems.set_self _ _ _ (by simpa using hx)
  refine ⟨x.born,setBlock w b (.map es clock),by simp [Instr.mapEntry,Za3 ht,MapKept.run_getObj_map hb,T.check,hf,hx,hxk,T.stays,hsame,MapKept.run_setObj_map _ hb,Result.andThen,setBlock],by simp [setBlock],?_⟩;refine s.block_set.ent_shut q ?_ hj hL hx rfl;have h7:=ZgF (v:=u) q.2.2.2 hL;rw [WideElems.set_self _ _ _ hL] at h7;exact h7.trans (Zf4 p)
theorem St.ent_run {L:List (K × Value)} (h:St W I w (HP.ent T b a st L::l)) {t e:TypeId} (ht:P.underlying t=some (.map k e)) (v:Value) :
  (Instr.entryStore t (.map (some b)) (goInt (st:Nat)) v).run P w=(Instr.mapUpdate t (.map (some b)) (T.kv a) v).run P w:=by
 obtain ⟨es,clock,L1,q,p,s,j,u,x,hj,hL,hx,hbn⟩:=h.ent_open;have hf:=T.find w a L1 es.toList q.1;have hb:=s.heap;rw [hj] at hf;obtain ⟨x',hx',hxk,hxv⟩:=Ze6 q hL;rw [hx] at hx';cases hx';subst hbn;have hidx:es.findIdx? (fun e=>((e.born:Nat):Int)==((x.born:Nat):Int))=some j:=by
  rw [WideElems.findIdx_arr];exact WideElems.findIdx_born q.2.2.1 (by simpa using hx)
 have hmod:es.modify j (fun e=>{ e with val:=v })=es.modify j (fun e'=>{ e' with key:=T.kv a,val:=v }):=by
  apply Array.ext';rw [Array.toList_modify,Array.toList_modify,modify_eq_set _ _ _ _ (show es.toList[j]?=some x by simpa using hx),modify_eq_set _ _ _ _ (show es.toList[j]?=some x by simpa using hx),<-hxk]
 have e1:(Instr.entryStore t (.map (some b)) (goInt (x.born:Nat)) v).run P w=.ok () (setBlock w b (.map (es.modify j (fun e'=>{ e' with key:=T.kv a,val:=v })) clock)):=by
  simp [Instr.entryStore,MapKept.run_getObj_map hb,asInt,asIntOf,goInt,hidx,hmod,MapKept.run_setObj_map _ hb,Result.andThen,setBlock]
 have e2:(Instr.mapUpdate t (.map (some b)) (T.kv a) v).run P w=.ok () (setBlock w b (.map (es.modify j (fun e'=>{ e' with key:=T.kv a,val:=v })) clock)):=by
  simp [Instr.mapUpdate,Za3 ht,MapKept.run_getObj_map hb,T.check,hf,hx,hxk,T.stays,MapKept.run_setObj_map _ hb,Result.andThen,setBlock]
 rw [e1,e2]
theorem St.held_hole {L:List (K × α)} (h:St W I w (HP.held T own b a v st L::l)):St W I w (HP.hole T own b a v L::l):=by
 obtain ⟨M,h⟩:=h.ex_open;obtain ⟨hp,h⟩:=(St.all_open h).pure_open;exact St.ex_shut M (St.all_shut (St.pure_shut hp h.ent_map))
theorem St.held_run {L:List (K × α)} (h:St W I w (HP.held T own b a v st L::l)) {t e:TypeId} (ht:P.underlying t=some (.map k e)) (u:Value) :
  (Instr.entryStore t (.map (some b)) (goInt (st:Nat)) u).run P w=(Instr.mapUpdate t (.map (some b)) (T.kv a) u).run P w:=by
 obtain ⟨M,h⟩:=h.ex_open;obtain ⟨hp,h⟩:=(St.all_open h).pure_open;exact h.ent_run ht u
theorem St.held_put {L:List (K × α)} {u:Value} (h:St W I w (own v x::HP.held T own b a u st L::l)) {t e:TypeId} (ht:P.underlying t=some (.map k e)) :
  ∃ w',(Instr.entryStore t (.map (some b)) (goInt (st:Nat)) v).run P w=.ok () w'∧w'.heap.size=w.heap.size∧St W I w' (HP.mapOf T own b ((a,x)::L)::l):=by
 have h1:=(h.perm (List.Perm.swap _ _ _)).held_hole.perm (List.Perm.swap _ _ _);obtain ⟨w',hr,hs,h2⟩:=h1.hole_put ht;exact ⟨w',((h.perm (List.Perm.swap _ _ _)).held_run ht v).trans hr,hs,h2⟩
theorem St.mapOf_entry {L:List (K × α)} (h:St W I w (HP.mapOf T own b L::l)) {t e:TypeId} (ht:P.underlying t=some (.map k e)) {z:Value} (hz:∀ w,(zeroValue e).run P w=.ok z w) (a:K) :
  ∃ st v w',(Instr.mapEntry t (.map (some b)) (T.kv a)).run P w=.ok (.tuple #[v,goInt (st:Nat)]) w'∧w'.heap.size=w.heap.size ∧
   ((get a L=none∧v=z∧St W I w' (HP.held T own b a v st (del a L)::l))∨∃ x,get a L=some x∧St W I w' (own v x::HP.held T own b a v st (del a L)::l)):=by
 obtain ⟨M,hp,h⟩:=h.mapOf_open;have hn:=h.map_nodup;have hn2:=hn;rw [ZfP] at hn2;obtain ⟨st,w',hrun,hsz,h⟩:=h.map_entry ht hz a;refine ⟨st,_,w',hrun,hsz,?_⟩;have hdne:∀ p ∈ del a L,p.1≠a:=fun p hp'=>by simpa [del] using (Z1.1 hp').2
 have hM:∀ v:Value,put a v (M.map fst3)=(a,v)::(M.filter fun m=>decide (m.1≠a)).map fst3:=fun v=>by
  simp only [put,del,ZcP];rfl
 have hD:((M.filter fun m=>decide (m.1≠a)).map dat3).Perm (del a L):=by
  have:del a (M.map dat3)=(M.filter fun m=>decide (m.1≠a)).map dat3:=by
   simp only [del,ZcP];rfl
  rw [<-this];exact Zcq hp
 rw [hM] at h;rcases Zhy a M with ⟨h1,h2⟩|⟨v,x,h1,h2,h3⟩
 ·left;rw [ZdR hn2 hp] at h2;rw [h1] at h |-;refine ⟨h2,rfl,?_⟩;have hall:(M.filter fun m=>decide (m.1≠a))=M:=Zcy.2 fun m hm=>by
   have:get a (M.map fst3)=none:=h1;have h9:m.1≠a:=get_none.1 this (fst3 m) (ZH.2 ⟨m,hm,rfl⟩);simpa using h9
  refine St.ex_shut (M.filter fun m=>decide (m.1≠a)) (St.all_shut (St.pure_shut ⟨hD,hdne⟩ ?_));rw [hall] at h |-;exact h
 ·right;have hg:get a L=some x:=by rw [<-ZdR hn2 hp];exact h3
  rw [h2] at h |-;refine ⟨x,hg,?_⟩;obtain ⟨i,hi⟩:=Zc8 h1;have pM:M.Perm ((a,v,x)::M.eraseIdx i):=Zc0 _ _ _ hi;have hnM:(((a,v,x)::M.eraseIdx i).map dat3 |>.map (·.1)).Nodup:=Zdj hn2 (pM.map _);have hE:((M.eraseIdx i).filter fun m=>decide (m.1≠a))=M.eraseIdx i:=Zcy.2 fun m hm=>by
   have hne:m.1≠a:=fun e=>(Za9.1 hnM).1 (ZH.2 ⟨dat3 m,ZH.2 ⟨m,hm,rfl⟩,e⟩);simpa using hne
  have pF:M.Perm ((a,v,x)::M.filter fun m=>decide (m.1≠a)):=by
   have h7:=pM.filter fun m=>decide (m.1≠a);rw [ZdZ (by simp),hE] at h7;exact pM.trans (h7.symm.cons _)
  have h8:St W I w' (HP.ent T b a st ((a,v)::(M.filter fun m=>decide (m.1≠a)).map fst3)::(((a,v,x)::M.filter fun m=>decide (m.1≠a)).map (own3 own)++l)):=h.perm (((pF.map (own3 own)).append_right l).cons _)
  have h9:St W I w' ((HP.ent T b a st ((a,v)::(M.filter fun m=>decide (m.1≠a)).map fst3)::(M.filter fun m=>decide (m.1≠a)).map (own3 own))++(own v x::l)):=h8.perm (by
   simp only [Zav,ZZ]
   exact List.Perm.cons _ (Zb8.symm))
  have h10:St W I w' (HP.held T own b a v st (del a L)::own v x::l):=St.ex_shut (M.filter fun m=>decide (m.1≠a)) (St.all_shut (St.pure_shut (⟨hD,hdne⟩:_∧_) h9));exact h10.perm (List.Perm.swap _ _ _)
end
end Go.Proofs.YtcbdghojlbpomaaGreat
namespace Go.Proofs.YtcbdghojlbpomaaGreat
open Go.RowKit
structure K4 where
 kind:Int
 img:Int
 num:Int
 snap:Int
 deriving DecidableEq
structure G2 where
 kind:Int
 img:Int
 deriving DecidableEq
def K4.val (k:K4):Value:=.agg #[int i64 k.kind,int i64 k.img,int i64 k.num,int i64 k.snap]
def K4.vals (k:K4):List Value:=[int i64 k.kind,int i64 k.img,int i64 k.num,int i64 k.snap]
def G2.val (g:G2):Value:=.agg #[int i64 g.kind,int i64 g.img]
def K4.ok (k:K4):Bool:=decide (1<=k.kind∧k.kind<=255∧0<=k.img∧k.img<=255∧0<=k.num∧k.num<=1073741824∧0<=k.snap∧k.snap<=1073741824)
def K4.grp (k:K4):G2:=⟨k.kind,k.img⟩
def K4.lt (a b:K4):Bool:=decide (a.kind<b.kind∨(a.kind=b.kind∧(a.img<b.img∨(a.img=b.img∧(a.num<b.num∨(a.num=b.num∧a.snap<b.snap))))))
structure TS where
 b:List Int
 attr:List (ByteArray × List Int)
structure Dd where
 kind:Int
 n:Int
 p:List Int
 name:ByteArray
structure Str where
 room:Int
 used:Int
 deeds:Int
 wet:Int
 on:Bool
 seen:List (K4 × TS)
 dry:List (K4 × TS)
 late:List (K4 × List Dd)
 keys:List (G2 × List K4)
 armed:Bool
 fuse:Int
 torn:Int
 keep:List Int
def byteV (x:Int):Value:=int .u8 x
def intV (x:Int):Value:=int i64 x
def layB (b:List Int) (off:Nat) (p:List Int):List Int :=
 if p=[] then b else (b++List.replicate (off+p.length - b.length) 0).take off++p++b.drop (off+p.length)
def Zbn (l:List (ByteArray × List Int)):Int:=(l.map fun x=>(x.1.size:Int)+x.2.length).sum
def TS.size (t:TS):Int:=t.b.length+Zbn t.attr
def sizeO:Option TS->Int
 | none=>0
 | some t=>t.size
def Zb7 (l:List (ByteArray × List Int)) (name:ByteArray) (p:List Int):List (ByteArray × List Int) :=
 if p=[] then del name l else put name p l
def stepD (t:Option TS) (d:Dd):Option TS :=
 if d.kind=0 then some ⟨[],[]⟩
 else if d.kind=3 then none
 else match t with
  | none=>none
  | some t=>if d.kind=1 then some { t with b:=layB t.b d.n.toNat d.p }
   else if d.kind=2 then some { t with b:=t.b.take (min d.n.toNat t.b.length) }
   else if d.kind=4 then some { t with attr:=Zb7 t.attr d.name d.p }
   else some t
def Dd.ok (d:Dd):Prop:=0<=d.n∧d.n<=16384∧d.n+d.p.length<=16384+4096
end Go.Proofs.YtcbdghojlbpomaaGreat
namespace Go.Proofs.YtcbdghojlbpomaaGreat
open Go.RowKit
section keys
theorem ZjF:Tryz.prog.underlying 150=some (.struct (Tryz.prog.fieldsOf 150)):=by kernel_rfl
theorem ZjG:Tryz.prog.underlying 247=some (.struct (Tryz.prog.fieldsOf 247)):=by kernel_rfl
theorem Zn7:Tryz.prog.stoodInHeld 150=false:=by kernel_rfl
theorem Zn8:Tryz.prog.stoodInHeld 247=false:=by kernel_rfl
theorem Zm2:(Tryz.prog.fieldsOf 150).toList.map (fun f=>(f.name == "_",f.type,f.offset))=[(false,3,0),(false,3,1),(false,3,2),(false,3,3)]:=by kernel_rfl
theorem Zm3:(Tryz.prog.fieldsOf 247).toList.map (fun f=>(f.name == "_",f.type,f.offset))=[(false,3,0),(false,3,1)]:=by kernel_rfl
set_option maxRecDepth 100000 in
theorem Zn9 (a0 a1 a2 a3 b0 b1 b2 b3:Int) (w:World):(Op.equalIn 10000 150 (.agg #[int i64 a0,int i64 a1,int i64 a2,int i64 a3]) (.agg #[int i64 b0,int i64 b1,int i64 b2,int i64 b3])).run Tryz.prog w=.ok (a0==b0&&a1==b1&&a2==b2&&a3==b3) w:=by
 rw [run_equalIn_struct w 9999 _ _ _ ZjF Zn7];obtain ⟨fs,hfs⟩:∃ fs,(Tryz.prog.fieldsOf 150).toList=fs:=⟨_,rfl⟩;have h:=Zm2;rw [hfs] at h |-
 match fs,h with
 | [f0,f1,f2,f3],h =>
  simp only [Zav,Zc6,Zd0,Zba,Zfk,Zae] at h;obtain ⟨⟨n0,t0,o0⟩,⟨n1,t1,o1⟩,⟨n2,t2,o2⟩,⟨n3,t3,o3⟩⟩:=h;simp only [Op.eqFields,n0,n1,n2,n3,t0,t1,t2,t3,o0,o1,o2,o3,ne_eq,Zh9,Zaw];simp [go_sem];by_cases e0:a0=b0 <;> by_cases e1:a1=b1 <;> by_cases e2:a2=b2 <;> by_cases e3:a3=b3 <;> simp [e0,e1,e2,e3]
set_option maxRecDepth 100000 in
theorem Zoa (a0 a1 b0 b1:Int) (w:World):(Op.equalIn 10000 247 (.agg #[int i64 a0,int i64 a1]) (.agg #[int i64 b0,int i64 b1])).run Tryz.prog w=.ok (a0==b0&&a1==b1) w:=by
 rw [run_equalIn_struct w 9999 _ _ _ ZjG Zn8];obtain ⟨fs,hfs⟩:∃ fs,(Tryz.prog.fieldsOf 247).toList=fs:=⟨_,rfl⟩;have h:=Zm3;rw [hfs] at h |-
 match fs,h with
 | [f0,f1],h =>
  simp only [Zav,Zc6,Zd0,Zba,Zfk,Zae] at h;obtain ⟨⟨n0,t0,o0⟩,⟨n1,t1,o1⟩⟩:=h;simp only [Op.eqFields,n0,n1,t0,t1,o0,o1,ne_eq,Zh9,Zaw];simp [go_sem];by_cases e0:a0=b0 <;> by_cases e1:a1=b1 <;> simp [e0,e1]
theorem Zpv (x y:K4) (w:World):(Op.equalIn 10000 150 x.val y.val).run Tryz.prog w=.ok (decide (x=y)) w:=by
 obtain ⟨a0,a1,a2,a3⟩:=x;obtain ⟨b0,b1,b2,b3⟩:=y;have e:decide (K4.mk a0 a1 a2 a3=K4.mk b0 b1 b2 b3)=(a0==b0&&a1==b1&&a2==b2&&a3==b3):=by
  rw [Zai];simp [and_assoc]
 rw [e];exact Zn9 _ _ _ _ _ _ _ _ w
theorem Zpw (x y:G2) (w:World):(Op.equalIn 10000 247 x.val y.val).run Tryz.prog w=.ok (decide (x=y)) w:=by
 obtain ⟨a0,a1⟩:=x;obtain ⟨b0,b1⟩:=y;have e:decide (G2.mk a0 a1=G2.mk b0 b1)=(a0==b0&&a1==b1):=by
  rw [Zai];simp
 rw [e];exact Zoa _ _ _ _ w
theorem ZiG {K:Type} [DecidableEq K] {P:Program} {k:TypeId} {fs:Array Field} (hu:P.underlying k=some (.struct fs)) (kv:K->Value) (heq:∀ (w:World) (a b:K),(Op.equal k (kv a) (kv b)).run P w=.ok (decide (a=b)) w)
  (w:World) (a:K) (L:List (K × Value)) (es:List MapEntry) (h:es.map (fun x=>(x.key,x.val))=L.map (fun p=>(kv p.1,p.2))):(Instr.findKey k (kv a) es).run P w=.ok (at_ a L 0) w:=by
 have ask:∀ (L:List (K × Value)) (es:List MapEntry) (i:Nat),es.map (fun x=>(x.key,x.val))=L.map (fun p=>(kv p.1,p.2))->(Instr.findAsking k (kv a) es i).run P w=.ok (at_ a L i) w:=by
  intro L;induction L with
  | nil =>
   intro es i h;have:es=[]:=by simpa using h
   subst this;simp [Instr.findAsking,at_]
  | cons p L ih =>
   intro es i h
   match es,h with
   | e::es,h =>
    simp only [Zav,Zd0,Zba] at h;obtain ⟨⟨h1,h2⟩,h3⟩:=h;obtain ⟨c,v⟩:=p;simp only at h1 h2;simp only [Instr.findAsking,h1,Sem.run_bind,heq,Result.andThen,at_];by_cases e1:a=c
    ·simp [e1,h2]
    ·simp [e1,ih es (i+1) h3]
 match L,es,h with
 | [],[],_=>simp [Instr.findKey,Za3 hu,Instr.findNow,at_,Result.andThen]
 | p::L,e::es,h =>
  have h2:=ask _ _ 0 h;simp only [Instr.findKey,Sem.run_bind,Za3 hu,Result.andThen,Instr.findNow,Instr.sameNow];simpa using h2
def keyKT:KT Tryz.prog 150 K4 where
 kv:=K4.val
 inj:=fun {a b} h=>by
  obtain ⟨a0,a1,a2,a3⟩:=a;obtain ⟨b0,b1,b2,b3⟩:=b;simpa [K4.val] using h
 check:=fun w em a=>by
  obtain ⟨a0,a1,a2,a3⟩:=a;cases em <;> (unfold K4.val;kernel_rfl)
 find:=fun w a L es h=>ZiG ZjF K4.val (fun w a b=>Zpv a b w) w a L es h
 stays:=fun w a=>by simp [Instr.keyThatStays,Instr.sameBits,K4.val]
def grpKT:KT Tryz.prog 247 G2 where
 kv:=G2.val
 inj:=fun {a b} h=>by
  obtain ⟨a0,a1⟩:=a;obtain ⟨b0,b1⟩:=b;simpa [G2.val] using h
 check:=fun w em a=>by
  obtain ⟨a0,a1⟩:=a;cases em <;> (unfold G2.val;kernel_rfl)
 find:=fun w a L es h=>ZiG ZjG G2.val (fun w a b=>Zpw a b w) w a L es h
 stays:=fun w a=>by simp [Instr.keyThatStays,Instr.sameBits,G2.val]
theorem Zi2 (a b:ByteArray):(a==b)=decide (a=b):=by
 by_cases h:a=b
 ·simp [h,(MapKept.bytes_beq b b).2 rfl]
 ·simp only [h,decide_false];cases e:a==b
  ·rfl
  ·exact absurd ((MapKept.bytes_beq a b).1 e) h
def Zaf:KT Tryz.prog 9 ByteArray where
 kv:=Value.string
 inj:=fun {a b} h=>by simpa using h
 check:=fun w em a=>MapKept.run_checkKey (d:=.string) Tryz.underlying9 (by simp [MapKept.IsKey]) em 9999
 find:=fun w a L es h=>by
  have now:∀ (L:List (ByteArray × Value)) (es:List MapEntry) (i:Nat),es.map (fun x=>(x.key,x.val))=L.map (fun p=>(Value.string p.1,p.2))->Instr.findNow .string (.string a) es i=some (at_ a L i):=by
   intro L;induction L with
   | nil =>
    intro es i h;have:es=[]:=by simpa using h
    subst this;rfl
   | cons p L ih =>
    intro es i h
    match es,h with
    | e::es,h =>
     simp only [Zav,Zd0,Zba] at h;obtain ⟨⟨h1,h2⟩,h3⟩:=h;obtain ⟨c,v⟩:=p;simp only at h1 h2;simp only [Instr.findNow,h1,Instr.sameNow,Zi2,at_];by_cases e1:a=c
     ·simp [e1,h2]
     ·simp [e1,ih es (i+1) h3]
  exact MapKept.run_findKey Tryz.underlying9 (now L es 0 h)
 stays:=fun w a=>MapKept.run_keyThatStays (d:=.string) (by simp [MapKept.IsKey])
end keys
def RowI (I:Hp) (size:Nat) (v:Value) (n:Nat) (xs:List Value):Prop :=
 ∃ A c,v=slice A n c∧xs.length=n*size∧n<=c∧c<=maxLen∧(A=none->c=0) ∧
  (0<n->∃ b off cs t f,A=some ⟨b,off,none⟩∧I b=some (cells cs t f)∧∀ i x,xs[i]?=some x->cs[off+i]?=some x)
theorem RowI.mono {I I':Hp} {size:Nat} {v:Value} {n:Nat} {xs:List Value} (s:I.sub I') (h:RowI I size v n xs):RowI I' size v n xs:=by
 obtain ⟨A,c,h1,h2,h3,h4,h5,h6⟩:=h;refine ⟨A,c,h1,h2,h3,h4,h5,fun hn=>?_⟩;obtain ⟨b,off,cs,t,f,e1,e2,e3⟩:=h6 hn;exact ⟨b,off,cs,t,f,e1,s _ _ e2,e3⟩
def Zw (I:Hp) (v:Value) (p:List Int):Prop:=RowI I 1 v p.length (p.map byteV)
def IntsI (I:Hp) (v:Value) (p:List Int):Prop:=RowI I 1 v p.length (p.map intV)
def Zbv (v:Value) (p:List Int):IP:=⟨fun I=>Zw I v p,fun s h=>RowI.mono s h⟩
def Zbe (v:Value) (p:List Int):IP:=⟨fun I=>IntsI I v p,fun s h=>RowI.mono s h⟩
def ZaZ (v:Value) (p:List Int):HP:=HP.row 5 1 v p.length (p.map byteV)
def ZaL (v:Value) (p:List Int):HP:=HP.imm (Zbv v p)
def Zv (v:Value) (t:TS):HP :=
 HP.ex fun x:Nat × Nat × Value=>HP.all [HP.pure (v=pointer (some ⟨x.1,0,none⟩)),HP.pt x.1 (cells #[x.2.2,.map (some x.2.1)] 218),ZaZ x.2.2 t.b,HP.mapOf Zaf ZaL x.2.1 t.attr]
def ZdU:List Dd->List Value->List Value
 | d::ds,p::ps=>intV d.kind::intV d.n::p::.string d.name::ZdU ds ps
 | _,_=>[]
def psIP (ds:List Dd) (ps:List Value):IP:=⟨fun I=>ps.length=ds.length∧∀ (i:Nat) (d:Dd) (p:Value),ds[i]?=some d->ps[i]?=some p->Zw I p d.p,fun s h=>⟨h.1,fun i d p e f=>(Zbv p d.p).mono s (h.2 i d p e f)⟩⟩
def Zbo (v:Value) (ds:List Dd):HP :=
 HP.ex fun ps:List Value=>HP.all [HP.imm (psIP ds ps),HP.row 244 4 v ds.length (ZdU ds ps)]
def Z6 (v:Value) (ks:List K4):HP:=HP.row 150 4 v ks.length (ks.flatMap K4.vals)
structure SB where
 m1:Nat
 m2:Nat
 m3:Nat
 m4:Nat
 vk:Value
def storeCells (S:Str) (B:SB):Array Value :=
 #[int i64 S.room,int i64 S.used,int i64 S.deeds,int i64 S.wet,.bool S.on,.map (some B.m1),.map (some B.m2),.map (some B.m3),.map (some B.m4),.bool S.armed,int i64 S.fuse,int i64 S.torn,B.vk]
def ZV (p:Nat) (S:Str) (B:SB):HP:=HP.pt p (cells (storeCells S B) 145)
def ZbD (B:SB) (S:Str):HP:=HP.mapOf keyKT Zv B.m1 S.seen
def dryHP (B:SB) (S:Str):HP:=HP.mapOf keyKT Zv B.m2 S.dry
def Zan (B:SB) (S:Str):HP:=HP.mapOf keyKT Zbo B.m3 S.late
def keyHP (B:SB) (S:Str):HP:=HP.mapOf grpKT Z6 B.m4 S.keys
def Zd (p:Nat) (S:Str):HP :=
 HP.ex fun B:SB=>HP.all [ZV p S B,ZbD B S,dryHP B S,Zan B S,keyHP B S,HP.imm (Zbe B.vk S.keep)]
variable {W w : World} {I : Hp} {l : List HP} {p : Nat} {S : Str}
theorem St.store_open (h:St W I w (Zd p S::l)):∃ B:SB,St W I w (ZV p S B::ZbD B S::dryHP B S::Zan B S::keyHP B S::HP.imm (Zbe B.vk S.keep)::l):=by
 obtain ⟨B,h⟩:=h.ex_open;exact ⟨B,h.all_open⟩
theorem St.store_shut {B:SB} (h:St W I w (ZV p S B::ZbD B S::dryHP B S::Zan B S::keyHP B S::HP.imm (Zbe B.vk S.keep)::l)):St W I w (Zd p S::l) :=
 St.ex_shut B (St.all_shut h)
theorem St.thing_open {v:Value} {t:TS} (h:St W I w (Zv v t::l)):∃ b m vb,v=pointer (some ⟨b,0,none⟩)∧St W I w (HP.pt b (cells #[vb,.map (some m)] 218)::ZaZ vb t.b::HP.mapOf Zaf ZaL m t.attr::l):=by
 obtain ⟨⟨b,m,vb⟩,h⟩:=h.ex_open;obtain ⟨e,h⟩:=(St.all_open h).pure_open;exact ⟨b,m,vb,e,h⟩
theorem St.thing_shut {b m:Nat} {vb:Value} {t:TS} (h:St W I w (HP.pt b (cells #[vb,.map (some m)] 218)::ZaZ vb t.b::HP.mapOf Zaf ZaL m t.attr::l)):St W I w (Zv (pointer (some ⟨b,0,none⟩)) t::l) :=
 St.ex_shut (b,m,vb) (St.all_shut (St.pure_shut rfl h))
theorem St.store_lt (h:St W I w (Zd p S::l)):p<w.heap.size:=by
 obtain ⟨B,h⟩:=h.store_open;exact h.lt
end Go.Proofs.YtcbdghojlbpomaaGreat
namespace Go.Proofs.YtcbdghojlbpomaaGreat
open Go.RowKit
theorem ret_bool {a b:Bool} (h:a=b):Ending.returned (.bool a)=.returned (.bool b):=by rw [h]
theorem ret_int {k:IntKind} {a b:Int} (h:a=b):Ending.returned (int k a)=.returned (int k b):=by rw [h]
theorem ZM (w:World) (o:Obj):Below w.heap.size w (w.alloc o):=(ZR _ _).alloc (Z9 _) _
theorem block_behind {w w1:World} {o:Obj} (hb:Below (w.alloc o).heap.size (w.alloc o) w1):w1.heap[w.heap.size]?=some o:=(hb.block _ (by simp)).trans (Zbh _ _)
theorem frozen_of_row {w:World} {g:Nat} {cs:Array Value} {t:TypeId} (h:w.heap[g]?=some (cells cs t (0,0))) (i:Nat):w.frozen? ⟨g,i,none⟩=false:=by simp [World.frozen?,h]
theorem Zc {w:World} {g:Nat} {cs:Array Value} {t:TypeId} {f:Nat × Nat} (h:w.heap[g]?=some (cells cs t f)) (i:Nat):w.cell? ⟨g,i,none⟩=cs[i]?:=by simp [World.cell?,h]
section
variable {W w : World} {I : Hp} {l : List HP} {p : Nat} {S : Str} {B : SB}
theorem ok_of {k:K4} {b:Bool} (h:b=true↔(1<=k.kind∧k.kind<=255∧0<=k.img∧k.img<=255∧0<=k.num∧k.num<=1073741824∧0<=k.snap∧k.snap<=1073741824)):b=k.ok:=by
 rw [Zai,h,K4.ok,Ze]
set_option maxHeartbeats 1000000 in
theorem Zm4 (k:K4) (w:World):Calls Tryz.prog 239 #[k.val] w fun e w'=>e=.returned (.bool k.ok)∧Below w.heap.size w w':=by
 obtain ⟨a,b,c,d⟩:=k;unfold K4.val;go_enter Tryz.func239,Tryz.ntmps239;go_wp2;all_goals
  go_ret;refine ⟨ret_bool (ok_of ?_),ZM _ _⟩;simp only [Ze,ZaS,false_iff];omega
def mayS (S:Str) (k:K4):Int:=if S.on=false then 7 else if k.ok=false then 1 else 0
theorem St.blk (h:St W I w (ZV p S B::l)) (i:Nat):w.cell? ⟨p,i,none⟩=(storeCells S B)[i]?:=Zc h.heap i
set_option maxHeartbeats 1000000 in
theorem Zpx (k:K4) (h:St W I w (ZV p S B::l)):Calls Tryz.prog 217 #[pointer (some ⟨p,0,none⟩),k.val] w fun e w'=>e=.returned (int i64 (mayS S k))∧Below w.heap.size w w':=by
 have hp:=h.lt;have c4:w.cell? ⟨p,4,none⟩=some (.bool S.on):=h.blk 4;clear h;obtain ⟨a,b,c,d⟩:=k;unfold mayS;cases hon:S.on
 ·rw [hon] at c4;unfold K4.val;go_enter Tryz.func217,Tryz.ntmps217;go_wp2;go_ret;exact ⟨rfl,ZM _ _⟩
 ·rw [hon] at c4;unfold K4.val;go_enter Tryz.func217,Tryz.ntmps217;go_wp2_with fail;refine (Zm4 ⟨a,b,c,d⟩ _).mono ?_;rintro e w1 ⟨rfl,hb⟩;have hbw:Below w.heap.size w w1:=(ZM _ _).trans (hb.mono (by simp));clear hb;cases hok:K4.ok ⟨a,b,c,d⟩;all_goals
   go_wp2;go_ret;exact ⟨rfl,hbw⟩
set_option maxHeartbeats 1000000 in
theorem Zm5 (k:K4) (h:St W I w (ZV p S B::ZbD B S::l)) :
  Calls Tryz.prog 179 #[pointer (some ⟨p,0,none⟩),k.val] w fun e w'=>Below w.heap.size w w' ∧
   ((mayS S k≠0∧e=.returned (.tuple #[pointer none,int i64 (mayS S k)]))∨(mayS S k=0∧get k S.seen=none∧e=.returned (.tuple #[pointer none,int i64 4])) ∨
    ∃ v t,mayS S k=0∧get k S.seen=some t∧e=.returned (.tuple #[v,int i64 0])∧St W I w (Zv v t::HP.hole keyKT Zv B.m1 k v (del k S.seen)::ZV p S B::l)):=by
 have H:=Zh h;have hp:=h.lt;have c5:w.cell? ⟨p,5,none⟩=some (.map (some B.m1)):=h.blk 5;have hl:=St.mapOf_look (P:=Tryz.prog) (T:=keyKT) (h.pull 1 _ rfl) Tryz.underlying141 (z:=pointer none) (fun w=>by kernel_rfl) k;clear h;obtain ⟨a,b,c,d⟩:=k;unfold K4.val;go_enter Tryz.func179,Tryz.ntmps179;go_wp2_with fail;refine (Zpx ⟨a,b,c,d⟩ (H.o.keep (ZM _ _))).mono ?_;rintro e w1 ⟨rfl,hb⟩;have hbw:Below w.heap.size w w1:=(ZM _ _).trans (hb.mono (by simp));have c5':=(hbw.cell (p:=⟨p,5,none⟩) hp).trans c5;have hg:=block_behind hb;have b0:=Zc hg 0;have b1:=Zc hg 1;have b2:=Zc hg 2;have b3:=Zc hg 3;simp at b0 b1 b2 b3;clear hb hg c5;by_cases hm:mayS S ⟨a,b,c,d⟩=0
 ·have HM:=Zh hm;rw [hm];rcases hl with ⟨hn,hl⟩|⟨v,x,hn,hl,hs⟩
  ·have hl':=fun nq=>hl (w1.drewN nq) (below_drewN hbw nq) true;simp only [keyKT,K4.val,Zaw] at hl';have HN:=Zh hn;clear hl hn hm;go_wp2_with fail;go_quiet (fail);go_wp2;go_ret2;exact ⟨below_drewN hbw _,.inr (.inl ⟨HM.o,HN.o,rfl⟩)⟩
  ·have hl':=fun nq=>hl (w1.drewN nq) (below_drewN hbw nq) true;simp only [keyKT,K4.val,Zaw] at hl';have HN:=Zh hn;have HS:=Zh hs;clear hl hn hm hs;go_wp2_with fail;go_quiet (fail);go_wp2;go_ret2;exact ⟨below_drewN hbw _,.inr (.inr ⟨_,_,HM.o,HN.o,rfl,HS.o⟩)⟩
 ·have hm2:mayS S ⟨a,b,c,d⟩≠0:=hm;have HM:=Zh hm;clear hl;have hd:(mayS S ⟨a,b,c,d⟩ != 0)=true:=by simpa using hm
  clear hm;go_wp2;go_ret2;exact ⟨hbw,.inl ⟨HM.o,rfl⟩⟩
end
end Go.Proofs.YtcbdghojlbpomaaGreat
namespace Go.Proofs.YtcbdghojlbpomaaGreat
open Go.RowKit
def SliceSrc (w:World) (size:Nat) (v:Value) (n:Nat) (xs:List Value):Prop:=∃ A c,v=slice A n c∧SrcAt w size A n xs∧(A=none->c=0)
theorem SrcAt.below {w w':World} {size:Nat} {A:Option Addr} {m:Nat} {xs:List Value} (h:SrcAt w size A m xs) (hb:Below w.heap.size w w'):SrcAt w' size A m xs :=
 ⟨h.len,fun hm=>by
  obtain ⟨ad,e,hc⟩:=h.cells hm;refine ⟨ad,e,fun j u hu=>?_⟩;have:=hc j u hu;have hlt:=Zh8 w _ this
  exact (hb.cell hlt).trans this,h.one⟩
theorem SliceSrc.below {w w':World} {size:Nat} {v:Value} {n:Nat} {xs:List Value} (h:SliceSrc w size v n xs) (hb:Below w.heap.size w w'):SliceSrc w' size v n xs:=by
 obtain ⟨A,c,e,h,hA⟩:=h;exact ⟨A,c,e,h.below hb,hA⟩
theorem SliceSrc.of_owns {w:World} {base:Nat} {e:TypeId} {size:Nat} {v:Value} {n:Nat} {xs:List Value} (h:w.ownsRow base e size v n xs) (h1:∀ u ∈ xs,u.oneCell'=true):SliceSrc w size v n xs:=by
 have h':=h;obtain ⟨hl,p⟩:=h;rcases p with ⟨rfl,rfl⟩|⟨g,cap,cur,rfl,hb,hg,hnc,hcm,hcs,ht⟩
 ·exact ⟨none,0,rfl,⟨hl,fun h=>absurd h (by omega),h1⟩,fun _=>rfl⟩
 ·refine ⟨some ⟨g,0,none⟩,cap,rfl,⟨hl,fun _=>⟨_,rfl,fun j u hu=>h'.cells (g:=g) rfl j u hu⟩,h1⟩,fun e=>by cases e⟩
theorem RowI.src {I:Hp} {w:World} {size:Nat} {v:Value} {n:Nat} {xs:List Value} (h:RowI I size v n xs) (hI:I.sub w.hp) (h1:∀ u ∈ xs,u.oneCell'=true) (hs:0<size):SliceSrc w size v n xs:=by
 obtain ⟨A,c,rfl,h2,h3,h4,h5,h6⟩:=h;refine ⟨A,c,rfl,⟨h2,fun hn=>?_,h1⟩,h5⟩;obtain ⟨b,off,cs,t,f,e1,e2,e3⟩:=h6 hn;refine ⟨_,e1,fun j u hu=>?_⟩;have hw:w.heap[b]?=some (cells cs t f):=hI _ _ e2;have plain:(⟨b,off,none⟩:Addr).add j=⟨b,off+j,none⟩:=by
  unfold Addr.add;split
  ·subst j;rfl
  ·rfl
 rw [plain];simp [World.cell?,hw,e3 j u hu]
theorem Zac (p:List Int):∀ u ∈ p.map byteV,u.oneCell'=true:=by
 intro u hu;obtain ⟨x,_,rfl⟩:=ZH.1 hu;rfl
theorem Zhz (p:List K4):∀ u ∈ p.flatMap K4.vals,u.oneCell'=true:=by
 intro u hu;obtain ⟨x,_,hx⟩:=Zcz.1 hu;simp only [K4.vals,ZO,ZdE,ZcQ] at hx;rcases hx with rfl|rfl|rfl|rfl <;> rfl
theorem info_parts {P:Program} {e:TypeId} {z:Value} {s b:Nat} (h:(P.info? e).map (fun i=>(i.zero,i.size,i.bytes))=some (some z,s,b)):∃ i,P.info? e=some i∧i.zero=some z∧i.size=s∧i.bytes=b:=by
 cases hi:P.info? e with
 | none=>rw [hi] at h;cases h
 | some i =>
  rw [hi] at h;simp only [Zbb,Zah,Zba] at h;exact ⟨i,rfl,h.1,h.2.1,h.2.2⟩
theorem Zfu:(Tryz.prog.info? 5).map (fun i=>(i.zero,i.size,i.bytes))=some (some (int .u8 0),1,1):=by kernel_rfl
theorem ZiH:(Tryz.prog.info? 3).map (fun i=>(i.zero,i.size,i.bytes))=some (some (int i64 0),1,8):=by kernel_rfl
theorem Zmf:(Tryz.prog.info? 150).map (fun i=>(i.zero,i.size,i.bytes))=some (some (.agg #[int i64 0,int i64 0,int i64 0,int i64 0]),4,32):=by kernel_rfl
set_option maxHeartbeats 1000000
theorem Za4 (v:Value) (n:Nat) (xs:List Value) (w:World) (hs:SliceSrc w 1 v n xs) (hn:n<=1000000) :
  Calls Tryz.prog 163 #[v] w fun e w'=>∃ v',e=.returned v'∧w'.ownsRow w.heap.size 5 1 v' n xs∧Below w.heap.size w w':=by
 obtain ⟨A,c,rfl,hsrc,hA⟩:=hs;cases A with
 | none =>
  have h0:n=0:=by
   rcases Zbf n with h|h
   ·exact h
   ·obtain ⟨_,e,_⟩:=hsrc.cells h;cases e
  subst h0;have hx:xs=[]:=ZbZ (by rw [hsrc.len,Zb0]);subst hx;obtain rfl:=hA rfl;have hq:=@Lib.run_eql_slice_nil Tryz.prog;go_enter Tryz.func163,Tryz.ntmps163;go_wp2;go_ret;exact ⟨_,rfl,Zfi _ _ _ _,ZR _ _⟩
 | some ad =>
  obtain ⟨i0,hi0,hz0,hz1,hz2⟩:=info_parts Zfu;have hq:=@Lib.run_eql_slice_nil Tryz.prog;go_enter Tryz.func163,Tryz.ntmps163;have hown:=World.ownsRow_made (base:=w.heap.size) (e:=5) (size:=1) w #[] 0 (Z9 _) (ZaY _) rfl
  go_wp2_with (at_builtin
               refine Zgy _ rfl (.tmp 5) (.tmp 6) _ rfl w.heap.size 5 i0 _ 1 1 Tryz.underlying32 hi0 hz0 hz1 hz2 rfl (by omega) _ 0 [] rfl hown (some ad) n c xs rfl
                (hsrc.below (ZM _ _)) (fun h=>by cases h) (by simp only [maxLen];omega) (by omega) (by simp) ?_
               intro v1 w1 hown1 hg1 hat1)
  go_ret;refine ⟨_,rfl,by simpa using hown1,((ZR _ _).alloc (Z9 _) _).grown hg1 (by simp) (fun k hk=>?_)⟩;have hk':some w.heap.size=some k:=hk;injection hk' with hk';omega
theorem Zmg (v:Value) (n:Nat) (xs:List Value) (w:World) (hs:SliceSrc w 4 v n xs) (hn:n<=1000000) :
  Calls Tryz.prog 231 #[v] w fun e w'=>∃ v',e=.returned v'∧w'.ownsRow w.heap.size 150 4 v' n xs∧Below w.heap.size w w':=by
 obtain ⟨A,c,rfl,hsrc,hA⟩:=hs;cases A with
 | none =>
  have h0:n=0:=by
   rcases Zbf n with h|h
   ·exact h
   ·obtain ⟨_,e,_⟩:=hsrc.cells h;cases e
  subst h0;have hx:xs=[]:=ZbZ (by rw [hsrc.len,Zb0]);subst hx;obtain rfl:=hA rfl;have hq:=@Lib.run_eql_slice_nil Tryz.prog;go_enter Tryz.func231,Tryz.ntmps231;go_wp2;go_ret;exact ⟨_,rfl,Zfi _ _ _ _,ZR _ _⟩
 | some ad =>
  obtain ⟨i0,hi0,hz0,hz1,hz2⟩:=info_parts Zmf;have hq:=@Lib.run_eql_slice_nil Tryz.prog;go_enter Tryz.func231,Tryz.ntmps231;have hown:=World.ownsRow_made (base:=w.heap.size) (e:=150) (size:=4) w #[] 0 (Z9 _) (ZaY _) rfl
  go_wp2_with (at_builtin
               refine Zgy _ rfl (.tmp 5) (.tmp 6) _ rfl w.heap.size 150 i0 _ 4 32 Tryz.underlying165 hi0 hz0 hz1 hz2 rfl (by omega) _ 0 [] rfl hown (some ad) n c xs rfl
                (hsrc.below (ZM _ _)) (fun h=>by cases h) (by simp only [maxLen];omega) (by omega) (by simp) ?_
               intro v1 w1 hown1 hg1 hat1)
  go_ret;refine ⟨_,rfl,by simpa using hown1,((ZR _ _).alloc (Z9 _) _).grown hg1 (by simp) (fun k hk=>?_)⟩;have hk':some w.heap.size=some k:=hk;injection hk' with hk';omega
end Go.Proofs.YtcbdghojlbpomaaGreat
namespace Go.Proofs.YtcbdghojlbpomaaGreat
open Go.RowKit
def cmpI (a b:Int):Int:=if a<b then -1 else if b<a then 1 else 0
def orI:List Int->Int
 | []=>0
 | x::l=>if x≠0 then x else orI l
def cmpK (a b:K4):Int:=orI [cmpI a.kind b.kind,cmpI a.img b.img,cmpI a.num b.num,cmpI a.snap b.snap]
theorem Zge (a:Int) (w:World):Calls Tryz.prog 227 #[int i64 a] w fun e w'=>e=.returned (.bool false)∧w=w':=by
 go_enter Tryz.func227,Tryz.ntmps227;go_wp2;go_ret;exact ⟨by simp,rfl⟩
set_option maxHeartbeats 1000000 in
theorem Zmh (a b:Int) (w:World):Calls Tryz.prog 196 #[int i64 a,int i64 b] w fun e w'=>e=.returned (int i64 (cmpI a b))∧w=w':=by
 unfold cmpI;by_cases h1:a<b
 ·rw [Zb h1];go_enter Tryz.func196,Tryz.ntmps196;go_wp2_with fail;refine (Zge a _).mono ?_;rintro e w1 ⟨rfl,rfl⟩;go_wp2_with fail;refine (Zge b _).mono ?_;rintro e w1 ⟨rfl,rfl⟩;go_wp2;go_ret;exact ⟨rfl,rfl⟩
 ·rw [Za h1];by_cases h2:b<a;all_goals
   first|rw [Zb h2]|rw [Za h2]|fail
   go_enter Tryz.func196,Tryz.ntmps196;go_wp2_with fail;refine (Zge a _).mono ?_;rintro e w1 ⟨rfl,rfl⟩;go_wp2_with fail;refine (Zge b _).mono ?_;rintro e w1 ⟨rfl,rfl⟩;go_wp2;go_ret;exact ⟨rfl,rfl⟩
set_option maxHeartbeats 1000000 in
theorem ZqS (g:Nat) (x:Nat->Int) (w:World) (hc:∀ k,k<4->w.cell? ⟨g,k,none⟩=some (int i64 (x k))) :
  Calls Tryz.prog 195 #[slice (some ⟨g,0,none⟩) 4 4] w fun e w'=>e=.returned (int i64 (orI [x 0,x 1,x 2,x 3]))∧w=w':=by
 go_enter Tryz.func195,Tryz.ntmps195;go_wp2;go_loopw [8] (fun v8 wr=>∃ k:Nat,k<=4∧v8=int i64 k∧(∀ j,j<k->x j=0)∧wr=w) (fun v8 _=>4 - (intOf v8).toNat);case atStart=>exact ⟨0,by omega,rfl,fun j h=>absurd h (by omega),rfl⟩
 case round =>
  obtain ⟨k,hk,rfl,hz,rfl⟩:=hrel;have HZ:=Zh hz;by_cases hlt:k<4
  ·have ck:=hc k hlt;have HC:=Zh hc;clear hz hc;by_cases hx:x k=0
   ·have hxe:(x k != 0)=false:=by simpa using hx
    have HX:=Zh hx;clear hx;go_wp2;go_roundw
    case rel=>exact ⟨k+1,by omega,by go_num,fun j hj=>by
     rcases Nat.lt_or_ge j k with h|h
     ·exact HZ.o j h
     ·rw [show j=k by omega];exact HX.o,by trivial⟩
    case measure=>simp [intOf]<;>omega
   ·have hxe:(x k != 0)=true:=by simpa using hx
    have HX:=Zh hx;clear hx;go_wp2;go_ret;refine ⟨ret_int ?_,rfl⟩;have hz:=HZ.o;have hx:=HX.o
    match k,hlt,hz,hx with
    | 0,_,hz,hx=>simp [orI,hx]
    | 1,_,hz,hx=>simp [orI,hx,hz 0 (by omega)]
    | 2,_,hz,hx=>simp [orI,hx,hz 0 (by omega),hz 1 (by omega)]
    | 3,_,hz,hx=>simp [orI,hx,hz 0 (by omega),hz 1 (by omega),hz 2 (by omega)]
  ·clear hc;obtain rfl:k=4:=by omega
   clear hz;go_wp2;go_ret;have hz:=HZ.o;exact ⟨ret_int (by simp [orI,hz 0 (by omega),hz 1 (by omega),hz 2 (by omega),hz 3 (by omega)]),rfl⟩
theorem Zfr (a b:Int) (w:World):Calls Tryz.prog 196 #[int i64 a,int i64 b] w fun e w'=>e=.returned (int i64 (cmpI a b))∧w'=w :=
 (Zmh a b w).mono fun e w' h=>⟨h.1,h.2.symm⟩
set_option maxRecDepth 4000 in
set_option maxHeartbeats 2000000 in
theorem ZjH (a b:K4) (w:World):Calls Tryz.prog 126 #[a.val,b.val] w fun e w'=>e=.returned (int i64 (cmpK a b))∧Below w.heap.size w w':=by
 obtain ⟨a0,a1,a2,a3⟩:=a;obtain ⟨b0,b1,b2,b3⟩:=b;unfold K4.val;go_enter Tryz.func126,Tryz.ntmps126;go_wp2_with fail;obtain ⟨X,hX⟩:∃ X:Obj,X=cells #[int i64 a0,int i64 a1,int i64 a2,int i64 a3] 150:=⟨_,rfl⟩;obtain ⟨Y,hY⟩:∃ Y:Obj,Y=cells #[int i64 b0,int i64 b1,int i64 b2,int i64 b3] 150:=⟨_,rfl⟩;rw [<-hX,<-hY];have hx:((w.alloc X).alloc Y).heap[w.heap.size]?=some X:=(Below.heap_alloc _ _ _ (by simp)).trans (Zbh _ _);have hy:((w.alloc X).alloc Y).heap[w.heap.size+1]?=some Y:=by
  have:=Zbh (w.alloc X) Y;simpa using this
 have hb:Below w.heap.size w ((w.alloc X).alloc Y):=(ZM _ _).alloc (by simp) _;generalize (w.alloc X).alloc Y=w2 at *;subst hX;subst hY;have x0:=Zc hx 0;have x1:=Zc hx 1;have x2:=Zc hx 2;have x3:=Zc hx 3;have y0:=Zc hy 0;have y1:=Zc hy 1;have y2:=Zc hy 2;have y3:=Zc hy 3;simp at x0 x1 x2 x3 y0 y1 y2 y3;have HB:=Zh hb;clear hx hy hb
 go_still_tail 20,(by kernel_rfl)
 still_call (Zfr _ _ _)
 repeat still_step
 still_call (Zfr _ _ _)
 repeat still_step
 still_call (Zfr _ _ _)
 repeat still_step
 still_call (Zfr _ _ _)
 refine ZaI ?_;change wpList _ _ _ _ _ w2.drew;have HB2:=Zh (HB.o.drew);clear x0 x1 x2 x3 y0 y1 y2 y3 HB;generalize w2.drew=w3 at *;go_wp2_with fail;refine (ZqS w3.heap.size (fun k=>match k with|0=>cmpI a0 b0|1=>cmpI a1 b1|2=>cmpI a2 b2|_=>cmpI a3 b3) _ ?_).mono ?_
 ·intro k hk
  match k,hk with
  | 0,_=>exact Zc (Zbh w3 _) 0
  | 1,_=>exact Zc (Zbh w3 _) 1
  | 2,_=>exact Zc (Zbh w3 _) 2
  | 3,_=>exact Zc (Zbh w3 _) 3
 ·rintro e w4 ⟨rfl,rfl⟩;go_wp2;go_ret;exact ⟨rfl,HB2.o.alloc (HB2.o.size) _⟩
end Go.Proofs.YtcbdghojlbpomaaGreat
namespace Go.Proofs.YtcbdghojlbpomaaGreat
open Go.RowKit
section
variable {W w : World} {I : Hp} {l : List HP}
theorem St.attr_open {m:Nat} {L:List (ByteArray × List Int)} (h:St W I w (HP.mapOf Zaf ZaL m L::l)) :
  ∃ M:List (ByteArray × Value × List Int),(M.map dat3).Perm L∧(∀ x ∈ M,Zw I x.2.1 x.2.2)∧St W I w (HP.map Zaf m (M.map fst3)::l):=by
 obtain ⟨M,hp,h⟩:=h.mapOf_open;refine ⟨M,hp,?_⟩;have h2:St W I w (M.map (own3 ZaL)++(HP.map Zaf m (M.map fst3)::l)):=h.perm Zb8.symm;have key:∀ (M:List (ByteArray × Value × List Int)) (l:List HP),St W I w (M.map (own3 ZaL)++l)->(∀ x ∈ M,Zw I x.2.1 x.2.2)∧St W I w l:=by
  intro M;induction M with
  | nil=>exact fun l h=>⟨by simp,h⟩
  | cons x M ih =>
   intro l h;obtain ⟨h1,h2⟩:=St.imm_open h;obtain ⟨h3,h4⟩:=ih l h2
   exact ⟨fun y hy=>by
    rcases ZO.1 hy with rfl|hy
    ·exact h1
    ·exact h3 y hy,h4⟩
 exact key M _ h2
theorem St.attr_shut {m:Nat} {L:List (ByteArray × List Int)} {M:List (ByteArray × Value × List Int)} (h:St W I w (HP.map Zaf m (M.map fst3)::l)) (hp:(M.map dat3).Perm L) (hM:∀ x ∈ M,Zw I x.2.1 x.2.2):St W I w (HP.mapOf Zaf ZaL m L::l):=by
 refine St.mapOf_shut (M:=M) ?_ hp;have key:∀ (M:List (ByteArray × Value × List Int)) (l:List HP),(∀ x ∈ M,Zw I x.2.1 x.2.2)->St W I w l->St W I w (M.map (own3 ZaL)++l):=by
  intro M;induction M with
  | nil=>exact fun l _ h=>h
  | cons x M ih =>
   intro l hM h;exact St.imm_shut (A:=Zbv x.2.1 x.2.2) (hM x (by simp)) (ih l (fun y hy=>hM y (by simp [hy])) h)
 exact (key M _ hM h).perm Zb8
theorem ZhA (w:World):Calls Tryz.prog 129 #[pointer none] w fun e w'=>e=.returned (int i64 0)∧w=w':=by
 go_enter Tryz.func129,Tryz.ntmps129;go_wp2;go_ret;exact ⟨rfl,rfl⟩
theorem ZlP {a b:List (ByteArray × List Int)} (p:a.Perm b):Zbn a=Zbn b:=by
 induction p with
 | nil=>rfl
 | cons x _ ih=>simp only [Zbn,Zav,Zd1] at ih |-;rw [ih]
 | swap x y l=>simp only [Zbn,Zav,Zd1];omega
 | trans _ _ i j=>exact i.trans j
theorem Zob {A B C:Int} (h:C=A+B):int i64 (wrap64 (wrap64 A+wrap64 B))=int i64 (IntKind.i64.wrap C):=by
 have:wrap64 (wrap64 A+wrap64 B)=IntKind.i64.wrap C:=by
  rw [Z2];unfold wrap64;omega
 rw [this]
set_option maxHeartbeats 1000000 in
theorem Zhf {v:Value} {t:TS} (h:St W I w (Zv v t::l)) (ht:t.b.length<=1000000) :
  Calls Tryz.prog 129 #[v] w fun e w'=>e=.returned (int i64 (IntKind.i64.wrap t.size))∧St W I w' (Zv v t::l):=by
 obtain ⟨b,m,vb,rfl,hs⟩:=h.thing_open;clear h;have h:=hs;clear hs;have hlt:=h.lt;have c0:=Zc h.heap 0;have c1:=Zc h.heap 1;simp at c0 c1;have hlen:Tryz.prog.underlying 32=some (.slice 5):=Tryz.underlying32;obtain ⟨A,c,hvb⟩:∃ A c,vb=slice A t.b.length c:=by
  obtain ⟨_,p⟩:=(h.pull 1 _ rfl).row_open;rcases p with ⟨e,e2,_⟩|⟨g,cap,cur,e,_⟩
  ·exact ⟨none,0,by rw [e,e2]⟩
  ·exact ⟨_,cap,e⟩
 subst hvb;obtain ⟨M,hp,hM,h⟩:=(h.pull 2 _ rfl).attr_open;have hrange:=h.range (P:=Tryz.prog) (T:=Zaf) Tryz.underlying216;obtain ⟨w1,hrun,hsz,h1⟩:=hrange;have HH:=Zh h1;have HM:=Zh hM;have HP':=Zh hp;clear h h1 hM hp hlen;go_enter Tryz.func129,Tryz.ntmps129;go_wp2_with fail
 go_loopw [3] (fun v3 wr=>∃ lm done:List (ByteArray × Value × List Int),(lm++done).Perm M∧v3=int i64 (IntKind.i64.wrap (t.b.length+Zbn (done.map dat3))) ∧
  St W I wr (HP.iter Zaf m w.heap.size (M.map fst3) (lm.map fst3)::HP.pt b (cells #[slice A t.b.length c,.map (some m)] 218)::ZaZ (slice A t.b.length c) t.b::l)) (fun _ wr=>wr.rangeLeft m w.heap.size)
 case atStart=>exact ⟨M,[],by simp,by simp [Zbn,Z2];omega,HH.o⟩
 case round =>
  obtain ⟨lm,done,hpd,rfl,hst⟩:=hrel;rcases hst.nextM 0 with ⟨rfl,hrun⟩|⟨a,v,x,lm',w2,hpm,hrun,hsz2,hent,hst2⟩
  ·have HS:=Zh hst;have HQ:=Zh hpd;clear hst hpd;go_wp2;go_ret;have e1:Zbn (done.map dat3)=Zbn t.attr:=ZlP ((HQ.o.map dat3).trans HP'.o);refine ⟨ret_int (by rw [e1];rfl),?_⟩;refine St.thing_shut (m:=m) (vb:=slice A t.b.length c) ?_;have h5:St W I wr (HP.map Zaf m (M.map fst3)::HP.pt b (cells #[slice A t.b.length c,.map (some m)] 218)::ZaZ (slice A t.b.length c) t.b::l):=HS.o.iter_shut_map;exact (h5.attr_shut HP'.o HM.o).perm ((List.Perm.swap _ _ _).trans ((List.Perm.swap _ _ _).cons _))
  ·have hx:(a,v,x) ∈ M:=hpd.mem_iff.1 (Zet _ (hpm.mem_iff.2 (by simp)));obtain ⟨A1,c2,hv,_,hc2,hm2,_⟩:=HM.o _ hx;simp only at hv;subst hv;have hxl:x.length<=9223372036854775807:=by
    have e1:x.length<=c2:=hc2;unfold maxLen at hm2;omega
   clear hc2 hm2 hsz2;simp only [Zaf] at hrun hent;have HS:=Zh hst2;have HQ:=Zh hpd;have HR:=Zh hst;have HL:=Zh hpm;clear hst hpd hst2 hpm;go_wp2;go_roundw;case rel =>
    refine ⟨lm',done++[(a,slice A1 x.length c2,x)],?_,?_,HS.o⟩
    ·refine List.Perm.trans ?_ HQ.o;rw [<-Zam];exact Zes.trans (HL.o.symm.append_right done)
    ·refine Zob ?_;simp only [Z4,Zav,Zc6,Zbn,List.sum_append,Zd1,List.sum_nil,dat3];omega
   case measure =>
    rw [HS.o.iter_left,HR.o.iter_left];simp [HL.o.length_eq]
end
end Go.Proofs.YtcbdghojlbpomaaGreat
namespace Go.Proofs.YtcbdghojlbpomaaGreat
open Go.RowKit
section
variable {W w : World} {I : Hp} {l : List HP}
theorem ZbT (h:St W I w l) {v:Value} {p:List Int} (hb:Zw I v p):SliceSrc w 1 v p.length (p.map byteV):=RowI.src hb h.imm (Zac p) (by omega)
theorem St.freeze_row {e:TypeId} {size:Nat} {v:Value} {n:Nat} {xs:List Value} (h:St W I w (HP.row e size v n xs::l)):∃ I':Hp,I.sub I'∧RowI I' size v n xs∧St W I' w l:=by
 obtain ⟨hl,p⟩:=h.row_open;rcases p with ⟨rfl,rfl,s⟩|⟨g,cap,cur,rfl,p3,p4,p5,p6,s⟩
 ·exact ⟨I,Hp.sub.refl _,⟨none,0,rfl,hl,Z9 _,ZaY _,fun _=>rfl,fun h=>absurd h (by omega)⟩,s⟩
 ·obtain ⟨I',hs,hI,s⟩:=s.freeze;refine ⟨I',hs,⟨some ⟨g,0,none⟩,cap,rfl,hl,p3,p4,(fun e=>by cases e),fun _=>⟨g,0,cur,e,(0,0),rfl,hI,fun i x hx=>?_⟩⟩,s⟩;rw [<-p6,Zci] at hx;split at hx
  ·simpa using hx
  ·cases hx
theorem ZcA {w1 w2:World} {p:List Int} {v':Value} (h:St W I w1 l) (hb:Below w1.heap.size w1 w2) (ho:w2.ownsRow w1.heap.size 5 1 v' p.length (p.map byteV)) :
  ∃ I',I.sub I'∧Zw I' v' p∧St W I' w2 l:=by
 obtain ⟨I',h1,h2,h3⟩:=(h.row_fresh hb ho).freeze_row;exact ⟨I',h1,h2,h3⟩
theorem ZlQ {w:World} {base:Nat} {e:TypeId} {size:Nat} {v:Value} {n:Nat} {xs:List Value} (h:w.ownsRow base e size v n xs):∃ A c,v=slice A n c∧n<=c∨v=slice A n c∧n=0:=by
 rcases h.2 with ⟨rfl,rfl⟩|⟨g,cap,cur,rfl,_,_,h1,_⟩
 ·exact ⟨none,0,.inr ⟨rfl,rfl⟩⟩
 ·exact ⟨_,cap,.inl ⟨rfl,h1⟩⟩
theorem ZD {w:World} {base:Nat} {e:TypeId} {size:Nat} {v:Value} {n:Nat} {xs:List Value} (h:w.ownsRow base e size v n xs):∃ A c,v=slice A n c:=by
 obtain ⟨A,c,h|h⟩:=ZlQ h
 ·exact ⟨A,c,h.1⟩
 ·exact ⟨A,c,h.1⟩
theorem Zpy {M lm done lm':List (ByteArray × Value × List Int)} {a:ByteArray} {v:Value} {x:List Int} (hn:((M.map fst3).map (·.1)).Nodup) (hd:(lm++done).Perm M) (hl:lm.Perm ((a,v,x)::lm')) (u:Value) :
  (put a x (done.map dat3)).Perm ((done++[(a,u,x)]).map dat3):=by
 have h1:((((a,v,x)::lm')++done).map fst3 |>.map (·.1)).Nodup:=Zdj hn ((((hl.append_right done).symm.trans hd).map fst3).symm);have h2:get a (done.map dat3)=none:=get_none.2 fun p hp e=>by
  have h3:=(Za9.1 (show (a::((lm'++done).map fst3 |>.map (·.1))).Nodup from h1)).1;obtain ⟨m,hm,rfl⟩:=ZH.1 hp;exact h3 (ZH.2 ⟨fst3 m,ZH.2 ⟨m,Zfj _ hm,rfl⟩,e⟩)
 unfold put;rw [Zcm h2,Z4];exact Zes (l₁:=[(a,x)])
theorem Zks {m:Nat} {L:List (ByteArray × List Int)} {v:Value} {x:List Int} (hb:Zw I v x) (h:St W I w (HP.mapOf Zaf ZaL m L::l)) {t e:TypeId} (ht:Tryz.prog.underlying t=some (.map 9 e)) (a:ByteArray) :
  ∃ w',(Instr.mapUpdate t (.map (some m)) (.string a) v).run Tryz.prog w=.ok () w'∧w'.heap.size=w.heap.size∧St W I w' (HP.mapOf Zaf ZaL m (put a x L)::l) :=
 St.mapOf_put (own:=ZaL) (v:=v) (x:=x) (St.imm_shut (A:=Zbv v x) hb h) ht a
set_option maxRecDepth 4000 in
set_option maxHeartbeats 2000000 in
theorem Zpz {v:Value} {t:TS} (h:St W I w (Zv v t::l)) (ht:t.b.length<=1000000) (hta:∀ x ∈ t.attr,x.2.length<=1000000) :
  Calls Tryz.prog 130 #[v] w fun e w'=>∃ v' I',e=.returned v'∧I.sub I'∧St W I' w' (Zv v' t::Zv v t::l):=by
 obtain ⟨b,m,vb,rfl,hs⟩:=h.thing_open;clear h;have h:=hs;clear hs;have hlt:=h.lt;have c0:=Zc h.heap 0;have c1:=Zc h.heap 1;simp at c0 c1;have hown:=(h.pull 1 _ rfl).row_owns;have hsrc:SliceSrc w 1 vb t.b.length (t.b.map byteV):=SliceSrc.of_owns hown (Zac _);obtain ⟨A0,k0,rfl⟩:=ZD hown;have H:=Zh h;clear h hown;have hmm:=@run_makeMap Tryz.prog;go_enter Tryz.func130,Tryz.ntmps130;go_wp2_with fail;refine (Za4 _ t.b.length (t.b.map byteV) w hsrc ht).mono ?_;rintro e w1 ⟨v1,rfl,ho1,hb1⟩;obtain ⟨A1,k1,rfl⟩:=ZD ho1;have h1:=H.o.row_fresh hb1 ho1;have h2:=(h1.alloc (.map #[] 0)).alloc (cells #[slice A1 t.b.length k1,.map (some w1.heap.size)] 218);rw [show (w1.alloc (.map #[] 0)).heap.size=w1.heap.size+1 by simp] at h2;have hx1:=(hb1.cell (p:=⟨b,1,none⟩) hlt).trans c1;have hsz1:=hb1.size;have hx2:World.cell? ((w1.alloc (.map #[] 0)).alloc (cells #[slice A1 t.b.length k1,.map (some w1.heap.size)] 218)) ⟨b,1,none⟩=some (.map (some m)):=Zc (h2.pull 3 _ rfl).heap 1;obtain ⟨M,hp,hM,h3⟩:=(h2.pull 5 _ rfl).attr_open;have hn:=h3.map_nodup;obtain ⟨w3,hrun,hsz,h4⟩:=h3.range (P:=Tryz.prog) (T:=Zaf) Tryz.underlying216;have hr:((w1.alloc (.map #[] 0)).alloc (cells #[slice A1 t.b.length k1,.map (some w1.heap.size)] 218)).heap.size=w1.heap.size+1+1:=by simp
 rw [hr] at hrun h4;have H4:=Zh h4;have HN:=Zh hn;have HM:=Zh hM;have HP':=Zh hp;clear h1 h2 h3 h4 hn hM hp ho1 hb1 hsrc c0 c1 H hr hsz;go_wp2_with fail
 go_loopw [4] (fun _ wr=>∃ (lm done:List (ByteArray × Value × List Int)) (I1:Hp),(lm++done).Perm M∧I.sub I1 ∧
  St W I1 wr (HP.iter Zaf m (w1.heap.size+1+1) (M.map fst3) (lm.map fst3)::HP.mapOf Zaf ZaL w1.heap.size (done.map dat3)::HP.pt (w1.heap.size+1) (cells #[slice A1 t.b.length k1,.map (some w1.heap.size)] 218)::ZaZ (slice A1 t.b.length k1) t.b::HP.pt b (cells #[slice A0 t.b.length k0,.map (some m)] 218)::ZaZ (slice A0 t.b.length k0) t.b::l)) (fun _ wr=>wr.rangeLeft m (w1.heap.size+1+1))
 case atStart =>
  refine ⟨M,[],I,by simp,Hp.sub.refl _,?_⟩;have h5:=(H4.o.pull 2 _ rfl).mapOf_made (T:=Zaf) (own:=ZaL);exact h5.pull 1 _ rfl
 case round =>
  obtain ⟨lm,done,I1,hpd,hI1,hst⟩:=hrel;rcases hst.nextM 0 with ⟨rfl,hrun⟩|⟨a,v,x,lm',w2,hpm,hrun,hsz2,hent,hst2⟩
  ·have HS:=Zh hst;have HQ:=Zh hpd;clear hst hpd;go_wp2;go_ret;have hq:(done.map dat3).Perm t.attr:=(HQ.o.map dat3).trans HP'.o;refine ⟨_,I1,rfl,hI1,?_⟩;have h6:=(HS.o.iter_shut_map).attr_shut HP'.o (fun x hx=>(Zbv _ _).mono hI1 (HM.o x hx));have h7:=h6.perm (m:=HP.pt b (cells #[slice A0 t.b.length k0,.map (some m)] 218)::ZaZ (slice A0 t.b.length k0) t.b::HP.mapOf Zaf ZaL m t.attr::HP.mapOf Zaf ZaL w1.heap.size (done.map dat3)::HP.pt (w1.heap.size+1) (cells #[slice A1 t.b.length k1,.map (some w1.heap.size)] 218)::ZaZ (slice A1 t.b.length k1) t.b::l) (by ((try simp only [Zx,Zy,ZZ,ZP]);repeat (first|with_reducible exact Zad _|(apply Zaq;(· repeat (first|with_reducible exact Zap|with_reducible apply Zao))))));have h8:=(h7.thing_shut.pull 1 _ rfl).mapOf_perm hq;exact (h8.perm (m:=HP.pt (w1.heap.size+1) (cells #[slice A1 t.b.length k1,.map (some w1.heap.size)] 218)::ZaZ (slice A1 t.b.length k1) t.b::HP.mapOf Zaf ZaL w1.heap.size t.attr::Zv (pointer (some ⟨b,0,none⟩)) t::l) (by ((try simp only [Zx,Zy,ZZ,ZP]);repeat (first|with_reducible exact Zad _|(apply Zaq;(· repeat (first|with_reducible exact Zap|with_reducible apply Zao))))))).thing_shut
  ·have hx:(a,v,x) ∈ M:=hpd.mem_iff.1 (Zet _ (hpm.mem_iff.2 (by simp)));have hxl:x.length<=1000000:=hta (a,x) (HP'.o.mem_iff.1 (ZH.2 ⟨_,hx,rfl⟩));have hbx:Zw I1 v x:=(Zbv _ _).mono hI1 (HM.o _ hx);have hsv:=ZbT hst2 hbx;obtain ⟨A2,k2,rfl,_⟩:=hbx;simp only [Zaf] at hrun hent;have cx:w2.cell? ⟨w1.heap.size+1,1,none⟩=some (.map (some w1.heap.size)):=Zc (hst2.pull 2 _ rfl).heap 1;have hxlt:=(hst2.pull 2 _ rfl).lt;have HS:=Zh hst2;have HQ:=Zh hpd;have HR:=Zh hst;have HL:=Zh hpm;have HX:=Zh hsv;clear hst hpd hst2 hpm hsv hx2 hx1 hsz1;go_wp2_with fail
   go_region_with (go_at_call 163
                   refine (Za4 _ _ _ _ (HX.o.below (ZR _ _).drew) hxl).mono ?_;rintro e w4 ⟨v4,rfl,ho4,hb4⟩;obtain ⟨A4,k4,rfl⟩:=ZD ho4;obtain ⟨I2,hI2,hB2,h5⟩:=ZcA HS.o.drew hb4 ho4;have H5:=Zh h5;obtain ⟨w5,hrun5,hsz5,h6⟩:=Zks hB2 (h5.pull 1 _ rfl) Tryz.underlying216 a;have cx4:=(hb4.cell (p:=⟨w1.heap.size+1,1,none⟩) (by simpa using hxlt)).trans cx;have H6:=Zh h6
                   clear h5 h6 hb4 ho4 hB2)
   all_goals
    have h9:=H6.o.mapOf_perm (Zpy HN.o HQ.o HL.o (slice A2 x.length k2));have H9:=Zh (h9.perm (m:=HP.iter Zaf m (w1.heap.size+1+1) (M.map fst3) (lm'.map fst3)::HP.mapOf Zaf ZaL w1.heap.size ((done++[(a,slice A2 x.length k2,x)]).map dat3)::HP.pt (w1.heap.size+1) (cells #[slice A1 t.b.length k1,.map (some w1.heap.size)] 218)::ZaZ (slice A1 t.b.length k1) t.b::HP.pt b (cells #[slice A0 t.b.length k0,.map (some m)] 218)::ZaZ (slice A0 t.b.length k0) t.b::l) (by ((try simp only [Zx,Zy,ZZ,ZP]);repeat (first|with_reducible exact Zad _|(apply Zaq;(· repeat (first|with_reducible exact Zap|with_reducible apply Zao)))))));clear h9;go_roundw;case rel =>
     refine ⟨_,_,_,_,_,_,_,_,_,_,_,_,_,_,⟨lm',done++[(a,slice A2 x.length k2,x)],I2,?_,hI1.trans hI2,H9.o⟩,rfl⟩;refine List.Perm.trans ?_ HQ.o;rw [<-Zam];exact Zes.trans (HL.o.symm.append_right done)
    case measure =>
     rw [H9.o.iter_left,HR.o.iter_left];simp [HL.o.length_eq]
end
end Go.Proofs.YtcbdghojlbpomaaGreat
namespace Go.Proofs.YtcbdghojlbpomaaGreat
end Go.Proofs.YtcbdghojlbpomaaGreat
