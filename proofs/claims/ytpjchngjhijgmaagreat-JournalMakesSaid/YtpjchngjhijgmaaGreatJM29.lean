import Derived.Test.YtpjchngjhijgmaaGreatJM28
set_option linter.all false
namespace Go.Proofs.YtpjchngjhijgmaaGreat
open Go.RowKit
def SeenB (S:Str):Prop:=∀ k t,get k S.seen=some t→∀ y ∈ t.b,isByte y
def BytO (o:Option TS):Prop:=∀ t,o=some t→∀ y ∈ t.b,isByte y
theorem Zq405 {b:List Int} {off:Nat} {p:List Int} (hb:∀ y ∈ b,isByte y) (hp:∀ y ∈ p,isByte y):∀ y ∈ layB b off p,isByte y:=by
 intro y hy
 unfold layB at hy
 split at hy
 ·exact hb y hy
 ·simp only [List.mem_append] at hy
  rcases hy with (hy|hy)|hy
  ·rcases List.mem_append.1 (List.mem_of_mem_take hy) with hy|hy
   ·exact hb y hy
   ·rw [List.eq_of_mem_replicate hy];unfold isByte;omega
  ·exact hp y hy
  ·exact hb y (List.mem_of_mem_drop hy)
theorem Zq556 {o:Option TS} {d:Dd} (ho:BytO o) (hd:∀ y ∈ d.p,isByte y):BytO (stepD o d):=by
 intro t ht
 unfold stepD at ht
 split at ht
 ·simp only [Option.some.injEq] at ht
  subst ht
  intro y hy
  cases hy
 split at ht
 ·cases ht
 split at ht
 ·cases ht
 rename_i u
 have hu:=ho u rfl
 split at ht
 ·simp only [Option.some.injEq] at ht
  subst ht
  exact Zq405 hu hd
 split at ht
 ·simp only [Option.some.injEq] at ht
  subst ht
  exact fun y hy=>hu y (List.mem_of_mem_take hy)
 split at ht
 ·simp only [Option.some.injEq] at ht
  subst ht
  exact hu
 ·simp only [Option.some.injEq] at ht
  subst ht
  exact hu
theorem Zq459 {S:Str} {k:K4} {d:Dd} (h:SeenB S) (hd:∀ y ∈ d.p,isByte y) (h0:offE (doS S k d).1=0):SeenB (doS S k d).2:=by
 have hb:(Zq32 S).1=false:=by
  cases hb:(Zq32 S).1 with
  | false=>rfl
  | true=>rw [Zq815 hb] at h0;cases h0
 have hdn:=(Zq495 (k:=k) (d:=d) hb).2
 intro k' t ht
 rw [hdn.seen] at ht
 split at ht
 ·exact Zq556 (fun t ht=>h k t ht) hd t ht
 ·exact h k' t ht
theorem Zq655 {S:Str} {k:K4} (h:SeenB S) (h0:(dropS S k).1=0):SeenB (dropS S k).2:=by
 unfold dropS at h0 ⊢
 split
 ·rename_i hw
  rw [if_pos hw] at h0
  exact Zq459 h (fun y hy=>by cases hy) h0
 ·exact h
theorem Zq406 {S:Str} {k:K4} {n:Int} (h:SeenB S) (h0:(trimS S k n).1=0):SeenB (trimS S k n).2:=by
 unfold trimS at h0 ⊢
 split
 ·rename_i t ht
  rw [ht] at h0
  simp only at h0
  split
  ·rename_i hw
   rw [if_pos hw] at h0
   exact Zq459 h (fun y hy=>by cases hy) h0
  ·exact h
 ·exact h
theorem Zq557 {S:Str} {k:K4} {off:Int} {b:List Int} (h:SeenB S) (hb:∀ y ∈ b,isByte y) (h0:(Zq134 S k off b).1=0):SeenB (Zq134 S k off b).2:=by
 by_cases hw:whyS S k=0
 ·cases hg:get k S.seen with
  | none =>
   unfold Zq134 at h0 ⊢
   rw [hg] at h0 ⊢
   exact h
  | some t =>
   by_cases hw2:Zq71 S t off b=0
   ·rw [Zq341 hw hg hw2] at h0 ⊢
    exact Zq459 h hb h0
   ·rw [Zq271 hw hg hw2]
    exact h
 ·rw [Zq270 hw]
  exact h
theorem Zq407 {S:Str} {k:K4} {off n:Int} (h:SeenB S):∀ y ∈ (readS S k off n).1,isByte y:=by
 intro y hy
 unfold readS at hy
 split at hy
 ·split at hy
  ·cases hy
  ·rename_i t ht
   split at hy
   ·cases hy
   ·exact h k t ht y (List.mem_of_mem_drop (List.mem_of_mem_take hy))
 ·cases hy
theorem Zq408 {mm:List (K4 × List Int)} {k:K4} {S:Str} {m:Nat} (h:Keeps S (m+4)):Keeps (fixS mm k S).2 m:=by
 have h2:Keeps S (m+2):=h.fewer (by omega)
 unfold fixS
 split
 ·exact h.fewer (by omega)
 split
 ·exact h.fewer (by omega)
 split
 ·exact Zq108 h2
 split
 ·exact Zq168 h2
 split
 ·exact Zq168 h2
 ·exact Zq447 (Zq168 (m:=m+2) h)
theorem Zq656 {mm:List (K4 × List Int)} {k:K4} {S:Str} (h:SeenB S) (hm:∀ y ∈ Zq19 mm k,isByte y) (h0:(fixS mm k S).1=0):SeenB (fixS mm k S).2:=by
 unfold fixS at h0 ⊢
 split
 ·exact h
 rename_i h1
 rw [if_neg h1] at h0
 split
 ·exact h
 rename_i h2
 rw [if_neg h2] at h0
 split
 ·rename_i h3
  rw [if_pos h3] at h0
  exact Zq655 h h0
 rename_i h3
 rw [if_neg h3] at h0
 split
 ·rename_i h4
  rw [if_pos h4] at h0
  exact Zq406 h h0
 rename_i h4
 rw [if_neg h4] at h0
 split
 ·rename_i h5
  rw [if_pos h5] at h0
  exact absurd h0 h5
 ·rename_i h5
  rw [if_neg h5] at h0
  exact Zq557 (Zq406 h (by simpa using h5)) hm h0
theorem Zq275 {mm:List (K4 × List Int)}:∀ {ks:List K4} {S:Str} {m:Nat},Keeps S (m+4*ks.length)→Keeps (fixL mm ks S).2 m
 | [],S,m,h=>Zq76 (by simpa using h)
 | k::ks,S,m,h=>by
  have h1:Keeps (fixS mm k S).2 (m+4*ks.length):=Zq408 (by simpa [Nat.mul_add,Nat.add_assoc] using h)
  unfold fixL
  split
  ·exact h1.fewer (by omega)
  ·exact Zq275 h1
theorem Zq409 {c:Rg}:∀ {es:List En} {ps:List Pl} {m:List (K4 × List Int)},(∀ e ∈ es,∀ y ∈ e.data,isByte y)→(∀ k,∀ y ∈ Zq19 m k,isByte y)→∀ k,∀ y ∈ Zq19 (Zq235 c es ps m) k,isByte y
 | [],[],m,_,hm=>hm
 | [],_::_,m,_,hm=>hm
 | _::_,[],m,_,hm=>hm
 | e::es,p::ps,m,he,hm=>by
  refine Zq409 (es:=es) (ps:=ps) (m:=Zq281 m (keyOf c p) (Zq46 e)) (fun x hx=>he x (List.mem_cons_of_mem _ hx)) fun k y hy=>?_
  have hf:∀ y ∈ Zq46 e,isByte y:=fun y hy=>by
   have hpb:∀ n k,∀ y ∈ putB n k,isByte y:=fun n k y hy=>by
    unfold putB at hy
    obtain ⟨i,_,rfl⟩:=List.mem_map.1 hy
    unfold isByte
    omega
   unfold Zq46 headB at hy
   simp only [List.mem_append] at hy
   rcases hy with ((((hy|hy)|hy)|hy)|hy)|hy
   ·simp only [List.mem_cons,List.not_mem_nil,or_false] at hy
    unfold isByte
    omega
   ·exact hpb _ _ y hy
   ·exact hpb _ _ y hy
   ·exact hpb _ _ y hy
   ·exact he e (List.mem_cons_self ..) y hy
   ·exact hpb _ _ y hy
  unfold Zq19 Zq281 at hy
  by_cases h:k=keyOf c p
  ·subst h
   rw [Zq44] at hy
   simp only [Option.getD_some] at hy
   rcases List.mem_append.1 hy with hy|hy
   ·exact hm _ y hy
   ·exact hf y hy
  ·rw [Zq74 h] at hy
   exact hm k y hy
section
variable {W w w' : World} {I : Hp} {l : List HP} {p q : Nat} {J : Jn} {S : Str}
theorem St.jn_ptr (h:St W I w (jnHP q p J::l)):w.cell? ⟨q,0,none⟩=some (.pointer (some ⟨p,0,none⟩))∧q<w.heap.size:=by
 obtain ⟨V,hr,h1⟩:=h.jn_open
 exact ⟨jn_c0 h1,h1.lt⟩
theorem St.jn_bytes (h:St W I w (jnHP q p J::l)):∀ e ∈ J.l,∀ y ∈ e.data,isByte y:=by
 obtain ⟨V,hr,h1⟩:=h.jn_open
 obtain ⟨M,e,hM,_⟩:=(h1.pull 1 _ rfl).ents_open
 intro x hx
 rw [←e] at hx
 obtain ⟨z,hz,rfl⟩:=List.mem_map.1 hx
 exact (hM z hz).2
theorem St.want_look {b:Nat} {m:List (K4 × List Int)} (k:K4) (h:St W I w (Zq286 b m::l)) :
  ∃ A c H,(∀ w2,Below w.heap.size w w2→(Instr.lookup 215 (.map (some b)) k.val false).run Tryz.prog w2=.ok (.slice A (Zq19 m k).length c) w2) ∧
   St W I w (rowHP (.slice A (Zq19 m k).length c) (Zq19 m k)::H::l)∧(∀ {I':Hp} {w':World} {l':List HP},St W I' w' (rowHP (.slice A (Zq19 m k).length c) (Zq19 m k)::H::l')→St W I' w' (Zq286 b m::l')):=by
 have hn:=St.mapOf_nodup h
 rcases St.mapOf_look h Tryz.underlying215 (z:=.slice none 0 0) (fun w=>by kernel_rfl) k with ⟨hg,hl⟩|⟨v,x,hg,hl,h1⟩
 ·have e:Zq19 m k=[]:=by simp [Zq19,hg]
  rw [e]
  exact ⟨none,0,Zq286 b m,fun w2 hw=>hl w2 hw false,h.row_nil _ _,fun h'=>h'.drop⟩
 ·have e:Zq19 m k=x:=by simp [Zq19,hg]
  rw [e]
  obtain ⟨A,c,rfl⟩:=Zq17 (St.row_owns h1)
  exact ⟨A,c,_,fun w2 hw=>hl w2 hw false,h1,fun h'=>St.mapOf_perm h'.hole_back (Zq72 hn hg).symm⟩
end
end Go.Proofs.YtpjchngjhijgmaaGreat
