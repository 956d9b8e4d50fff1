import Derived.Test.YtpjchngjhijgmaaGreatJM47
set_option linter.all false
namespace Go.Proofs.YtpjchngjhijgmaaGreat
open Go.RowKit Go.ChangeShapes Go.WideShapes Go.ChangeAt Go.Deep Go.Joins
set_option maxRecDepth 100000
section
variable {H : Type} {enc : TypeId × Value → H} {w : World} {base : Nat} {spare : Nat → Bool} {held : Bool}
theorem Zq689:Tryz.prog.cellsOf 80=4:=by kernel_rfl
theorem Zq571:Tryz.prog.cellsOf 26=3:=by kernel_rfl
theorem Zq881 (fuel:Nat) (cs:List Value) (x:DataW H × List MemPlace) (hl:cs.length=4) (h:DataW.trod enc Tryz.prog w base spare held fuel 80 cs=some x):∃ a:Tag,cs=a.vals∧True:=by
 match cs,hl with
 | [c0,c1,c2,c3],_ =>
  obtain ⟨m0,rfl,_⟩:=Zq151 Tryz.underlying80 h 0 _ rfl rfl Tryz.underlying3 Zq142 (c:=c0) rfl
  obtain ⟨m1,rfl,_⟩:=Zq151 Tryz.underlying80 h 1 _ rfl rfl Tryz.underlying3 Zq142 (c:=c1) rfl
  obtain ⟨m2,rfl,_⟩:=Zq151 Tryz.underlying80 h 2 _ rfl rfl Tryz.underlying3 Zq142 (c:=c2) rfl
  obtain ⟨m3,rfl,_⟩:=Zq151 Tryz.underlying80 h 3 _ rfl rfl Tryz.underlying3 Zq142 (c:=c3) rfl
  exact ⟨⟨m0,m1,m2,m3⟩,rfl,trivial⟩
theorem open_tagsM {r:Reach} {b0:Nat} {v:Value} {d:DataW H} {p:List MemPlace} (hv:Value.okWide Tryz.prog w r b0 65 v) (h:DataW.Trod enc Tryz.prog w base spare held 65 v d p) :
  ∃ l:List Tag,RowI w.hp 4 v l.length (flat l)∧l.length≤maxLen:=by
 obtain ⟨A,n,c,e⟩:=okWide_slice Tryz.underlying65 hv
 haveI:Nonempty Tag:=⟨⟨0,0,0,0⟩⟩
 obtain ⟨l,h1,_,h3⟩:=Zq880 (P:=Tryz.prog) Tag.vals (fun _=>True) (fun _=>rfl) (by decide) Tryz.underlying65 Zq689 Zq881 h ⟨A,n,c,e⟩
 exact ⟨l,h1,h3⟩
theorem open_ringM {r:Reach} {b0:Nat} {v:Value} {d:DataW H} {p:List MemPlace} (hv:Value.okWide Tryz.prog w r b0 26 v) (h:DataW.Trod enc Tryz.prog w base spare held 26 v d p) :
  ∃ c:Rg,v=c.val:=by
 obtain ⟨cs,rfl,hsz⟩:=okWide_struct Tryz.underlying26 hv
 obtain ⟨l⟩:=cs
 rw [Zq571] at hsz
 obtain ⟨fuel,hf⟩:=h
 match l,hsz with
 | [c0,c1,c2],_ =>
  obtain ⟨m0,rfl,_⟩:=Zq151 Tryz.underlying26 hf 0 _ rfl rfl Tryz.underlying3 Zq142 (c:=c0) rfl
  obtain ⟨m1,rfl,_⟩:=Zq151 Tryz.underlying26 hf 1 _ rfl rfl Tryz.underlying3 Zq142 (c:=c1) rfl
  obtain ⟨m2,rfl,_⟩:=Zq151 Tryz.underlying26 hf 2 _ rfl rfl Tryz.underlying3 Zq142 (c:=c2) rfl
  exact ⟨⟨m0,m1,m2⟩,rfl⟩
end
end Go.Proofs.YtpjchngjhijgmaaGreat
