import Derived.Test.YtpjchngjhijgmaaGreatJP00
set_option linter.all false
set_option maxRecDepth 4000
set_option maxHeartbeats 8000000
open Go.RowKit
open Go.IntKind (i64 u64)
open Go.Value (int pointer slice)
open Go.Obj (cells)
namespace Go.Proofs.YtpjchngjhijgmaaGreat
section
variable {P : Program} {ops : Array Oper} {md : Region.Mode} {S : World -> Prop}
def Det (P:Program) (ops:Array Oper) (S:World->Prop) (o:Oper) (v:Value) (a:Act):Prop :=
 (Region.wanted o (yielded ops a.tmps)=true∧∀ w,S w->(execOp a.eval o).run P w=.ok (.value v) w ∨
   ∃ f args w1,(execOp a.eval o).run P w=.ok (.enter f args) w1∧Calls P f args w1 (fun e w'=>e=.returned v∧S w')) ∨
 (Region.wanted o (yielded ops a.tmps)=false∧v=undef)
def wpU (P:Program) (md:Region.Mode) (ops:Array Oper) (S:World->Prop) (M:Nat->Bool) (L:Array Bool->Act->Prop):Nat->Array Bool->Act->Prop
 | 0,listed,a=>L listed a
 | f+1,listed,a=>Region.ready md ops listed≠[]∧∀ i ∈ Region.ready md ops listed,M i=true∧∃ o v,ops[i]?=some o∧Det P ops S o v a∧wpU P md ops S M L f (listed.setIfInBounds i true) (a.put o.dst v)
def wpDet (P:Program) (ops:Array Oper) (S:World->Prop) (K:Act->Prop):List Oper->Act->Prop
 | [],a=>K a
 | o::l,a=>∃ v,Det P ops S o v a∧wpDet P ops S K l (a.put o.dst v)
def detB (md:Region.Mode) (l:List Oper) (head tail:List Nat):Bool :=
 Region.noSelect l.toArray&&Za2 md l.toArray head (Array.replicate l.length false) &&
  Zgz md l.toArray (fun t=>head.contains t) head (Array.replicate l.length false)&&tailB md l.toArray tail (Zag head (Array.replicate l.length false)) &&
  decide (head.length+tail.length=l.length)&&tail.all (fun t=>!head.contains t)
def hdB (md:Region.Mode) (l:List Oper) (early one head tail:List Nat):Bool :=
 Region.noSelect l.toArray&&Za2 md l.toArray early (Array.replicate l.length false)&&ZdW md l.toArray one (Zag early (Array.replicate l.length false)) &&
  Za2 md l.toArray head (Zag one (Zag early (Array.replicate l.length false))) &&
  Zgz md l.toArray (fun t=>head.contains t) head (Zag one (Zag early (Array.replicate l.length false))) &&
  tailB md l.toArray tail (Zag head (Zag one (Zag early (Array.replicate l.length false)))) &&
  ((List.range l.length).all fun t=>early.contains t||early.all fun k=>reaches md l.toArray k l.length t) &&
  decide (early.length+(one.length+(head.length+tail.length))=l.length)&&(early.all fun t=>(Zag early (Array.replicate l.length false)).getD t false)&&tail.all (fun t=>!head.contains t)
end
end Go.Proofs.YtpjchngjhijgmaaGreat
