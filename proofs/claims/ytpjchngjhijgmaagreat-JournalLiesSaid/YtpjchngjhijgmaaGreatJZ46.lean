import Derived.Test.YtpjchngjhijgmaaGreatJZ40
set_option linter.all false
namespace Go.Proofs.YtpjchngjhijgmaaGreat
open Go.RowKit
structure A16 where
 what:Int
 n:Int
 m:Int
 off:Bool
 d:List Int
 dv:Value
 ts:List Tag
 tv:Value
 ns:List Int
 nv:Value
def isI16 (x:Int):Prop:=-9223372036854775808≤x∧x≤9223372036854775807
def A16.vals (a:A16):List Value:=[.int .i64 a.what,.int .i64 a.n,.int .i64 a.m,.bool a.off,a.dv,a.tv,a.nv]
def A16.val (a:A16):Value:=.agg #[.int .i64 a.what,.int .i64 a.n,.int .i64 a.m,.bool a.off,a.dv,a.tv,a.nv]
def A16.ok (I:Hp) (a:A16):Prop:=BytesI I a.dv a.d∧RowI I 4 a.tv a.ts.length (flat a.ts)∧IntsI I a.nv a.ns∧isI16 a.what∧isI16 a.n∧isI16 a.m
def A16.few (a:A16):Bool:=decide (¬ (120<a.d.length∨40<a.ts.length∨40<a.ns.length))
def few16 (l:List A16) (most:Int):Bool:=l.all A16.few&&decide ((l.length:Int)≤most)
section
variable {W w : World} {I : Hp} {l : List HP} {p : Nat} {S : Str}
set_option maxRecDepth 4000
set_option maxHeartbeats 8000000
end
end Go.Proofs.YtpjchngjhijgmaaGreat
