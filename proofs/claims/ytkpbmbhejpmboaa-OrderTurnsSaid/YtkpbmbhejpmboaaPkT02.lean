/- jacquardlaw17.OrderTurns, of all values that may come in. -/
import Derived.Test.YtkpbmbhejpmboaaPkT00
import Derived.Test.YtkpbmbhejpmboaaPkT01
import Derived.Test.YtkpbmbhejpmboaaPkB03
import Derived.OpenShut
namespace Go.Proofs.Ytkpbmbhejpmboaa
open Go.RowKit Go.ChangeShapes Go.WideShapes
set_option linter.unusedVariables false
set_option maxRecDepth 100000
theorem law_turns {H : Type} {enc:TypeId × Value→H} {W : World} {base:Nat} {held:Bool} {r : Reach} {b0:Nat} {d0 d1:DataW H} {p0 p1:List MemPlace} (v0 v1:Value)
  (k0:Value.okWide Try.prog W r b0 25 v0) (h0:DataW.Trod enc Try.prog W base (fun _=>true) held 25 v0 d0 p0)
  (k1:Value.okWide Try.prog W r b0 73 v1) (h1:DataW.Trod enc Try.prog W base (fun _=>true) held 73 v1 d1 p1) :
  Calls Try.prog 8 #[v0,v1] W (TellsS true W):=by
 obtain⟨l,hl,_⟩:=ints_open k0 h0;obtain⟨x0,x1,l1,l2,rfl,g1,g2⟩:=by_open k1 h1;exact walk_turns v0 l l1 l2 x0 x1 W hl (okWide_lt Try.underlying25 k0) g1 g2
end Go.Proofs.Ytkpbmbhejpmboaa
