/-
  LinearizeOrder holds: for every graph that can be read as data the Go function returns true, and the argument reads as it did. Conditions: none beyond the statement's own.
-/
import Derived.Test.YtkjmdefgdongfaaF2
import Derived.Test.YtkjmdefgdongfaaO1
namespace Go.Proofs.Ytkjmdefgdongfaa
theorem linearizeOrder_holds : Rows.LinearizeOrderSaid := order_over fun vl ve g w hg => Go.Proofs.Lg.order_walk vl ve g w hg
#print axioms linearizeOrder_holds
end Go.Proofs.Ytkjmdefgdongfaa
