/- What stood stands. -/
import Derived.Test.YteciomagemjjaaaLPrJ
namespace Go.Proofs.Yteciomagemjjaaa.J
open Go.RowKit Go.Proofs.YteciomagemjjaaaW.PrintWords Go.Proofs.YteciomagemjjaaaW.PrintLast Go.Proofs.YteciomagemjjaaaW.PrintMore
/-- What stood in w0 stands. -/
def BF (w0 W : World) : Prop := Below w0.heap.size w0 W
theorem BF.refl_ (w : World) : BF w w := Below.refl _ _
theorem uF {w0 W W' : World} (h : za (BF w0 W)) (u : Below W.heap.size W W' := by with_reducible repeat (first | exact Below.refl _ _ | apply zw | apply zo | apply zv)) : Below w0.heap.size w0 W' := zh h.out u
theorem dF {w0 W W' W2 : World} (h : za (BF w0 W)) (k : Below W'.heap.size W' W2) (u : Below W.heap.size W W' := by with_reducible repeat (first | exact Below.refl _ _ | apply zw | apply zo | apply zv)) : za (BF w0 W2) := ⟨zh (zh h.out u) k⟩
end Go.Proofs.Yteciomagemjjaaa.J
