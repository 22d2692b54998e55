/- lane.Ordered in closed form. Condition: the batches are fewer than memory holds. -/
import Derived.Test.YtldpaoaiapedjaaPureA
import Derived.Test.YtldpaoaiapedjaaE2
namespace Go.Proofs.Ytldpaoaiapedjaa.Pure
open Go.RowKit Go.Proofs.Ytldpaoaiapedjaa.Q Go.Proofs.YtldpaoaiapedjaaW.PrintWords Go.Proofs.YtldpaoaiapedjaaW.PrintLast Go.Proofs.YtldpaoaiapedjaaW.PrintMore
theorem ordered_f (a n : Int) (p : List ByteArray) (op : List S42) (seq : Int) (hl : op.length ≤ 3518437208782) : lane_Ordered.f a n p op seq = some (setV a n p (lessV op seq)) := by
  have h := len_less op seq
  unfold lane_Ordered.f
  rw [if_pos (by omega)]
  exact settled_f a n p (lessV op seq) (by omega)
end Go.Proofs.Ytldpaoaiapedjaa.Pure
