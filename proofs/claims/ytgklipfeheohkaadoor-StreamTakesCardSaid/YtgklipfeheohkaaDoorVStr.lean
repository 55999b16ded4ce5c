import Derived.Test.YtgklipfeheohkaaDoorWWords
import Derived.Test.YtgklipfeheohkaaDoorWMore
namespace Go.Proofs.YtgklipfeheohkaaDoor.Own
open Go.RowKit Go.Proofs.YtgklipfeheohkaaDoorW.PrintWords Go.Proofs.YtgklipfeheohkaaDoorW.PrintLast
theorem V_string {P : Program} {src dst e e0 base : Nat} {w : World} {ok : Nat → Prop} {v : Value} {xs : List Int}
    (hs : P.underlying src = some (.slice e)) (he : P.underlying e = some (.int .u8)) (hd : P.underlying dst = some .string) (h : Kd.V (Kd.int .u8) e0 w base ok v xs) : (convert src dst v).run P w = .ok (.string (strOfNums xs)) w := by
  obtain ⟨A, c, rfl⟩ := Kd.V_slice h
  exact Kd.C_string hs he hd (Kd.V_reads' h).2.2
end Go.Proofs.YtgklipfeheohkaaDoor.Own
namespace Go.Proofs.YtgklipfeheohkaaDoorW.PrintLast
open Go.Proofs.YtgklipfeheohkaaDoorW.PrintWords (Aside0)
/-- What has come up, as bits. -/
def bl_ (n m : Nat) : Array Bool := ((List.range n).map fun i => m.testBit i).toArray
end Go.Proofs.YtgklipfeheohkaaDoorW.PrintLast
