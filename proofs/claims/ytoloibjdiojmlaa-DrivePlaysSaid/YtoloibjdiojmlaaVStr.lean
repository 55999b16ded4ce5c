import Derived.Test.YtoloibjdiojmlaaWWords
import Derived.Test.YtoloibjdiojmlaaWMore
/-! A string made of a shared row. -/
namespace Go.Proofs.Ytoloibjdiojmlaa.Own
open Go.RowKit Go.Proofs.YtoloibjdiojmlaaW.PrintWords Go.Proofs.YtoloibjdiojmlaaW.PrintLast
theorem V_string {P : Program} {src dst e e0 base : Nat} {w : World} {ok : Nat → Prop} {v : Value} {xs : List Int}
    (hs : P.underlying src = some (.slice e)) (he : P.underlying e = some (.int .u8)) (hd : P.underlying dst = some .string) (h : Kd.V (Kd.int .u8) e0 w base ok v xs) : (convert src dst v).run P w = .ok (.string (strOfNums xs)) w := by
  obtain ⟨A, c, rfl⟩ := Kd.V_slice h
  exact Kd.C_string hs he hd (Kd.V_reads' h).2.2
end Go.Proofs.Ytoloibjdiojmlaa.Own
namespace Go.Proofs.YtoloibjdiojmlaaW.PrintLast
open Go.Proofs.YtoloibjdiojmlaaW.PrintWords (Aside0)
/-- What has come up, as bits. -/
def bl_ (n m : Nat) : Array Bool := ((List.range n).map fun i => m.testBit i).toArray
/-- A call of a function value that a slot holds: as 'goes_'. -/
theorem goesV_ {P : Program} {ops : Array Oper} {Q : Exit → Act → World → Prop} {oi : Oper} {N : Option Tmp} {a : Act} {w : World} {K : Act → World → Prop} {f : FuncId} {fn : Func} {as : Array Operand} {ts : Array TypeId} {k : Nat} (hf : P.funcs[f]? = some fn) (hname : (fn.name == "runtime.NumGoroutine") = false) (hb : fn.body.isSome = true) (args : Array Value)
    (hw : Region.wanted oi (yielded ops a.tmps) = true) (hN : oi.dst = N) (hop : oi.op = .call { callee := .value (.tmp k), args := as, argTypes := ts }) (hargs : as.map a.eval = args)
    (h : Calls P f args w fun e w' => ∃ v, e = .returned v ∧ K (a.put N v) w') (hv : a.eval (.tmp k) = .func (.func f) #[] #[] := by rfl) : if Region.wanted oi (yielded ops a.tmps) = true then Oper.wp P oi a w K Q else K (a.put N undef) w := by
  refine call_ f args hw hN ?_ h
  have he := enters_ hf hname hb args w
  unfold execOp
  simp [hop, resolve, Deferred.ofValue, invoke, hv, hargs, he]
end Go.Proofs.YtoloibjdiojmlaaW.PrintLast
