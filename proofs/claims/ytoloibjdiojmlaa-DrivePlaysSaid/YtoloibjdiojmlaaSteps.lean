import Derived.Test.YtoloibjdiojmlaaWTab
import Derived.Test.YtoloibjdiojmlaaVStr
/-! A region that draws its order, in the order of the text: one lemma a step, the same words for each operation. -/
namespace Go.Proofs.YtoloibjdiojmlaaW.PrintLast
open Go.Proofs.YtoloibjdiojmlaaW.PrintWords (Aside0)
/-- The first i of an order have come up. -/
def pre (n : Nat) (o : List Nat) (i : Nat) : Array Bool := ((List.range n).map fun j => (o.take i).contains j).toArray
section
variable {P : Program} {ops : Array Oper} {Q : Exit → Act → World → Prop} {md : Region.Mode} {S : World → Prop} {ds : List Nat}
theorem stepStart {id : Nat} {a : Act} {w : World} (S : World → Prop) (n : Nat) (o : List Nat) {T : Bool × List (List Nat × List Nat)} {B : List Nat} (hT : rtab .any ops = T) (hB : waitsOk T.2 B = true) (hm : P.follows .mixedOrders = true) (hn : ops.size = n) (hS : S w.drew)
    (h : Aside0 (rtab .any ops = T) → Aside0 (waitsOk T.2 B = true) → S w.drew → wpAnyLast P .any ops Q S [] n (pre n o 0) a w.drew) : (Code.region id ops true).wp P Q a w :=
  start_ (pre n o 0) hm hn (by subst hn; unfold pre; apply Array.ext <;> simp) hS (fun hs => h ⟨hT⟩ ⟨hB⟩ hs)
theorem stepPu {i n : Nat} {o : List Nat} {oi : Oper} {N : Tmp} {v : Value} {fuel : Nat} {a : Act} {w : World} (hi : ops[o.getD i 0]? = some oi) (hN : oi.dst = some N) (hc : anyB md ops (pre n o i) (pre n o (i + 1)) (o.getD i 0) = true)
    (hQ : ∀ c a w, Q (.panic c) (a.put oi.dst v) w → Q (.panic c) a w) (hy : Yields P ops oi v a) {a' : Act} (ha : a.put (some N) v = a')
    (h : wpAnyLast P md ops Q S ds fuel (pre n o (i + 1)) a' w) : wpAnyLast P md ops Q S ds (fuel + 1) (pre n o i) a w := pure_ (pre n o (i + 1)) hi hN hc hQ hy ha h
theorem stepLd {i n : Nat} {o : List Nat} {oi : Oper} {N : Tmp} {v : Value} {fuel : Nat} {a : Act} {w : World} (hi : ops[o.getD i 0]? = some oi) (hN : oi.dst = some N) (hc : takeB md ops ds (pre n o i) (pre n o (i + 1)) (o.getD i 0) = true)
    (hQ : ∀ c a w, Q (.panic c) (a.put oi.dst v) w → Q (.panic c) a w) (hy : YieldsIf P ops S oi v a) (hS : S w) {a' : Act} (ha : a.put (some N) v = a')
    (h : wpAnyLast P md ops Q S ds fuel (pre n o (i + 1)) a' w) : wpAnyLast P md ops Q S ds (fuel + 1) (pre n o i) a w := take_ (pre n o (i + 1)) hi hN hc hQ hy hS ha h
theorem stepOne {i n : Nat} {o : List Nat} {oi : Oper} {N : Tmp} {fuel : Nat} {a : Act} {w : World} (hi : ops[o.getD i 0]? = some oi) (hN : oi.dst = some N) (hc : readyB md ops (pre n o i) (pre n o (i + 1)) (o.getD i 0) = true) (hd : o.getD i 0 ∉ ds)
    (h : ∀ K : Act → World → Prop, Shut (∀ a' w', S w' → (S w' → wpAnyLast P md ops Q S ds fuel (pre n o (i + 1)) a' w') → K a' w') → if Region.wanted oi (yielded ops a.tmps) = true then Oper.wp P oi a w K Q else K (a.put (some N) undef) w) :
    wpAnyLast P md ops Q S ds (fuel + 1) (pre n o i) a w := one_ (pre n o (i + 1)) hi hN hc hd h
end
end Go.Proofs.YtoloibjdiojmlaaW.PrintLast
