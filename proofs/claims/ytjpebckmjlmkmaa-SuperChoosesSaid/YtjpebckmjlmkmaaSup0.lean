/- A superblock, in plain words. -/
import Derived.Test.YtjpebckmjlmkmaaProg
import Derived.Test.YtjpebckmjlmkmaaWWords
import Derived.Test.YtjpebckmjlmkmaaWLast
import Derived.Test.YtjpebckmjlmkmaaWMore
import Derived.Test.YtjpebckmjlmkmaaOwn
import Derived.Deep.MidRow
import Derived.Laws.NewBlocks
namespace Go.Proofs.Ytjpebckmjlmkmaa.P
open Go.RowKit Go.Proofs.YtjpebckmjlmkmaaW.PrintWords Go.Proofs.YtjpebckmjlmkmaaW.PrintLast Go.Proofs.YtjpebckmjlmkmaaW.PrintMore
set_option linter.unusedVariables false
/-- A subvolume as a superblock has it. -/
structure VolS where
  name : ByteArray
  ro : Bool
  root : Int
  next : Int
def VolS.cells (v : VolS) : List Value := [.string v.name, .bool v.ro, .int .i64 v.root, .int .i64 v.next]
def VolS.zero : VolS := ⟨⟨#[]⟩, false, 0, 0⟩
/-- A superblock. -/
structure SupS where
  gen : Int
  sectors : Int
  log : Int
  vols : List VolS
def volsC (l : List VolS) : List Value := l.flatMap VolS.cells
def SupS.cells (s : SupS) : List Value := [.int .i64 s.gen, .int .i64 s.sectors, .int .i64 s.log] ++ volsC s.vols
theorem volsC_length (l : List VolS) : (volsC l).length = 4 * l.length := by
  induction l with
  | nil => rfl
  | cons v l ih =>
    show (v.cells ++ volsC l).length = _
    rw [List.length_append, ih, List.length_cons]
    show 4 + _ = _
    omega
theorem volsC_one (l : List VolS) : ∀ v ∈ volsC l, v.oneCell' = true := by
  intro v hv
  unfold volsC at hv
  obtain ⟨q, _, hq⟩ := List.mem_flatMap.1 hv
  unfold VolS.cells at hq
  simp at hq
  rcases hq with rfl | rfl | rfl | rfl <;> rfl
theorem cells_length (s : SupS) (h : s.vols.length = 8) : s.cells.length = 35 := by
  unfold SupS.cells
  rw [List.length_append, volsC_length, h]
  rfl
theorem cells_one (s : SupS) : ∀ v ∈ s.cells, v.oneCell' = true := by
  intro v hv
  unfold SupS.cells at hv
  rcases List.mem_append.1 hv with hv | hv
  · simp at hv
    rcases hv with rfl | rfl | rfl <;> rfl
  · exact volsC_one _ v hv
/-- The cells of the i-th of the subvolumes. -/
theorem volsC_at (l : List VolS) : ∀ (i : Nat) (h : i < l.length), ((volsC l).drop (4 * i)).take 4 = (l[i]).cells := by
  induction l with
  | nil => intro i h; exact absurd h (Nat.not_lt_zero _)
  | cons v l ih =>
    intro i h
    have e : volsC (v :: l) = v.cells ++ volsC l := rfl
    have e4 : v.cells.length = 4 := rfl
    cases i with
    | zero =>
      rw [e, Nat.mul_zero, List.drop_zero, List.take_left' e4]
      rfl
    | succ i =>
      have := ih i (by simpa using h)
      rw [e, show 4 * (i + 1) = v.cells.length + 4 * i by rw [e4]; omega, ← List.drop_drop, List.drop_left, this]
      rfl
/-- A range of a new block's cells. -/
theorem rangeAt_new (w : World) (C : Array Value) (t o : Nat) (cs : List Value) (h : cs = (C.toList.drop o).take cs.length) : (w.alloc (.cells C t)).rangeAt w.heap.size o cs := by
  intro j v hv
  have hj : j < cs.length := (List.getElem?_eq_some_iff.1 hv).1
  rw [World.cell?_alloc_at (w := w) C t w.heap.size (o + j) rfl]
  rw [h, List.getElem?_take_of_lt hj, List.getElem?_drop] at hv
  simpa using hv
theorem vols_range (s : SupS) (h : s.vols.length = 8) : volsC s.vols = ((s.cells.toArray).toList.drop 3).take (volsC s.vols).length := by
  show volsC s.vols = (volsC s.vols).take _
  rw [List.take_length]
end Go.Proofs.Ytjpebckmjlmkmaa.P
