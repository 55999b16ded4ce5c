/- What DrivePlays stands on: the operations that come in, results told as one. -/
import Derived.Test.YtoloibjdiojmlaaTurns
import Derived.Test.YtoloibjdiojmlaaDrv9
import Derived.Test.YtoloibjdiojmlaaRef6
namespace Go.Proofs.Ytoloibjdiojmlaa.P
open Go.RowKit Go.Proofs.YtoloibjdiojmlaaW.PrintWords Go.Proofs.YtoloibjdiojmlaaW.PrintLast Go.Proofs.YtoloibjdiojmlaaW.PrintMore Go.Proofs.Ytoloibjdiojmlaa.Sep
set_option linter.unusedVariables false
set_option linter.unusedSimpArgs false
structure OpD where
  kind : Int
  s : Int
  n : Int
  v : Int
  keep : List Int
def kOpD : Kd OpD := Kd.iso (Kd.pair (Kd.int .i64) (Kd.pair (Kd.int .i64) (Kd.pair (Kd.int .i64) (Kd.pair (Kd.int .i64) (Kd.slice 3 (Kd.int .i64)))))) (fun o => (o.kind, o.s, o.n, o.v, o.keep))
def opZ : OpD := ⟨0, 0, 0, 0, []⟩
section
variable {w0 w : World}
theorem opsD_at {A : Option Addr} {N : Nat} {l : List OpD} (hb : Below w0.heap.size w0 w) (hr : Kd.C kOpD w0 A N l) (j : Nat) (hj : j < N) :
    ∃ ad Ak ck, A = some ad ∧ (l.getD j opZ).keep.length ≤ ck ∧ Kd.C (Kd.int .i64) w0 Ak (l.getD j opZ).keep.length (l.getD j opZ).keep ∧ w.cell? (ad.add (j * 5)) = some (.int .i64 (l.getD j opZ).kind) ∧ w.cell? ⟨(ad.add (j * 5)).block, (ad.add (j * 5)).off + 1, none⟩ = some (.int .i64 (l.getD j opZ).s) ∧ w.cell? ⟨(ad.add (j * 5)).block, (ad.add (j * 5)).off + 2, none⟩ = some (.int .i64 (l.getD j opZ).n) ∧ w.cell? ⟨(ad.add (j * 5)).block, (ad.add (j * 5)).off + 3, none⟩ = some (.int .i64 (l.getD j opZ).v) ∧ w.cell? ⟨(ad.add (j * 5)).block, (ad.add (j * 5)).off + 4, none⟩ = some (.slice Ak (l.getD j opZ).keep.length ck) := by
  obtain ⟨ad, c, hA, hcl, hK, hcs⟩ := Kd.C_get hr opZ (j : Int) (by omega) (by omega)
  rw [Int.toNat_natCast] at hK hcs
  obtain ⟨_, _, rfl, rfl, ⟨_, _, rfl, rfl, ⟨_, _, rfl, rfl, ⟨_, _, rfl, rfl, ⟨Ak, ck, rfl, hl, hC⟩⟩⟩⟩⟩ := hK
  have hcw : ∀ k u, [Value.int .i64 (l.getD j opZ).kind, .int .i64 (l.getD j opZ).s, .int .i64 (l.getD j opZ).n, .int .i64 (l.getD j opZ).v, .slice Ak (l.getD j opZ).keep.length ck][k]? = some u → w.cell? (ad.add (j * 5 + k)) = some u := fun k u h => (hb.cell (World.block_lt_of_cell? w0 _ (hcs k u h))).trans (hcs k u h)
  exact ⟨ad, Ak, ck, hA, hl, hC, hcw 0 _ rfl, by rw [← add_field ad (j * 5) 1 (by decide)]; exact hcw 1 _ rfl, by rw [← add_field ad (j * 5) 2 (by decide)]; exact hcw 2 _ rfl, by rw [← add_field ad (j * 5) 3 (by decide)]; exact hcw 3 _ rfl, by rw [← add_field ad (j * 5) 4 (by decide)]; exact hcw 4 _ rfl⟩
end
def wrE (D : DV) (s : Int) (x : List Int) : Int := if isS D s = true ∧ x.length = 256 then (if stepE D = 0 then 0 else 4) else 1
def wrD (D : DV) (s : Int) (x : List Int) : DV := if isS D s = true ∧ x.length = 256 then (if stepE D = 0 then putD (stepD D) s.toNat x else stepD D) else D
def flE (D : DV) : Int := if stepE D = 0 then 0 else 4
def flD (D : DV) : DV := if stepE D = 0 then flushD (stepD D) else stepD D
open Classical in
noncomputable def coE (D : DV) (s j m : Int) : Int := if mayC D s j m then 0 else 1
open Classical in
noncomputable def coD (D : DV) (s j m : Int) : DV := if mayC D s j m then corruptD D s.toNat j.toNat m else D
def rdE (D : DV) (s : Int) : Int := if D.off = true then 4 else if isS D s = false then 1 else 0
def rdX (D : DV) (s : Int) : List Int := if D.off = true then [] else if isS D s = false then [] else lastS D s.toNat
theorem stepD_steps (D : DV) : (stepD D).steps ≤ D.steps + 1 := by
  unfold stepD
  split
  · exact Nat.le_succ _
  · exact Nat.le_refl _
theorem wrD_steps (D : DV) (s : Int) (x : List Int) : (wrD D s x).steps ≤ D.steps + 1 := by
  unfold wrD
  split
  · split
    · exact stepD_steps D
    · exact stepD_steps D
  · exact Nat.le_succ _
theorem flD_steps (D : DV) : (flD D).steps ≤ D.steps + 1 := by
  unfold flD
  split
  · exact stepD_steps D
  · exact stepD_steps D
theorem coD_steps (D : DV) (s j m : Int) : (coD D s j m).steps ≤ D.steps + 1 := by
  unfold coD
  split <;> exact Nat.le_succ _
section
variable {w0 w w' : World} {ps : List HP} {C : DV → HP} {C1 : HP} {D : DV} {e : Ending} {g : Nat}
theorem WritePost.to {s : Int} {x : List Int} (h : WritePost w0 ps C D s x e w') : e = .returned (.int .i64 (wrE D s x)) ∧ St w0 w' (C (wrD D s x) :: ps) := by
  unfold WritePost at h
  unfold wrE wrD
  split at h
  · next q =>
    rw [if_pos q, if_pos q]
    split at h
    · next q2 => rw [if_pos q2, if_pos q2]; exact h
    · next q2 => rw [if_neg q2, if_neg q2]; exact h
  · next q => rw [if_neg q, if_neg q]; exact h
theorem FlushPost.to (h : FlushPost w0 ps C D e w') : e = .returned (.int .i64 (flE D)) ∧ St w0 w' (C (flD D) :: ps) := by
  unfold FlushPost at h
  unfold flE flD
  split at h
  · next q => rw [if_pos q, if_pos q]; exact h
  · next q => rw [if_neg q, if_neg q]; exact h
theorem CorruptPost.to {s j m : Int} (h : CorruptPost w0 ps C D s j m e w') : e = .returned (.int .i64 (coE D s j m)) ∧ St w0 w' (C (coD D s j m) :: ps) := by
  unfold coE coD
  by_cases q : mayC D s j m
  · rw [if_pos q, if_pos q]; exact h.1 q
  · rw [if_neg q, if_neg q]; exact h.2 q
theorem ReadPost.to {s : Int} (h : ReadPost w0 ps C1 D s e w') : ∃ A c, e = .returned (.tuple #[.slice A (rdX D s).length c, .int .i64 (rdE D s)]) ∧ St w0 w' (row (Kd.int .u8) 66 (.slice A (rdX D s).length c) (rdX D s) :: C1 :: ps) := by
  unfold ReadPost at h
  unfold rdE rdX
  split at h
  · next q => rw [if_pos q, if_pos q]; exact ⟨none, 0, h.1, h.2.row_nil⟩
  · next q =>
    rw [if_neg q, if_neg q]
    split at h
    · next q2 => rw [if_pos q2, if_pos q2]; exact ⟨none, 0, h.1, h.2.row_nil⟩
    · next q2 =>
      rw [if_neg q2, if_neg q2]
      obtain ⟨f, h1, h2⟩ := h
      have hl : (lastS D s.toNat).length = 256 := (h2.row_C).1.symm
      rw [hl]
      exact ⟨_, _, h1, h2⟩
theorem RReadPost.to {s : Int} (h : RReadPost w0 ps C1 D s e w') : ∃ A c, e = .returned (.tuple #[.slice A (rdX D s).length c, .int .i64 (rdE D s)]) ∧ St w0 w' (row (Kd.int .u8) 5 (.slice A (rdX D s).length c) (rdX D s) :: C1 :: ps) := by
  unfold RReadPost at h
  unfold rdE rdX
  split at h
  · next q => rw [if_pos q, if_pos q]; exact ⟨none, 0, h.1, h.2.row_nil⟩
  · next q =>
    rw [if_neg q, if_neg q]
    split at h
    · next q2 => rw [if_pos q2, if_pos q2]; exact ⟨none, 0, h.1, h.2.row_nil⟩
    · next q2 =>
      rw [if_neg q2, if_neg q2]
      obtain ⟨v, h1, h2⟩ := h
      obtain ⟨A, c, rfl⟩ := h2.row_slice
      exact ⟨_, _, h1, h2⟩
theorem drv_secs (h : St w0 w (drv g D :: ps)) (i : Nat) (hi : i < D.hs.length) : ∀ x ∈ D.hs.getD i [] :: D.ts.getD i [], x.length = 256 := by
  obtain ⟨hp, ⟨A, c, b, m⟩, hs⟩ := drv_out h
  have h1 := kSec_all (hs.swap.row_C).2.2
  obtain ⟨v, _, _, h2⟩ := St.map_take (hs.front 2) (i : Int)
  obtain ⟨A2, c2, hv⟩ := (h2.front 1).row_slice
  subst hv
  have h3 := kSec_all ((h2.front 1).row_C).2.2
  rw [look_nat] at h3
  intro x hx
  rcases List.mem_cons.1 hx with hx | hx
  · rw [hx]
    refine (h1 _ ?_).1
    rw [List.getD_eq_getElem?_getD, List.getElem?_eq_getElem hi]
    exact List.getElem_mem _
  · exact (h3 x hx).1
theorem drv_last (h : St w0 w (drv g D :: ps)) (i : Nat) : (lastS D i).length ≤ 100000 := by
  by_cases hi : i < D.hs.length
  · rw [(drv_sec h i hi).1]
    decide
  · have hp := (drv_out h).1
    unfold lastS
    have e1 : D.hs.getD i [] = [] := by rw [List.getD_eq_getElem?_getD, List.getElem?_eq_none (by omega)]; rfl
    have e2 : D.ts.getD i [] = [] := by rw [List.getD_eq_getElem?_getD, List.getElem?_eq_none (by have := hp.1; omega)]; rfl
    simp only [e1, e2]
    rw [List.getLast_singleton]
    exact Nat.zero_le _
theorem op_cells {g : Nat} {k s n v : Int} {A : Option Addr} {m c : Nat} {t : Nat} (h : St w0 w (blk g #[.int .i64 k, .int .i64 s, .int .i64 n, .int .i64 v, .slice A m c] t :: ps)) :
    w.cell? ⟨g, 0, none⟩ = some (.int .i64 k) ∧ w.cell? ⟨g, 1, none⟩ = some (.int .i64 s) ∧ w.cell? ⟨g, 2, none⟩ = some (.int .i64 n) ∧ w.cell? ⟨g, 3, none⟩ = some (.int .i64 v) ∧ w.cell? ⟨g, 4, none⟩ = some (.slice A m c) :=
  ⟨blk_cell h.blk_is 0, blk_cell h.blk_is 1, blk_cell h.blk_is 2, blk_cell h.blk_is 3, blk_cell h.blk_is 4⟩
end
theorem kind10 (c : Int) : kindR c 10 = 0 ∨ kindR c 10 = 1 ∨ kindR c 10 = 2 ∨ kindR c 10 = 3 ∨ kindR c 10 = 4 ∨ kindR c 10 = 5 ∨ kindR c 10 = 6 ∨ kindR c 10 = 7 ∨ kindR c 10 = 8 ∨ kindR c 10 = 9 := by
  have := kindR_range c 10 (by decide)
  omega
end Go.Proofs.Ytoloibjdiojmlaa.P
