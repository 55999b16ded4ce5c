/- What a drive does, in plain lists. -/
namespace Go.Proofs.Ytoloibjdiojmlaa.P
set_option linter.unusedVariables false
structure DV where
  hs : List (List Int)
  ts : List (List (List Int))
  off : Bool
  fuse : Int
  steps : Nat
def look (ts : List (List (List Int))) (k : Int) : List (List Int) := if 0 ≤ k then ts.getD k.toNat [] else []
def cntT (ts : List (List (List Int))) : Nat := ts.countP (fun t => !t.isEmpty)
def DOk (D : DV) : Prop := D.ts.length = D.hs.length ∧ D.hs.length ≤ 2048 ∧ (-1 ≤ D.fuse ∧ D.fuse ≤ 9223372036854775807) ∧ ∀ t ∈ D.ts, t.length ≤ D.steps
def isS (D : DV) (s : Int) : Bool := decide (0 ≤ s) && decide (s < (D.hs.length : Int))
def zSec : List Int := List.replicate 256 0
def newD (n : Nat) : DV := ⟨List.replicate n zSec, List.replicate n [], false, -1, 0⟩
def stepE (D : DV) : Int := if D.off = true ∨ D.fuse = 0 then 4 else 0
def stepD (D : DV) : DV := if D.off = true ∨ D.fuse = 0 then { D with off := true } else { D with fuse := if 0 < D.fuse then D.fuse - 1 else D.fuse, steps := D.steps + 1 }
def lastS (D : DV) (i : Nat) : List Int := ((D.hs.getD i [] :: D.ts.getD i []).getLast (List.cons_ne_nil _ _))
def putD (D : DV) (i : Nat) (x : List Int) : DV := { D with ts := D.ts.set i (D.ts.getD i [] ++ [x]) }
def flushD (D : DV) : DV := { D with hs := (List.range D.hs.length).map (lastS D), ts := D.ts.map (fun _ => []) }
theorem look_nat (ts : List (List (List Int))) (i : Nat) : look ts (i : Int) = ts.getD i [] := by unfold look; rw [if_pos (by omega), Int.toNat_natCast]
theorem look_none (n : Nat) : ∀ k, look (List.replicate n []) k = [] := by
  intro k
  unfold look
  split
  · rw [List.getD_eq_getElem?_getD, List.getElem?_replicate]
    split <;> rfl
  · rfl
theorem cnt_none (n : Nat) : cntT (List.replicate n []) = 0 := by
  unfold cntT
  rw [List.countP_eq_zero]
  intro a ha
  rw [List.eq_of_mem_replicate ha]
  decide
theorem look_set {ts : List (List (List Int))} {i : Nat} (hi : i < ts.length) (x : List (List Int)) (k : Int) : look (ts.set i x) k = if k = (i : Int) then x else look ts k := by
  unfold look
  by_cases h0 : 0 ≤ k
  · rw [if_pos h0, if_pos h0, List.getD_eq_getElem?_getD, List.getD_eq_getElem?_getD]
    by_cases hk : k = (i : Int)
    · rw [if_pos hk, hk, Int.toNat_natCast, List.getElem?_set_self hi]
      rfl
    · rw [if_neg hk, List.getElem?_set_ne (by omega)]
  · rw [if_neg h0, if_neg h0, if_neg (by omega)]
theorem cnt_set {ts : List (List (List Int))} {i : Nat} (hi : i < ts.length) (x : List (List Int)) : cntT (ts.set i x) + (if ts.getD i [] = [] then 0 else 1) = cntT ts + (if x = [] then 0 else 1) := by
  unfold cntT
  have h := List.countP_set (p := fun t : List (List Int) => !t.isEmpty) (l := ts) (i := i) (a := x) hi
  have hpos : (!(ts[i]).isEmpty) = true → 0 < ts.countP (fun t => !t.isEmpty) := fun q => List.countP_pos_iff.2 ⟨ts[i], List.getElem_mem hi, q⟩
  rw [h, List.getD_eq_getElem?_getD, List.getElem?_eq_getElem hi]
  simp only [Option.getD_some]
  cases hx : x <;> cases ht : ts[i] <;> simp_all <;> omega
theorem stepD_ok {D : DV} (h : DOk D) : DOk (stepD D) := by
  obtain ⟨h1, h2, h3, h4⟩ := h
  unfold stepD
  split
  · exact ⟨h1, h2, h3, h4⟩
  · refine ⟨h1, h2, ?_, fun t ht => Nat.le_succ_of_le (h4 t ht)⟩
    dsimp only
    split <;> omega
theorem newD_ok {n : Nat} (h : n ≤ 2048) : DOk (newD n) := by
  refine ⟨by simp [newD], by simpa [newD] using h, ⟨Int.le_refl (-1), show (-1 : Int) ≤ _ from by decide⟩, fun t ht => ?_⟩
  rw [List.eq_of_mem_replicate ht]
  exact Nat.zero_le _
end Go.Proofs.Ytoloibjdiojmlaa.P
