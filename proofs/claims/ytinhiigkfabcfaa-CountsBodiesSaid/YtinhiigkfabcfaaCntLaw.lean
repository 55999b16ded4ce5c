/- What counts answer, in plain Lean. -/
namespace Go.Proofs.Ytinhiigkfabcfaa.P
/-- Numbers that count. -/
def Cnts (l : List Int) : Prop := ∀ x ∈ l, 0 ≤ x ∧ x ≤ 65535
def getR (l : List Int) (a : Int) : Int := if 0 ≤ a ∧ a < (l.length : Int) then l.getD a.toNat 0 else 0
def freeB (now done : List Int) (a : Nat) : Bool := now.getD a 0 == 0 && done.getD a 0 == 0
def freshB (now done : List Int) (a : Int) : Bool := decide (getR now a ≠ 0) && done.getD a.toNat 0 == 0
/-- The first place from a on that is free, of d places. -/
def scan (now done : List Int) : Nat → Nat → Option Nat
  | _, 0 => none
  | a, d + 1 => if freeB now done a then some a else scan now done (a + 1) d
/-- How many are free from a on, of d places. -/
def nfree (now done : List Int) : Nat → Nat → Nat
  | _, 0 => 0
  | a, d + 1 => (if freeB now done a then 1 else 0) + nfree now done (a + 1) d
/-- Two rows of counts of n sectors; fi the first one behind the areas. -/
structure CP (n fi : Nat) (now done : List Int) : Prop where
  ln : now.length = n
  ld : done.length = n
  le : n ≤ 2048
  fi : fi ≤ n
  cn : Cnts now
  cd : Cnts done
theorem Cnts.at {l : List Int} (h : Cnts l) (a : Nat) : 0 ≤ l.getD a 0 ∧ l.getD a 0 ≤ 65535 := by
  rw [List.getD_eq_getElem?_getD]
  by_cases ha : a < l.length
  · rw [List.getElem?_eq_getElem ha]; exact h _ (List.getElem_mem ha)
  · rw [List.getElem?_eq_none (by omega)]; decide
theorem Cnts.set {l : List Int} (h : Cnts l) (a : Nat) (x : Int) (hx : 0 ≤ x ∧ x ≤ 65535) : Cnts (l.set a x) := by
  intro y hy
  rcases List.mem_or_eq_of_mem_set hy with hy | rfl
  · exact h y hy
  · exact hx
theorem CP.set {n fi : Nat} {now done : List Int} (h : CP n fi now done) (a : Nat) (x : Int) (hx : 0 ≤ x ∧ x ≤ 65535) : CP n fi (now.set a x) done :=
  ⟨by rw [List.length_set]; exact h.ln, h.ld, h.le, h.fi, h.cn.set a x hx, h.cd⟩
theorem CP.commit {n fi : Nat} {now done : List Int} (h : CP n fi now done) : CP n fi now now := ⟨h.ln, h.ln, h.le, h.fi, h.cn, h.cn⟩
theorem CP.zeros {n fi : Nat} (hn : n ≤ 2048) (hf : fi ≤ n) : CP n fi (List.replicate n 0) (List.replicate n 0) :=
  ⟨by simp, by simp, hn, hf, fun x hx => by rw [List.eq_of_mem_replicate hx]; decide, fun x hx => by rw [List.eq_of_mem_replicate hx]; decide⟩
theorem getR_out {l : List Int} {a : Int} (h : ¬ (0 ≤ a ∧ a < (l.length : Int))) : getR l a = 0 := if_neg h
theorem getR_in {l : List Int} {a : Nat} (h : a < l.length) : getR l (a : Int) = l.getD a 0 := by
  unfold getR
  rw [if_pos (by omega), Int.toNat_natCast]
theorem getR_range {l : List Int} (h : Cnts l) (a : Int) : 0 ≤ getR l a ∧ getR l a ≤ 65535 := by
  unfold getR
  split
  · exact h.at _
  · decide
theorem getR_pos {l : List Int} {a : Int} (h : getR l a ≠ 0) : ∃ i : Nat, a = (i : Int) ∧ i < l.length := by
  unfold getR at h
  split at h
  · rename_i h1
    exact ⟨a.toNat, by omega, by omega⟩
  · exact absurd rfl h
theorem scan_le (now done : List Int) : ∀ (d a b : Nat), scan now done a d = some b → a ≤ b ∧ b < a + d ∧ freeB now done b = true := by
  intro d
  induction d with
  | zero => intro a b h; cases h
  | succ d ih =>
    intro a b h
    unfold scan at h
    split at h
    · injection h with h; subst h; rename_i hf; exact ⟨by omega, by omega, hf⟩
    · have := ih _ _ h; exact ⟨by omega, by omega, this.2.2⟩
theorem nfree_le (now done : List Int) : ∀ (d a : Nat), nfree now done a d ≤ d := by
  intro d
  induction d with
  | zero => intro a; exact Nat.le_refl 0
  | succ d ih => intro a; unfold nfree; have := ih (a + 1); split <;> omega
/-- How many sectors the counts have. -/
def areas (n : Nat) : Nat := (n + 117) / 118
def firstOf (n : Nat) : Nat := 2 + 2 * areas n
theorem firstOf_le {n : Nat} (h : 32 ≤ n) : firstOf n ≤ n := by unfold firstOf areas; omega
/-- A call of a play. -/
structure OpC where
  kind : Int
  a : Int
def kindR (c n : Int) : Int := (if c < 0 then -(c + 1) else c) % n
theorem kindR_range (c n : Int) (hn : 0 < n) : 0 ≤ kindR c n ∧ kindR c n < n := ⟨Int.emod_nonneg _ (by omega), Int.emod_lt_of_pos _ hn⟩
abbrev CS := List Int × List Int
def allocS (fi n : Nat) (s : CS) : CS := match scan s.1 s.2 fi (n - fi) with | some a => (s.1.set a 1, s.2) | none => s
def refS (a : Int) (s : CS) : CS := if getR s.1 a = 0 then s else if getR s.1 a = 65535 then s else (s.1.set a.toNat (getR s.1 a + 1), s.2)
def unrefS (a : Int) (s : CS) : CS := if getR s.1 a = 0 then s else (s.1.set a.toNat (getR s.1 a - 1), s.2)
def playStep (fi n : Nat) (s : CS) (o : OpC) : CS :=
  if kindR o.kind 6 = 3 then refS o.a s else if kindR o.kind 6 = 4 then unrefS o.a s else if kindR o.kind 6 = 5 then (s.1, s.1) else allocS fi n s
def playK (fi n : Nat) (l : List OpC) (s : CS) (j : Nat) : CS := (l.take j).foldl (playStep fi n) s
theorem playK_succ (fi n : Nat) (l : List OpC) (s : CS) (j : Nat) (h : j < l.length) (d : OpC) : playK fi n l s (j + 1) = playStep fi n (playK fi n l s j) (l.getD j d) := by
  unfold playK
  rw [List.take_succ_eq_append_getElem h, List.foldl_append, List.getD_eq_getElem?_getD, List.getElem?_eq_getElem h]
  rfl
def playR (fi n : Nat) (l : List OpC) (s : CS) : CS := playK fi n l s (min l.length 60)
theorem kind6 (c : Int) : kindR c 6 = 0 ∨ kindR c 6 = 1 ∨ kindR c 6 = 2 ∨ kindR c 6 = 3 ∨ kindR c 6 = 4 ∨ kindR c 6 = 5 := by
  have := kindR_range c 6 (by decide)
  omega
end Go.Proofs.Ytinhiigkfabcfaa.P
