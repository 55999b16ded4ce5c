import Derived.Test.YtjpebckmjlmkmaaPx2
import Derived.Laws.BitsLemmas
/-! What the given contracts of num answer, in numbers: `val` is a row of bytes as a number, the highest first. -/
namespace Go.Proofs.Ytjpebckmjlmkmaa.NumLem
open Go.RowKit Go.Proofs.Ytjpebckmjlmkmaa.P Go.Proofs.YtjpebckmjlmkmaaW.PrintWords Go.Proofs.YtjpebckmjlmkmaaW.PrintLast
set_option linter.unusedVariables false
set_option linter.unusedSimpArgs false

theorem wf_u8 {x : Int} (h : (Lit.int .u8 x).wf = true) : 0 ≤ x ∧ x < 256 := by
  simp [Lit.wf, IntKind.min, IntKind.max, IntKind.bits, IntKind.signed] at h
  omega
theorem wf_i64 {x : Int} (h : (Lit.int .i64 x).wf = true) : -9223372036854775808 ≤ x ∧ x ≤ 9223372036854775807 := by
  simp [Lit.wf, IntKind.min, IntKind.max, IntKind.bits, IntKind.signed] at h
  omega
theorem w64_small {x : Int} (h0 : -9223372036854775808 ≤ x) (h1 : x ≤ 9223372036854775807) : wrap64 x = x := by unfold wrap64; omega

theorem pow256 {a b : Nat} (h : a ≤ b) : (256 : Int) ^ a ≤ 256 ^ b := by
  have h2 := Nat.pow_le_pow_right (show 256 > 0 by decide) h
  have e : ∀ n : Nat, (256 : Int) ^ n = ((256 ^ n : Nat) : Int) := fun n => (Int.natCast_pow 256 n).symm
  rw [e, e]
  exact Int.ofNat_le.2 h2
theorem snoc_ind {α : Type} {p : List α → Prop} (h0 : p []) (h1 : ∀ l c, p l → p (l ++ [c])) (l : List α) : p l := by
  have key : ∀ m : List α, p m.reverse := by
    intro m
    induction m with
    | nil => exact h0
    | cons c m ih => rw [List.reverse_cons]; exact h1 _ _ ih
  have := key l.reverse
  rwa [List.reverse_reverse] at this

def Bytes (l : List Int) : Prop := ∀ x ∈ l, 0 ≤ x ∧ x < 256
theorem Bytes.of_wf {l : List Int} (h : ∀ x ∈ l, (Lit.int .u8 x).wf = true) : Bytes l := fun x hx => wf_u8 (h x hx)
theorem Bytes.take {l : List Int} (h : Bytes l) (n : Nat) : Bytes (l.take n) := fun x hx => h x (List.mem_of_mem_take hx)
theorem Bytes.drop {l : List Int} (h : Bytes l) (n : Nat) : Bytes (l.drop n) := fun x hx => h x (List.mem_of_mem_drop hx)
theorem Bytes.append {l m : List Int} (h : Bytes l) (h2 : Bytes m) : Bytes (l ++ m) := fun x hx => (List.mem_append.1 hx).elim (h x) (h2 x)
theorem Bytes.nil : Bytes [] := fun x hx => by cases hx

def step (x c : Int) : Int := 256 * x + c
def val (l : List Int) : Int := l.foldl step 0
theorem val_snoc (l : List Int) (c : Int) : val (l ++ [c]) = 256 * val l + c := by
  unfold val
  rw [List.foldl_append]
  rfl
theorem val_range (l : List Int) (h : Bytes l) : 0 ≤ val l ∧ val l < 256 ^ l.length := by
  induction l using snoc_ind with
  | h0 => simp [val]
  | h1 l c ih =>
    have hc := h c (by simp)
    have hl : Bytes l := fun x hx => h x (by simp [hx])
    obtain ⟨i0, i1⟩ := ih hl
    rw [val_snoc, List.length_append, List.length_singleton, Int.pow_succ]
    omega

theorem join_is (l m : List Int) (h : l.length + m.length ≤ 140737488355328) : num_join.f l m = some (l ++ m) := by
  unfold num_join.f
  rw [if_pos h]

/-- A number's last n bytes, the highest first. -/
def digits (v : Int) : Nat → List Int
  | 0 => []
  | n + 1 => digits (v / 256) n ++ [v % 256]
theorem digits_length (n : Nat) : ∀ v, (digits v n).length = n := by
  induction n with
  | zero => intro v; rfl
  | succ n ih => intro v; simp [digits, ih]
theorem digits_bytes (n : Nat) : ∀ v, Bytes (digits v n) := by
  induction n with
  | zero => intro v; exact Bytes.nil
  | succ n ih => intro v; exact (ih _).append (fun x hx => by obtain rfl := List.mem_singleton.1 hx; omega)
theorem val_digits (n : Nat) : ∀ v : Int, val (digits v n) = v % 256 ^ n := by
  induction n with
  | zero => intro v; show (0 : Int) = v % 1; omega
  | succ n ih =>
    intro v
    rw [digits, val_snoc, ih, Int.pow_succ]
    have hp : (0 : Int) < 256 ^ n := Int.pow_pos (by decide)
    generalize (256 : Int) ^ n = p at *
    have e1 : v / 256 % p = v / 256 - p * (v / 256 / p) := Int.emod_def _ _
    have e2 : v % (p * 256) = v - p * 256 * (v / (p * 256)) := Int.emod_def _ _
    have e3 : v / 256 / p = v / (p * 256) := by rw [Int.ediv_ediv_of_nonneg (by decide), Int.mul_comm]
    have e4 := Int.emod_add_mul_ediv v 256
    rw [e1, e2, ← e3, Int.mul_sub]
    rw [Int.mul_comm p 256, Int.mul_assoc]
    omega
theorem eights_is (x : Int) (n : Nat) (hn : n ≤ 8) : eights x n = digits (IntKind.u64.wrap x) n := by
  unfold eights
  have key : ∀ m (v : Int), m ≤ 8 → ((List.range m).map fun i => v / 2 ^ (8 * (7 - (8 - m + i))) % 256) = digits v m := by
    intro m
    induction m with
    | zero => intro v h; rfl
    | succ m ih =>
      intro v h
      rw [List.range_succ, List.map_append, List.map_singleton, digits, ← ih (v / 256) (by omega)]
      congr 1
      · apply List.map_congr_left
        intro i hi
        have hi := List.mem_range.1 hi
        have e : 8 * (7 - (8 - (m + 1) + i)) = 8 + 8 * (7 - (8 - m + i)) := by omega
        rw [e, Int.pow_add, ← Int.ediv_ediv_of_nonneg (by decide)]
        rfl
      · have e : 8 * (7 - (8 - (m + 1) + m)) = 0 := by omega
        rw [e]
        simp
  exact key n _ hn
theorem u64_of {x : Int} (h0 : 0 ≤ x) (h1 : x < 18446744073709551616) : IntKind.u64.wrap x = x := by
  simp [IntKind.wrap, IntKind.bits, IntKind.signed]
  omega
/-- What Put answers. -/
def putR (l : List Int) (x n : Int) : List Int := l ++ (if n < 1 ∨ 8 < n then [] else digits (IntKind.u64.wrap x) n.toNat)
theorem putR_length (l : List Int) (x n : Int) (h : 1 ≤ n) (h2 : n ≤ 8) : (putR l x n).length = l.length + n.toNat := by
  unfold putR
  rw [if_neg (by omega), List.length_append, digits_length]
theorem putR_bytes (l : List Int) (x n : Int) (h : Bytes l) : Bytes (putR l x n) := by
  unfold putR
  split
  · exact h.append Bytes.nil
  · exact h.append (digits_bytes _ _)
theorem Put_is (l : List Int) (x n : Int) (hl : l.length ≤ 140737488355320) : num_Put.f l x n = some (putR l x n) := by
  unfold num_Put.f putR
  by_cases h1 : n < 1 ∨ 8 < n
  · rw [if_pos h1, if_pos h1, join_is _ _ (by simp; omega)]
  rw [if_neg h1, if_neg h1, eights_is _ _ (by omega), join_is _ _ (by rw [digits_length]; omega)]
end Go.Proofs.Ytjpebckmjlmkmaa.NumLem
