import Derived.Laws.BitsLemmas
import Derived.Laws.Entries
/-! The sum CRC-32C as plain mathematics: on integers as the Go text has it, and on bits. -/
namespace Go.Proofs.Ytjpebckmjlmkmaa.Crc
set_option linter.unusedVariables false
set_option linter.unusedSimpArgs false

/-! ### bits -/
def poly : BitVec 32 := 2197175160#32
def bstp (v : BitVec 32) : BitVec 32 := if v.getLsbD 0 = true then (v >>> 1) ^^^ poly else v >>> 1
def bstpN : Nat → BitVec 32 → BitVec 32
  | 0, v => v
  | n + 1, v => bstp (bstpN n v)
theorem bstpN_succ (n : Nat) (v : BitVec 32) : bstpN (n + 1) v = bstpN n (bstp v) := by
  induction n with
  | zero => rfl
  | succ n ih => rw [bstpN, ih]; rfl
theorem shr_xor (a b : BitVec 32) (n : Nat) : (a ^^^ b) >>> n = (a >>> n) ^^^ (b >>> n) := by
  apply BitVec.eq_of_getLsbD_eq
  intro i hi
  simp
theorem bstp_xor (a b : BitVec 32) : bstp (a ^^^ b) = bstp a ^^^ bstp b := by
  unfold bstp
  rw [BitVec.getLsbD_xor, shr_xor]
  have e0 : ∀ x y p : BitVec 32, (x ^^^ y) ^^^ p = (x ^^^ p) ^^^ y := fun x y p => by rw [BitVec.xor_assoc, BitVec.xor_comm y p, ← BitVec.xor_assoc]
  have e1 : ∀ x y p : BitVec 32, (x ^^^ y) ^^^ p = x ^^^ (y ^^^ p) := fun x y p => BitVec.xor_assoc _ _ _
  cases a.getLsbD 0 <;> cases b.getLsbD 0 <;> simp
  · exact e1 _ _ _
  · exact e0 _ _ _
  · have : (a >>> 1 ^^^ poly) ^^^ (b >>> 1 ^^^ poly) = (a >>> 1 ^^^ b >>> 1) ^^^ (poly ^^^ poly) := by
      rw [BitVec.xor_assoc, ← BitVec.xor_assoc poly, BitVec.xor_comm poly (b >>> 1), BitVec.xor_assoc (b >>> 1), ← BitVec.xor_assoc]
    rw [this]; simp
theorem bstpN_xor (n : Nat) (a b : BitVec 32) : bstpN n (a ^^^ b) = bstpN n a ^^^ bstpN n b := by
  induction n with
  | zero => rfl
  | succ n ih => rw [bstpN, ih, bstp_xor]; rfl
theorem bstp_even (v : BitVec 32) (h : v.getLsbD 0 = false) : bstp v = v >>> 1 := by unfold bstp; rw [h]; rfl
theorem bstpN_shr (n : Nat) : ∀ v : BitVec 32, (∀ i, i < n → v.getLsbD i = false) → bstpN n v = v >>> n := by
  induction n with
  | zero => intro v _; simp [bstpN]
  | succ n ih =>
    intro v h
    rw [bstpN_succ, bstp_even v (h 0 (by omega)), ih _ (fun i hi => by rw [BitVec.getLsbD_ushiftRight]; exact h _ (by omega))]
    apply BitVec.eq_of_getLsbD_eq
    intro i hi
    simp [BitVec.getLsbD_ushiftRight]
    congr 1
    omega
theorem lsb15 (i : Nat) (h : 4 ≤ i) : (15#32).getLsbD i = false := by
  rw [BitVec.getLsbD_ofNat]
  have : Nat.testBit 15 i = false := Nat.testBit_lt_two_pow (Nat.lt_of_lt_of_le (by decide : 15 < 2 ^ 4) (Nat.pow_le_pow_right (by decide) h))
  simp [this]
theorem lsb15' (i : Nat) (h : i < 4) : (15#32).getLsbD i = true := by
  match i, h with
  | 0, _ => rfl
  | 1, _ => rfl
  | 2, _ => rfl
  | 3, _ => rfl
/-- Four steps at once: what the table of sixteen does. -/
theorem bstpN_four (v : BitVec 32) : bstpN 4 v = (v >>> 4) ^^^ bstpN 4 (v &&& 15#32) := by
  have e : v = (v &&& ~~~15#32) ^^^ (v &&& 15#32) := by
    apply BitVec.eq_of_getLsbD_eq
    intro i hi
    simp only [BitVec.getLsbD_xor, BitVec.getLsbD_and, BitVec.getLsbD_not]
    cases v.getLsbD i <;> cases h : (15#32).getLsbD i <;> simp [hi, h]
  conv => lhs; rw [e]
  rw [bstpN_xor, bstpN_shr 4 (v &&& ~~~15#32)]
  · congr 1
    apply BitVec.eq_of_getLsbD_eq
    intro i hi
    simp only [BitVec.getLsbD_ushiftRight, BitVec.getLsbD_and, BitVec.getLsbD_not]
    rw [lsb15 (4 + i) (by omega)]
    by_cases h : 4 + i < 32
    · simp [h]
    · have : v.getLsbD (4 + i) = false := BitVec.getLsbD_of_ge _ _ (by omega)
      simp [this]
  · intro i hi
    rw [BitVec.getLsbD_and, BitVec.getLsbD_not, lsb15' i hi]
    simp
theorem poly31 : poly.getLsbD 31 = true := by decide
theorem bstp_inj (a b : BitVec 32) (h : bstp a = bstp b) : a = b := by
  have top : ∀ v : BitVec 32, (bstp v).getLsbD 31 = v.getLsbD 0 := fun v => by
    unfold bstp
    have hz : (v >>> 1).getLsbD 31 = false := by rw [BitVec.getLsbD_ushiftRight]; exact BitVec.getLsbD_of_ge _ _ (by omega)
    cases hv : v.getLsbD 0
    · simp [hz]
    · simp [hz, poly31]
  have h0 : a.getLsbD 0 = b.getLsbD 0 := by rw [← top a, ← top b, h]
  have hs : a >>> 1 = b >>> 1 := by
    unfold bstp at h
    rw [h0] at h
    split at h
    · have := congrArg (· ^^^ poly) h
      simpa [BitVec.xor_assoc] using this
    · exact h
  apply BitVec.eq_of_getLsbD_eq
  intro i hi
  rcases i with _ | i
  · exact h0
  · have := congrArg (fun x : BitVec 32 => x.getLsbD i) hs
    simpa [BitVec.getLsbD_ushiftRight, Nat.add_comm] using this
theorem bstpN_inj (n : Nat) : ∀ a b : BitVec 32, bstpN n a = bstpN n b → a = b := by
  induction n with
  | zero => intro a b h; exact h
  | succ n ih => intro a b h; exact ih a b (bstp_inj _ _ h)
theorem xor_right_inj (a b c : BitVec 32) (h : a ^^^ c = b ^^^ c) : a = b := by
  have := congrArg (· ^^^ c) h
  simpa [BitVec.xor_assoc] using this
/-- One byte. -/
def bbyte (r c : BitVec 32) : BitVec 32 := bstpN 8 (r ^^^ c)
theorem bbyte_inj_l (a b c : BitVec 32) (h : bbyte a c = bbyte b c) : a = b := xor_right_inj _ _ _ (bstpN_inj 8 _ _ h)
theorem bbyte_inj_r (a c d : BitVec 32) (h : bbyte a c = bbyte a d) : c = d := by
  have := bstpN_inj 8 _ _ h
  rw [BitVec.xor_comm a c, BitVec.xor_comm a d] at this
  exact xor_right_inj _ _ _ this
def bfold (r : BitVec 32) (l : List (BitVec 32)) : BitVec 32 := l.foldl bbyte r
theorem bfold_inj : ∀ (l : List (BitVec 32)) (a b : BitVec 32), bfold a l = bfold b l → a = b
  | [], a, b, h => h
  | c :: l, a, b, h => bbyte_inj_l a b c (bfold_inj l _ _ h)
theorem bfold_append (r : BitVec 32) (l m : List (BitVec 32)) : bfold r (l ++ m) = bfold (bfold r l) m := List.foldl_append ..

/-! ### integers -/
theorem xor32 (x y : Int) : Go.bits .xor .u32 x y = ((BitVec.ofInt 32 x ^^^ BitVec.ofInt 32 y).toNat : Int) := by
  have h := (BitVec.ofInt 32 x ^^^ BitVec.ofInt 32 y).isLt
  show IntKind.u32.wrap ((BitVec.ofInt 32 x ^^^ BitVec.ofInt 32 y).toNat : Int) = _
  rw [IntKind.wrap_u32]
  omega
theorem and32 (x y : Int) : Go.bits .and .u32 x y = ((BitVec.ofInt 32 x &&& BitVec.ofInt 32 y).toNat : Int) := by
  have h := (BitVec.ofInt 32 x &&& BitVec.ofInt 32 y).isLt
  show IntKind.u32.wrap ((BitVec.ofInt 32 x &&& BitVec.ofInt 32 y).toNat : Int) = _
  rw [IntKind.wrap_u32]
  omega
theorem ofInt_toNat (v : BitVec 32) : BitVec.ofInt 32 (v.toNat : Int) = v := by simp
def num (v : BitVec 32) : Int := v.toNat
theorem num_inj (a b : BitVec 32) (h : num a = num b) : a = b := by
  unfold num at h
  exact BitVec.eq_of_toNat_eq (by omega)
theorem num_lt (v : BitVec 32) : 0 ≤ num v ∧ num v < 4294967296 := by have := v.isLt; unfold num; omega
theorem num_of (x : Int) (h0 : 0 ≤ x) (h1 : x < 4294967296) : num (BitVec.ofInt 32 x) = x := by
  unfold num
  rw [BitVec.toNat_ofInt]
  omega
theorem of_num (v : BitVec 32) : BitVec.ofInt 32 (num v) = v := ofInt_toNat v
theorem num_xor (a b : BitVec 32) : Go.bits .xor .u32 (num a) (num b) = num (a ^^^ b) := by rw [xor32, of_num, of_num]; rfl
theorem num_div2 (v : BitVec 32) : num v / (2 : Int) = num (v >>> 1) := by
  unfold num
  rw [BitVec.toNat_ushiftRight, Nat.shiftRight_eq_div_pow]
  omega
theorem num_div16 (v : BitVec 32) : num v / (16 : Int) = num (v >>> 4) := by
  unfold num
  rw [BitVec.toNat_ushiftRight, Nat.shiftRight_eq_div_pow]
  omega
theorem num_lsb (v : BitVec 32) : (num v) % (2 : Int) = 1 ↔ v.getLsbD 0 = true := by
  unfold num
  rw [BitVec.getLsbD]
  simp [Nat.testBit_zero]
  omega
theorem num_poly : num poly = 2197175160 := rfl

/-! ### the program's own step, on integers -/
def stp (r : Int) : Int := if Go.bits .and .u32 r 1 = 1 then Go.bits .xor .u32 (r / 2) 2197175160 else r / 2
def stpN : Nat → Int → Int
  | 0, r => r
  | n + 1, r => stp (stpN n r)
theorem and_one (v : BitVec 32) : Go.bits .and .u32 (num v) 1 = 1 ↔ v.getLsbD 0 = true := by
  rw [and32, of_num]
  show ((v &&& 1#32).toNat : Int) = 1 ↔ _
  rw [BitVec.toNat_and]
  show ((v.toNat &&& 1 : Nat) : Int) = 1 ↔ _
  rw [Nat.and_one_is_mod, BitVec.getLsbD]
  simp [Nat.testBit_zero]
  omega
theorem stp_num (v : BitVec 32) : stp (num v) = num (bstp v) := by
  have hd : num v / (2 : Int) = num (v >>> 1) := num_div2 v
  unfold stp bstp
  rw [hd]
  by_cases h : v.getLsbD 0 = true
  · rw [if_pos ((and_one v).2 h), if_pos h, ← num_poly, num_xor]
  · rw [if_neg (fun e => h ((and_one v).1 e)), if_neg h]
theorem stpN_num (n : Nat) (v : BitVec 32) : stpN n (num v) = num (bstpN n v) := by
  induction n with
  | zero => rfl
  | succ n ih => rw [stpN, ih, stp_num]; rfl
def tb (i : Nat) : Int := stpN 4 i
theorem tb_num (v : BitVec 32) : tb v.toNat = num (bstpN 4 v) := stpN_num 4 v
theorem and15 (x : Int) : 0 ≤ Go.bits .and .u32 x 15 ∧ Go.bits .and .u32 x 15 < 16 := by
  rw [and32]
  have h2 : (BitVec.ofInt 32 x &&& BitVec.ofInt 32 15).toNat ≤ 15 := by rw [BitVec.toNat_and]; exact Nat.and_le_right
  omega
def half (r : Int) : Int := Go.bits .xor .u32 (r / 16) (tb (Go.bits .and .u32 r 15).toNat)
theorem half_num (v : BitVec 32) : half (num v) = num (bstpN 4 v) := by
  have hd : num v / (16 : Int) = num (v >>> 4) := num_div16 v
  unfold half
  rw [hd, and32, of_num, Int.toNat_natCast]
  show Go.bits .xor .u32 (num (v >>> 4)) (tb (v &&& 15#32).toNat) = _
  rw [tb_num, num_xor, bstpN_four v]
/-- What the program does with one byte. -/
def moreStep (r c : Int) : Int := half (half (Go.bits .xor .u32 r (c % 4294967296)))
theorem bstpN_add (m n : Nat) (v : BitVec 32) : bstpN m (bstpN n v) = bstpN (m + n) v := by
  induction m with
  | zero => simp [bstpN]
  | succ m ih => rw [bstpN, ih, show m + 1 + n = (m + n) + 1 from by omega]; rfl
theorem moreStep_num (v : BitVec 32) (c : Int) : moreStep (num v) c = num (bbyte v (BitVec.ofInt 32 c)) := by
  have e : BitVec.ofInt 32 (c % 4294967296) = BitVec.ofInt 32 c := by
    apply BitVec.eq_of_toNat_eq
    rw [BitVec.toNat_ofInt, BitVec.toNat_ofInt]
    congr 1
    omega
  unfold moreStep
  rw [xor32, of_num, e]
  show half (half (num _)) = _
  rw [half_num, half_num, bstpN_add]
  rfl
theorem foldl_num (l : List Int) : ∀ v : BitVec 32, l.foldl moreStep (num v) = num (bfold v (l.map (BitVec.ofInt 32))) := by
  induction l with
  | nil => intro v; rfl
  | cons c l ih => intro v; simp only [List.foldl_cons, List.map_cons]; rw [moreStep_num, ih]; rfl
def ones : BitVec 32 := 4294967295#32
theorem num_ones : num ones = 4294967295 := rfl
/-- The sum that goes on from s. -/
def crc (s : BitVec 32) (l : List (BitVec 32)) : BitVec 32 := bfold (s ^^^ ones) l ^^^ ones
def moreI (s : Int) (l : List Int) : Int := Go.bits .xor .u32 4294967295 (l.foldl moreStep (Go.bits .xor .u32 4294967295 s))
theorem moreI_num (s : BitVec 32) (l : List Int) : moreI (num s) l = num (crc s (l.map (BitVec.ofInt 32))) := by
  unfold moreI crc
  rw [← num_ones, num_xor, foldl_num, num_xor, BitVec.xor_comm ones s, BitVec.xor_comm ones]
theorem crc_append (s : BitVec 32) (l m : List (BitVec 32)) : crc s (l ++ m) = crc (crc s l) m := by
  unfold crc
  rw [bfold_append]
  congr 2
  rw [BitVec.xor_assoc]
  simp
theorem crc_inj (s t : BitVec 32) (l : List (BitVec 32)) (h : crc s l = crc t l) : s = t :=
  xor_right_inj _ _ _ (bfold_inj l _ _ (xor_right_inj _ _ _ h))
/-- One byte that is turned into another one turns the sum. -/
theorem crc_turned (s : BitVec 32) (l m : List (BitVec 32)) (c d : BitVec 32) (h : crc s (l ++ c :: m) = crc s (l ++ d :: m)) : c = d := by
  rw [crc_append, crc_append] at h
  have h' := xor_right_inj _ _ _ h
  exact bbyte_inj_r _ _ _ (bfold_inj m _ _ h')

/-! ### the reference's step -/
def refStp (x : Int) : Int := if Int.tmod x 2 = 1 then Go.bits .xor .u32 ((Int.tdiv x 2) % 4294967296) 2197175160 else (Int.tdiv x 2) % 4294967296
theorem refStp_num (v : BitVec 32) : refStp (num v) = num (bstp v) := by
  have hb := num_lt v
  have hd : num v / (2 : Int) = num (v >>> 1) := num_div2 v
  have e1 : Int.tmod (num v) 2 = num v % (2 : Int) := Int.tmod_eq_emod_of_nonneg hb.1
  have e2 : (Int.tdiv (num v) 2) % (4294967296 : Int) = num (v >>> 1) := by
    rw [Int.tdiv_eq_ediv_of_nonneg hb.1, hd]
    have := num_lt (v >>> 1)
    omega
  unfold refStp bstp
  rw [e1, e2]
  by_cases h : v.getLsbD 0 = true
  · rw [if_pos ((num_lsb v).2 h), if_pos h, ← num_poly, num_xor]
  · rw [if_neg (fun e => h ((num_lsb v).1 e)), if_neg h]
end Go.Proofs.Ytjpebckmjlmkmaa.Crc
