import Derived.Test.YtcjnknpbikfimaaNodeD
import Derived.Test.YtcjnknpbikfimaaNodeE
/-! What is written is read, and a byte that is turned tells. -/
namespace Go.Proofs.Ytcjnknpbikfimaa.NodeLem
open Go.RowKit Go.Proofs.Ytcjnknpbikfimaa.P Go.Proofs.Ytcjnknpbikfimaa.NumLem Go.Proofs.Ytcjnknpbikfimaa.SealLem Go.Proofs.YtcjnknpbikfimaaW.PrintWords Go.Proofs.YtcjnknpbikfimaaW.PrintLast
set_option linter.unusedVariables false
set_option linter.unusedSimpArgs false
theorem xor1_ne (x : Int) (h0 : 0 ≤ x) (h1 : x < 4096) : x ≠ Go.bits .xor .i64 x 1 := by
  intro h
  have h3 := (BitVec.ofInt 64 x ^^^ BitVec.ofInt 64 1).isLt
  have e : Go.bits .xor .i64 x 1 = IntKind.i64.wrap ((BitVec.ofInt 64 x ^^^ BitVec.ofInt 64 1).toNat : Int) := rfl
  rw [e, IntKind.wrap_i64] at h
  have h4 : (BitVec.ofInt 64 x ^^^ BitVec.ofInt 64 1).toNat = (BitVec.ofInt 64 x).toNat := by
    have : (BitVec.ofInt 64 x).toNat = x.toNat := by rw [BitVec.toNat_ofInt]; omega
    omega
  have h5 : BitVec.ofInt 64 x ^^^ BitVec.ofInt 64 1 = BitVec.ofInt 64 x := BitVec.eq_of_toNat_eq h4
  have h6 : BitVec.ofInt 64 1 = 0#64 := by
    have := congrArg (fun y => BitVec.ofInt 64 x ^^^ y) h5
    simp [← BitVec.xor_assoc] at this
  exact absurd h6 (by decide)
theorem write_no (lv : Int) (l : List S52) (m : List S57) (a g : Int) (hm : mayR lv l m = true) (hs : sealMay (if lv > 0 then 4 else 3) a ((l.length + m.length : Nat) : Int) lv g ≠ true) : writeR lv l m a g = ([], 1) ∧ (a < 0 ∨ a ≥ 2048 ∨ g < 0 ∨ g > 1099511627775) := by
  have hlv : 0 ≤ lv ∧ lv ≤ 7 := by
    by_cases h0 : lv = 0
    · omega
    · obtain ⟨_, _, h1, h2, _⟩ := mayR_inner lv l m hm h0; omega
  obtain ⟨h1, h2, _⟩ := mayR_len lv l m hm
  refine ⟨?_, ?_⟩
  · unfold writeR sealR
    rw [if_pos hm, if_pos (by simpa using hs)]
  · refine Classical.byContradiction fun hc => hs ?_
    rw [may_iff]
    by_cases hp : lv > 0
    · rw [if_pos hp]; omega
    · rw [if_neg hp]; omega
theorem write_yes (lv : Int) (l : List S52) (m : List S57) (a g : Int) (hm : mayR lv l m = true) (hb : BytesV l) (hs : sealMay (if lv > 0 then 4 else 3) a ((l.length + m.length : Nat) : Int) lv g = true) :
    ∃ B, writeR lv l m a g = (B, 0) ∧ B.length = 256 ∧ node_Read.f 600 B a = some (lv, l, m, 0) ∧ node_Read.f 600 B (Go.bits .xor .i64 a 1) = some (0, [], [], 3) ∧ ∀ i v, i < 256 → 0 < v → v < 256 → node_Read.f 600 (B.set i (Go.bits .xor .u8 (rd B (i : Nat)) v)) a = some (0, [], [], 3) := by
  obtain ⟨h1, h2, _⟩ := mayR_len lv l m hm
  have hbb : Bytes (itemsD l ++ kidsD m) := (itemsD_bytes l hb).append (kidsD_bytes m)
  have hR := fun b => Read_back 600 (by omega) lv l m a g b hm hb hs
  have hop := seal_open (if lv > 0 then 4 else 3) a ((l.length + m.length : Nat) : Int) lv g _ hs h1
  have hbl := block_bytes (if lv > 0 then 4 else 3) a ((l.length + m.length : Nat) : Int) lv g _ hs hbb
  have hln := block_len (if lv > 0 then 4 else 3) a ((l.length + m.length : Nat) : Int) lv g _ h1
  have hw : writeR lv l m a g = (block (if lv > 0 then 4 else 3) a ((l.length + m.length : Nat) : Int) lv g (itemsD l ++ kidsD m), 0) := by
    unfold writeR
    rw [if_pos hm, sealR_ok _ _ _ _ _ _ hs h1]
  have ha := (may_iff _ _ _ _ _).1 hs
  generalize block (if lv > 0 then 4 else 3) a ((l.length + m.length : Nat) : Int) lv g (itemsD l ++ kidsD m) = B at *
  refine ⟨B, hw, hln, ?_, ?_, ?_⟩
  · rw [hR a, if_pos rfl]
  · rw [hR _, if_neg (xor1_ne a (by omega) (by omega))]
  · intro i v hi h0 h256
    have ho : openOk B := (open_iff B hbl).1 (by rw [hop])
    have hi2 : i < B.length := by omega
    have hr : rd B ((i : Nat) : Int) = B[i] := by
      unfold rd
      rw [Int.toNat_natCast, List.getD_eq_getElem?_getD, List.getElem?_eq_getElem hi2]
      rfl
    have hc := hbl _ (List.getElem_mem hi2)
    have ht := turned_ne B[i] v hc ⟨by omega, h256⟩ (by omega)
    have n3 := turned_no B hbl ho i hi2 _ ht.1 ht.2
    have b3 : Bytes (B.set i (Go.bits .xor .u8 B[i] v)) := fun z hz => by
      rcases List.mem_or_eq_of_mem_set hz with h | h
      · exact hbl z h
      · rw [h]; exact ht.1
    rw [hr]
    exact Read_bad 600 (by omega) _ b3 (by rw [List.length_set]; omega) a n3
end Go.Proofs.Ytcjnknpbikfimaa.NodeLem
