/- The law InodeTakes holds: the program and the reference take the same inodes, entries and chunks, and refuse the same bytes. No condition. -/
import Derived.Lib.Bytes
import Derived.Test.YtpahlfjfadammaaForm
import Derived.Test.YtpahlfjfadammaaBack
import Derived.Test.YtpahlfjfadammaaRefPut
import Derived.Test.YtpahlfjfadammaaPx6
import Derived.Test.YtpahlfjfadammaaPx9
import Derived.Test.YtpahlfjfadammaaPx11
import Derived.Test.YtpahlfjfadammaaPx11
namespace Go.Proofs.Ytpahlfjfadammaa.Pure
open Go.RowKit Go.Proofs.Ytpahlfjfadammaa.P Go.Proofs.Ytpahlfjfadammaa.NumLem Go.Proofs.YtpahlfjfadammaaW.PrintWords Go.Proofs.YtpahlfjfadammaaW.PrintLast
theorem rows_inj {l m : List Int} (hl : Bytes l) (hm : Bytes m) : (strOfNums l).toList = (strOfNums m).toList ↔ l = m := by
  refine ⟨fun h => ?_, fun h => by rw [h]⟩
  have e : ∀ q : List Int, (strOfNums q).toList = q.map (fun n : Int => UInt8.ofNat n.toNat) := fun q => by rw [Lib.strOfNums_toList]; rfl
  rw [e, e] at h
  have h2 := congrArg (List.map (fun b : UInt8 => (b.toNat : Int))) h
  rw [List.map_map, List.map_map] at h2
  have key : ∀ q : List Int, Bytes q → q.map ((fun b : UInt8 => (b.toNat : Int)) ∘ fun n : Int => UInt8.ofNat n.toNat) = q := by
    intro q hq
    conv => rhs; rw [← List.map_id q]
    apply List.map_congr_left
    intro x hx
    have := hq x hx
    simp
    omega
  rw [key l hl, key m hm] at h2
  exact h2
theorem takeRowR_rest (l : List Int) (n : Int) (hb : Bytes l) : Bytes (takeRowR l n).2.1 ∧ (takeRowR l n).2.1.length ≤ l.length := by
  have h1 := takeR_bytes l n hb
  have h2 := takeR_len l n
  unfold takeRowR
  split
  · exact ⟨Bytes.nil, by simp⟩
  · exact ⟨h1.drop _, by simp only [List.length_drop]; omega⟩
theorem inodeRow_bytes (x y z : Int) : Bytes (inodeRow x y z) ∧ (inodeRow x y z).length = 7 := by
  unfold inodeRow
  refine ⟨(digits_bytes _ _).append ((digits_bytes _ _).append (digits_bytes _ _)), ?_⟩
  simp only [List.length_append, digits_length]
theorem ref_inode (k : Nat) (l : List Int) (hk : 12 ≤ k) (hb : Bytes l) (hl : l.length ≤ 1000) : cambiumref13_Take.f k l = some (inodeT l) := by
  have b1 := takeR_bytes l 1 hb
  have l1 := takeR_len l 1
  have b2 := takeR_bytes _ 2 b1
  have l2 := takeR_len (takeR l 1).2.1 2
  unfold cambiumref13_Take.f
  rw [refTake_k k (by omega) l 1 hb (by omega), Option.bind_some, refTake_k k (by omega) _ 2 b1 (by omega), Option.bind_some, refTake_k k (by omega) _ 4 b2 (by omega), Option.bind_some, refPut_inode k _ _ _ (by omega), Option.bind_some]
  unfold inodeT inodeR
  by_cases h : l.length = 7
  · have e1 := takeR_ok l 1 (by omega) (by omega) (by omega)
    have e2 := takeR_ok (l.drop 1) 2 (by omega) (by omega) (by rw [List.length_drop]; omega)
    have e3 := takeR_ok (l.drop 3) 4 (by omega) (by omega) (by rw [List.length_drop]; omega)
    rw [show (((1 : Nat) : Int)) = 1 from rfl] at e1
    rw [show (((2 : Nat) : Int)) = 2 from rfl, List.drop_drop] at e2
    rw [show (((4 : Nat) : Int)) = 4 from rfl, List.drop_drop] at e3
    simp only [e1, e2, e3]
    by_cases ho : inodeOk (val (l.take 1)) (val ((l.drop 1).take 2)) (val ((l.drop 3).take 4))
    · have e : (l.length = 7 ∧ inodeOk (val (l.take 1)) (val ((l.drop 1).take 2)) (val ((l.drop 3).take 4))) := ⟨h, ho⟩
      simp only [if_pos ho, if_pos e, if_true, inode_form l hb h]
    · have : ¬ (l.length = 7 ∧ inodeOk (val (l.take 1)) (val ((l.drop 1).take 2)) (val ((l.drop 3).take 4))) := fun q => ho q.2
      rw [if_neg ho, if_neg this]
      rfl
  · have hno : ¬ (l.length = 7 ∧ inodeOk (val (l.take 1)) (val ((l.drop 1).take 2)) (val ((l.drop 3).take 4))) := fun q => h q.1
    rw [if_neg hno]
    generalize (takeR l 1).1 = x
    generalize (takeR (takeR l 1).2.1 2).1 = y
    generalize (takeR (takeR (takeR l 1).2.1 2).2.1 4).1 = z
    by_cases ho : inodeOk x y z
    · have hr := inodeRow_bytes x y z
      have : ¬ (strOfNums (inodeRow x y z)).toList = (strOfNums l).toList := fun q => by
        have := (rows_inj hr.1 hb).1 q
        rw [← this] at h
        exact h hr.2
      simp only [if_pos ho, if_true, if_neg this]
    · rw [if_neg ho]
      rfl
theorem entryRow_bytes (s : ByteArray) (x y : Int) : Bytes (entryRow s x y) := (digits_bytes _ _).append ((bytesOf_bytes s).append ((digits_bytes _ _).append (digits_bytes _ _)))
theorem ref_entry (k : Nat) (l : List Int) (hk : 12 ≤ k) (hb : Bytes l) (hl : l.length ≤ 1000) :
    ∃ r, cambiumref13_TakeEntry.f k l = some r ∧ (r = ((⟨#[]⟩ : ByteArray), 0, 0, 3) ∨ ∃ s x y, r = (s, x, y, 0) ∧ entryOk s x y ∧ entryRow s x y = l) := by
  obtain ⟨b1, l1⟩ := takeRowR_rest l 1 hb
  have b2 := takeR_bytes _ 4 b1
  have l2 := takeR_len (takeRowR l 1).2.1 4
  unfold cambiumref13_TakeEntry.f
  rw [refTakeText_is k (by omega) l hb (by omega), Option.bind_some, refTake_k k (by omega) _ 4 b1 (by omega), Option.bind_some, refTake_k k (by omega) _ 1 b2 (by omega), Option.bind_some, refPut_entry k _ _ _ (by omega), Option.bind_some]
  simp only []
  generalize strOfNums (takeRowR l 1).1 = s
  generalize (takeR (takeR (takeRowR l 1).2.1 4).2.1 1).1 = y
  generalize (takeR (takeRowR l 1).2.1 4).1 = x
  unfold entryR
  by_cases ho : entryOk s x y
  · simp only [if_pos ho, if_true]
    by_cases he : (strOfNums (entryRow s x y)).toList = (strOfNums l).toList
    · rw [if_pos he]
      exact ⟨_, rfl, Or.inr ⟨s, x, y, rfl, ho, (rows_inj (entryRow_bytes s x y) hb).1 he⟩⟩
    · rw [if_neg he]
      exact ⟨_, rfl, Or.inl rfl⟩
  · rw [if_neg ho]
    exact ⟨_, rfl, Or.inl rfl⟩
theorem ref_entry_back (k : Nat) (s : ByteArray) (a1 a2 : Int) (hk : 12 ≤ k) (h : entryOk s a1 a2) : cambiumref13_TakeEntry.f k (entryRow s a1 a2) = some (s, a1, a2, 0) := by
  have hb := entryRow_bytes s a1 a2
  have hl := (entry_back 12 s a1 a2 (by omega) h).1
  obtain ⟨b1, l1⟩ := takeRowR_rest _ 1 hb
  have b2 := takeR_bytes _ 4 b1
  have l2 := takeR_len (takeRowR (entryRow s a1 a2) 1).2.1 4
  have h' := h
  unfold entryOk at h'
  have hbl := bytesOf_length s
  have t1 := take_back (bytesOf s) (digits a1 4 ++ digits a2 1) 1 (by omega) (by omega) (by show ((bytesOf s).length : Int) < 256; omega)
  rw [show (((1 : Nat) : Int)) = 1 from rfl] at t1
  have t2 := takeR_digits a1.toNat 4 (digits a2 1) (by omega) (by omega) (by show ((a1.toNat : Nat) : Int) < 4294967296; omega)
  have t3 := takeR_digits a2.toNat 1 [] (by omega) (by omega) (by show ((a2.toNat : Nat) : Int) < 256; omega)
  rw [show ((a1.toNat : Nat) : Int) = a1 by omega, show (((4 : Nat) : Int)) = 4 from rfl] at t2
  rw [show ((a2.toNat : Nat) : Int) = a2 by omega, show (((1 : Nat) : Int)) = 1 from rfl, List.append_nil] at t3
  unfold cambiumref13_TakeEntry.f
  rw [refTakeText_is k (by omega) _ hb (by omega), Option.bind_some, refTake_k k (by omega) _ 4 b1 (by omega), Option.bind_some, refTake_k k (by omega) _ 1 b2 (by omega), Option.bind_some, refPut_entry k _ _ _ (by omega), Option.bind_some]
  have t1' : takeRowR (entryRow s a1 a2) 1 = (bytesOf s, digits a1 4 ++ digits a2 1, 0) := t1
  simp only [t1', t2, t3, strOf_bytes]
  unfold entryR
  simp only [if_pos h, if_true]
theorem entry_same (k : Nat) (l : List Int) (hk : 12 ≤ k) (hb : Bytes l) (hl : l.length ≤ 1000) : ∃ r, inode_TakeEntry.f k l = some r ∧ cambiumref13_TakeEntry.f k l = some r := by
  obtain ⟨r, h1, h2⟩ := entry_form2 k l (by omega) hb hl
  obtain ⟨q, h3, h4⟩ := ref_entry k l hk hb hl
  rcases h2 with rfl | ⟨s, x, y, rfl, ho, rfl⟩
  · rcases h4 with rfl | ⟨s, x, y, rfl, ho, rfl⟩
    · exact ⟨_, h1, h3⟩
    · have := (entry_back k s x y (by omega) ho).2
      exact ⟨_, this, h3⟩
  · exact ⟨_, h1, ref_entry_back k s x y hk ho⟩
theorem extentR_bytes (m : List Int) (a : Int) (hb : Bytes m) : Bytes (extentR m a).1 := by
  unfold extentR
  split
  · split
    · exact fun x hx => by rcases List.mem_cons.1 hx with rfl | hx; omega; exact hb x hx
    · exact Bytes.nil
  · split
    · exact fun x hx => by rcases List.mem_cons.1 hx with rfl | hx; omega; exact digits_bytes _ _ x hx
    · exact Bytes.nil
theorem extentR_err (m : List Int) (a : Int) (h : ¬ (extentR m a).2 = 0) : extentR m a = ([], 1) := by
  unfold extentR at *
  split
  · rename_i h0
    rw [if_pos h0] at h
    split
    · rename_i h1; rw [if_pos h1] at h; exact absurd rfl h
    · rfl
  · rename_i h0
    rw [if_neg h0] at h
    split
    · rename_i h1; rw [if_pos h1] at h; exact absurd rfl h
    · rfl
theorem ext_end (l m : List Int) (a : Int) (hb : Bytes l) (hm : Bytes m) :
    (if (extentR m a).2 = 0 then (if (strOfNums (extentR m a).1).toList = (strOfNums l).toList then (some (m, a, (0 : Int))) else (some (([] : List Int), 0, 3))) else (some (([] : List Int), 0, 3))) =
      some (if extentR m a = (l, 0) then (m, a, 0) else ([], 0, 3)) := by
  by_cases h : (extentR m a).2 = 0
  · rw [if_pos h]
    by_cases he : (strOfNums (extentR m a).1).toList = (strOfNums l).toList
    · rw [if_pos he, if_pos (Prod.ext ((rows_inj (extentR_bytes m a hm) hb).1 he) h)]
    · rw [if_neg he, if_neg (fun q => he (by rw [q]))]
  · rw [if_neg h, if_neg (fun q => h (by rw [q]))]
theorem ref_extent (k : Nat) (l : List Int) (hk : 12 ≤ k) (hb : Bytes l) (hl : l.length ≤ 1000) :
    ∃ m a, Bytes m ∧ cambiumref13_TakeExtent.f k l = some (if extentR m a = (l, 0) then (m, a, 0) else ([], 0, 3)) ∧ (∀ m' a', extentR m' a' = (l, 0) → m' = m ∧ a' = a) := by
  obtain ⟨k, rfl⟩ : ∃ m, k = m + 1 := ⟨k - 1, by omega⟩
  unfold cambiumref13_TakeExtent.f
  cases l with
  | nil =>
    refine ⟨[], 0, Bytes.nil, ?_, ?_⟩
    · simp only [List.length_nil, Int.natCast_zero, cambiumref13_TakeExtent.j0]
      rw [if_neg (by omega), if_neg (by decide), if_neg (by omega), refPut_extent k [] 0 (by omega) (by simp), Option.bind_some, ext_end [] [] 0 Bytes.nil Bytes.nil]
    · intro m' a' h
      unfold extentR at h
      split at h
      · split at h
        · cases h
        · cases h
      · split at h
        · cases h
        · cases h
  | cons c m =>
    have hlen : (((c :: m).length : Nat) : Int) = (m.length : Int) + 1 := by simp
    have hr : rd (c :: m) 0 = c := rfl
    have hbm : Bytes m := fun x hx => hb x (List.mem_cons_of_mem _ hx)
    have hml : m.length ≤ 1000 := by simp at hl; omega
    have hd : (c :: m).drop 1 = m := rfl
    rw [hlen, if_pos (by omega), if_pos (by omega), hr]
    by_cases h0 : c = 0
    · subst h0
      refine ⟨m, 0, hbm, ?_, ?_⟩
      · simp only [cambiumref13_TakeExtent.j0, beq_self_eq_true, if_true, Option.bind_some, List.nil_append, List.length_nil, hd, hlen]
        rw [if_pos (by omega), if_pos (by omega), refPut_extent k m 0 (by omega) hml, Option.bind_some, ext_end _ m 0 hb hbm]
      · intro m' a' h
        unfold extentR at h
        split at h
        · split at h
          · rename_i h0 _; cases h; exact ⟨rfl, h0⟩
          · cases h
        · split at h
          · cases h
          · cases h
    · have hc : (c == 0) = false := by simpa using h0
      refine ⟨[], (takeR m 2).1, Bytes.nil, ?_, ?_⟩
      · rw [hc]
        simp only [cambiumref13_TakeExtent.j0, hlen, hd]
        rw [if_neg (by decide), if_pos (by omega), if_pos (by omega), refTake_k k (by omega) m 2 hbm (by omega), Option.bind_some, refPut_extent k [] _ (by omega) (by simp), Option.bind_some, ext_end _ [] _ hb Bytes.nil]
      · intro m' a' h
        unfold extentR at h
        split at h
        · split at h
          · cases h; exact absurd rfl h0
          · cases h
        · split at h
          · rename_i h1 h2
            obtain ⟨rfl, h3, h4⟩ := h2
            cases h
            refine ⟨rfl, ?_⟩
            have t2 := takeR_digits a'.toNat 2 [] (by omega) (by omega) (by show ((a'.toNat : Nat) : Int) < 65536; omega)
            rw [show ((a'.toNat : Nat) : Int) = a' by omega, show (((2 : Nat) : Int)) = 2 from rfl, List.append_nil] at t2
            rw [t2]
          · cases h
theorem extentR_len (m l : List Int) (a : Int) (h : extentR m a = (l, 0)) : m.length ≤ 24 := by
  unfold extentR at h
  split at h
  · split at h
    · rename_i h1; exact h1.2
    · cases h
  · split at h
    · rename_i h1; rw [h1.1]; simp
    · cases h
theorem extent_same (k : Nat) (l : List Int) (hk : 12 ≤ k) (hb : Bytes l) (hl : l.length ≤ 1000) : ∃ r, inode_TakeExtent.f k l = some r ∧ cambiumref13_TakeExtent.f k l = some r := by
  obtain ⟨r, h1, _, h2⟩ := extent_form2 k l (by omega) hb hl
  obtain ⟨m, a, hm, h3, h4⟩ := ref_extent k l hk hb hl
  rcases h2 with rfl | ⟨m', a', rfl, _, he⟩
  · by_cases he : extentR m a = (l, 0)
    · have := (extent_back k m l a (by omega) hm (by have := extentR_len m l a he; omega) he).2
      rw [if_pos he] at h3
      exact ⟨_, this, h3⟩
    · rw [if_neg he] at h3
      exact ⟨_, h1, h3⟩
  · obtain ⟨rfl, rfl⟩ := h4 m' a' he
    rw [if_pos he] at h3
    exact ⟨_, h1, h3⟩
theorem InodeTakes : cambiumlaw13_InodeTakes.Pure := by
  intro l _ _ hwf
  have hb := (Bytes.of_wf hwf).take 300
  have hl : (l.take 300).length ≤ 300 := List.length_take_le _ _
  refine ⟨12, ?_⟩
  unfold cambiumlaw13_InodeTakes.f
  rw [shown_is 12 (by omega), Option.bind_some, few_is, Option.bind_some]
  generalize l.take 300 = m at *
  obtain ⟨r1, p1, q1⟩ := entry_same 12 m (by omega) hb (by omega)
  obtain ⟨r2, p2, q2⟩ := extent_same 12 m (by omega) hb (by omega)
  simp only [Option.bind_some, List.nil_append, List.length_nil, Take_inode 12 m (by omega) hb (by omega), ref_inode 12 m (by omega) hb (by omega), p1, q1, p2, q2]
  rw [if_pos (by omega), if_pos (by omega), if_pos (by omega)]
  simp
end Go.Proofs.Ytpahlfjfadammaa.Pure
