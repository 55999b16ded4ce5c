/- What the functions of the package pipe do, each walked once. -/
import Derived.Test.YtpcgjcipdnacoaaProg
import Derived.Test.YtpcgjcipdnacoaaWWords
import Derived.Test.YtpcgjcipdnacoaaWLast
import Derived.Test.YtpcgjcipdnacoaaWMore
import Derived.Test.YtpcgjcipdnacoaaWFoot
import Derived.Test.YtpcgjcipdnacoaaWShare
import Derived.Test.YtpcgjcipdnacoaaWAt
import Derived.Test.YtpcgjcipdnacoaaWKept
import Derived.Test.YtpcgjcipdnacoaaOwn
import Derived.Test.YtpcgjcipdnacoaaSep
import Derived.Below
import Derived.Deep.Draws
import Derived.Deep.AppendLies
import Derived.Maps.AppendAt
import Derived.OwnWalk
import Derived.Laws.BytesArg
import Derived.Laws.MakeOwn
import Derived.Laws.OwnMore
import Derived.Deep.OwnRows
import Derived.Tactics
import Derived.Lib.ConvBytes
import Derived.Laws.Slices
import Derived.WalkKit
import Derived.KernelRfl
import Derived.RowKit3
import Derived.Deep.LoopGhost
import Derived.Deep.QuietTactic
import Derived.BigQuiet
import Derived.WideLaws
import Derived.Deep.DeepCutAuto
import Derived.Deep.CutBlock
import Derived.Deep.RegionHeld3
import Derived.Laws.Rows
import Derived.Lib.AppendStr
import Derived.ArgAppend
import Derived.Laws.IdiomCopy
import Derived.OrdersHeld
import Derived.Laws.BitsLemmas
import Derived.RowKit
import Derived.Outline
import Derived.StillTailTactics
import Derived.Lib.SlBytesConst
import Derived.Deep.DeepCutAuto
import Derived.Deep.RegionHeld3
namespace Go.Proofs.Ytpcgjcipdnacoaa.P
open Go.RowKit Go.Proofs.YtpcgjcipdnacoaaW.PrintWords Go.Proofs.YtpcgjcipdnacoaaW.PrintLast Go.Proofs.YtpcgjcipdnacoaaW.PrintMore Go.Proofs.Ytpcgjcipdnacoaa.Sep
set_option linter.unusedVariables false
attribute [local go_sem] max2_int min2_int max_two min_two max_three min_three max_four min_four
theorem info5 : (Try.prog.info? 5).map (fun i => (i.zero, i.size, i.bytes)) = some (some (.int .u8 0), 1, 1) := by kernel_rfl
/-- A pipe's cells: its ring, where it begins, how many bytes stand in it. -/
def pcells (R : List Int) (f n : Nat) : Array Value := (nums .u8 R ++ [Value.int .i64 f, Value.int .i64 n]).toArray
theorem zeroPipe (w : World) : Sem.run Try.prog (zeroValue 41) w = Result.ok (Value.agg (pcells (List.replicate 64 0) 0 0)) w := by
  kernel_rfl
theorem pipe_New.calls (w : World) :
    Calls Try.prog 7 #[] w fun e w' => e = .returned (.pointer (some ⟨w.heap.size, 0, none⟩)) ∧ w' = w.alloc (.cells (pcells (List.replicate 64 0) 0 0) 41) := by
  have hz := zeroPipe
  have hs : ((pcells (List.replicate 64 0) 0 0).size == 0) = false := rfl
  generalize pcells (List.replicate 64 0) 0 0 = Z at *
  go_enter Try.func7, Try.ntmps7
  go_wp2
  go_ret
  exact ⟨rfl, rfl⟩

theorem nums_at (k : IntKind) (R : List Int) (i : Nat) (h : i < R.length) (t : List Value) : (nums k R ++ t).toArray[i]? = some (Value.int k R[i]) := by
  rw [List.getElem?_toArray, List.getElem?_append_left (by rw [nums_length]; exact h)]
  simp [nums, h]
theorem pc_ring (R : List Int) (f n i : Nat) (h : i < R.length) : (pcells R f n)[i]? = some (Value.int .u8 R[i]) := nums_at _ R i h _
theorem pc_first (R : List Int) (f n : Nat) (h : R.length = 64) : (pcells R f n)[64]? = some (Value.int .i64 f) := by
  unfold pcells
  rw [List.getElem?_toArray, List.getElem?_append_right (by rw [nums_length, h]; exact Nat.le_refl _), nums_length, h]
  rfl
theorem pc_count (R : List Int) (f n : Nat) (h : R.length = 64) : (pcells R f n)[65]? = some (Value.int .i64 n) := by
  unfold pcells
  rw [List.getElem?_toArray, List.getElem?_append_right (by rw [nums_length, h]; decide), nums_length, h]
  rfl
theorem pc_setRing (R : List Int) (f n i : Nat) (h : R.length = 64) (hi : i < 64) (x : Int) : (pcells R f n).setIfInBounds i (Value.int .u8 x) = pcells (R.set i x) f n := by
  unfold pcells
  rw [List.setIfInBounds_toArray, List.set_append_left _ _ (by rw [nums_length, h]; exact hi)]
  unfold nums
  rw [List.map_set]
theorem pc_setFirst (R : List Int) (f n f' : Nat) (h : R.length = 64) : (pcells R f n).setIfInBounds 64 (Value.int .i64 f') = pcells R f' n := by
  unfold pcells
  rw [List.setIfInBounds_toArray, List.set_append_right _ _ (by rw [nums_length, h]; exact Nat.le_refl _), nums_length, h]
  rfl
theorem pc_setCount (R : List Int) (f n n' : Nat) (h : R.length = 64) : (pcells R f n).setIfInBounds 65 (Value.int .i64 n') = pcells R f n' := by
  unfold pcells
  rw [List.setIfInBounds_toArray, List.set_append_right _ _ (by rw [nums_length, h]; decide), nums_length, h]
  rfl
/-- A pipe stands in block g: a ring of 64 bytes, of which n stand in it from f on. -/
structure IsPipe (w : World) (g : Nat) (R : List Int) (f n : Nat) : Prop where
  blk : w.heap[g]? = some (.cells (pcells R f n) 41 (0, 0))
  len : R.length = 64
  hf : f < 64
  hn : n ≤ 64
theorem IsPipe.first {w : World} {g : Nat} {R : List Int} {f n : Nat} (h : IsPipe w g R f n) : w.cell? ⟨g, 64, none⟩ = some (.int .i64 f) := (blk_cell h.blk 64).trans (pc_first R f n h.len)
theorem IsPipe.count {w : World} {g : Nat} {R : List Int} {f n : Nat} (h : IsPipe w g R f n) : w.cell? ⟨g, 65, none⟩ = some (.int .i64 n) := (blk_cell h.blk 65).trans (pc_count R f n h.len)
theorem IsPipe.ring {w : World} {g : Nat} {R : List Int} {f n : Nat} (h : IsPipe w g R f n) (i : Nat) (hi : i < 64) : w.cell? ⟨g, i, none⟩ = some (.int .u8 (R.getD i 0)) := by
  have hr : i < R.length := by rw [h.len]; exact hi
  rw [List.getD_eq_getElem?_getD, List.getElem?_eq_getElem hr]
  exact (blk_cell h.blk i).trans (pc_ring R f n i hr)
theorem IsPipe.put {w : World} {g : Nat} {R : List Int} {f n : Nat} (h : IsPipe w g R f n) (i : Nat) (hi : i < 64) (x : Int) : IsPipe (w.setCell ⟨g, i, none⟩ (.int .u8 x)) g (R.set i x) f n :=
  ⟨blk_put h.blk i _ (pc_setRing R f n i h.len hi x), by rw [List.length_set]; exact h.len, h.hf, h.hn⟩
theorem IsPipe.setFirst {w : World} {g : Nat} {R : List Int} {f n : Nat} (h : IsPipe w g R f n) (f' : Nat) (hf' : f' < 64) : IsPipe (w.setCell ⟨g, 64, none⟩ (.int .i64 f')) g R f' n :=
  ⟨blk_put h.blk 64 _ (pc_setFirst R f n f' h.len), h.len, hf', h.hn⟩
theorem IsPipe.setCount {w : World} {g : Nat} {R : List Int} {f n : Nat} (h : IsPipe w g R f n) (n' : Nat) (hn' : n' ≤ 64) : IsPipe (w.setCell ⟨g, 65, none⟩ (.int .i64 n')) g R f n' :=
  ⟨blk_put h.blk 65 _ (pc_setCount R f n n' h.len), h.len, h.hf, hn'⟩
theorem IsPipe.drew {w : World} {g : Nat} {R : List Int} {f n : Nat} (h : IsPipe w g R f n) : IsPipe w.drew g R f n := ⟨h.blk, h.len, h.hf, h.hn⟩
theorem IsPipe.below {w w' : World} {g : Nat} {R : List Int} {f n : Nat} (h : IsPipe w g R f n) (hb : Below w.heap.size w w') : IsPipe w' g R f n := ⟨blk_below h.blk hb, h.len, h.hf, h.hn⟩
theorem IsPipe.alloc {w : World} {g : Nat} {R : List Int} {f n : Nat} (h : IsPipe w g R f n) (o : Obj) : IsPipe (w.alloc o) g R f n := ⟨blk_alloc h.blk o, h.len, h.hf, h.hn⟩
theorem IsPipe.grown {w w' : World} {g : Nat} {R : List Int} {f n : Nat} {row : Option Nat} (h : IsPipe w g R f n) (hg : w.grownBy w' row) (hne : some g ≠ row) : IsPipe w' g R f n := ⟨blk_grown h.blk hg hne, h.len, h.hf, h.hn⟩
/-- What stands in a pipe. -/
def que (R : List Int) (f n : Nat) : List Int := (List.range n).map fun i => R.getD ((f + i) % 64) 0
theorem que_length (R : List Int) (f n : Nat) : (que R f n).length = n := by simp [que]
theorem que_put (R : List Int) (f n : Nat) (x : Int) (h : R.length = 64) (hn : n < 64) : que (R.set ((f + n) % 64) x) f (n + 1) = que R f n ++ [x] := by
  unfold que
  rw [List.range_succ, List.map_append, List.map_singleton]
  congr 1
  · refine List.map_congr_left fun i hi => ?_
    have hi := List.mem_range.1 hi
    rw [List.getD_eq_getElem?_getD, List.getD_eq_getElem?_getD, List.getElem?_set_ne (by omega)]
  · rw [List.getD_eq_getElem?_getD, List.getElem?_set_self (by omega)]
    rfl
theorem que_take (R : List Int) (f n : Nat) : que R f (n + 1) = R.getD (f % 64) 0 :: que R ((f + 1) % 64) n := by
  unfold que
  rw [List.range_succ_eq_map, List.map_cons, List.map_map]
  congr 1
  refine List.map_congr_left fun i _ => ?_
  show R.getD ((f + (i + 1)) % 64) 0 = _
  rw [show (f + (i + 1)) % 64 = ((f + 1) % 64 + i) % 64 from by omega]
/-- Between two worlds block g alone may have turned, and new ones may have come. -/
structure Only (w w' : World) (g : Nat) : Prop where
  keep : KeepBut w w' g none
  os : w'.os = w.os
  tape : w'.tape = w.tape
  output : w'.output = w.output
theorem Only.refl (w : World) (g : Nat) : Only w w g := ⟨KeepBut.refl _ _ _, rfl, rfl, rfl⟩
theorem Only.set {w W : World} {g : Nat} (h : Only w W g) (i : Nat) (u : Value) : Only w (W.setCell ⟨g, i, none⟩ u) g := ⟨h.keep.set_ i u, h.os, h.tape, h.output⟩
theorem Only.drew {w W : World} {g : Nat} (h : Only w W g) : Only w W.drew g := ⟨h.keep, h.os, h.tape, h.output⟩
theorem Only.grown {w W W1 : World} {g : Nat} {row : Option Nat} (h : Only w W g) (hg : W.grownBy W1 row) (hr : row = none ∨ ∃ b, row = some b ∧ w.heap.size ≤ b) : Only w W1 g := ⟨h.keep.trans (KeepBut.of_grown hg g) hr, hg.os.trans h.os, hg.tape.trans h.tape, hg.output.trans h.output⟩
theorem Only.below {w W W1 : World} {g : Nat} (h : Only w W g) (hb : Below W.heap.size W W1) : Only w W1 g := ⟨h.keep.trans (KeepBut.of_below hb g none) (Or.inl rfl), hb.os.trans h.os, hb.tape.trans h.tape, hb.output.trans h.output⟩
theorem Only.trans {w W W1 : World} {g : Nat} (h : Only w W g) (k : Only W W1 g) : Only w W1 g := ⟨h.keep.trans k.keep (Or.inl rfl), k.os.trans h.os, k.tape.trans h.tape, k.output.trans h.output⟩
theorem Only.toBelow {w0 w w' : World} {g : Nat} (k : Only w w' g) (h : Below w0.heap.size w0 w) (hg : w0.heap.size ≤ g) : Below w0.heap.size w0 w' :=
  ⟨k.os.trans h.os, k.tape.trans h.tape, k.output.trans h.output, Nat.le_trans h.size k.keep.1, fun i hi => (k.keep.2 i (Nat.lt_of_lt_of_le hi h.size) (by omega) (by simp)).trans (h.block i hi)⟩
theorem pipe_Len.calls (g : Nat) (R : List Int) (f n : Nat) (w : World) (hp : IsPipe w g R f n) :
    Calls Try.prog 10 #[.pointer (some ⟨g, 0, none⟩)] w fun e w' => e = .returned (.int .i64 n) ∧ w' = w := by
  have h1 := hp.count
  go_enter Try.func10, Try.ntmps10
  go_wp2
  go_ret
  exact ⟨rfl, rfl⟩
theorem pipe_Room.calls (g : Nat) (R : List Int) (f n : Nat) (w : World) (hp : IsPipe w g R f n) :
    Calls Try.prog 11 #[.pointer (some ⟨g, 0, none⟩)] w fun e w' => e = .returned (.int .i64 (64 - (n : Int))) ∧ w' = w := by
  have h1 := hp.count
  have h2 := hp.hn
  have h3 : wrap64 (64 - (n : Int)) = 64 - (n : Int) := by unfold wrap64; omega
  go_enter Try.func11, Try.ntmps11
  go_wp2
  go_ret
  exact ⟨rfl, rfl⟩

set_option maxHeartbeats 2000000 in
theorem pipe_Write.calls (g : Nat) (R : List Int) (f n : Nat) (A1 : Option Addr) (c1 : Nat) (l1 : List Int) (w : World) (hp : IsPipe w g R f n) (hr1 : ∀ W', KeepBut w W' g none → Kd.C (Kd.int .u8) W' A1 l1.length l1) (hc1 : l1.length ≤ c1) :
    Calls Try.prog 8 #[.pointer (some ⟨g, 0, none⟩), .slice A1 l1.length c1] w fun e w' => ∃ R' : List Int, e = .returned (.int .i64 ((min l1.length (64 - n) : Nat) : Int)) ∧ IsPipe w' g R' f (n + min l1.length (64 - n)) ∧ que R' f (n + min l1.length (64 - n)) = que R f n ++ l1.take (min l1.length (64 - n)) ∧ Only w w' g := by
  obtain ⟨k, hk⟩ : ∃ k, k = min l1.length (64 - n) := ⟨_, rfl⟩
  rw [← hk]
  have hn := hp.hn
  have hm := (Kd.C_foot_now hr1 (KeepBut.refl w g none)).2.1
  have hmin : mn (l1.length : Int) (64 - (n : Int)) = (k : Int) := by unfold mn; split <;> omega
  have HP := Aside0.mk hp
  have HR := Aside0.mk hr1
  have HC := Aside0.mk hc1
  have HM := Aside0.mk hm
  have HN := Aside0.mk hn
  have HK := Aside0.mk hk
  obtain ⟨i0, hi0, _, hs0, _⟩ := info_parts info5
  have hcut := cut_to (P := Try.prog) 22 5 .i64 Try.underlying22 hi0 A1 l1.length c1 k (by omega) (by omega) hc1
  rw [Int.toNat_natCast] at hcut
  have hc2 : k ≤ c1 := by omega
  clear hp hr1 hm hi0 hs0 hk
  go_enter Try.func8, Try.ntmps8
  go_wp2_with fail
  refine (pipe_Room.calls g R f n _ HP.out).mono ?_
  rintro e w1 ⟨rfl, rfl⟩
  clear hn
  clear hmin
  have hw : ((k : Int) ≤ 64 - (n : Int) ∧ (¬ 64 - (n : Int) < (k : Int)) ∧ decide ((k : Int) ≤ 64 - (n : Int)) = true ∧ decide (64 - (n : Int) < (k : Int)) = false ∧ (l1.length : Int) = (k : Int)) ∨ ((¬ (l1.length : Int) ≤ (k : Int)) ∧ ((k : Int) < (l1.length : Int)) ∧ decide ((l1.length : Int) ≤ (k : Int)) = false ∧ decide ((k : Int) < (l1.length : Int)) = true ∧ 64 - (n : Int) = (k : Int)) := by
    have h1 := HN.out
    have h2 := HK.out
    by_cases h : (l1.length : Int) ≤ 64 - (n : Int)
    · exact Or.inl ⟨by omega, by omega, decide_eq_true (by omega), decide_eq_false (by omega), by omega⟩
    · exact Or.inr ⟨by omega, by omega, decide_eq_false (by omega), decide_eq_true (by omega), by omega⟩
  have hkl : k ≤ l1.length := by have := HK.out; omega
  have hkn : n + k ≤ 64 := by have := HK.out; have := HN.out; omega
  have HKL := Aside0.mk hkl
  have HKN := Aside0.mk hkn
  clear hkl hkn
  rcases hw with ⟨hd1, hd2, hd3, hd4, hk⟩ | ⟨hd1, hd2, hd3, hd4, hk⟩
  all_goals
    go_wp2_with fail
    clear hd1 hd2 hd3 hd4 hk hcut hc2
    go_loopw [7, 17] (fun c i wr => ∃ j : Nat, j ≤ k ∧ i = .int .i64 j ∧ Aside0 (∃ Rj, IsPipe wr g Rj f (n + j) ∧ que Rj f (n + j) = que R f n ++ l1.take j) ∧ Aside0 (Only w1 wr g)) (fun _ i _ => k - (intOf i).toNat)
    case atStart => exact ⟨0, Nat.zero_le _, rfl, ⟨R, HP.out, by rw [List.take_zero, List.append_nil]; rfl⟩, ⟨Only.refl _ _⟩⟩
    case round =>
      obtain ⟨j, hj, rfl, HQ, HW⟩ := hrel
      by_cases hlt : j < k
      · obtain ⟨Rj, hpj, hqj⟩ := HQ.out
        obtain ⟨ad, hAd, hcell⟩ := Kd.at_int (HR.out _ HW.out.keep) (j : Int) (by omega) (by have := HKL.out; omega)
        subst hAd
        rw [Int.toNat_natCast] at hcell
        have hmn : n + j < 64 := by have := HKN.out; omega
        have HPJ := Aside0.mk hpj
        have HQJ := Aside0.mk hqj
        have hff := hpj.hf
        clear hqj
        obtain ⟨m, hm⟩ : ∃ m, m = n + j := ⟨_, rfl⟩
        rw [← hm] at hmn
        have HPJ := Aside0.mk (hm ▸ HPJ.out : IsPipe wr g Rj f m)
        have HQJ := Aside0.mk (hm ▸ HQJ.out : que Rj f m = que R f n ++ l1.take j)
        have hpj := HPJ.out
        have HEM := Aside0.mk hm
        clear hm
        obtain ⟨s, hs⟩ : ∃ s, s = f + m := ⟨_, rfl⟩
        obtain ⟨p, hpp⟩ : ∃ p, p = s % 64 := ⟨_, rfl⟩
        have hp64 : p < 64 := by omega
        have e1 : wrap64 ((f : Int) + (m : Int)) = (s : Int) := by unfold wrap64; omega
        have e2 : Int.tmod (s : Int) 64 = (p : Int) := by
          rw [hpp, show (64 : Int) = ((64 : Nat) : Int) from rfl, ← Int.ofNat_tmod]
        have e3 : IntKind.i64.wrap ((f : Int) + (m : Int)) = (s : Int) := (IntWalk.i64_left _).trans e1
        have p0 : (0 : Int) ≤ (p : Int) := Int.natCast_nonneg p
        have p1 : (p : Int) < 64 := Int.ofNat_lt.2 hp64
        have k1 := hpj.first
        have k2 := hpj.count
        have HS := Aside0.mk hs
        have HPP := Aside0.mk hpp
        have HFF := Aside0.mk hff
        have HMN := Aside0.mk hmn
        have hfz := blk_frozen hpj.blk p
        have hrg := hpj.ring p hp64
        have hfz2 := blk_frozen hpj.blk 65
        clear hs hpp hff hmn hpj
        go_wp2_with fail
        go_still_tail 15, (by kernel_rfl)
        change wpList _ _ _ _ _ wr.drew
        have hrg2 : wr.drew.cell? ⟨g, p, none⟩ = some (.int .u8 (Rj.getD p 0)) := hrg
        have hfz3 : wr.drew.frozen? ⟨g, p, none⟩ = false := hfz
        have hpj2 := (HPJ.out.put p hp64 (rd l1 j)).drew
        have HPJ2 := Aside0.mk hpj2
        have k22 := hpj2.count
        have hfz4 := blk_frozen hpj2.blk 65
        have e5 : wrap64 ((m : Int) + 1) = ((m + 1 : Nat) : Int) := by clear e1 e2 e3; have := HMN.out; unfold wrap64; omega
        have e6 : wrap64 ((j : Int) + 1) = ((j + 1 : Nat) : Int) := by clear e1 e2 e3; have := HKN.out; unfold wrap64; omega
        clear hcell e1 e2 e3 p0 p1 k1 k2 hfz hrg hfz2 hpj2
        go_wp2_with fail
        have hem := HEM.out
        have hkn := HKN.out
        have hkl := HKL.out
        have hjl : j < l1.length := by omega
        have hrd : rd l1 (j : Int) = l1[j] := by
          unfold rd
          rw [Int.toNat_natCast, List.getD_eq_getElem?_getD, List.getElem?_eq_getElem hjl]
          rfl
        have hq1 := que_put Rj f m (rd l1 j) HPJ.out.len (by omega)
        rw [← HS.out, ← HPP.out, HQJ.out, List.append_assoc, hrd, ← List.take_succ_eq_append_getElem hjl] at hq1
        rw [← hrd] at hq1
        refine ⟨⟨j + 1, by omega, by rw [e6], ⟨Rj.set p (rd l1 j), ?_, ?_⟩, ⟨((HW.out.set p _).set 65 _).drew⟩⟩, ?_⟩
        · rw [show n + (j + 1) = m + 1 from by omega]
          exact ((HPJ.out.put p hp64 (rd l1 j)).setCount (m + 1) (by omega)).drew
        · rw [show n + (j + 1) = m + 1 from by omega]
          exact hq1
        · rw [e6]
          simp [intOf]
          omega
      · obtain rfl : j = k := by omega
        obtain ⟨Rj, hpj, hqj⟩ := HQ.out
        have HPJ := Aside0.mk hpj
        have HQJ := Aside0.mk hqj
        clear hpj hqj
        go_wp2
        go_ret
        exact ⟨Rj, rfl, HPJ.out, HQJ.out, HW.out⟩

/-- How many elements a slice has. -/
def lenOf : Value → Nat
  | .slice _ n _ => n
  | _ => 0
set_option maxHeartbeats 2000000 in
theorem pipe_Read.calls (g : Nat) (R : List Int) (f n : Nat) (a1 : Int) (w : World) (hp : IsPipe w g R f n) :
    Calls Try.prog 9 #[.pointer (some ⟨g, 0, none⟩), .int .i64 a1] w fun e w' => ∃ (v : Value) (f' : Nat), e = .returned v ∧ Kd.R (Kd.int .u8) 5 w' w.heap.size (fun k => w.heap.size ≤ k) v ((que R f n).take (min a1.toNat n)) ∧ IsPipe w' g R f' (n - min a1.toNat n) ∧ que R f' (n - min a1.toNat n) = (que R f n).drop (min a1.toNat n) ∧ Only w w' g := by
  obtain ⟨q, hq⟩ : ∃ q, q = min a1.toNat n := ⟨_, rfl⟩
  rw [← hq]
  have HP := Aside0.mk hp
  have HQ := Aside0.mk hq
  have HN := Aside0.mk hp.hn
  have HG := Aside0.mk (blk_lt hp.blk)
  clear hp hq
  go_enter Try.func9, Try.ntmps9
  go_wp2_with fail
  go_loopw [5] (fun v wr => ∃ (j fj : Nat), j ≤ q ∧ Aside0 (Kd.R (Kd.int .u8) 5 wr w.heap.size (fun k => w.heap.size ≤ k) v ((que R f n).take j)) ∧ Aside0 (IsPipe wr g R fj (n - j) ∧ que R fj (n - j) = (que R f n).drop j) ∧ Aside0 (Only w wr g)) (fun v _ => q - lenOf v)
  case atStart => exact ⟨0, f, Nat.zero_le _, ⟨Kd.R_nil _ _ _ _ _⟩, ⟨HP.out, rfl⟩, ⟨Only.refl _ _⟩⟩
  case round =>
    obtain ⟨j, fj, hj, HO, HI, HW⟩ := hrel
    have hjn : j ≤ n := by have := HQ.out; omega
    have hlen : ((que R f n).take j).length = j := by rw [List.length_take, que_length]; omega
    obtain ⟨Av, cv, he⟩ := Kd.R_slice HO.out
    rw [hlen] at he
    subst he
    have HL := Aside0.mk hlen
    obtain ⟨m, hm⟩ : ∃ m, m = n - j := ⟨_, rfl⟩
    have HPI := Aside0.mk (hm ▸ HI.out.1 : IsPipe wr g R fj m)
    have HQI := Aside0.mk (hm ▸ HI.out.2 : que R fj m = (que R f n).drop j)
    have HM := Aside0.mk hm
    have HJN := Aside0.mk hjn
    clear hlen hjn hm HI
    have k2 := HPI.out.count
    by_cases hlt : j < q
    · have h1 : decide ((j : Int) < a1) = true := decide_eq_true (by have := HQ.out; omega)
      have h2 : decide ((m : Int) > 0) = true := decide_eq_true (by have := HQ.out; have := HM.out; have := HJN.out; omega)
      have h22 : (0 : Int) < (m : Int) := of_decide_eq_true h2
      have k1 := HPI.out.first
      have hff := HPI.out.hf
      have hrg := HPI.out.ring fj hff
      have p0 : (0 : Int) ≤ (fj : Int) := Int.natCast_nonneg fj
      have p1 : (fj : Int) < 64 := Int.ofNat_lt.2 hff
      obtain ⟨x, hx⟩ : ∃ x, x = R.getD fj 0 := ⟨_, rfl⟩
      rw [← hx] at hrg
      have HX := Aside0.mk hx
      have HFF := Aside0.mk hff
      clear hx hff
      go_wp2_with fail
      generalize wr = W0 at *
      have HSA := Aside0.mk (show w.heap.size ≤ (W0.alloc (.cells #[.int .u8 x] 5)).heap.size from by have := HW.out.keep.1; simp; omega)
      have HFR := Aside0.mk (fun (k : Nat) (hk : (W0.alloc (.cells #[.int .u8 x] 5)).heap.size ≤ k) => show w.heap.size ≤ k from Nat.le_trans HSA.out hk)
      have HLL := Aside0.mk (show (((que R f n).take j).length + 1) * 1 ≤ 140737488355328 from by rw [HL.out]; have := HJN.out; have := HN.out; omega)
      have HNE := Aside0.mk (show some g ≠ (Value.slice Av j cv).ownBlock from fun e => by have := HO.out.1 g e.symm; have := HG.out; omega)
      have HOW := Aside0.mk (show (Value.slice Av j cv).ownBlock = none ∨ ∃ b, (Value.slice Av j cv).ownBlock = some b ∧ w.heap.size ≤ b from by
        cases hv : (Value.slice Av j cv).ownBlock with
        | none => exact Or.inl rfl
        | some b => exact Or.inr ⟨b, rfl, HO.out.1 b hv⟩)
      go_region_held3 (fun w' => w'.cell? ⟨g, 64, none⟩ = some (.int .i64 fj) ∧ w'.cell? ⟨g, fj, none⟩ = some (.int .u8 x)) (first | exact ⟨k1, hrg⟩ | exact ⟨c1, c2⟩ | go_keep)
        (first | (refine Kd.R_append_rows_step (Kd.int .u8) (w0 := (W0.alloc (.cells #[.int .u8 x] 5)).drew) w.heap.size (by rfl) (.tmp 17) (.tmp 27) 22 5 (.int .u8 0) 1 rfl Try.underlying22 info5 rfl (by decide) (by omega) (.slice Av j cv) ((que R f n).take j) [x] _ _ _ (fun k => w.heap.size ≤ k) (fun _ => False) rfl rfl (Kd.R_drew (Kd.R_alloc HO.out _)) (Kd.C_drew (Own.marked_reads W0 5 [x] _ (0, 0) rfl (by simp))) (fun _ _ h => h) (fun _ h => h.elim) HFR.out (Below.refl _ _) HSA.out HLL.out ?_; intro v5 w5 ho hb hg hat; have HO5 := Aside0.mk ho; have HP5 := Aside0.mk (IsPipe.grown (HPI.out.alloc _).drew hg HNE.out); have HW5 := Aside0.mk ((HW.out.below (below_drew (below_alloc (Below.refl _ _) (.cells #[.int .u8 x] 5)))).grown hg HOW.out); have c1 := HP5.out.first; have c2 := HP5.out.ring fj HFF.out; rw [← HX.out] at c2; clear ho hb hg hat))
      have hjn := HJN.out
      have hqn := HQ.out
      have hm1 := HM.out
      have hn64 := HN.out
      have hfj := HFF.out
      obtain ⟨m', hm'⟩ : ∃ m', m = m' + 1 := ⟨m - 1, by omega⟩
      have hq1 := HQI.out
      rw [hm', que_take, Nat.mod_eq_of_lt hfj, ← HX.out, List.drop_eq_getElem_cons (by rw [que_length]; omega)] at hq1
      injection hq1 with hx1 hx2
      have ho5 := HO5.out
      rw [hx1, ← List.take_succ_eq_append_getElem (by rw [que_length]; omega)] at ho5
      obtain ⟨A5, c5, he5⟩ := Kd.R_slice ho5
      rw [show ((que R f n).take (j + 1)).length = j + 1 from by rw [List.length_take, que_length]; omega] at he5
      subst he5
      have HO6 := Aside0.mk ho5
      obtain ⟨s, hs⟩ : ∃ s, s = fj + 1 := ⟨_, rfl⟩
      obtain ⟨p, hpp⟩ : ∃ p, p = s % 64 := ⟨_, rfl⟩
      have hp64 : p < 64 := by omega
      rw [← hs, ← hpp] at hx2
      have HX2 := Aside0.mk hx2
      have e1 : wrap64 ((fj : Int) + 1) = (s : Int) := by unfold wrap64; omega
      have e3 : IntKind.i64.wrap ((fj : Int) + 1) = (s : Int) := (IntWalk.i64_left _).trans e1
      have e2 : Int.tmod (s : Int) 64 = (p : Int) := by
        rw [hpp, show (64 : Int) = ((64 : Nat) : Int) from rfl, ← Int.ofNat_tmod]
      have e4 : wrap64 ((m : Int) - 1) = (m' : Int) := by clear e1 e2 e3; unfold wrap64; omega
      have hp6 := HP5.out.setFirst p hp64
      have HP6 := Aside0.mk hp6
      have k6 := hp6.count
      have f5 := blk_frozen HP5.out.blk 64
      have f6 := blk_frozen hp6.blk 65
      have HMM := Aside0.mk hm'
      have HPL := Aside0.mk hp64
      clear hjn hqn hm1 hn64 hfj hm' hx1 hx2 ho5 hs hpp hp6 HO5 HO k1 hrg k2 p0 p1 h1 h2 h22 c2 hp64
      go_wp2_with fail
      have hgk : ∀ k, w.heap.size ≤ k → k ≠ g := fun k hk e => by have := HG.out; omega
      have hmm := HMM.out
      have hm1 := HM.out
      have hjn := HJN.out
      have hwk := ((KeepBut.refl w5 g none).set_ 64 (.int .i64 p)).set_ 65 (.int .i64 m')
      refine ⟨⟨j + 1, p, by omega, ⟨Kd.R_keep HO6.out hwk hgk⟩, ⟨?_, ?_⟩, ⟨(HW5.out.set 64 _).set 65 _⟩⟩, ?_⟩
      · rw [show n - (j + 1) = m' from by omega]
        exact HP6.out.setCount m' (by have := HN.out; omega)
      · rw [show n - (j + 1) = m' from by omega]
        exact HX2.out
      · simp only [lenOf]
        omega
    · have hjq : j = q := by omega
      subst hjq
      have HO9 := Aside0.mk HO.out
      have hm1 := HM.out
      have hqn := HQ.out
      by_cases ha : (j : Int) < a1
      · obtain rfl : m = 0 := by omega
        have h1 := decide_eq_true ha
        have HPF := Aside0.mk HPI.out
        have HPQ := Aside0.mk (hm1 ▸ HPI.out : IsPipe wr g R fj (n - j))
        have HQQ := Aside0.mk (hm1 ▸ HQI.out : que R fj (n - j) = (que R f n).drop j)
        clear hm1 hqn
        go_wp2
        go_ret
        exact ⟨_, fj, rfl, HO9.out, HPQ.out, HQQ.out, HW.out⟩
      · have h1 := decide_eq_false ha
        have HPQ := Aside0.mk (hm1 ▸ HPI.out : IsPipe wr g R fj (n - j))
        have HQQ := Aside0.mk (hm1 ▸ HQI.out : que R fj (n - j) = (que R f n).drop j)
        clear hm1 hqn
        go_wp2
        go_ret
        first
          | exact ⟨_, fj, rfl, HO9.out, HPQ.out, HQQ.out, HW.out⟩
          | exact ⟨_, rfl, HO9.out, fj, HPQ.out, HQQ.out, HW.out⟩

def cambiumlaw22_shown.f : Option Bool := some true
set_option maxHeartbeats 2000000 in
theorem cambiumlaw22_shown.calls (r : Bool) (w : World) (h : cambiumlaw22_shown.f = some r) :
    Calls Try.prog 6 #[] w fun e w' => e = .returned (.bool r) ∧ Below w.heap.size w w' := by
  obtain rfl : true = r := by injection h
  clear h
  have HI0 := Aside0.mk (show IsPipe (w.alloc (.cells (pcells (List.replicate 64 0) 0 0) 41)) w.heap.size (List.replicate 64 0) 0 0 from ⟨heap_alloc_new _ _, by simp, by omega, by omega⟩)
  have HB0 := Aside0.mk (below_alloc (Below.refl w.heap.size w) (.cells (pcells (List.replicate 64 0) 0 0) 41))
  have HS0 := Aside0.mk (show (w.alloc (.cells (pcells (List.replicate 64 0) 0 0) 41)).heap.size = w.heap.size + 1 from by simp)
  generalize hW : w.alloc (.cells (pcells (List.replicate 64 0) 0 0) 41) = w1 at *
  go_enter Try.func6, Try.ntmps6
  go_wp2_with fail
  refine (pipe_New.calls _).mono ?_
  rintro e w1' ⟨rfl, rfl⟩
  rw [hW]
  clear hW
  have kc := fun (w : World) (C : Array Value) (n c : Nat) => Lib.run_convert_bytes_const (P := Try.prog) w 22 5 C n c Try.underlying22 Try.underlying5
  go_wp2_with fail
  have hfoot := Kd.C_foot_ne (g := w.heap.size) (fun h => h) (Own.marked_reads w1 5 [97, 98, 99] #[.int .u8 97, .int .u8 98, .int .u8 99] (3, 4) rfl (by decide)) (fun ad e _ => by
    have h1 := HS0.out
    injection e with e
    rw [← e]
    show w1.heap.size ≠ w.heap.size
    omega)
  have K1 := pipe_Write.calls w.heap.size (List.replicate 64 0) 0 0 (some ⟨w1.heap.size, 0, none⟩) 3 [97, 98, 99] (w1.alloc (.cells #[.int .u8 97, .int .u8 98, .int .u8 99] 5 (3, 4))) (HI0.out.alloc _) hfoot (by decide)
  rw [show min ([97, 98, 99] : List Int).length (64 - 0) = 3 from rfl] at K1
  refine K1.mono ?_
  clear K1
  rintro e w3 ⟨R3, rfl, hi3, hq3, hw3⟩
  have HI3 := Aside0.mk hi3
  have HB3 := Aside0.mk (hw3.toBelow (below_alloc HB0.out _) (Nat.le_refl _))
  have hq3 : que R3 0 (0 + 3) = [97, 98, 99] := by rw [hq3]; rfl
  have HQ3 := Aside0.mk hq3
  clear hi3 hq3 hw3 hfoot kc
  go_wp2_with fail
  refine (pipe_Read.calls w.heap.size R3 0 (0 + 3) 2 w3 HI3.out).mono ?_
  rintro e w4 ⟨v4, f4, rfl, ho4, hi4, hq4, hw4⟩
  rw [HQ3.out, show (([97, 98, 99] : List Int).take (min (2 : Int).toNat (0 + 3))) = [97, 98] from rfl] at ho4
  rw [show (0 + 3 - min (2 : Int).toNat (0 + 3)) = 1 from rfl] at hi4 hq4
  rw [HQ3.out, show (([97, 98, 99] : List Int).drop (min (2 : Int).toNat (0 + 3))) = [99] from rfl] at hq4
  have HO4 := Aside0.mk ho4
  have HI4 := Aside0.mk hi4
  have HQ4 := Aside0.mk hq4
  have HB4 := Aside0.mk (hw4.toBelow HB3.out (Nat.le_refl _))
  have HG4 := Aside0.mk (blk_lt HI3.out.blk)
  clear ho4 hi4 hq4 hw4
  go_wp2_with fail
  refine (pipe_Len.calls w.heap.size R3 f4 1 w4 HI4.out).mono ?_
  rintro e w4' ⟨rfl, rfl⟩
  go_wp2_with fail
  refine (pipe_Read.calls w.heap.size R3 f4 1 9 _ HI4.out).mono ?_
  rintro e w5 ⟨v5, f5, rfl, ho5, hi5, hq5, hw5⟩
  rw [HQ4.out, show (([99] : List Int).take (min (9 : Int).toNat 1)) = [99] from rfl] at ho5
  have HB5 := Aside0.mk (hw5.toBelow HB4.out (Nat.le_refl _))
  have ho4 := Kd.R_keep HO4.out hw5.keep (fun k hk e => by have := HG4.out; omega)
  obtain ⟨A4, c4, he4⟩ := Kd.R_slice ho4
  subst he4
  obtain ⟨A5, c5, he5⟩ := Kd.R_slice ho5
  subst he5
  have e1 : strOfNums [97, 98] = ⟨#[97, 98]⟩ := by decide +kernel
  have e2 : strOfNums [99] = ⟨#[99]⟩ := by decide +kernel
  have t1 : (convert 22 9 (.slice A4 2 c4)).run Try.prog w5 = .ok (.string ⟨#[97, 98]⟩) w5 := by rw [← e1]; exact Kd.C_string Try.underlying22 Try.underlying5 Try.underlying9 (Kd.R_reads' ho4).2.2
  have t2 : (convert 22 9 (.slice A5 1 c5)).run Try.prog w5 = .ok (.string ⟨#[99]⟩) w5 := by rw [← e2]; exact Kd.C_string Try.underlying22 Try.underlying5 Try.underlying9 (Kd.R_reads' ho5).2.2
  clear e1 e2 ho4 ho5 hi5 hq5 hw5 HO4
  go_wp2
  go_ret
  exact ⟨rfl, HB5.out⟩
end Go.Proofs.Ytpcgjcipdnacoaa.P
