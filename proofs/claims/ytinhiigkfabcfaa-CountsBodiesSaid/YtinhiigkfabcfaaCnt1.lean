/- What the functions of the package counts do, each walked once. -/
import Derived.Test.YtinhiigkfabcfaaProg
import Derived.Test.YtinhiigkfabcfaaWWords
import Derived.Test.YtinhiigkfabcfaaWLast
import Derived.Test.YtinhiigkfabcfaaWMore
import Derived.Test.YtinhiigkfabcfaaWFoot
import Derived.Test.YtinhiigkfabcfaaWShare
import Derived.Test.YtinhiigkfabcfaaWAt
import Derived.Test.YtinhiigkfabcfaaWKept
import Derived.Test.YtinhiigkfabcfaaOwn
import Derived.Test.YtinhiigkfabcfaaSep
import Derived.Test.YtinhiigkfabcfaaCntLaw
import Derived.Below
import Derived.Deep.Draws
import Derived.Deep.AppendLies
import Derived.Maps.AppendAt
import Derived.OwnWalk
import Derived.Laws.BytesArg
import Derived.Laws.MakeOwn
import Derived.Laws.OwnMore
import Derived.Deep.OwnRows
import Derived.Tactics
import Derived.Lib.ConvBytes
import Derived.Laws.Slices
import Derived.WalkKit
import Derived.KernelRfl
import Derived.RowKit3
import Derived.Deep.LoopGhost
import Derived.Deep.QuietTactic
import Derived.BigQuiet
import Derived.WideLaws
import Derived.Deep.DeepCutAuto
import Derived.Deep.CutBlock
import Derived.Deep.RegionHeld3
import Derived.Laws.Rows
import Derived.Lib.AppendStr
import Derived.ArgAppend
import Derived.Laws.IdiomCopy
import Derived.OrdersHeld
import Derived.Laws.BitsLemmas
import Derived.RowKit
import Derived.Outline
import Derived.StillTailTactics
import Derived.Lib.SlBytesConst
import Derived.Deep.DeepCutAuto
import Derived.Deep.RegionHeld3
import Derived.Deep.RegionLaw
namespace Go.Proofs.Ytinhiigkfabcfaa.P
open Go.RowKit Go.Proofs.YtinhiigkfabcfaaW.PrintWords Go.Proofs.YtinhiigkfabcfaaW.PrintLast Go.Proofs.YtinhiigkfabcfaaW.PrintMore Go.Proofs.Ytinhiigkfabcfaa.Sep
set_option linter.unusedVariables false
attribute [local go_sem] max2_int min2_int max_two min_two max_three min_three max_four min_four
theorem info3 : (Try.prog.info? 3).map (fun i => (i.zero, i.size, i.bytes)) = some (some (.int .i64 0), 1, 8) := by kernel_rfl
theorem inc_w (j : Nat) (h : j < 100000) : wrap64 ((j : Int) + 1) = ((j + 1 : Nat) : Int) := by unfold wrap64; omega
theorem meas_w (z M : Nat) (h : z < M) (y : Int) (hy : y = ((z + 1 : Nat) : Int)) : M - (intOf (.int .i64 y)).toNat < M - (intOf (.int .i64 (z : Int))).toNat := by
  subst hy
  simp only [intOf, Int.toNat_natCast]
  omega
/-- Counts in block g. -/
abbrev cCells (A1 : Option Addr) (c1 : Nat) (A2 : Option Addr) (c2 n ar fi : Nat) : Array Value := #[.slice A1 n c1, .slice A2 n c2, .int .i64 ar, .int .i64 fi]
def cnt (g n ar fi : Nat) (now done : List Int) : HP := ex fun p : (Option Addr × Nat) × (Option Addr × Nat) => and (CP n fi now done) (all [blk g (cCells p.1.1 p.1.2 p.2.1 p.2.2 n ar fi) 58, row (Kd.int .i64) 3 (.slice p.1.1 n p.1.2) now, row (Kd.int .i64) 3 (.slice p.2.1 n p.2.2) done])
theorem Own2.at_ {w0 w : World} {ps : List HP} {e n c g : Nat} {xs : List Int} (h : St w0 w (row (Kd.int .i64) e (.slice (some ⟨g, 0, none⟩) n c) xs :: ps)) (i : Nat) (hi : i < n) (x : Int) (hx : xs.getD i 0 = x) : w.cell? ⟨g, i, none⟩ = some (.int .i64 x) := by
  obtain ⟨g1, he, hc, _⟩ := h.row_at i hi 0
  injection he with he
  injection he with he
  subst he
  rw [hc, hx]
/-- What taking a sector leaves, whatever counts they are. -/
def AllocPost (w0 : World) (ps : List HP) (C : List Int → List Int → HP) (now done : List Int) (r : Option Nat) (e : Ending) (w' : World) : Prop :=
  match r with
  | some a => e = .returned (.tuple #[.int .i64 a, .int .i64 0]) ∧ St w0 w' (C (now.set a 1) done :: ps)
  | none => e = .returned (.tuple #[.int .i64 0, .int .i64 6]) ∧ St w0 w' (C now done :: ps)
def RefPost (w0 : World) (ps : List HP) (C : List Int → List Int → HP) (now done : List Int) (a x : Int) (e : Ending) (w' : World) : Prop :=
  if x = 0 then e = .returned (.int .i64 1) ∧ St w0 w' (C now done :: ps) else if x = 65535 then e = .returned (.int .i64 7) ∧ St w0 w' (C now done :: ps) else e = .returned (.int .i64 0) ∧ St w0 w' (C (now.set a.toNat (x + 1)) done :: ps)
def UnrefPost (w0 : World) (ps : List HP) (C : List Int → List Int → HP) (now done : List Int) (a x : Int) (e : Ending) (w' : World) : Prop :=
  if x = 0 then e = .returned (.tuple #[.int .i64 0, .int .i64 1]) ∧ St w0 w' (C now done :: ps) else e = .returned (.tuple #[.int .i64 (x - 1), .int .i64 0]) ∧ St w0 w' (C (now.set a.toNat (x - 1)) done :: ps)
section
variable {w0 w : World} {ps : List HP} {g n ar fi : Nat} {now done : List Int}
theorem cnt_out (h : St w0 w (cnt g n ar fi now done :: ps)) : CP n fi now done ∧ ∃ A1 c1 A2 c2, St w0 w (blk g (cCells A1 c1 A2 c2 n ar fi) 58 :: row (Kd.int .i64) 3 (.slice A1 n c1) now :: row (Kd.int .i64) 3 (.slice A2 n c2) done :: ps) := by
  obtain ⟨⟨⟨A1, c1⟩, A2, c2⟩, h⟩ := h.out_ex
  obtain ⟨hp, h⟩ := h.out_and
  exact ⟨hp, A1, c1, A2, c2, h.out_all⟩
theorem cnt_in (hp : CP n fi now done) {A1 A2 : Option Addr} {c1 c2 : Nat} (h : St w0 w (blk g (cCells A1 c1 A2 c2 n ar fi) 58 :: row (Kd.int .i64) 3 (.slice A1 n c1) now :: row (Kd.int .i64) 3 (.slice A2 n c2) done :: ps)) : St w0 w (cnt g n ar fi now done :: ps) :=
  St.in_ex ((A1, c1), (A2, c2)) (St.in_and hp (St.in_all [_, _, _] h))
theorem cnt_cells {A1 A2 : Option Addr} {c1 c2 : Nat} {qs : List HP} (h : St w0 w (blk g (cCells A1 c1 A2 c2 n ar fi) 58 :: qs)) :
    w.cell? ⟨g, 0, none⟩ = some (.slice A1 n c1) ∧ w.cell? ⟨g, 1, none⟩ = some (.slice A2 n c2) ∧ w.cell? ⟨g, 2, none⟩ = some (.int .i64 ar) ∧ w.cell? ⟨g, 3, none⟩ = some (.int .i64 fi) :=
  ⟨blk_cell h.blk_is 0, blk_cell h.blk_is 1, blk_cell h.blk_is 2, blk_cell h.blk_is 3⟩
set_option maxHeartbeats 1000000 in
theorem counts_Get.st (h : St w0 w (cnt g n ar fi now done :: ps)) (a : Int) :
    Calls Try.prog 18 #[.pointer (some ⟨g, 0, none⟩), .int .i64 a] w fun e w' => e = .returned (.int .i64 (getR now a)) ∧ w = w' := by
  obtain ⟨hp, A1, c1, A2, c2, hs⟩ := cnt_out h
  obtain ⟨k0, k1, k2, k3⟩ := cnt_cells hs
  have HS := Aside0.mk hs
  have HP := Aside0.mk hp
  clear h hs hp k1 k2 k3
  by_cases h1 : a < 0
  · have h2 : decide (a < 0) = true := decide_eq_true h1
    rw [getR_out (by omega)]
    go_enter Try.func18, Try.ntmps18
    go_wp2
    go_ret
    exact ⟨rfl, rfl⟩
  · obtain ⟨i, rfl⟩ := Int.eq_ofNat_of_zero_le (by omega : 0 ≤ a)
    by_cases h3 : i < n
    · rw [getR_in (by rw [HP.out.ln]; exact h3)]
      obtain ⟨g1, rfl, hc, hf, _⟩ := HS.out.swap.row_at i h3 0
      have h4 : (i : Int) < (n : Int) := by omega
      have h5 : decide ((i : Int) ≥ (n : Int)) = false := decide_eq_false (by omega)
      go_enter Try.func18, Try.ntmps18
      go_wp2
      go_ret
      exact ⟨rfl, rfl⟩
    · rw [getR_out (by rw [HP.out.ln]; omega)]
      have h4 : ¬ (i : Int) < (n : Int) := by omega
      have h5 : decide ((i : Int) ≥ (n : Int)) = true := decide_eq_true (by omega)
      go_enter Try.func18, Try.ntmps18
      go_wp2
      go_ret
      exact ⟨rfl, rfl⟩
theorem counts_free.st (h : St w0 w (cnt g n ar fi now done :: ps)) (a : Nat) (ha : a < n) (b : Bool) (hb : freeB now done a = b) :
    Calls Try.prog 34 #[.pointer (some ⟨g, 0, none⟩), .int .i64 a] w fun e w' => e = .returned (.bool b) ∧ w = w' := by
  obtain ⟨hp, A1, c1, A2, c2, hs⟩ := cnt_out h
  obtain ⟨k0, k1, k2, k3⟩ := cnt_cells hs
  obtain ⟨g1, rfl, hc1, _, _⟩ := hs.swap.row_at a ha 0
  obtain ⟨g2, rfl, hc2, _, _⟩ := (hs.front 2).row_at a ha 0
  unfold freeB at hb
  obtain ⟨x, hx⟩ : ∃ x, now.getD a 0 = x := ⟨_, rfl⟩
  obtain ⟨y, hy⟩ : ∃ y, done.getD a 0 = y := ⟨_, rfl⟩
  rw [hx] at hb hc1
  rw [hy] at hb hc2
  subst hb
  have h1 : (a : Int) < (n : Int) := by omega
  clear h hs hp k2 k3 hx hy ha
  by_cases hx0 : x = 0
  · subst hx0
    go_enter Try.func34, Try.ntmps34
    go_wp2
    go_ret
    exact ⟨by simp, rfl⟩
  · have hx1 : (x == 0) = false := by simp [hx0]
    go_enter Try.func34, Try.ntmps34
    go_wp2
    go_ret
    exact ⟨by simp [hx0], rfl⟩
theorem counts_Fresh.st (h : St w0 w (cnt g n ar fi now done :: ps)) (a : Int) :
    Calls Try.prog 19 #[.pointer (some ⟨g, 0, none⟩), .int .i64 a] w fun e w' => e = .returned (.bool (freshB now done a)) ∧ w = w' := by
  obtain ⟨hp, A1, c1, A2, c2, hs⟩ := cnt_out h
  obtain ⟨k0, k1, k2, k3⟩ := cnt_cells hs
  have HS := Aside0.mk hs
  have HP := Aside0.mk hp
  have HH := Aside0.mk h
  have hr := getR_range hp.cn a
  clear h hs hp k2 k3 k0
  unfold freshB
  by_cases h1 : getR now a = 0
  · go_enter Try.func19, Try.ntmps19
    go_wp2_with fail
    refine (counts_Get.st HH.out a).mono ?_
    rintro e w' ⟨rfl, rfl⟩
    rw [h1]
    clear hr
    go_wp2
    go_ret
    exact ⟨by simp [h1], rfl⟩
  · obtain ⟨i, rfl, hi⟩ := getR_pos h1
    obtain ⟨x, hx⟩ : ∃ x, getR now (i : Int) = x := ⟨_, rfl⟩
    obtain ⟨y, hy⟩ : ∃ y, done.getD i 0 = y := ⟨_, rfl⟩
    rw [hx] at h1 hr
    have hi2 : i < n := by rw [← HP.out.ln]; exact hi
    obtain ⟨g2, rfl, hc2, _, _⟩ := (HS.out.front 2).row_at i hi2 0
    rw [hy] at hc2
    have h2 : (i : Int) < (n : Int) := by omega
    have h3 : decide (x > 0) = true := decide_eq_true (by omega)
    have h4 : decide (getR now (i : Int) ≠ 0) = true := decide_eq_true (by rw [hx]; exact h1)
    rw [h4, Int.toNat_natCast, hy]
    have HX := Aside0.mk hx
    clear hi hi2 hy hx h4
    go_enter Try.func19, Try.ntmps19
    go_wp2_with fail
    refine (counts_Get.st HH.out (i : Int)).mono ?_
    rintro e w' ⟨rfl, rfl⟩
    rw [HX.out]
    go_wp2
    go_ret
    exact ⟨by simp, rfl⟩
set_option maxHeartbeats 1000000 in
theorem counts_Free.st (h : St w0 w (cnt g n ar fi now done :: ps)) :
    Calls Try.prog 13 #[.pointer (some ⟨g, 0, none⟩)] w fun e w' => e = .returned (.int .i64 (nfree now done fi (n - fi) : Nat)) ∧ w = w' := by
  obtain ⟨hp, A1, c1, A2, c2, hs⟩ := cnt_out h
  obtain ⟨k0, k1, k2, k3⟩ := cnt_cells hs
  have HP := Aside0.mk hp
  have HH := Aside0.mk h
  obtain ⟨r, hr⟩ : ∃ r, nfree now done fi (n - fi) = r := ⟨_, rfl⟩
  rw [hr]
  have HR := Aside0.mk hr
  clear h hs hp k1 k2 hr
  go_enter Try.func13, Try.ntmps13
  go_wp2_with fail
  go_loop [3, 4] (fun c i => ∃ (a m : Nat), i = .int .i64 a ∧ c = .int .i64 m ∧ m ≤ a ∧ a ≤ n ∧ Aside0 (m + nfree now done a (n - a) = r)) (fun _ i => n - (intOf i).toNat)
  case atStart => exact ⟨fi, 0, rfl, rfl, Nat.zero_le _, HP.out.fi, ⟨by rw [Nat.zero_add]; exact HR.out⟩⟩
  case round =>
    obtain ⟨a, m, rfl, rfl, hm, ha, HQ⟩ := hrel
    have HM := Aside0.mk hm
    have HA := Aside0.mk ha
    clear hm ha
    by_cases hlt : a < n
    · have h1 : decide ((a : Int) < (n : Int)) = true := decide_eq_true (by omega)
      have h2 : (a : Int) < (n : Int) := by omega
      have HLT := Aside0.mk hlt
      obtain ⟨b, hb⟩ : ∃ b, freeB now done a = b := ⟨_, rfl⟩
      have HB := Aside0.mk hb
      have e1 := Aside0.mk (inc_w a (by have := HP.out.le; omega))
      have e2 := Aside0.mk (inc_w m (by have := HP.out.le; have := HM.out; omega))
      have hq := HQ.out
      rw [show n - a = (n - (a + 1)) + 1 from by omega] at hq
      unfold nfree at hq
      rw [hb] at hq
      have HQ2 := Aside0.mk (show (b = true → m + 1 + nfree now done (a + 1) (n - (a + 1)) = r) ∧ (b = false → m + nfree now done (a + 1) (n - (a + 1)) = r) from ⟨fun h => by rw [if_pos h] at hq; omega, fun h => by rw [if_neg (by rw [h]; decide)] at hq; omega⟩)
      clear hb hlt hq HQ
      go_wp2_with fail
      refine (counts_free.st HH.out a HLT.out b HB.out).mono ?_
      rintro e w' ⟨rfl, rfl⟩
      clear h1 h2
      cases b with
      | true =>
        go_wp2_with fail
        have h5 := e1.out
        have h6 := e2.out
        refine ⟨⟨a + 1, m + 1, by rw [h5], by rw [h6], Nat.succ_le_succ HM.out, HLT.out, ⟨HQ2.out.1 (by trivial)⟩⟩, meas_w a n HLT.out _ h5⟩
      | false =>
        go_wp2_with fail
        have h5 := e1.out
        refine ⟨⟨a + 1, m, by rw [h5], rfl, Nat.le_succ_of_le HM.out, HLT.out, ⟨HQ2.out.2 (by trivial)⟩⟩, meas_w a n HLT.out _ h5⟩
    · have h1 : decide ((a : Int) < (n : Int)) = false := decide_eq_false (by omega)
      have h2 : ¬ (a : Int) < (n : Int) := by omega
      have hq := HQ.out
      rw [show n - a = 0 from by omega] at hq
      obtain rfl : m = r := hq
      clear HR
      go_wp2
      go_ret
      exact ⟨rfl, rfl⟩
set_option maxHeartbeats 1000000 in
theorem counts_Alloc.st (h : St w0 w (cnt g n ar fi now done :: ps)) (r : Option Nat) (hr : scan now done fi (n - fi) = r) :
    Calls Try.prog 14 #[.pointer (some ⟨g, 0, none⟩)] w fun e w' => AllocPost w0 ps (cnt g n ar fi) now done r e w' := by
  obtain ⟨hp, A1, c1, A2, c2, hs⟩ := cnt_out h
  obtain ⟨k0, k1, k2, k3⟩ := cnt_cells hs
  have HP := Aside0.mk hp
  have HH := Aside0.mk h
  have HS := Aside0.mk hs
  have HR := Aside0.mk hr
  clear h hs hp k1 k2 hr
  go_enter Try.func14, Try.ntmps14
  go_wp2_with fail
  go_loop [4] (fun i => ∃ a : Nat, i = .int .i64 a ∧ a ≤ n ∧ Aside0 (scan now done a (n - a) = r)) (fun i => n - (intOf i).toNat)
  case atStart => exact ⟨fi, rfl, HP.out.fi, HR⟩
  case round =>
    obtain ⟨a, rfl, ha, HQ⟩ := hrel
    have HA := Aside0.mk ha
    clear ha
    by_cases hlt : a < n
    · have h1 : decide ((a : Int) < (n : Int)) = true := decide_eq_true (by omega)
      have h2 : (a : Int) < (n : Int) := by omega
      have HLT := Aside0.mk hlt
      obtain ⟨b, hb⟩ : ∃ b, freeB now done a = b := ⟨_, rfl⟩
      have HB := Aside0.mk hb
      have e1 := Aside0.mk (inc_w a (by have := HP.out.le; omega))
      have hq := HQ.out
      rw [show n - a = (n - (a + 1)) + 1 from by omega] at hq
      unfold scan at hq
      rw [hb] at hq
      have HQ2 := Aside0.mk (show (b = true → r = some a) ∧ (b = false → scan now done (a + 1) (n - (a + 1)) = r) from ⟨fun h => by rw [if_pos h] at hq; exact hq.symm, fun h => by rw [if_neg (by rw [h]; decide)] at hq; exact hq⟩)
      obtain ⟨g1, rfl, hc, hf, hset⟩ := HS.out.swap.row_at a hlt 0
      have HSET := Aside0.mk (hset 1)
      clear hset hb hlt hq HQ
      go_wp2_with fail
      refine (counts_free.st HH.out a HLT.out b HB.out).mono ?_
      rintro e w' ⟨rfl, rfl⟩
      cases b with
      | true =>
        go_wp2_with fail
        go_ret2
        rw [HQ2.out.1 (by trivial)]
        exact ⟨rfl, cnt_in (HP.out.set a 1 (by decide)) HSET.out.swap⟩
      | false =>
        clear h1 h2
        go_wp2_with fail
        have h5 := e1.out
        refine ⟨⟨a + 1, by rw [h5], HLT.out, ⟨HQ2.out.2 (by trivial)⟩⟩, meas_w a n HLT.out _ h5⟩
    · have h1 : decide ((a : Int) < (n : Int)) = false := decide_eq_false (by omega)
      have h2 : ¬ (a : Int) < (n : Int) := by omega
      have hq := HQ.out
      rw [show n - a = 0 from by omega] at hq
      obtain rfl : none = r := hq
      clear HR
      go_wp2
      go_ret2
      exact ⟨rfl, HH.out⟩
set_option maxHeartbeats 1000000 in
theorem counts_Ref.st (h : St w0 w (cnt g n ar fi now done :: ps)) (a : Int) (x : Int) (hx : getR now a = x) :
    Calls Try.prog 17 #[.pointer (some ⟨g, 0, none⟩), .int .i64 a] w fun e w' => RefPost w0 ps (cnt g n ar fi) now done a x e w' := by
  obtain ⟨hp, A1, c1, A2, c2, hs⟩ := cnt_out h
  obtain ⟨k0, k1, k2, k3⟩ := cnt_cells hs
  have HP := Aside0.mk hp
  have HH := Aside0.mk h
  have HS := Aside0.mk hs
  have HX := Aside0.mk hx
  have hr := getR_range hp.cn a
  rw [hx] at hr
  have HRG := Aside0.mk hr
  clear h hs hp k1 k2 k3 hx hr
  by_cases h0 : x = 0
  · subst h0
    go_enter Try.func17, Try.ntmps17
    go_wp2_with fail
    refine (counts_Get.st HH.out a).mono ?_
    rintro e w' ⟨rfl, rfl⟩
    rw [HX.out]
    go_wp2
    go_ret
    exact ⟨rfl, HH.out⟩
  · by_cases h1 : x = 65535
    · subst h1
      go_enter Try.func17, Try.ntmps17
      go_wp2_with fail
      refine (counts_Get.st HH.out a).mono ?_
      rintro e w' ⟨rfl, rfl⟩
      rw [HX.out]
      go_wp2
      go_ret
      exact ⟨rfl, HH.out⟩
    · obtain ⟨i, rfl, hi⟩ := getR_pos (by rw [HX.out]; exact h0)
      have hi2 : i < n := by rw [← HP.out.ln]; exact hi
      obtain ⟨g1, rfl, hc, hf, hset⟩ := HS.out.swap.row_at i hi2 0
      rw [← getR_in hi, HX.out] at hc
      have HSET := Aside0.mk (hset (x + 1))
      have h2 : (i : Int) < (n : Int) := by omega
      have h3 : (x == 0) = false := by simp [h0]
      have h4 : (x == 65535) = false := by simp [h1]
      have e1 : wrap64 (x + 1) = x + 1 := by have := HRG.out; unfold wrap64; omega
      have HE1 := Aside0.mk e1
      have HPS := Aside0.mk (HP.out.set i (x + 1) (by have := HRG.out; omega))
      have HN0 := Aside0.mk h0
      have HN1 := Aside0.mk h1
      clear hset hi hi2 h0 h1
      go_enter Try.func17, Try.ntmps17
      go_wp2_with fail
      refine (counts_Get.st HH.out (i : Int)).mono ?_
      rintro e w' ⟨rfl, rfl⟩
      rw [HX.out]
      go_wp2
      go_ret
      unfold RefPost
      rw [if_neg HN0.out, if_neg HN1.out, Int.toNat_natCast]
      exact ⟨rfl, cnt_in HPS.out HSET.out.swap⟩
set_option maxHeartbeats 1000000 in
theorem counts_Unref.st (h : St w0 w (cnt g n ar fi now done :: ps)) (a : Int) (x : Int) (hx : getR now a = x) :
    Calls Try.prog 15 #[.pointer (some ⟨g, 0, none⟩), .int .i64 a] w fun e w' => UnrefPost w0 ps (cnt g n ar fi) now done a x e w' := by
  obtain ⟨hp, A1, c1, A2, c2, hs⟩ := cnt_out h
  obtain ⟨k0, k1, k2, k3⟩ := cnt_cells hs
  have HP := Aside0.mk hp
  have HH := Aside0.mk h
  have HS := Aside0.mk hs
  have HX := Aside0.mk hx
  have hr := getR_range hp.cn a
  rw [hx] at hr
  have HRG := Aside0.mk hr
  clear h hs hp k1 k2 k3 hx hr
  by_cases h0 : x = 0
  · subst h0
    go_enter Try.func15, Try.ntmps15
    go_wp2_with fail
    refine (counts_Get.st HH.out a).mono ?_
    rintro e w' ⟨rfl, rfl⟩
    rw [HX.out]
    go_wp2
    go_ret2
    exact ⟨rfl, HH.out⟩
  · obtain ⟨i, rfl, hi⟩ := getR_pos (by rw [HX.out]; exact h0)
    have hi2 : i < n := by rw [← HP.out.ln]; exact hi
    obtain ⟨g1, rfl, hc, hf, hset⟩ := HS.out.swap.row_at i hi2 0
    rw [← getR_in hi, HX.out] at hc
    have HSET := Aside0.mk (hset (x - 1))
    have hk := (cnt_cells HSET.out.swap).1
    have hc2 := Own2.at_ HSET.out i hi2 (x - 1) (by rw [List.getD_eq_getElem?_getD, List.getElem?_set_self hi]; rfl)
    have h2 : (i : Int) < (n : Int) := by omega
    have h3 : (x == 0) = false := by simp [h0]
    have e1 : wrap64 (x - 1) = x - 1 := by have := HRG.out; unfold wrap64; omega
    have HE1 := Aside0.mk e1
    have HPS := Aside0.mk (HP.out.set i (x - 1) (by have := HRG.out; omega))
    have HN0 := Aside0.mk h0
    clear hset hi hi2 h0
    go_enter Try.func15, Try.ntmps15
    go_wp2_with fail
    refine (counts_Get.st HH.out (i : Int)).mono ?_
    rintro e w' ⟨rfl, rfl⟩
    rw [HX.out]
    go_wp2_with fail
    go_ret2
    unfold UnrefPost
    rw [if_neg HN0.out, Int.toNat_natCast]
    exact ⟨rfl, cnt_in HPS.out HSET.out.swap⟩
end
end Go.Proofs.Ytinhiigkfabcfaa.P
