/- PipeFull's walk. -/
import Derived.Test.YtpcgjcipdnacoaaPipe2
namespace Go.Proofs.Ytpcgjcipdnacoaa.P
open Go.RowKit Go.Proofs.YtpcgjcipdnacoaaW.PrintWords Go.Proofs.YtpcgjcipdnacoaaW.PrintLast Go.Proofs.YtpcgjcipdnacoaaW.PrintMore Go.Proofs.Ytpcgjcipdnacoaa.Sep
set_option linter.unusedVariables false
attribute [local go_sem] max2_int min2_int max_two min_two max_three min_three max_four min_four
/-- What a row of at most 200 of its bytes is told as. -/
structure Cut200 (w : World) (A : Option Addr) (c : Nat) (N : Nat) (l : List Int) : Prop where
  len : l.length = N
  le : N ≤ 200
  cap : N ≤ c
  rd : Kd.C (Kd.int .u8) w A N l
theorem cut200 {w : World} {A : Option Addr} {c : Nat} {l : List Int} (hr : Kd.C (Kd.int .u8) w A l.length l) (hc : l.length ≤ c) (h : (200 : Int) < (l.length : Int)) :
    Cut200 w A c 200 (l.take 200) ∧ ∀ W : World, (Instr.slice 22 (.slice A l.length c) none (some (.int .i64 200)) none).run Try.prog W = .ok (.slice A 200 c) W := by
  obtain ⟨i0, hi0, _, hs0, _⟩ := info_parts info5
  have h5 := Own.C_take hr 200 (by omega)
  rw [List.length_take, show min 200 l.length = 200 from by omega] at h5
  exact ⟨⟨by rw [List.length_take]; omega, by omega, by omega, h5⟩, fun W => cut_to (P := Try.prog) 22 5 .i64 Try.underlying22 hi0 A l.length c 200 (by omega) (by omega) hc W⟩
theorem f_min (a b k : Nat) (h : k = min a b) : (if (b : Int) < (a : Int) then (b : Int) else (a : Int)) = (k : Int) := by
  split <;> omega
theorem o_cat (l m : List Int) (n k : Nat) (h : l.length = n) : (l ++ m).take (n + k) = l.take n ++ m.take k := by
  subst h
  rw [List.take_append, List.take_of_length_le (Nat.le_add_right _ _), List.take_length, Nat.add_sub_cancel_left]
theorem o_sum (n k : Nat) (h : n + k ≤ 64) : wrap64 ((n : Int) + (k : Int)) = (n : Int) + (k : Int) := by unfold wrap64; omega
def cambiumlaw22_PipeFull.f (_l0 _l1 : List Int) : Option Bool := some true
set_option maxHeartbeats 4000000 in
set_option maxRecDepth 100000 in
theorem cambiumlaw22_PipeFull.calls (A0 : Option Addr) (c0 : Nat) (l0 : List Int) (A1 : Option Addr) (c1 : Nat) (l1 : List Int) (r : Bool) (w : World) (hr0 : Kd.C (Kd.int .u8) w A0 l0.length l0) (hc0 : l0.length ≤ c0) (hr1 : Kd.C (Kd.int .u8) w A1 l1.length l1) (hc1 : l1.length ≤ c1) (hr_ : Aside0 (r = true)) (h : cambiumlaw22_PipeFull.f l0 l1 = some r) :
    Calls Try.prog 4 #[.slice A0 l0.length c0, .slice A1 l1.length c1] w fun e w' => e = .returned (.bool r) ∧ Below w.heap.size w w' := by
  obtain rfl := hr_.out
  have HR0 := Aside0.mk hr0
  have HC0 := Aside0.mk hc0
  have HR1 := Aside0.mk hr1
  have HC1 := Aside0.mk hc1
  clear hr_ h hr0 hc0 hr1 hc1
  go_enter Try.func4, Try.ntmps4
  go_wp2_with fail
  refine (cambiumlaw22_shown.calls true _ rfl).mono ?_
  rintro e w1 ⟨rfl, hb⟩
  have HS1 := Aside0.mk ((St.start w).below_ hb)
  clear hb
  go_wp2_with fail
  refine (pipe_New.st HS1.out).mono ?_
  rintro e w2 ⟨g, rfl, hs⟩
  have HS2 := Aside0.mk hs
  clear hs HS1
  go_upto_if 20 with fail
  go_cut [0] (fun v wx => ∃ (N : Nat) (l : List Int), v = .slice A0 N c0 ∧ Aside0 (Cut200 w A0 c0 N l) ∧ w2 = wx)
  case first =>
    by_cases hl : (200 : Int) < (l0.length : Int)
    · obtain ⟨h1, h2⟩ := cut200 HR0.out HC0.out hl
      have H1 := Aside0.mk h1
      have h3 : decide ((l0.length : Int) > 200) = true := decide_eq_true hl
      clear h1
      go_wp2
      go_meet
      exact ⟨200, l0.take 200, rfl, H1, rfl⟩
    · have H1 : Aside0 (Cut200 w A0 c0 l0.length l0) := ⟨⟨rfl, by omega, HC0.out, HR0.out⟩⟩
      have h3 : decide ((l0.length : Int) > 200) = false := decide_eq_false hl
      go_wp2
      go_meet
      exact ⟨_, l0, rfl, H1, rfl⟩
  case rest =>
    obtain ⟨N, l, rfl, HL, rfl⟩ := hcut
    go_upto_if 25 with fail
    go_cut [1] (fun v wx => ∃ (M : Nat) (m : List Int), v = .slice A1 M c1 ∧ Aside0 (Cut200 w A1 c1 M m) ∧ w2 = wx)
    case first =>
      by_cases hl : (200 : Int) < (l1.length : Int)
      · obtain ⟨h1, h2⟩ := cut200 HR1.out HC1.out hl
        have H1 := Aside0.mk h1
        have h3 : decide ((l1.length : Int) > 200) = true := decide_eq_true hl
        clear h1
        go_wp2
        go_meet
        exact ⟨200, l1.take 200, rfl, H1, rfl⟩
      · have H1 : Aside0 (Cut200 w A1 c1 l1.length l1) := ⟨⟨rfl, by omega, HC1.out, HR1.out⟩⟩
        have h3 : decide ((l1.length : Int) > 200) = false := decide_eq_false hl
        go_wp2
        go_meet
        exact ⟨_, l1, rfl, H1, rfl⟩
    case rest =>
      obtain ⟨M, m, rfl, HM, rfl⟩ := hcut
      obtain ⟨n, hn⟩ : ∃ n, n = min N (64 - 0) := ⟨_, rfl⟩
      obtain ⟨k, hk⟩ : ∃ k, k = min M (64 - n) := ⟨_, rfl⟩
      have HN := Aside0.mk hn
      have HK := Aside0.mk hk
      have HLE := Aside0.mk (show n ≤ N ∧ n ≤ 64 ∧ k ≤ M ∧ n + k ≤ 64 ∧ (n < N → n = 64 ∧ k = 0) from by omega)
      clear hn hk
      have HQ1 := Aside0.mk (show (([] : List Int) ++ l.take n).length = n from by have := HL.out.len; have := HLE.out; rw [List.nil_append, List.length_take]; omega)
      go_wp2_with fail
      refine (pipe_Write.came HS2.out HL.out.rd HL.out.cap HN.out).mono ?_
      rintro e w3 ⟨rfl, hs⟩
      have HS3 := Aside0.mk hs
      clear hs HS2
      go_wp2_with fail
      refine (pipe_Write.came (k := k) HS3.out HM.out.rd HM.out.cap (by rw [HQ1.out]; exact HK.out)).mono ?_
      rintro e w4 ⟨rfl, hs⟩
      have HS4 := Aside0.mk (show St w w4 [pipe g (l.take n ++ m.take k)] from hs)
      have HS5 := Aside0.mk (show St w (w4.alloc (.cells #[] 5)) [row (Kd.int .u8) 5 (.slice (some ⟨w4.heap.size, 0, none⟩) 0 0) ([] : List Int), pipe g (l.take n ++ m.take k)] from HS4.out.row_empty _)
      clear hs HS3 HS4
      go_upto_region 12 with (first
        | ((with_reducible refine gate_builtin (b := .append) (xs := #[.tmp 34, .tmp 35]) rfl ?_); at_builtin; refine St.append_rows (d := Kd.int .u8) rfl (.tmp 34) (.tmp 35) 22 5 (.int .u8 0) 1 rfl Try.underlying22 info5 rfl (by decide) (by decide) _ [] l _ _ _ rfl rfl HS5.out (Kd.C_below HL.out.rd HS5.out.below) (fun _ _ h => h) (show (([] : List Int).length + N) * 1 ≤ 140737488355328 from by have := HL.out.le; simp; omega) ?_; intro v6 w6 hs6; rw [List.nil_append] at hs6; obtain ⟨A6, c6, he6⟩ := hs6.row_slice; rw [HL.out.len] at he6; subst he6; have HS6 := Aside0.mk hs6; clear hs6)
        | ((with_reducible refine gate_builtin (b := .append) (xs := #[.tmp 36, .tmp 37]) rfl ?_); at_builtin; refine St.append_rows (d := Kd.int .u8) rfl (.tmp 36) (.tmp 37) 22 5 (.int .u8 0) 1 rfl Try.underlying22 info5 rfl (by decide) (by decide) _ l m _ _ _ rfl rfl HS6.out (Kd.C_below HM.out.rd HS6.out.below) (fun _ _ h => h) (show (l.length + M) * 1 ≤ 140737488355328 from by have := HL.out.le; have := HL.out.len; have := HM.out.le; omega) ?_; intro v7 w7 hs7; obtain ⟨A7, c7, he7⟩ := hs7.row_slice; rw [List.length_append, HL.out.len, HM.out.len] at he7; subst he7; have HS7 := Aside0.mk hs7; clear hs7))
      have HLQ := Aside0.mk (show (l.take n ++ m.take k).length = n + k from by have := HL.out.len; have := HM.out.len; have := HLE.out; rw [List.length_append, List.length_take, List.length_take]; omega)
      go_cut [7, 8, 60] (fun a b v wx => a = .int .i64 n ∧ b = .int .i64 k ∧ v = .bool false ∧ w7 = wx)
      case first =>
        have hcase : (n = N ∧ k = M ∧ N ≤ 64 ∧ M + N ≤ 64) ∨ (n = N ∧ N ≤ 64 ∧ ¬ M + N ≤ 64 ∧ k + N ≤ 64 ∧ 64 ≤ k + N) ∨ (n = 64 ∧ k = 0 ∧ ¬ N ≤ 64) := by
          have h1 := HN.out
          have h2 := HK.out
          omega
        have HS7b := Aside0.mk HS7.out.swap
        clear HN HK HLE HQ1 HS7
        rcases hcase with ⟨rfl, rfl, h3, h4⟩ | ⟨rfl, h3, h4, h5, h6⟩ | ⟨rfl, rfl, h3⟩
        all_goals
          go_wp2_with fail
          all_goals
            refine (pipe_Len.stn HS7b.out HLQ.out).mono ?_
            rintro e w9 ⟨rfl, rfl⟩
            go_wp2
            all_goals go_meet
            all_goals first | exact ⟨rfl, rfl, rfl, rfl⟩ | exact ⟨congrArg (Value.int .i64) (by omega), congrArg (Value.int .i64) (by omega), congrArg Value.bool (by first | (simp; done) | (simp; omega)), rfl⟩
      case rest =>
        obtain ⟨rfl, rfl, rfl, rfl⟩ := hcut
        have HS8 := Aside0.mk HS7.out.swap
        clear HS7
        go_upto_if 64 with fail
        go_cut [9] (fun v wx => ∃ (A' : Option Addr) (N' c' : Nat) (x : List Int), v = .slice A' N' c' ∧ Aside0 (n + k ≤ N' ∧ N' ≤ c' ∧ N' ≤ 400 ∧ x.take (n + k) = l.take n ++ m.take k ∧ ∀ W', KeepBut w7 W' g none → Kd.C (Kd.int .u8) W' A' N' x) ∧ w7 = wx)
        case first =>
          by_cases hl : (n : Int) < (N : Int)
          · have h3 : decide ((n : Int) < (N : Int)) = true := decide_eq_true hl
            have hcut2 : ∀ W : World, (Instr.slice 22 (.slice A0 N c0) none (some (.int .i64 n)) none).run Try.prog W = .ok (.slice A0 n c0) W := fun W => by
              obtain ⟨i0, hi0, _, hs0, _⟩ := info_parts info5
              have := cut_to (P := Try.prog) 22 5 .i64 Try.underlying22 hi0 A0 N c0 n (by omega) (by omega) HL.out.cap W
              rw [Int.toNat_natCast] at this
              exact this
            have h4 := (HLE.out.2.2.2.2 (by omega))
            have HR := Aside0.mk (show ∀ W', KeepBut w7 W' g none → Kd.C (Kd.int .u8) W' A0 n (l.take n) from pipe_came HS8.out (by
              have h5 := Own.C_take (xs := l) (HL.out.len.symm ▸ HL.out.rd) n (by have := HL.out.len; have := HLE.out; omega)
              rw [List.length_take, HL.out.len, show min n N = n from by omega] at h5
              exact h5))
            have HX := Aside0.mk (show n + k ≤ n ∧ n ≤ c0 ∧ n ≤ 400 ∧ (l.take n).take (n + k) = l.take n ++ m.take k from ⟨by omega, by have := HL.out.cap; omega, by have := HLE.out; omega, by rw [h4.2, List.take_zero, List.append_nil, List.take_take, Nat.add_zero, Nat.min_self]⟩)
            clear h4
            go_wp2
            go_meet
            exact ⟨A0, n, c0, _, rfl, ⟨HX.out.1, HX.out.2.1, HX.out.2.2.1, HX.out.2.2.2, HR.out⟩, rfl⟩
          · have h3 : decide ((n : Int) < (N : Int)) = false := decide_eq_false hl
            have h4 : n = N := by have := HLE.out; omega
            have HX := Aside0.mk (show n + k ≤ N + M ∧ N + M ≤ c7 ∧ N + M ≤ 400 ∧ (l ++ m).take (n + k) = l.take n ++ m.take k from ⟨by have := HLE.out; omega, by have := HS8.out.swap.row_C; exact this.2.1, by have := HL.out.le; have := HM.out.le; omega, o_cat l m n k (by rw [HL.out.len, h4])⟩)
            have HR := Aside0.mk (HS8.out.row_foot (g := g) (fun F hp => hp.1))
            clear h4
            go_wp2
            go_meet
            exact ⟨A7, _, c7, _, rfl, ⟨HX.out.1, HX.out.2.1, HX.out.2.2.1, HX.out.2.2.2, HR.out⟩, rfl⟩
        case rest =>
          obtain ⟨A', N', c', x, rfl, HX, rfl⟩ := hcut
          have es : IntKind.i64.wrap ((n : Int) + (k : Int)) = (n : Int) + (k : Int) := (IntWalk.i64_left _).trans (o_sum n k (by have := HLE.out; omega))
          have hcut2 : ∀ W : World, (Instr.slice 22 (.slice A' N' c') none (some (.int .i64 ((n : Int) + (k : Int)))) none).run Try.prog W = .ok (.slice A' (n + k) c') W := fun W => by
            obtain ⟨i0, hi0, _, hs0, _⟩ := info_parts info5
            have := cut_to (P := Try.prog) 22 5 .i64 Try.underlying22 hi0 A' N' c' ((n : Int) + (k : Int)) (by omega) (by have := HX.out; omega) HX.out.2.1 W
            rw [show ((n : Int) + (k : Int)).toNat = n + k from by omega] at this
            exact this
          have hx := fun (W' : World) (hk : KeepBut w7 W' g none) => (show (convert 22 9 (.slice A' (n + k) c')).run Try.prog W' = .ok (.string (strOfNums (l.take n ++ m.take k))) W' from Kd.C_string Try.underlying22 Try.underlying5 Try.underlying9 (by
            have h1 := HX.out.2.2.2.2 W' hk
            have h2 := h1.1
            subst h2
            have h3 := Own.C_take h1 (n + k) HX.out.1
            rw [HX.out.2.2.2.1, HLQ.out] at h3
            exact h3))
          have HCV := Aside0.mk hx
          have t0 := hx w7 (KeepBut.refl _ _ _)
          have t1 := hx w7.drew (KeepBut.refl _ _ _)
          clear hx
          have hq0 : (l.take n ++ m.take k).take (min (1000 : Int).toNat (l.take n ++ m.take k).length) = l.take n ++ m.take k := List.take_of_length_le (by have := HLQ.out; have := HLE.out; have : (1000 : Int).toNat = 1000 := rfl; omega)
          have hq1 : (l.take n ++ m.take k).drop (min (1000 : Int).toNat (l.take n ++ m.take k).length) = [] := List.drop_of_length_le (by have := HLQ.out; have := HLE.out; have : (1000 : Int).toNat = 1000 := rfl; omega)
          have HQ0 := Aside0.mk hq0
          have HQ2 := Aside0.mk hq1
          clear hq0 hq1
          go_wp2_with fail
          go_region_with (first
            | (go_at_call 9; refine (pipe_Read.st HS8.out.drew 1000).mono ?_; rintro e w9 ⟨v9, rfl, hs9, hk9⟩; rw [HQ0.out, HQ2.out] at hs9; obtain ⟨A9, c9, he9⟩ := hs9.row_slice; rw [HLQ.out] at he9; subst he9; have HS9 := Aside0.mk hs9.swap; have t2 := HCV.out w9 hk9; have t3 := hs9.row_string Try.underlying22 Try.underlying5 Try.underlying9; clear hs9 hk9)
            | (go_at_call 10; refine (pipe_Len.stn HS9.out rfl).mono ?_; rintro e w10 ⟨rfl, rfl⟩)
            | (go_at_call 11; refine (pipe_Room.stn HS9.out rfl).mono ?_; rintro e w10 ⟨rfl, rfl⟩))
          all_goals
            go_wp2
            go_ret
            exact ⟨rfl, HS9.out.below⟩
theorem PipeFull_law (z0A : Option Addr) (z0c : Nat) (z0l : (List Int)) (z1A : Option Addr) (z1c : Nat) (z1l : (List Int)) (w : World) (h0 : Aside0 (z0l.length ≤ z0c ∧ Kd.C (Kd.int .u8) w z0A z0l.length z0l ∧ (z0l.length ≤ maxLen ∧ ∀ y0_ ∈ z0l, (Lit.int .u8 y0_).wf = true))) (h1 : Aside0 (z1l.length ≤ z1c ∧ Kd.C (Kd.int .u8) w z1A z1l.length z1l ∧ (z1l.length ≤ maxLen ∧ ∀ y0_ ∈ z1l, (Lit.int .u8 y0_).wf = true))) :
    Calls Try.prog 4 #[.slice z0A z0l.length z0c, .slice z1A z1l.length z1c] w fun e w' => e = .returned (.bool true) ∧ Below w.heap.size w w' :=
  cambiumlaw22_PipeFull.calls z0A z0c z0l z1A z1c z1l true w h0.out.2.1 h0.out.1 h1.out.2.1 h1.out.1 ⟨rfl⟩ rfl
end Go.Proofs.Ytpcgjcipdnacoaa.P
