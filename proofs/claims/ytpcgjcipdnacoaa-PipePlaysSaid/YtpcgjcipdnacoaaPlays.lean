/- PipePlays's walk. -/
import Derived.Test.YtpcgjcipdnacoaaPipe2
namespace Go.Proofs.Ytpcgjcipdnacoaa.P
open Go.RowKit Go.Proofs.YtpcgjcipdnacoaaW.PrintWords Go.Proofs.YtpcgjcipdnacoaaW.PrintLast Go.Proofs.YtpcgjcipdnacoaaW.PrintMore Go.Proofs.Ytpcgjcipdnacoaa.Sep
set_option linter.unusedVariables false
attribute [local go_sem] max2_int min2_int max_two min_two max_three min_three max_four min_four
/-- A call of a play. -/
structure OpV where
  reads : Bool
  clones : Bool
  n : Int
  b : List Int
def kOp : Kd OpV := Kd.iso (Kd.pair Kd.bool (Kd.pair Kd.bool (Kd.pair (Kd.int .i64) (Kd.slice 5 (Kd.int .u8))))) (fun o => (o.reads, o.clones, o.n, o.b))
theorem kOp_cells {w : World} {o : OpV} {c : List Value} (h : kOp.K w o c) : ∃ A k, c = [.bool o.reads, .bool o.clones, .int .i64 o.n, .slice A o.b.length k] ∧ o.b.length ≤ k ∧ Kd.C (Kd.int .u8) w A o.b.length o.b := by
  obtain ⟨_, _, rfl, rfl, _, _, rfl, rfl, _, _, rfl, rfl, A, k, rfl, hl, hr⟩ := h
  exact ⟨A, k, rfl, hl, hr⟩
/-- What a row of at most 200 of its bytes is told as. -/
structure Cut2 (w : World) (A : Option Addr) (c : Nat) (N : Nat) (l : List Int) : Prop where
  len : l.length = N
  le : N ≤ 200
  cap : N ≤ c
  rd : Kd.C (Kd.int .u8) w A N l
theorem cut2 {w : World} {A : Option Addr} {c : Nat} {l : List Int} (hr : Kd.C (Kd.int .u8) w A l.length l) (hc : l.length ≤ c) (h : (200 : Int) < (l.length : Int)) :
    Cut2 w A c 200 (l.take 200) ∧ ∀ W : World, (Instr.slice 22 (.slice A l.length c) none (some (.int .i64 200)) none).run Try.prog W = .ok (.slice A 200 c) W := by
  obtain ⟨i0, hi0, _, hs0, _⟩ := info_parts info5
  have h5 := Own.C_take hr 200 (by omega)
  rw [List.length_take, show min 200 l.length = 200 from by omega] at h5
  exact ⟨⟨by rw [List.length_take]; omega, by omega, by omega, h5⟩, fun W => cut_to (P := Try.prog) 22 5 .i64 Try.underlying22 hi0 A l.length c 200 (by omega) (by omega) hc W⟩
theorem o_both (j N : Nat) : (j < N ∧ j < 60 ∧ decide ((j : Int) < (N : Int)) = true ∧ decide ((j : Int) < 60) = true ∧ (j : Int) < (N : Int) ∧ (j : Int) < 60) ∨ (decide ((j : Int) < (N : Int)) = false ∧ ¬ (j : Int) < (N : Int)) ∨ (decide ((j : Int) < (N : Int)) = true ∧ decide ((j : Int) < 60) = false ∧ (j : Int) < (N : Int) ∧ ¬ (j : Int) < 60) := by
  by_cases h : j < N
  · by_cases h2 : j < 60
    · exact Or.inl ⟨h, h2, decide_eq_true (by omega), decide_eq_true (by omega), by omega, by omega⟩
    · exact Or.inr (Or.inr ⟨decide_eq_true (by omega), decide_eq_false (by omega), by omega, by omega⟩)
  · exact Or.inr (Or.inl ⟨decide_eq_false (by omega), by omega⟩)
theorem o_lt60 (z M : Nat) (h : z < M) (h2 : M ≤ 200) : z < 200 := by omega
theorem o_measM (z M : Nat) (h : z < M) (y : Int) (hy : y = ((z + 1 : Nat) : Int)) : M - (intOf (.int .i64 y)).toNat < M - (intOf (.int .i64 (z : Int))).toNat := by
  subst hy
  simp only [intOf, Int.toNat_natCast]
  omega
theorem o_room64 (n : Nat) (h : n ≤ 64) : wrap64 (64 - (n : Int)) = 64 - (n : Int) := by unfold wrap64; omega
theorem o_inc (j : Nat) (h : j < 200) : wrap64 ((j : Int) + 1) = ((j + 1 : Nat) : Int) := by unfold wrap64; omega
theorem o_meas60 (j : Nat) (h : j < 60) (z : Int) (hz : z = ((j + 1 : Nat) : Int)) : 60 - (intOf (.int .i64 z)).toNat < 60 - (intOf (.int .i64 (j : Int))).toNat := by
  subst hz
  simp only [intOf, Int.toNat_natCast]
  omega
theorem pipe_Write.row {w0 w : World} {ps : List HP} {g n c k : Nat} {A : Option Addr} {q l : List Int} (h : St w0 w (pipe g q :: row (Kd.int .u8) 5 (.slice A n c) l :: ps)) (hk : k = min n (64 - q.length)) :
    Calls Try.prog 8 #[.pointer (some ⟨g, 0, none⟩), .slice A n c] w fun e w' => e = .returned (.int .i64 (k : Int)) ∧ St w0 w' (pipe g (q ++ l.take k) :: row (Kd.int .u8) 5 (.slice A n c) l :: ps) := by
  obtain ⟨rfl, hc, _⟩ := h.swap.row_C
  subst hk
  exact pipe_Write.st h A c l (h.row_foot (g := g) (fun F hp => hp.1)) hc
/-- The cells of a call that a play stands at. -/
abbrev oCells (rs cl : Bool) (n : Int) (A : Option Addr) (M k : Nat) : Array Value := #[.bool rs, .bool cl, .int .i64 n, .slice A M k]
theorem o_cells {w0 W : World} {ps : List HP} {go : Nat} {rs cl : Bool} {n : Int} {A : Option Addr} {M k : Nat} (h : St w0 W (blk go (oCells rs cl n A M k) 36 :: ps)) :
    W.cell? ⟨go, 0, none⟩ = some (.bool rs) ∧ W.cell? ⟨go, 1, none⟩ = some (.bool cl) ∧ W.cell? ⟨go, 2, none⟩ = some (.int .i64 n) ∧ W.cell? ⟨go, 3, none⟩ = some (.slice A M k) :=
  ⟨blk_cell h.blk_is 0, blk_cell h.blk_is 1, blk_cell h.blk_is 2, blk_cell h.blk_is 3⟩
set_option maxHeartbeats 4000000 in
set_option maxRecDepth 100000 in
theorem PipePlays_law (z0A : Option Addr) (z0c : Nat) (z0l : (List OpV)) (w : World) (h0 : Aside0 (z0l.length ≤ z0c ∧ Kd.C kOp w z0A z0l.length z0l ∧ (z0l.length ≤ maxLen ∧ ∀ y0_ ∈ z0l, (True ∧ True ∧ (Lit.int .i64 y0_.n).wf = true ∧ (y0_.b.length ≤ maxLen ∧ ∀ y1_ ∈ y0_.b, (Lit.int .u8 y1_).wf = true))))) :
    Calls Try.prog 5 #[.slice z0A z0l.length z0c] w fun e w' => e = .returned (.bool true) ∧ Below w.heap.size w w' := by
  obtain ⟨N, hN⟩ : ∃ N, z0l.length = N := ⟨_, rfl⟩
  have HN := Aside0.mk hN
  have HR0 := Aside0.mk h0.out.2.1
  have HC0 := Aside0.mk h0.out.1
  clear h0
  rw [hN] at HR0 HC0 ⊢
  clear hN
  go_enter Try.func5, Try.ntmps5
  go_wp2_with fail
  refine (cambiumlaw22_shown.calls true _ rfl).mono ?_
  rintro e w1 ⟨rfl, hb⟩
  have HS1 := Aside0.mk ((St.start w).below_ hb)
  clear hb
  go_wp2_with fail
  refine (pipe_New.st HS1.out).mono ?_
  rintro e w2 ⟨g0, rfl, hs⟩
  have HS2 := Aside0.mk hs
  clear hs HS1
  go_wp2_with fail
  have HS3 : Aside0 (St w (w2.alloc (.cells #[.slice none 0 0] 34)) [pipe g0 [], rpipe w2.heap.size []]) := ⟨St.swap (rpipe_in (v := .slice none 0 0) (St.swap (St.row_nil (HS2.out.alloc_ #[.slice none 0 0] 34))))⟩
  clear HS2
  obtain ⟨y, hy⟩ : ∃ y, w2.heap.size = y := ⟨_, rfl⟩
  rw [hy] at HS3 ⊢
  generalize w2.alloc (.cells #[.slice none 0 0] 34) = w3 at *
  clear hy
  go_loopw [4, 6, 7, 8, 9, 10] (fun p i _ _ _ _ wr => ∃ (j g : Nat) (q : List Int), j ≤ 60 ∧ p = .pointer (some ⟨g, 0, none⟩) ∧ i = .int .i64 j ∧ Aside0 (St w wr [pipe g q, rpipe y q])) (fun _ i _ _ _ _ _ => 60 - (intOf i).toNat)
  case atStart => exact ⟨0, g0, [], by omega, rfl, rfl, HS3⟩
  case round =>
    clear HS3
    obtain ⟨j, g, q, hj, rfl, rfl, HS⟩ := hrel
    rcases o_both j N with ⟨h1, h2, h3, h4, h5, h6⟩ | ⟨h1, h2⟩ | ⟨h1, h2, h3, h4⟩
    · have HJN := Aside0.mk h1
      have HJ6 := Aside0.mk h2
      obtain ⟨ad, c, hA, hcl, hK, hcs⟩ := Kd.C_get HR0.out ⟨false, false, 0, []⟩ (j : Int) (by omega) (by omega)
      rw [Int.toNat_natCast] at hK hcs
      obtain ⟨A', k', rfl, hk', hrd⟩ := kOp_cells hK
      generalize z0l.getD j ⟨false, false, 0, []⟩ = o at hK hcs hk' hrd hcl
      obtain ⟨rs, cl, n, b⟩ := o
      have hcw : ∀ k u, [Value.bool rs, .bool cl, .int .i64 n, .slice A' b.length k'][k]? = some u → wr.cell? (ad.add (j * 4 + k)) = some u := fun k u h => (HS.out.below.cell (World.block_lt_of_cell? w _ (hcs k u h))).trans (hcs k u h)
      have c0 : wr.cell? (ad.add (j * 4)) = some (.bool rs) := hcw 0 _ rfl
      have c1 : wr.cell? ⟨(ad.add (j * 4)).block, (ad.add (j * 4)).off + 1, none⟩ = some (.bool cl) := by rw [← add_field ad (j * 4) 1 (by decide)]; exact hcw 1 _ rfl
      have c2 : wr.cell? ⟨(ad.add (j * 4)).block, (ad.add (j * 4)).off + 2, none⟩ = some (.int .i64 n) := by rw [← add_field ad (j * 4) 2 (by decide)]; exact hcw 2 _ rfl
      have c3 : wr.cell? ⟨(ad.add (j * 4)).block, (ad.add (j * 4)).off + 3, none⟩ = some (.slice A' b.length k') := by rw [← add_field ad (j * 4) 3 (by decide)]; exact hcw 3 _ rfl
      clear hcw
      subst hA
      have HRD := Aside0.mk hrd
      have HKC := Aside0.mk hk'
      clear hK hcs hrd hk' hcl h1 h2
      go_upto_if 38 with fail
      go_cut [7] (fun v wx => ∃ (M : Nat) (b' : List Int), v = .pointer (some ⟨wr.heap.size, 0, none⟩) ∧ wx = wr.alloc (.cells (oCells rs cl n A' M k') 36) ∧ Aside0 (Cut2 w A' k' M b'))
      case first =>
        clear c0 c1 c2 c3
        by_cases hl : (200 : Int) < (b.length : Int)
        · obtain ⟨h1, h2⟩ := cut2 HRD.out HKC.out hl
          have H1 := Aside0.mk h1
          have h3 : decide ((200 : Int) < (b.length : Int)) = true := decide_eq_true hl
          clear h1
          go_wp2
          go_meet
          exact ⟨200, _, rfl, rfl, H1⟩
        · have H1 : Aside0 (Cut2 w A' k' b.length b) := ⟨⟨rfl, by omega, HKC.out, HRD.out⟩⟩
          have h3 : decide ((200 : Int) < (b.length : Int)) = false := decide_eq_false hl
          go_wp2
          go_meet
          exact ⟨_, _, rfl, rfl, H1⟩
      case rest =>
        obtain ⟨M, b', rfl, hw, HB⟩ := hcut
        have HS1 : Aside0 (St w wc [blk wr.heap.size (oCells rs cl n A' M k') 36, pipe g q, rpipe y q]) := ⟨by subst hw; exact HS.out.alloc_ _ _⟩
        clear hw c0 c1 c2 c3 HS HRD HKC h3 h4 h5 h6
        obtain ⟨go, hgo⟩ : ∃ go, wr.heap.size = go := ⟨_, rfl⟩
        rw [hgo] at HS1 ⊢
        clear hgo
        obtain ⟨k0, k1, k2, k3⟩ := o_cells HS1.out
        go_upto_if 44 with fail
        go_cut [4, 8] (fun p _ wx => ∃ g' : Nat, p = .pointer (some ⟨g', 0, none⟩) ∧ Aside0 (St w wx [blk go (oCells rs cl n A' M k') 36, pipe g' q, rpipe y q]))
        case first =>
          clear k0 k1 k2 k3
          cases cl with
          | false =>
            go_wp2
            go_meet
            exact ⟨g, rfl, HS1⟩
          | true =>
            go_wp2_with fail
            refine (pipe_Clone.st HS1.out.swap).mono ?_
            rintro e w5 ⟨g', rfl, hs⟩
            have HS5 := Aside0.mk (St.swap hs)
            clear hs HS1
            have kc := fun (w : World) (C : Array Value) (n c : Nat) => Lib.run_convert_bytes_const (P := Try.prog) w 22 5 C n c Try.underlying22 Try.underlying5
            go_wp2_with fail
            have hfoot := Kd.C_foot_ne (g := g) (fun h => h) (Own.marked_reads w5 5 [120, 121, 122] #[.int .u8 120, .int .u8 121, .int .u8 122] (3, 4) rfl (by decide)) (fun ad e _ => by
              have h1 := (pipe_ge HS5.out).2
              injection e with e
              rw [← e]
              show w5.heap.size ≠ g
              omega)
            refine (pipe_Write.st (HS5.out.alloc (.cells #[.int .u8 120, .int .u8 121, .int .u8 122] 5 (3, 4))) (some ⟨w5.heap.size, 0, none⟩) 3 [120, 121, 122] hfoot (by decide)).mono ?_
            rintro e w6 ⟨rfl, hs⟩
            have HS6 := Aside0.mk hs
            clear hs HS5 hfoot kc
            go_wp2_with fail
            refine (pipe_Read.st HS6.out 5).mono ?_
            rintro e w7 ⟨v7, rfl, hs, _⟩
            have HS7 := Aside0.mk (St.swap (St.drop (St.drop hs)))
            clear hs HS6
            go_wp2_with fail
            go_meet
            exact ⟨g', rfl, HS7⟩
        case rest =>
          obtain ⟨g', rfl, HS2⟩ := hcut
          clear k0 k1 k2 k3 HS1
          obtain ⟨k0, k1, k2, k3⟩ := o_cells HS2.out
          go_upto_if 57 with fail
          go_cut [9, 10] (fun _ _ wx => ∃ q' : List Int, Aside0 (St w wx [blk go (oCells rs cl n A' M k') 36, pipe g' q', rpipe y q']))
          case first =>
            have HQ64 := Aside0.mk (pipe_len HS2.out.swap)
            obtain ⟨rs', hrs⟩ : ∃ rs', rs = rs' := ⟨_, rfl⟩
            subst hrs
            cases rs with
            | true =>
              obtain ⟨x, hx⟩ : ∃ x, x = q.take (min n.toNat q.length) := ⟨_, rfl⟩
              obtain ⟨q', hq'⟩ : ∃ q', q' = q.drop (min n.toNat q.length) := ⟨_, rfl⟩
              have HX := Aside0.mk hx
              have HQ' := Aside0.mk hq'
              clear hx hq' k0 k1 k3
              have k2d : wc.drew.cell? ⟨go, 2, none⟩ = some (.int .i64 n) := k2
              go_wp2_with fail
              go_region_with (first
                | (go_at_call 9; refine (pipe_Read.st HS2.out.swap.drew n).mono ?_; rintro e w8 ⟨v8, rfl, hs8, _⟩; rw [← HX.out, ← HQ'.out] at hs8; obtain ⟨A8, c8, he8⟩ := hs8.row_slice; subst he8; have HS8 := Aside0.mk hs8; have t8 := hs8.row_string Try.underlying22 Try.underlying5 Try.underlying9; clear hs8; have k28 := (o_cells (HS8.out.front 2)).2.2.1)
                | (go_at_call 13; refine (rpipe_Read.st (HS8.out.front 3) HQ64.out n).mono ?_; rintro e w9 ⟨v9, rfl, hs9⟩; rw [← HX.out, ← HQ'.out] at hs9; obtain ⟨A9, c9, he9⟩ := hs9.row_slice; subst he9; have HS9 := Aside0.mk hs9; have t9 := hs9.row_string Try.underlying22 Try.underlying5 Try.underlying9; have t99 := (hs9.front 2).row_string Try.underlying22 Try.underlying5 Try.underlying9; clear hs9))
              all_goals
                go_wp2
                go_meet
                exact ⟨q', ⟨St.front 2 (St.front 1 (St.drop (St.swap (St.drop HS9.out))))⟩⟩
            | false =>
              have HE : Aside0 (St w (wc.alloc (.cells #[] 5)) (row (Kd.int .u8) 5 (.slice (some ⟨wc.heap.size, 0, none⟩) 0 0) ([] : List Int) :: [blk go (oCells false cl n A' M k') 36, pipe g' q, rpipe y q])) := Aside0.mk (St.row_empty (enc := Value.int .u8) (h1 := fun _ => rfl) HS2.out 5)
              have k3a := (o_cells HE.out.swap).2.2.2
              clear k0 k1 k2 k3
              go_wp2_with (first | ((with_reducible refine gate_builtin (b := .append) (xs := #[.tmp 69, .tmp 71]) rfl ?_); at_builtin; refine St.append_rows (d := Kd.int .u8) rfl (.tmp 69) (.tmp 71) 22 5 (.int .u8 0) 1 rfl Try.underlying22 info5 rfl (by decide) (by decide) _ [] b' _ _ _ rfl rfl HE.out (Kd.C_below HB.out.rd HE.out.below) (fun _ _ h => h) (show (([] : List Int).length + M) * 1 ≤ 140737488355328 from by have := HB.out.le; simp; omega) ?_; intro v6 w6 hs6; rw [List.nil_append] at hs6; obtain ⟨A6, c6, he6⟩ := hs6.row_slice; rw [HB.out.len] at he6; subst he6; have HS6 := Aside0.mk hs6; clear hs6; have k36 := (o_cells HS6.out.swap).2.2.2; clear k3a))
              obtain ⟨kk, hkk⟩ : ∃ kk, kk = min M (64 - q.length) := ⟨_, rfl⟩
              have HKK := Aside0.mk hkk
              clear hkk
              have k36d : w6.drew.cell? ⟨go, 3, none⟩ = some (.slice A' M k') := k36
              go_region_with (first
                | (go_at_call 8; refine (pipe_Write.row (St.front 2 HS6.out.drew) HKK.out).mono ?_; rintro e w7 ⟨rfl, hs7⟩; have HS7 := Aside0.mk hs7; clear hs7; have k37 := (o_cells (HS7.out.front 2)).2.2.2)
                | (go_at_call 14; refine (rpipe_Write.came (St.front 3 HS7.out) HQ64.out HB.out.rd HB.out.cap HKK.out).mono ?_; rintro e w8 ⟨rfl, hs8⟩; have HS8 := Aside0.mk (St.front 2 hs8); clear hs8))
              all_goals
                clear k36 k36d k37
                go_wp2_with fail
                go_loopw [10] (fun i wr2 => ∃ (z : Nat) (l2 : List Int), z ≤ M ∧ i = .int .i64 z ∧ Aside0 (St w wr2 [row (Kd.int .u8) 5 (.slice A6 M c6) l2, rpipe y (q ++ b'.take kk), pipe g' (q ++ b'.take kk), blk go (oCells false cl n A' M k') 36])) (fun i _ => M - (intOf i).toNat)
                case atStart => exact ⟨0, b', Nat.zero_le _, rfl, HS8⟩
                case round =>
                  obtain ⟨z, l2, hz, rfl, HL2⟩ := hrel
                  have HM2 := Aside0.mk HB.out.le
                  by_cases hlt : z < M
                  · obtain ⟨gb, rfl, hc, hf, hset⟩ := HL2.out.row_at z hlt 0
                    have HSET := Aside0.mk hset
                    have HLT := Aside0.mk hlt
                    have h1 : decide ((z : Int) < (M : Int)) = true := decide_eq_true (by omega)
                    have h2 : (z : Int) < (M : Int) := by omega
                    clear hset hlt hz
                    go_wp2_with fail
                    have e9 := o_inc z (o_lt60 z M HLT.out HM2.out)
                    exact ⟨⟨z + 1, l2.set z 0, HLT.out, by rw [e9], ⟨HSET.out 0⟩⟩, o_measM z M HLT.out _ e9⟩
                  · have h1 : decide ((z : Int) < (M : Int)) = false := decide_eq_false (by omega)
                    have h2 : ¬ (z : Int) < (M : Int) := by omega
                    clear hlt hz
                    go_wp2_with fail
                    go_meet
                    exact ⟨_, ⟨St.front 2 (St.front 1 (St.drop HL2.out))⟩⟩
          case rest =>
            obtain ⟨q', HS3⟩ := hcut
            clear k0 k1 k2 k3 HS2
            obtain ⟨Ay, cy, hs⟩ := rpipe_out (HS3.out.front 2)
            have HS4 := Aside0.mk hs
            have HQ64 := Aside0.mk (pipe_len (HS3.out.swap))
            have hcy : wc.cell? ⟨y, 0, none⟩ = some (.slice Ay q'.length cy) := blk_cell hs.blk_is 0
            have hw64 : wrap64 (64 - (q'.length : Int)) = 64 - (q'.length : Int) := o_room64 _ HQ64.out
            have hw65 : IntKind.i64.wrap (64 - (q'.length : Int)) = 64 - (q'.length : Int) := (IntWalk.i64_left _).trans hw64
            clear hs
            go_wp2_with fail
            go_quiet ((first
              | (go_at_call 10; refine Calls.quiet_of_same (pipe_Len.st (HS3.out.swap.drewN _)))
              | (go_at_call 11; refine Calls.quiet_of_same (pipe_Room.st (HS3.out.swap.drewN _)))))
            clear hcy
            go_wp2_with fail
            clear hw64 hw65
            have e9 := o_inc j (Nat.lt_trans HJ6.out (by decide))
            exact ⟨⟨j + 1, g', q', HJ6.out, rfl, by first | rfl | rw [e9], ⟨(St.drop HS3.out).drewN _⟩⟩, o_meas60 j HJ6.out _ (by first | rfl | exact e9)⟩
    · have HSE := HS
      clear HS hj
      go_wp2
      go_ret
      exact ⟨rfl, HSE.out.below⟩
    · have HSE := HS
      clear HS hj
      go_wp2
      go_ret
      exact ⟨rfl, HSE.out.below⟩
end Go.Proofs.Ytpcgjcipdnacoaa.P
