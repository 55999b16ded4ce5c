/- The reference's New. -/
import Derived.Test.YtoloibjdiojmlaaRef5
namespace Go.Proofs.Ytoloibjdiojmlaa.P
open Go.RowKit Go.Proofs.YtoloibjdiojmlaaW.PrintWords Go.Proofs.YtoloibjdiojmlaaW.PrintLast Go.Proofs.YtoloibjdiojmlaaW.PrintMore Go.Proofs.Ytoloibjdiojmlaa.Sep
set_option linter.unusedVariables false
set_option linter.unusedSimpArgs false
attribute [local go_sem] max2_int min2_int max_two min_two max_three min_three max_four min_four
theorem infosl2 : (Try.prog.info? 68).map (fun i => (i.zero, i.size, i.bytes)) = some (some (.slice none 0 0), 1, 24) := by kernel_rfl
section
variable {P : Program} {ops : Array Oper} {rest : List Oper} {o : Oper} {a : Act} {Q : Exit → Act → World → Prop} {Kc : Act → World → Prop} {w0 W : World} {ps : List HP}
theorem St.append_t_step (hw : Region.wanted o (yielded ops a.tmps) = true) (s x : Operand) (t e : TypeId) (z : Value) (bytes : Nat)
    (ho : o.op = .call { callee := .builtin .append, args := #[s, x], argTypes := #[t, t] })
    (ht : P.underlying t = some (.slice e)) (hinfo : (P.info? e).map (fun i => (i.zero, i.size, i.bytes)) = some (some z, 1, bytes)) (hz : z.cells.size = 1) (hb0 : 0 < bytes)
    (v : Value) (xs : List Tri) (p : Tri) (hs : a.eval s = v) (hx : a.eval x = .slice (some ⟨W.heap.size, 0, none⟩) 1 1)
    (H : St w0 W (row kSl e v xs :: ps)) (hl : (xs.length + 1) * bytes ≤ 140737488355328)
    (h : ∀ v1 w1, St w0 w1 (row kSl e v1 (xs ++ [p]) :: ps) → Kc (a.put o.dst v1) w1) :
    if Region.wanted o (yielded ops a.tmps) = true then Oper.wp P o a (W.alloc (.cells #[encT p] e)) Kc Q else Kc (a.put o.dst undef) (W.alloc (.cells #[encT p] e)) := by
  obtain ⟨F, hF, hp, hst⟩ := H.out
  refine Kd.R_append_step kSl (w0 := W) 0 hw s x t e z bytes ho ht hinfo hz (show 0 < 1 by decide) hb0 v xs p [encT p] (fun k => F k ∨ W.heap.size ≤ k) (fun _ => False) hs hx rfl (fun _ q => q.elim) (fun k hk => Or.inr hk) (Kd.R_mono hp (fun k hk => Or.inl hk)) (Below.mono (Below.refl W.heap.size W) (Nat.zero_le _)) (Nat.zero_le _) hl ?_
  intro v1 w1 hr hb hg hat
  refine h v1 w1 (hst (qs := [row kSl e v1 (xs ++ [p])]) (Step.grown hg (fun k hk => hp.1 k hk)) (Sep.one (fun k hk => hk.2) ?_))
  exact Kd.R_mono (Kd.R_bound hr) (fun k hk => ⟨hk.1, hk.2.2.1⟩)
end
theorem rowsD_new (n : Nat) : rowsD (newD n) = List.replicate n [zSec] := by
  unfold rowsD newD
  dsimp only
  apply List.ext_getElem?
  intro k
  rw [List.getElem?_zipWith, List.getElem?_replicate, List.getElem?_replicate, List.getElem?_replicate]
  by_cases hk : k < n
  · rw [if_pos hk, if_pos hk, if_pos hk]
  · rw [if_neg hk, if_neg hk, if_neg hk]
section
variable {w0 w : World} {ps : List HP}
def rn_T : Bool × List (List Nat × List Nat) := (true, [([], []), ([], []), ([1], [1]), ([2], [2]), ([3], [3]), ([], []), ([5], [5]), ([6], [6]), ([4, 7], [4, 7]), ([0, 0, 1, 2, 3, 4, 5, 6, 7, 8], [0]), ([9, 0, 1, 2, 3, 4, 5, 6, 7, 8], [9]), ([10, 8, 8, 0, 1, 2, 3, 4, 5, 6, 7, 8], [8, 10])])
def rn_B : List Nat := [0, 0, 2, 6, 14, 0, 32, 96, 254, 511, 1023, 2047]
theorem rn_tab : rtab .any (opsOf Try.f22 7) = rn_T := by kernel_rfl
theorem rn_bits : waitsOk rn_T.2 rn_B = true := by kernel_rfl
set_option maxHeartbeats 8000000 in
set_option maxRecDepth 100000 in
theorem ref_New.st (h : St w0 w ps) (n : Int) :
    Calls Try.prog 22 #[.int .i64 n] w fun e w' => NewPost w0 ps (fun g n => rdr g (newD n)) n e w' := by
  have HH := Aside0.mk h
  clear h
  by_cases h1 : n < 32
  · have h2 : decide (n < 32) = true := decide_eq_true h1
    have HNE := Aside0.mk (show ¬ (32 ≤ n ∧ n ≤ 2048) from by omega)
    go_enter Try.func22, Try.ntmps22
    go_wp2
    go_ret2
    unfold NewPost
    rw [if_neg HNE.out]
    exact ⟨rfl, HH.out⟩
  · by_cases h3 : n > 2048
    · have h4 : decide (n > 2048) = true := decide_eq_true h3
      have HNE := Aside0.mk (show ¬ (32 ≤ n ∧ n ≤ 2048) from by omega)
      go_enter Try.func22, Try.ntmps22
      go_wp2
      go_ret2
      unfold NewPost
      rw [if_neg HNE.out]
      exact ⟨rfl, HH.out⟩
    · have HPO2 := Aside0.mk (show 32 ≤ n ∧ n ≤ 2048 from by omega)
      obtain ⟨m, rfl⟩ := Int.eq_ofNat_of_zero_le (by omega : 0 ≤ n)
      have h5 : decide ((m : Int) > 2048) = false := decide_eq_false h3
      have HPO := Aside0.mk (show m ≤ 2048 from by omega)
      have h6 : ¬ (2048 : Int) < (m : Int) := h3
      have hmk : ∀ W : World, (Instr.makeSlice 33 (.int .i64 256) (.int .i64 256)).run Try.prog W = .ok (.slice (some ⟨W.heap.size, 0, none⟩) 256 256) (W.alloc (.cells (madeCells #[.int .u8 0] 256) 5)) := fun W => print_make_of (P := Try.prog) 33 5 (.int .u8 0) 1 Try.underlying33 infou8 rfl (by decide) 256 (by omega) W
      have HS0 := Aside0.mk (St.row_nil (d := kSl) (e := 68) (St.spr_nil (E := EG) (HH.out.alloc_ #[.slice none 0 0, .bool false, .bool false, .int .i64 0, .int .i64 0] 58)))
      obtain ⟨g, hg⟩ : ∃ g, w.heap.size = g := ⟨_, rfl⟩
      rw [hg] at HS0
      have HG := Aside0.mk hg
      go_enter Try.func22, Try.ntmps22
      go_wp2_with fail
      go_loopw [5] (fun ix wr => ∃ (q : Nat) (A : Option Addr) (c : Nat) (vs : List Tri), ix = .int .i64 (q : Int) ∧ q ≤ m ∧ Aside0 (St w0 wr (blk g #[.slice A q c, .bool false, .bool false, .int .i64 0, .int .i64 0] 58 :: row kSl 68 (.slice A q c) vs :: spr EG vs (List.replicate q [zSec]) none :: ps))) (fun ix _ => m - (intOf ix).toNat)
      case atStart => exact ⟨0, none, 0, [], rfl, Nat.zero_le _, ⟨St.front 2 HS0.out⟩⟩
      case round =>
        clear HS0
        obtain ⟨q, A, c, vs, rfl, hq, HS⟩ := hrel
        by_cases hlt : q < m
        · have h1 : decide ((q : Int) < (m : Int)) = true := decide_eq_true (by omega)
          have h2 : (q : Int) < (m : Int) := by omega
          have HLT := Aside0.mk hlt
          have e2 := Aside0.mk (incM q (by have := HPO.out; omega))
          have HME := Aside0.mk (measM m q hlt)
          have HVL := Aside0.mk (show vs.length = q from by rw [St.spr_len (HS.out.front 2), List.length_replicate])
          have HS3 := Aside0.mk (HS.out.drew.row_made (enc := Value.int .u8) (h1 := fun _ => rfl) (z := (0 : Int)) 5 256 (by omega))
          have HSS : Aside0 (∀ W (ps' qs : List Sep.HP), St w0 W (qs ++ (blk g #[.slice A q c, .bool false, .bool false, .int .i64 0, .int .i64 0] 58 :: ps')) → W.cell? ⟨g, 0, none⟩ = some (.slice A q c)) := ⟨fun W ps' qs H => blk_cell (St.drop_to qs H).blk_is 0⟩
          clear hlt hq
          go_upto_region 7 with fail
          refine stepStartD (fun W : World => W.cell? ⟨g, 0, none⟩ = some (.slice A q c)) 12 [0, 1, 2, 3, 4, 5, 6, 7, 8, 9, 10, 11] [11] rn_tab rn_bits (by kernel_rfl) rfl (HSS.out _ _ [] HS.out.drew) (fun HT_ HW_ hHeld => ?_)
          iterate 4 (refine stepPu (v := ?_) rfl rfl (any_of HT_.out (by kernel_rfl)) (fun _ _ _ h => h) (Or.inl ⟨by rfl, ?_⟩) (a' := ?_) ?_ ?_; rotate_left; (· intro w'; go_simp; with_reducible rfl); rotate_left; (· (simp only [Act.put, List.setIfInBounds_toArray, List.set_cons_zero, List.set_cons_succ, i64_w, i32_w]; rfl)))
          (refine stepLd (v := ?_) rfl rfl (take_ofW HT_.out HW_.out (by kernel_rfl)) (fun _ _ _ h => h) (Or.inl ⟨by rfl, ?_⟩) hHeld (a' := ?_) ?_ ?_; rotate_left; (· rintro w' s0; go_simp; with_reducible rfl); rotate_left; (· (simp only [Act.put, List.setIfInBounds_toArray, List.set_cons_zero, List.set_cons_succ, i64_w, i32_w]; rfl)))
          refine stepOne rfl rfl (one_of HT_.out (by kernel_rfl)) (by decide) (fun K hK => ?_)
          refine step_ran (v := .slice (some ⟨wr.heap.size, 0, none⟩) 256 256) (w1 := wr.drew.alloc (.cells (madeCells #[.int .u8 0] 256) 5)) (by rfl) (by
            have h9 := hmk wr.drew
            simp [execOp, Act.eval, h9, Result.andThen]) ?_
          refine hK.out _ _ (HSS.out _ _ [_] HS3.out) (fun hHeld => ?_)
          clear hK K
          refine norm_ (a' := ?_) ?_ ?_
          rotate_left
          · show Act.put _ (some 24) _ = _
            simp only [Act.put, List.setIfInBounds_toArray, List.set_cons_zero, List.set_cons_succ, i64_w, i32_w]
            rfl
          refine stepOne rfl rfl (one_of HT_.out (by kernel_rfl)) (by decide) (fun K hK => ?_)
          refine Kd.R_lit_step kSl _ 33 (by rfl) rfl (xs := [(some ⟨wr.heap.size, 0, none⟩, 256, 256)]) (inner := [.slice (some ⟨wr.heap.size, 0, none⟩) 256 256]) (ok := fun _ => True) (okp := fun _ => True) ?_ ?_ (fun _ hk => hk) trivial (Below.refl _ _) (Nat.le_refl _) (by simp) ?_
          · first | (go_simp; done) | (go_simp; rfl)
          · exact (Reps.none _ _).snoc (show kSl.M _ _ _ (some ⟨wr.heap.size, 0, none⟩, 256, 256) [.slice (some ⟨wr.heap.size, 0, none⟩) 256 256] from rfl) rfl
          intro vl wl hr hb hg_ hn_
          clear hg_ hn_
          have HS7 := Aside0.mk (HS3.out.row_new hb hr)
          clear hr hb
          obtain ⟨Al, cl, hel⟩ := (HS7.out).row_slice
          rw [List.length_singleton] at hel
          subst hel
          have b0 : St w0 wl (spr EB [(some ⟨wr.heap.size, 0, none⟩, 256, 256)] [zSec] none :: qrow kSl 33 (.slice Al 1 cl) [(some ⟨wr.heap.size, 0, none⟩, 256, 256)] :: blk g #[.slice A q c, .bool false, .bool false, .int .i64 0, .int .i64 0] 58 :: row kSl 68 (.slice A q c) vs :: spr EG vs (List.replicate q [zSec]) none :: ps) := St.spr_snoc (v := (some ⟨wr.heap.size, 0, none⟩, 256, 256)) (y := zSec) (St.spr_nil (E := EB) (St.swap (St.row_q HS7.out)))
          have HB1 := Aside0.mk (grp_in (v := encT (Al, 1, cl)) (St.swap b0))
          clear b0
          refine hK.out _ _ (HSS.out _ _ [_] HB1.out) (fun hHeld => ?_)
          clear hK K
          refine norm_ (a' := ?_) ?_ ?_
          rotate_left
          · show Act.put _ (some 25) _ = _
            simp only [Act.put, List.setIfInBounds_toArray, List.set_cons_zero, List.set_cons_succ, i64_w, i32_w]
            rfl
          refine stepOne rfl rfl (one_of HT_.out (by kernel_rfl)) (by decide) (fun K hK => ?_)
          refine step_ran (v := .slice (some ⟨wl.heap.size, 0, none⟩) 1 1) (w1 := wl.alloc (.cells #[.slice Al 1 cl] 68)) (by rfl) (by first | (go_simp; done) | (go_simp; rfl)) ?_
          refine hK.out _ _ (HSS.out _ _ [_] (HB1.out.alloc _)) (fun hHeld => ?_)
          clear hK K
          refine norm_ (a' := ?_) ?_ ?_
          rotate_left
          · show Act.put _ (some 26) _ = _
            simp only [Act.put, List.setIfInBounds_toArray, List.set_cons_zero, List.set_cons_succ, i64_w, i32_w]
            rfl
          refine stepOne rfl rfl (one_of HT_.out (by kernel_rfl)) (by decide) (fun K hK => ?_)
          refine St.append_t_step (by rfl) (.tmp 23) (.tmp 26) 56 68 (.slice none 0 0) 24 rfl Try.underlying56 infosl2 rfl (by decide) _ vs (Al, 1, cl) rfl rfl (HB1.out.front 2) (by have := HVL.out; have := HLT.out; have := HPO.out; omega) ?_
          intro v5 w5 hs5
          obtain ⟨A5, c5, he5⟩ := hs5.row_slice
          rw [List.length_append, List.length_singleton, HVL.out] at he5
          subst he5
          have HS5 := Aside0.mk hs5
          clear hs5
          refine hK.out _ _ (HSS.out _ _ [_, _] HS5.out) (fun hHeld => ?_)
          clear hK K
          refine norm_ (a' := ?_) ?_ ?_
          rotate_left
          · show Act.put _ (some 27) _ = _
            simp only [Act.put, List.setIfInBounds_toArray, List.set_cons_zero, List.set_cons_succ, i64_w, i32_w]
            rfl
          iterate 2 (refine stepPu (v := ?_) rfl rfl (any_of HT_.out (by kernel_rfl)) (fun _ _ _ h => h) (Or.inl ⟨by rfl, ?_⟩) (a' := ?_) ?_ ?_; rotate_left; (· intro w'; go_simp; with_reducible rfl); rotate_left; (· (simp only [Act.put, List.setIfInBounds_toArray, List.set_cons_zero, List.set_cons_succ, i64_w, i32_w]; rfl)))
          refine stepLast rfl rfl (one_of HT_.out (by kernel_rfl)) (by decide) (fun K hK => ?_)
          have b1 := (HS5.out.front 2).blk_set 0 (.slice A5 (q + 1) c5)
          have b2 : St w0 (w5.setCell ⟨g, 0, none⟩ (.slice A5 (q + 1) c5)) (blk g #[.slice A5 (q + 1) c5, .bool false, .bool false, .int .i64 0, .int .i64 0] 58 :: row kSl 68 (.slice A5 (q + 1) c5) (vs ++ [(Al, 1, cl)]) :: grp (encT (Al, 1, cl)) [zSec] :: spr EG vs (List.replicate q [zSec]) none :: ps) := b1
          have b3 := St.spr_snoc (E := EG) (v := (Al, 1, cl)) (y := [zSec]) ((St.front 3 (b2.front 3)).swap)
          rw [← List.replicate_succ'] at b3
          have HS7 := Aside0.mk (St.cons_swap (b3.front 1))
          have HC5 := Aside0.mk (blk_cell (HS5.out.front 2).blk_is 0)
          have HF5 := Aside0.mk (blk_frozen (HS5.out.front 2).blk_is 0)
          clear b1 b2 b3
          refine step_store_val (by rfl) 56 (.tmp 29) (.tmp 27) rfl g 0 _ rfl rfl rfl rfl (by rw [HC5.out]; rfl) HF5.out (by kernel_rfl) ?_
          refine hK.out _ _ ?_
          clear hK K
          refine done_ (done_of HT_.out (by kernel_rfl)) ?_
          clear HT_ HW_ hHeld HSS
          simp only [Act.put]
          have e0 := Aside0.mk e2.out
          go_wp2_with fail
          go_roundw
          case rel => exact ⟨q + 1, _, _, _, by first | rfl | rw [e0.out], HLT.out, HS7⟩
          case measure => exact HME.out _ (by first | rfl | exact e0.out)
        · have h1 : decide ((q : Int) < (m : Int)) = false := decide_eq_false (by omega)
          have h2 : ¬ (q : Int) < (m : Int) := by omega
          have hqn : q = m := by omega
          have h9 := HS.out
          rw [hqn] at h9
          have HF := Aside0.mk h9
          clear hq hlt hqn h9
          go_wp2
          go_ret2
          unfold NewPost
          rw [if_pos HPO2.out, Int.toNat_natCast]
          refine ⟨g, rfl, rdr_put (A := A) (c := c) (n := m) (vs := vs) (newD_ok HPO.out) (by simp [newD]) ?_⟩
          rw [rowsD_new]
          exact HF.out
end
end Go.Proofs.Ytoloibjdiojmlaa.P
