/- The document's examples. -/
import Derived.Test.YtoloibjdiojmlaaDrv7
namespace Go.Proofs.Ytoloibjdiojmlaa.P
open Go.RowKit Go.Proofs.YtoloibjdiojmlaaW.PrintWords Go.Proofs.YtoloibjdiojmlaaW.PrintLast Go.Proofs.YtoloibjdiojmlaaW.PrintMore Go.Proofs.Ytoloibjdiojmlaa.Sep
set_option linter.unusedVariables false
set_option linter.unusedSimpArgs false
attribute [local go_sem] max2_int min2_int max_two min_two max_three min_three max_four min_four
def d1 : DV := putD (stepD (newD 32)) 3 (fillS 1)
def d2 : DV := crashD d1 []
def d3 : DV := putD (stepD d2) 3 (fillS 1)
def d4 : DV := putD (stepD d3) 3 (fillS 2)
def d5 : DV := crashD d4 [1]
def d6 : DV := flushD (stepD d5)
def d7 : DV := putD (stepD d6) 3 (fillS 2)
def d8 : DV := fuseD d7 0
def d9 : DV := stepD d8
def d10 : DV := crashD d9 [0]
abbrev rowB (v : Value) (x : List Int) : HP := row (Kd.int .u8) 5 v x
abbrev rowS (v : Value) (x : List Int) : HP := row (Kd.int .u8) 66 v x
abbrev sl (g : Nat) : Value := .slice (some ⟨g, 0, none⟩) 256 256
theorem step_ran {P : Program} {ops : Array Oper} {o : Oper} {a : Act} {Q : Exit → Act → World → Prop} {Kc : Act → World → Prop} {E : Prop} {W w1 : World} {v : Value} (hw : Region.wanted o (yielded ops a.tmps) = true) (hrun : (execOp a.eval o).run P W = .ok (.value v) w1) (h : Kc (a.put o.dst v) w1) : if Region.wanted o (yielded ops a.tmps) = true then Oper.wp P o a W Kc Q else E := by
  rw [if_pos hw]
  unfold Oper.wp
  rw [hrun]
  exact h
theorem bytes_run {w0 W : World} {ps : List HP} {e g : Nat} {x : List Int} (h : St w0 W (row (Kd.int .u8) e (sl g) x :: ps)) : (convert 33 9 (sl g)).run Try.prog W = .ok (.string (strOfNums x)) W := h.row_string Try.underlying33 Try.underlying5 Try.underlying9
section
variable {w0 w : World} {ps : List HP}
def sh_T : Bool × List (List Nat × List Nat) := (true, [([], []), ([0], [0]), ([], []), ([2], [2]), ([1, 3], [1, 3]), ([4, 2], [4]), ([5], [5]), ([6, 5], [5, 6]), ([5, 5], [5]), ([8, 5], [5, 8]), ([7, 9, 5], [5, 7, 9]), ([5, 10], [5, 10]), ([11, 8], [11]), ([12], [12]), ([13, 12], [12, 13]), ([12, 12], [12]), ([15, 12], [12, 15]), ([14, 16, 12], [12, 14, 16]), ([12, 17], [12, 17]), ([18, 15], [18]), ([19], [19]), ([20, 19], [19, 20]), ([19, 21], [19, 21]), ([22, 19], [22]), ([23], [23]), ([24, 23], [23, 24]), ([23, 25], [23, 25]), ([26, 23], [26]), ([27], [27]), ([28, 27], [27, 28]), ([27, 27], [27]), ([30, 27], [27, 30]), ([29, 31, 27], [27, 29, 31]), ([27, 32], [27, 32]), ([33, 30, 0, 1, 2, 3, 4, 5, 6, 7, 8, 9, 10, 11, 12, 13, 14, 15, 16, 17, 18, 19, 20, 21, 22, 23, 24, 25, 26, 27, 28, 29, 30, 31, 32, 33], [33])])
def sh_B : List Nat := [0, 1, 0, 4, 15, 31, 63, 127, 63, 319, 1023, 2047, 4095, 8191, 16383, 8191, 40959, 131071, 262143, 524287, 1048575, 2097151, 4194303, 8388607, 16777215, 33554431, 67108863, 134217727, 268435455, 536870911, 268435455, 1342177279, 4294967295, 8589934591, 17179869183]
theorem sh_tab : rtab .any (opsOf Try.f9 19) = sh_T := by kernel_rfl
theorem sh_bits : waitsOk sh_T.2 sh_B = true := by kernel_rfl
set_option maxHeartbeats 8000000 in
set_option maxRecDepth 100000 in
theorem law03_shown.st (h : St w0 w ps) :
    Calls Try.prog 9 #[] w fun e w' => e = .returned (.bool true) ∧ St w0 w' ps := by
  have HS := Aside0.mk h
  clear h
  go_enter Try.func9, Try.ntmps9
  go_wp2_with fail
  refine (drive_New.st HS.out 32).mono ?_
  intro e w1 hp
  rw [NewPost, if_pos (by decide)] at hp
  obtain ⟨g, rfl, hs⟩ := hp
  have H1 := Aside0.mk (show St w0 w1 (drv g (newD 32) :: ps) from hs)
  clear hs HS
  go_wp2_with fail
  refine (law03_filled.st H1.out 1).mono ?_
  rintro e w2 ⟨f2, rfl, hs⟩
  have H2 := Aside0.mk (St.swap hs)
  clear hs H1
  go_wp2_with fail
  refine (drive_Write.st H2.out 3 (fillS_ok 1).2 (by decide +kernel)).mono ?_
  intro e w3 hp
  rw [WritePost, if_pos ⟨by decide +kernel, (fillS_ok 1).1⟩, if_pos (by decide +kernel)] at hp
  obtain ⟨rfl, hs⟩ := hp
  have H3 := Aside0.mk (show St w0 w3 (drv g d1 :: _) from St.drop (St.swap hs))
  clear hs H2
  go_wp2_with fail
  refine (drive_Read.st H3.out 3).mono ?_
  intro e w4 hp
  rw [ReadPost, if_neg (by decide +kernel), if_neg (by decide +kernel)] at hp
  obtain ⟨ga, rfl, hs⟩ := hp
  rw [show lastS d1 (3 : Int).toNat = fillS 1 from by decide +kernel] at hs
  have H4 := Aside0.mk (St.swap hs)
  clear hs H3
  go_wp2_with fail
  refine (drive_Crash.st H4.out (KC.nil _) (Nat.le_refl _) (fun x hx => by cases hx) (by decide +kernel)).mono ?_
  intro e w5 hp
  obtain ⟨rfl, hs⟩ := hp
  have H5 := Aside0.mk (show St w0 w5 (drv g d2 :: _) from hs)
  clear hs H4
  go_wp2_with fail
  refine (drive_Read.st H5.out 3).mono ?_
  intro e w6 hp
  rw [ReadPost, if_neg (by decide +kernel), if_neg (by decide +kernel)] at hp
  obtain ⟨gb, rfl, hs⟩ := hp
  rw [show lastS d2 (3 : Int).toNat = fillS 0 from by decide +kernel] at hs
  have H6 := Aside0.mk (St.swap hs)
  clear hs H5
  go_wp2_with fail
  refine (law03_filled.st H6.out 1).mono ?_
  rintro e w7 ⟨f7, rfl, hs⟩
  have H7 := Aside0.mk (St.swap hs)
  clear hs H6
  go_wp2_with fail
  refine (drive_Write.st H7.out 3 (fillS_ok 1).2 (by decide +kernel)).mono ?_
  intro e w8 hp
  rw [WritePost, if_pos ⟨by decide +kernel, (fillS_ok 1).1⟩, if_pos (by decide +kernel)] at hp
  obtain ⟨rfl, hs⟩ := hp
  have H8 := Aside0.mk (show St w0 w8 (drv g d3 :: _) from St.drop (St.swap hs))
  clear hs H7
  go_wp2_with fail
  refine (law03_filled.st H8.out 2).mono ?_
  rintro e w9 ⟨f9, rfl, hs⟩
  have H9 := Aside0.mk (St.swap hs)
  clear hs H8
  go_wp2_with fail
  refine (drive_Write.st H9.out 3 (fillS_ok 2).2 (by decide +kernel)).mono ?_
  intro e w10 hp
  rw [WritePost, if_pos ⟨by decide +kernel, (fillS_ok 2).1⟩, if_pos (by decide +kernel)] at hp
  obtain ⟨rfl, hs⟩ := hp
  have H10 := Aside0.mk (show St w0 w10 (drv g d4 :: _) from St.drop (St.swap hs))
  clear hs H9
  go_wp2_with ((with_reducible refine gate_dst (N := 46) rfl ?_); refine Kd.R_lit (Kd.int .i64) _ 3 ?hg (N := 46) ?hd (xs := ([1] : List Int)) (inner := [.int .i64 1]) (ok := fun _ => True) (okp := fun _ => True) ?hr ?hp (fun _ hk => hk) trivial (Below.refl _ _) (Nat.le_refl _) (by simp) ?_; (case hd => rfl); (case hg => rfl); (case hr => first | (go_simp; done) | (go_simp; rfl)); (case hp => exact (Reps.none _ _).snoc (show Kd.M (Kd.int .i64) _ _ _ (1 : Int) [.int .i64 1] from rfl) rfl); intro vl wl hr hb hg_ hn_; clear hg_ hn_; have HL := Aside0.mk (St.swap (H10.out.row_new hb hr)); clear hr hb; obtain ⟨Al, cl, hel⟩ := (St.swap HL.out).row_slice; subst hel)
  refine (drive_Crash.st HL.out (KC.part _) ((St.swap HL.out).row_C).2.1 (fun x hx => by rw [List.mem_singleton.1 hx]; decide) (by decide +kernel)).mono ?_
  intro e w11 hp
  obtain ⟨rfl, hs⟩ := hp
  have H11 := Aside0.mk (show St w0 w11 (drv g d5 :: _) from St.drop (St.swap hs))
  clear hs HL H10
  go_wp2_with fail
  refine (drive_Read.st H11.out 3).mono ?_
  intro e w12 hp
  rw [ReadPost, if_neg (by decide +kernel), if_neg (by decide +kernel)] at hp
  obtain ⟨gc, rfl, hs⟩ := hp
  rw [show lastS d5 (3 : Int).toNat = fillS 1 from by decide +kernel] at hs
  have H12 := Aside0.mk (St.swap hs)
  clear hs H11
  go_wp2_with fail
  refine (drive_Flush.st H12.out (by decide +kernel)).mono ?_
  intro e w13 hp
  rw [FlushPost, if_pos (by decide +kernel)] at hp
  obtain ⟨rfl, hs⟩ := hp
  have H13 := Aside0.mk (show St w0 w13 (drv g d6 :: _) from hs)
  clear hs H12
  go_wp2_with fail
  refine (law03_filled.st H13.out 2).mono ?_
  rintro e w14 ⟨f14, rfl, hs⟩
  have H14 := Aside0.mk (St.swap hs)
  clear hs H13
  go_wp2_with fail
  refine (drive_Write.st H14.out 3 (fillS_ok 2).2 (by decide +kernel)).mono ?_
  intro e w15 hp
  rw [WritePost, if_pos ⟨by decide +kernel, (fillS_ok 2).1⟩, if_pos (by decide +kernel)] at hp
  obtain ⟨rfl, hs⟩ := hp
  have H15 := Aside0.mk (show St w0 w15 (drv g d7 :: _) from St.drop (St.swap hs))
  clear hs H14
  go_wp2_with fail
  refine (drive_Fuse.st H15.out 0 (by decide)).mono ?_
  intro e w16 hp
  obtain ⟨rfl, hs⟩ := hp
  have H16 := Aside0.mk (show St w0 w16 (drv g d8 :: _) from hs)
  clear hs H15
  go_wp2_with fail
  refine (law03_filled.st H16.out 1).mono ?_
  rintro e w17 ⟨f17, rfl, hs⟩
  have H17 := Aside0.mk (St.swap hs)
  clear hs H16
  go_wp2_with fail
  refine (drive_Write.st H17.out 4 (fillS_ok 1).2 (by decide +kernel)).mono ?_
  intro e w18 hp
  rw [WritePost, if_pos ⟨by decide +kernel, (fillS_ok 1).1⟩, if_neg (by decide +kernel)] at hp
  obtain ⟨rfl, hs⟩ := hp
  have H18 := Aside0.mk (show St w0 w18 (drv g d9 :: _) from St.drop (St.swap hs))
  clear hs H17
  go_wp2_with fail
  refine (drive_Read.st H18.out 3).mono ?_
  intro e w19 hp
  rw [ReadPost, if_pos (by decide +kernel)] at hp
  obtain ⟨rfl, hs⟩ := hp
  have H19 := Aside0.mk hs
  clear hs H18
  go_wp2_with ((with_reducible refine gate_dst (N := 69) rfl ?_); refine Kd.R_lit (Kd.int .i64) _ 3 ?hg (N := 69) ?hd (xs := ([0] : List Int)) (inner := [.int .i64 0]) (ok := fun _ => True) (okp := fun _ => True) ?hr ?hp (fun _ hk => hk) trivial (Below.refl _ _) (Nat.le_refl _) (by simp) ?_; (case hd => rfl); (case hg => rfl); (case hr => first | (go_simp; done) | (go_simp; rfl)); (case hp => exact (Reps.none _ _).snoc (show Kd.M (Kd.int .i64) _ _ _ (0 : Int) [.int .i64 0] from rfl) rfl); intro vl wl hr hb hg_ hn_; clear hg_ hn_; have HL := Aside0.mk (St.swap (H19.out.row_new hb hr)); clear hr hb; obtain ⟨Al, cl, hel⟩ := (St.swap HL.out).row_slice; subst hel)
  refine (drive_Crash.st HL.out (KC.part _) ((St.swap HL.out).row_C).2.1 (fun x hx => by rw [List.mem_singleton.1 hx]; decide) (by decide +kernel)).mono ?_
  intro e w20 hp
  obtain ⟨rfl, hs⟩ := hp
  have H20 := Aside0.mk (show St w0 w20 (drv g d10 :: _) from St.drop (St.swap hs))
  clear hs HL H19
  go_wp2_with fail
  refine (drive_Read.st H20.out 3).mono ?_
  intro e w21 hp
  rw [ReadPost, if_neg (by decide +kernel), if_neg (by decide +kernel)] at hp
  obtain ⟨gh, rfl, hs⟩ := hp
  rw [show lastS d10 (3 : Int).toNat = fillS 1 from by decide +kernel] at hs
  have H21 := Aside0.mk (St.swap hs)
  clear hs H20
  go_upto_region 19 with fail
  have HZ := Aside0.mk (show St w0 w21 ([rowS (sl gh) (fillS 1), rowS (sl gc) (fillS 1), rowS (sl gb) (fillS 0), rowS (sl ga) (fillS 1)] ++ ps) from St.drop H21.out)
  have HSS : Aside0 (∀ W qs, St w0 W (qs ++ ([rowS (sl gh) (fillS 1), rowS (sl gc) (fillS 1), rowS (sl gb) (fillS 0), rowS (sl ga) (fillS 1)] ++ ps)) → (fun W => (convert 33 9 (sl ga)).run Try.prog W = .ok (.string (strOfNums (fillS 1))) W ∧ (convert 33 9 (sl gb)).run Try.prog W = .ok (.string (strOfNums (fillS 0))) W ∧ (convert 33 9 (sl gc)).run Try.prog W = .ok (.string (strOfNums (fillS 1))) W ∧ (convert 33 9 (sl gh)).run Try.prog W = .ok (.string (strOfNums (fillS 1))) W) W) := ⟨fun W qs H => by
    have H := St.drop_to qs H
    exact ⟨bytes_run (H.front 3), bytes_run (H.front 2), bytes_run (H.front 1), bytes_run H⟩⟩
  clear H21
  refine stepStartD (fun W => (convert 33 9 (sl ga)).run Try.prog W = .ok (.string (strOfNums (fillS 1))) W ∧ (convert 33 9 (sl gb)).run Try.prog W = .ok (.string (strOfNums (fillS 0))) W ∧ (convert 33 9 (sl gc)).run Try.prog W = .ok (.string (strOfNums (fillS 1))) W ∧ (convert 33 9 (sl gh)).run Try.prog W = .ok (.string (strOfNums (fillS 1))) W) 35 [0, 1, 2, 3, 4, 5, 6, 7, 8, 9, 10, 11, 12, 13, 14, 15, 16, 17, 18, 19, 20, 21, 22, 23, 24, 25, 26, 27, 28, 29, 30, 31, 32, 33, 34] [] sh_tab sh_bits (by kernel_rfl) rfl (HSS.out _ [] HZ.out.drew) (fun HT_ HW_ hHeld => ?_)
  (refine stepPu (v := ?_) rfl rfl (any_of HT_.out (by kernel_rfl)) (fun _ _ _ h => h) (Or.inl ⟨by rfl, ?_⟩) (a' := ?_) ?_ ?_; rotate_left; (· intro w'; go_simp; with_reducible rfl); rotate_left; (· (simp only [Act.put, List.setIfInBounds_toArray, List.set_cons_zero, List.set_cons_succ, i64_w, i32_w]; rfl)))
  (refine stepLd (v := ?_) rfl rfl (take_ofW HT_.out HW_.out (by kernel_rfl)) (fun _ _ _ h => h) (Or.inl ⟨by rfl, ?_⟩) hHeld (a' := ?_) ?_ ?_; rotate_left; (· rintro w' ⟨s0, s1, s2, s3⟩; go_simp; with_reducible rfl); rotate_left; (· (simp only [Act.put, List.setIfInBounds_toArray, List.set_cons_zero, List.set_cons_succ, i64_w, i32_w]; rfl)))
  refine stepOne rfl rfl (one_of HT_.out (by kernel_rfl)) (by decide) (fun K hK => ?_)
  refine goes_ Try.func13 (by kernel_rfl) rfl #[.int .i64 1] (by rfl) rfl rfl (by first | rfl | (simp only [List.map_toArray, List.map_cons, List.map_nil]; rfl)) ?_
  with_reducible refine (law03_filled.st HZ.out.drew 1).mono ?_
  rintro e x1 ⟨q1, rfl, hs⟩
  refine ⟨_, rfl, ?_⟩
  have HF1 := Aside0.mk hs
  clear hs
  refine hK.out _ _ (HSS.out _ [rowB (sl q1) (fillS 1)] HF1.out) (fun hHeld => ?_)
  clear hK K
  refine norm_ (a' := ?_) ?_ ?_
  rotate_left
  · show Act.put _ (some 78) _ = _
    simp only [Act.put, List.setIfInBounds_toArray, List.set_cons_zero, List.set_cons_succ, i64_w, i32_w]
    rfl
  refine stepOne rfl rfl (one_of HT_.out (by kernel_rfl)) (by decide) (fun K hK => ?_)
  refine step_ran (v := .string (strOfNums (fillS 1))) (w1 := x1) (by rfl) (by
    have h9 : (convert 33 9 (.slice (some ⟨q1, 0, none⟩) 256 256)).run Try.prog x1 = .ok (.string (strOfNums (fillS 1))) x1 := bytes_run HF1.out
    simp [execOp, Act.eval, h9, Result.andThen]) ?_
  refine hK.out _ _ (HSS.out _ [rowB (sl q1) (fillS 1)] HF1.out) (fun hHeld => ?_)
  clear hK K
  refine norm_ (a' := ?_) ?_ ?_
  rotate_left
  · show Act.put _ (some 79) _ = _
    simp only [Act.put, List.setIfInBounds_toArray, List.set_cons_zero, List.set_cons_succ, i64_w, i32_w]
    rfl
  iterate 3 (refine stepPu (v := ?_) rfl rfl (any_of HT_.out (by kernel_rfl)) (fun _ _ _ h => h) (Or.inl ⟨by rfl, ?_⟩) (a' := ?_) ?_ ?_; rotate_left; (· intro w'; go_simp; with_reducible rfl); rotate_left; (· (simp only [Act.put, List.setIfInBounds_toArray, List.set_cons_zero, List.set_cons_succ, i64_w, i32_w]; rfl)))
  (refine stepLd (v := ?_) rfl rfl (take_ofW HT_.out HW_.out (by kernel_rfl)) (fun _ _ _ h => h) (Or.inl ⟨by rfl, ?_⟩) hHeld (a' := ?_) ?_ ?_; rotate_left; (· rintro w' ⟨s0, s1, s2, s3⟩; go_simp; with_reducible rfl); rotate_left; (· (simp only [Act.put, List.setIfInBounds_toArray, List.set_cons_zero, List.set_cons_succ, i64_w, i32_w]; rfl)))
  refine stepOne rfl rfl (one_of HT_.out (by kernel_rfl)) (by decide) (fun K hK => ?_)
  refine goes_ Try.func13 (by kernel_rfl) rfl #[.int .i64 0] (by rfl) rfl rfl (by first | rfl | (simp only [List.map_toArray, List.map_cons, List.map_nil]; rfl)) ?_
  with_reducible refine (law03_filled.st HF1.out.drop 0).mono ?_
  rintro e x2 ⟨q2, rfl, hs⟩
  refine ⟨_, rfl, ?_⟩
  have HF2 := Aside0.mk hs
  clear hs
  refine hK.out _ _ (HSS.out _ [rowB (sl q2) (fillS 0)] HF2.out) (fun hHeld => ?_)
  clear hK K
  refine norm_ (a' := ?_) ?_ ?_
  rotate_left
  · show Act.put _ (some 84) _ = _
    simp only [Act.put, List.setIfInBounds_toArray, List.set_cons_zero, List.set_cons_succ, i64_w, i32_w]
    rfl
  refine stepOne rfl rfl (one_of HT_.out (by kernel_rfl)) (by decide) (fun K hK => ?_)
  refine step_ran (v := .string (strOfNums (fillS 0))) (w1 := x2) (by rfl) (by
    have h9 : (convert 33 9 (.slice (some ⟨q2, 0, none⟩) 256 256)).run Try.prog x2 = .ok (.string (strOfNums (fillS 0))) x2 := bytes_run HF2.out
    simp [execOp, Act.eval, h9, Result.andThen]) ?_
  refine hK.out _ _ (HSS.out _ [rowB (sl q2) (fillS 0)] HF2.out) (fun hHeld => ?_)
  clear hK K
  refine norm_ (a' := ?_) ?_ ?_
  rotate_left
  · show Act.put _ (some 85) _ = _
    simp only [Act.put, List.setIfInBounds_toArray, List.set_cons_zero, List.set_cons_succ, i64_w, i32_w]
    rfl
  iterate 4 (refine stepPu (v := ?_) rfl rfl (any_of HT_.out (by kernel_rfl)) (fun _ _ _ h => h) (Or.inl ⟨by rfl, ?_⟩) (a' := ?_) ?_ ?_; rotate_left; (· intro w'; go_simp; with_reducible rfl); rotate_left; (· (simp only [Act.put, List.setIfInBounds_toArray, List.set_cons_zero, List.set_cons_succ, i64_w, i32_w]; rfl)))
  (refine stepLd (v := ?_) rfl rfl (take_ofW HT_.out HW_.out (by kernel_rfl)) (fun _ _ _ h => h) (Or.inl ⟨by rfl, ?_⟩) hHeld (a' := ?_) ?_ ?_; rotate_left; (· rintro w' ⟨s0, s1, s2, s3⟩; go_simp; with_reducible rfl); rotate_left; (· (simp only [Act.put, List.setIfInBounds_toArray, List.set_cons_zero, List.set_cons_succ, i64_w, i32_w]; rfl)))
  refine stepOne rfl rfl (one_of HT_.out (by kernel_rfl)) (by decide) (fun K hK => ?_)
  refine goes_ Try.func13 (by kernel_rfl) rfl #[.int .i64 1] (by rfl) rfl rfl (by first | rfl | (simp only [List.map_toArray, List.map_cons, List.map_nil]; rfl)) ?_
  with_reducible refine (law03_filled.st HF2.out.drop 1).mono ?_
  rintro e x3 ⟨q3, rfl, hs⟩
  refine ⟨_, rfl, ?_⟩
  have HF3 := Aside0.mk hs
  clear hs
  refine hK.out _ _ (HSS.out _ [rowB (sl q3) (fillS 1)] HF3.out) (fun hHeld => ?_)
  clear hK K
  refine norm_ (a' := ?_) ?_ ?_
  rotate_left
  · show Act.put _ (some 91) _ = _
    simp only [Act.put, List.setIfInBounds_toArray, List.set_cons_zero, List.set_cons_succ, i64_w, i32_w]
    rfl
  refine stepOne rfl rfl (one_of HT_.out (by kernel_rfl)) (by decide) (fun K hK => ?_)
  refine step_ran (v := .string (strOfNums (fillS 1))) (w1 := x3) (by rfl) (by
    have h9 : (convert 33 9 (.slice (some ⟨q3, 0, none⟩) 256 256)).run Try.prog x3 = .ok (.string (strOfNums (fillS 1))) x3 := bytes_run HF3.out
    simp [execOp, Act.eval, h9, Result.andThen]) ?_
  refine hK.out _ _ (HSS.out _ [rowB (sl q3) (fillS 1)] HF3.out) (fun hHeld => ?_)
  clear hK K
  refine norm_ (a' := ?_) ?_ ?_
  rotate_left
  · show Act.put _ (some 92) _ = _
    simp only [Act.put, List.setIfInBounds_toArray, List.set_cons_zero, List.set_cons_succ, i64_w, i32_w]
    rfl
  iterate 12 (refine stepPu (v := ?_) rfl rfl (any_of HT_.out (by kernel_rfl)) (fun _ _ _ h => h) (Or.inl ⟨by rfl, ?_⟩) (a' := ?_) ?_ ?_; rotate_left; (· intro w'; go_simp; with_reducible rfl); rotate_left; (· (simp only [Act.put, List.setIfInBounds_toArray, List.set_cons_zero, List.set_cons_succ, i64_w, i32_w]; rfl)))
  (refine stepLd (v := ?_) rfl rfl (take_ofW HT_.out HW_.out (by kernel_rfl)) (fun _ _ _ h => h) (Or.inl ⟨by rfl, ?_⟩) hHeld (a' := ?_) ?_ ?_; rotate_left; (· rintro w' ⟨s0, s1, s2, s3⟩; go_simp; with_reducible rfl); rotate_left; (· (simp only [Act.put, List.setIfInBounds_toArray, List.set_cons_zero, List.set_cons_succ, i64_w, i32_w]; rfl)))
  refine stepOne rfl rfl (one_of HT_.out (by kernel_rfl)) (by decide) (fun K hK => ?_)
  refine goes_ Try.func13 (by kernel_rfl) rfl #[.int .i64 1] (by rfl) rfl rfl (by first | rfl | (simp only [List.map_toArray, List.map_cons, List.map_nil]; rfl)) ?_
  with_reducible refine (law03_filled.st HF3.out.drop 1).mono ?_
  rintro e x4 ⟨q4, rfl, hs⟩
  refine ⟨_, rfl, ?_⟩
  have HF4 := Aside0.mk hs
  clear hs
  refine hK.out _ _ (HSS.out _ [rowB (sl q4) (fillS 1)] HF4.out) (fun hHeld => ?_)
  clear hK K
  refine norm_ (a' := ?_) ?_ ?_
  rotate_left
  · show Act.put _ (some 106) _ = _
    simp only [Act.put, List.setIfInBounds_toArray, List.set_cons_zero, List.set_cons_succ, i64_w, i32_w]
    rfl
  refine stepOne rfl rfl (one_of HT_.out (by kernel_rfl)) (by decide) (fun K hK => ?_)
  refine step_ran (v := .string (strOfNums (fillS 1))) (w1 := x4) (by rfl) (by
    have h9 : (convert 33 9 (.slice (some ⟨q4, 0, none⟩) 256 256)).run Try.prog x4 = .ok (.string (strOfNums (fillS 1))) x4 := bytes_run HF4.out
    simp [execOp, Act.eval, h9, Result.andThen]) ?_
  refine hK.out _ _ (HSS.out _ [rowB (sl q4) (fillS 1)] HF4.out) (fun hHeld => ?_)
  clear hK K
  refine norm_ (a' := ?_) ?_ ?_
  rotate_left
  · show Act.put _ (some 107) _ = _
    simp only [Act.put, List.setIfInBounds_toArray, List.set_cons_zero, List.set_cons_succ, i64_w, i32_w]
    rfl
  iterate 3 (refine stepPu (v := ?_) rfl rfl (any_of HT_.out (by kernel_rfl)) (fun _ _ _ h => h) (Or.inl ⟨by rfl, ?_⟩) (a' := ?_) ?_ ?_; rotate_left; (· intro w'; go_simp; with_reducible rfl); rotate_left; (· (simp only [Act.put, List.setIfInBounds_toArray, List.set_cons_zero, List.set_cons_succ, i64_w, i32_w]; rfl)))
  refine done_ (done_of HT_.out (by kernel_rfl)) ?_
  clear HT_ HW_ hHeld HSS
  go_wp2
  go_ret
  exact ⟨rfl, St.drop_to [_, _, _, _] HF4.out.drop⟩
end
end Go.Proofs.Ytoloibjdiojmlaa.P
