/- Counts that are made, committed, cloned. -/
import Derived.Test.YtinhiigkfabcfaaCnt1
import Derived.Lib.SliceRun
namespace Go.Proofs.Ytinhiigkfabcfaa.P
open Go.RowKit Go.Proofs.YtinhiigkfabcfaaW.PrintWords Go.Proofs.YtinhiigkfabcfaaW.PrintLast Go.Proofs.YtinhiigkfabcfaaW.PrintMore Go.Proofs.Ytinhiigkfabcfaa.Sep
set_option linter.unusedVariables false
attribute [local go_sem] max2_int min2_int max_two min_two max_three min_three max_four min_four
section
variable {w0 w : World} {ps : List HP} {g n ar fi : Nat} {now done : List Int}
theorem areas_w (n : Nat) : ((n : Int) + 118 - 1) / 118 = (areas n : Int) := by unfold areas; omega
theorem first_w (n : Nat) : 2 + 2 * (areas n : Int) = (firstOf n : Int) := by unfold firstOf; omega
theorem super_Areas.st (n : Nat) (h2 : n ≤ 2048) (w : World) :
    Calls Try.prog 33 #[.int .i64 n] w fun e w' => e = .returned (.tuple #[.int .i64 (areas n), .int .i64 (firstOf n)]) ∧ w = w' := by
  have h3 : (n : Int) ≤ 2048 := by omega
  clear h2
  go_enter Try.func33, Try.ntmps33
  go_wp2
  go_ret2
  rw [areas_w, first_w]
  exact ⟨rfl, rfl⟩
/-- What making counts leaves. -/
def NewPost (w0 : World) (ps : List HP) (C : Nat → Nat → Nat → List Int → List Int → HP) (n : Int) (e : Ending) (w' : World) : Prop :=
  if 32 ≤ n ∧ n ≤ 2048 then ∃ g : Nat, e = .returned (.tuple #[.pointer (some ⟨g, 0, none⟩), .int .i64 0]) ∧ St w0 w' (C g n.toNat (firstOf n.toNat) (List.replicate n.toNat 0) (List.replicate n.toNat 0) :: ps)
  else e = .returned (.tuple #[.pointer none, .int .i64 1]) ∧ St w0 w' ps
set_option maxHeartbeats 1000000 in
theorem counts_New.st (h : St w0 w ps) (n : Int) :
    Calls Try.prog 12 #[.int .i64 n] w fun e w' => NewPost w0 ps (fun g n fi now done => cnt g n (areas n) fi now done) n e w' := by
  have HH := Aside0.mk h
  clear h
  by_cases h1 : n < 32
  · have h2 : decide (n < 32) = true := decide_eq_true h1
    have HNE := Aside0.mk (show ¬ (32 ≤ n ∧ n ≤ 2048) from by omega)
    go_enter Try.func12, Try.ntmps12
    go_wp2
    go_ret2
    unfold NewPost
    rw [if_neg HNE.out]
    exact ⟨rfl, HH.out⟩
  · by_cases h3 : n > 2048
    · have h4 : decide (n > 2048) = true := decide_eq_true h3
      have HNE := Aside0.mk (show ¬ (32 ≤ n ∧ n ≤ 2048) from by omega)
      go_enter Try.func12, Try.ntmps12
      go_wp2
      go_ret2
      unfold NewPost
      rw [if_neg HNE.out]
      exact ⟨rfl, HH.out⟩
    · have HPO := Aside0.mk (show 32 ≤ n ∧ n ≤ 2048 from by omega)
      obtain ⟨m, rfl⟩ := Int.eq_ofNat_of_zero_le (by omega : 0 ≤ n)
      have h5 : decide ((m : Int) > 2048) = false := decide_eq_false h3
      have HL := Aside0.mk (show 32 ≤ m ∧ m ≤ 2048 from by omega)
      have hmk := print_make_of (P := Try.prog) 36 3 (.int .i64 0) 8 Try.underlying36 info3 rfl (by decide) m (by omega)
      have h6 : ¬ (2048 : Int) < (m : Int) := h3
      have hz1 := fun W : World => (show (W.alloc (.cells (madeCells #[.int .i64 0] m) 3)).heap.size = W.heap.size + 1 from by simp)
      go_enter Try.func12, Try.ntmps12
      go_wp2_with fail
      refine (super_Areas.st m HL.out.2 w).mono ?_
      rintro e w' ⟨rfl, rfl⟩
      go_wp2_with fail
      go_region_with (fail)
      all_goals
        go_wp2
        go_ret2
        unfold NewPost
        rw [if_pos HPO.out, Int.toNat_natCast]
        have HA := HH.out.row_made (enc := Value.int .i64) (h1 := fun _ => rfl) (z := (0 : Int)) 3 m (by have := HL.out; omega)
        have HB := HA.row_made (enc := Value.int .i64) (h1 := fun _ => rfl) (z := (0 : Int)) 3 m (by have := HL.out; omega)
        rw [show (w.alloc (.cells (madeCells #[Value.int .i64 0] m) 3)).heap.size = w.heap.size + 1 from by simp] at HB
        have HP := CP.zeros (n := m) (fi := firstOf m) HL.out.2 (firstOf_le HL.out.1)
        refine ⟨w.heap.size + 1 + 1, rfl, ?_⟩
        have HZ : ((w.alloc (.cells (madeCells #[Value.int .i64 0] m) 3)).alloc (.cells (madeCells #[Value.int .i64 0] m) 3)).heap.size = w.heap.size + 1 + 1 := by simp
        have HC1 := HB.alloc_ (cCells (some ⟨w.heap.size + 1, 0, none⟩) m (some ⟨w.heap.size, 0, none⟩) m m (areas m) (firstOf m)) 58
        have HC2 := HB.alloc_ (cCells (some ⟨w.heap.size, 0, none⟩) m (some ⟨w.heap.size + 1, 0, none⟩) m m (areas m) (firstOf m)) 58
        rw [HZ] at HC1 HC2
        first
          | exact cnt_in HP HC1
          | exact cnt_in HP HC1.drew
          | exact cnt_in HP HC1.drew.drew
          | exact cnt_in HP (St.front 2 (St.front 2 (St.swap HC2)))
          | exact cnt_in HP (St.front 2 (St.front 2 (St.swap HC2.drew)))
          | exact cnt_in HP (St.front 2 (St.front 2 (St.swap HC2.drew.drew)))
          | skip
        done
set_option maxHeartbeats 1000000 in
theorem counts_Commit.st (h : St w0 w (cnt g n ar fi now done :: ps)) :
    Calls Try.prog 16 #[.pointer (some ⟨g, 0, none⟩)] w fun e w' => e = .returned (.tuple #[]) ∧ St w0 w' (cnt g n ar fi now now :: ps) := by
  obtain ⟨hp, A1, c1, A2, c2, hs⟩ := cnt_out h
  obtain ⟨k0, k1, k2, k3⟩ := cnt_cells hs
  have HP := Aside0.mk hp
  have HS := Aside0.mk (hs.drew.front 2)
  have HC := Aside0.mk (hs.drew.swap.row_C).2.2
  clear h hs hp k2 k3
  go_enter Try.func16, Try.ntmps16
  go_wp2_with fail
  go_still_tail 8, (by kernel_rfl)
  change wpList _ _ _ _ _ w.drew
  go_wp2_with (first | ((with_reducible refine gate_builtin (b := .copy) (xs := #[.tmp 5, .tmp 9]) rfl ?_); refine St.copy_all rfl (.tmp 5) (.tmp 9) 36 36 rfl 3 Try.underlying36 (by kernel_rfl) A2 A1 n c2 c1 done now rfl rfl HS.out HC.out ?_; intro w3 hs3; have HS3 := Aside0.mk hs3; clear hs3))
  go_end0
  exact ⟨rfl, cnt_in HP.out.commit (St.front 2 (St.front 2 HS3.out))⟩
set_option maxHeartbeats 1000000 in
theorem slices_Clone.st (h : St w0 w ps) {A : Option Addr} {c : Nat} {xs : List Int} (hC : Kd.C (Kd.int .i64) w A n xs) (hn : n ≤ 2048) :
    Calls Try.prog 37 #[.slice A n c] w fun e w' => ∃ v, e = .returned v ∧ St w0 w' (row (Kd.int .i64) 3 v xs :: ps) := by
  have HH := Aside0.mk h
  have HC := Aside0.mk hC
  have HN := Aside0.mk hn
  have hq := fun (w : World) (a : Option Addr) (n c n' c' : Nat) => Lib.run_eql_slice_nil (P := Try.prog) w 36 3 a n c n' c' Try.underlying36
  clear h hC hn
  cases A with
  | none =>
    have h0 : n = 0 := by
      rcases Nat.eq_zero_or_pos n with h | h
      · exact h
      · obtain ⟨ad, h2, _⟩ := HC.out.2.2 h
        cases h2
    have hx : xs = [] := List.eq_nil_of_length_eq_zero (HC.out.1.trans h0)
    subst hx
    clear h0
    go_enter Try.func37, Try.ntmps37
    go_wp2
    go_ret
    exact ⟨_, rfl, HH.out.row_nil⟩
  | some ad =>
    have HE : Aside0 (St w0 (w.alloc (.cells #[] 3)) (row (Kd.int .i64) 3 (.slice (some ⟨w.heap.size, 0, none⟩) 0 0) ([] : List Int) :: ps)) := Aside0.mk (St.row_empty (enc := Value.int .i64) (h1 := fun _ => rfl) HH.out 3)
    go_enter Try.func37, Try.ntmps37
    go_wp2_with (first | ((with_reducible refine gate_builtin (b := .append) (xs := #[.tmp 5, .tmp 6]) rfl ?_); at_builtin; refine St.append_rows (d := Kd.int .i64) rfl (.tmp 5) (.tmp 6) 36 3 (.int .i64 0) 8 rfl Try.underlying36 info3 rfl (by decide) (by decide) _ [] xs _ _ _ rfl rfl HE.out (Kd.C_below HC.out (below_alloc (Below.refl _ _) _)) (fun _ _ h => h) (show (([] : List Int).length + n) * 8 ≤ 140737488355328 from by have := HN.out; simp; omega) ?_; intro v6 w6 hs6; rw [List.nil_append] at hs6; have HS6 := Aside0.mk hs6; clear hs6))
    go_ret
    exact ⟨_, rfl, HS6.out⟩
set_option maxHeartbeats 2000000 in
theorem counts_Clone.st (h : St w0 w (cnt g n ar fi now done :: ps)) :
    Calls Try.prog 26 #[.pointer (some ⟨g, 0, none⟩)] w fun e w' => ∃ g', e = .returned (.pointer (some ⟨g', 0, none⟩)) ∧ St w0 w' (cnt g' n ar fi now done :: cnt g n ar fi now done :: ps) := by
  obtain ⟨hp, A1, c1, A2, c2, hs⟩ := cnt_out h
  obtain ⟨k0, k1, k2, k3⟩ := cnt_cells hs
  have HP := Aside0.mk hp
  have HS := Aside0.mk hs
  have HN := Aside0.mk hp.le
  clear h hs hp
  go_enter Try.func26, Try.ntmps26
  go_wp2_with fail
  go_region_held3 (fun w' => w'.cell? ⟨g, 0, none⟩ = some (.slice A1 n c1) ∧ w'.cell? ⟨g, 1, none⟩ = some (.slice A2 n c2) ∧ w'.cell? ⟨g, 2, none⟩ = some (.int .i64 ar) ∧ w'.cell? ⟨g, 3, none⟩ = some (.int .i64 fi)) (first | exact ⟨k0, k1, k2, k3⟩ | exact cnt_cells HS3.out | exact cnt_cells HS4.out | go_keep)
    (first
      | (go_at_call_of 37 (Value.slice A1 n c1); refine (slices_Clone.st HS.out.drew HS.out.drew.swap.row_C.2.2 HN.out).mono ?_; rintro e w3 ⟨v3, rfl, hs3⟩; obtain ⟨A3, c3, he3⟩ := hs3.row_slice; rw [HP.out.ln] at he3; subst he3; have HS3 := Aside0.mk (St.swap hs3); clear hs3)
      | (go_at_call_of 37 (Value.slice A2 n c2); refine (slices_Clone.st HS3.out ((HS3.out.front 3).row_C.2.2) HN.out).mono ?_; rintro e w4 ⟨v4, rfl, hs4⟩; obtain ⟨A4, c4, he4⟩ := hs4.row_slice; rw [HP.out.ld] at he4; subst he4; have HS4 := Aside0.mk (St.swap hs4); clear hs4))
  go_wp2
  go_ret
  have H1 := HS4.out.alloc_ (cCells A3 c3 A4 c4 n ar fi) 58
  refine ⟨w4.heap.size, rfl, ?_⟩
  first
    | exact cnt_in HP.out (St.front 3 (St.front 3 (St.front 2 (cnt_in HP.out (St.front 3 (St.front 5 (St.front 5 H1)))))))
    | exact cnt_in HP.out (St.front 3 (St.front 3 (St.front 2 (cnt_in HP.out (St.front 3 (St.front 5 (St.front 5 H1.drew)))))))
end
end Go.Proofs.Ytinhiigkfabcfaa.P
