/- The examples of chapter 14, walked. -/
import Derived.Test.YtafgfaimenccdaaDoorNameSW
import Derived.Test.YtafgfaimenccdaaDoorPx2
namespace Go.Proofs.YtafgfaimenccdaaDoor.P
open Go.RowKit Go.Proofs.YtafgfaimenccdaaDoorW.PrintWords Go.Proofs.YtafgfaimenccdaaDoorW.PrintLast
set_option linter.unusedVariables false
theorem shown_s1 : name_Split.f 100 ⟨#[47, 100, 97, 116, 97, 47, 97, 47, 98]⟩ = some (⟨#[100, 97, 116, 97]⟩, [⟨#[97]⟩, ⟨#[98]⟩], 0) := by decide +kernel
theorem shown_s2 : name_Split.f 100 ⟨#[47]⟩ = some (⟨#[]⟩, [], 0) := by decide +kernel
theorem shown_s3 : name_Split.f 100 ⟨#[47, 100, 97, 116, 97, 47]⟩ = some (⟨#[]⟩, [], 12) := by decide +kernel
theorem shown_s4 : name_Split.f 100 ⟨#[104, 111, 109, 101]⟩ = some (⟨#[]⟩, [], 12) := by decide +kernel
theorem shown_b1 : name_Below.f 100 [⟨#[97]⟩, ⟨#[98]⟩] [⟨#[97]⟩] = some true := by decide +kernel
theorem shown_b2 : name_Below.f 100 [⟨#[97]⟩] [⟨#[97]⟩] = some false := by decide +kernel
theorem lit_row (w : World) (xs : List ByteArray) (hx : xs.length ≤ 100) : Kd.C Kd.string (w.alloc (.cells (xs.map Value.string).toArray 9)) (some ⟨w.heap.size, 0, none⟩) xs.length xs :=
  Kd.C_of_reads (h1 := fun _ => rfl) (d := (⟨#[]⟩ : ByteArray)) ⟨rfl, by omega, fun _ => ⟨_, rfl, fun j hj => by
    rw [show (⟨w.heap.size, 0, none⟩ : Addr).add j = ⟨w.heap.size, j, none⟩ from by by_cases h0 : j = 0 <;> simp [Addr.add, h0]]
    rw [blk_cell (blk_new w _) j, List.getElem?_toArray, List.getElem?_map, List.getElem?_eq_getElem hj, List.getD_eq_getElem?_getD, List.getElem?_eq_getElem hj]
    rfl⟩⟩
theorem below1 (w : World) : Calls Tryd.prog 17 #[.slice (some ⟨w.heap.size, 0, none⟩) 2 2, .slice (some ⟨w.heap.size + 1, 0, none⟩) 1 1] ((w.alloc (.cells #[.string ⟨#[97]⟩, .string ⟨#[98]⟩] 9)).alloc (.cells #[.string ⟨#[97]⟩] 9)) fun e w' => e = .returned (.bool true) ∧ Drawn0 ((w.alloc (.cells #[.string ⟨#[97]⟩, .string ⟨#[98]⟩] 9)).alloc (.cells #[.string ⟨#[97]⟩] 9)) w' := by
  have r1 := lit_row w [⟨#[97]⟩, ⟨#[98]⟩] (by decide)
  have hs : (w.alloc (.cells #[.string ⟨#[97]⟩, .string ⟨#[98]⟩] 9)).heap.size = w.heap.size + 1 := by simp
  have r2 := lit_row (w.alloc (.cells #[.string ⟨#[97]⟩, .string ⟨#[98]⟩] 9)) [⟨#[97]⟩] (by decide)
  rw [hs] at r2
  exact name_Below.calls 100 (some ⟨w.heap.size, 0, none⟩) 2 [⟨#[97]⟩, ⟨#[98]⟩] (some ⟨w.heap.size + 1, 0, none⟩) 1 [⟨#[97]⟩] true _ (Kd.C_alloc r1 _) (by decide) r2 (by decide) shown_b1
theorem below2 (w : World) : Calls Tryd.prog 17 #[.slice (some ⟨w.heap.size, 0, none⟩) 1 1, .slice (some ⟨w.heap.size + 1, 0, none⟩) 1 1] ((w.alloc (.cells #[.string ⟨#[97]⟩] 9)).alloc (.cells #[.string ⟨#[97]⟩] 9)) fun e w' => e = .returned (.bool false) ∧ Drawn0 ((w.alloc (.cells #[.string ⟨#[97]⟩] 9)).alloc (.cells #[.string ⟨#[97]⟩] 9)) w' := by
  have r1 := lit_row w [⟨#[97]⟩] (by decide)
  have hs : (w.alloc (.cells #[.string ⟨#[97]⟩] 9)).heap.size = w.heap.size + 1 := by simp
  have r2 := lit_row (w.alloc (.cells #[.string ⟨#[97]⟩] 9)) [⟨#[97]⟩] (by decide)
  rw [hs] at r2
  exact name_Below.calls 100 (some ⟨w.heap.size, 0, none⟩) 1 [⟨#[97]⟩] (some ⟨w.heap.size + 1, 0, none⟩) 1 [⟨#[97]⟩] false _ (Kd.C_alloc r1 _) (by decide) r2 (by decide) shown_b2
set_option maxHeartbeats 8000000 in
set_option maxRecDepth 100000 in
theorem shown14.st (w : World) (hm : ∃ m, w.cell? ⟨0, 0, none⟩ = some (.int .i64 m)) :
    Calls Tryd.prog 10 #[] w fun e w' => e = .returned (.bool true) ∧ Below w.heap.size w w' := by
  have HM := Aside0.mk hm
  clear hm
  go_enter Tryd.func10, Tryd.ntmps10
  go_wp2_with fail
  refine (name_Split.calls 100 _ _ _ _ w HM.out shown_s1).mono ?_
  rintro e w1 ⟨A, c, rfl, hcc, hC, hb⟩
  have HC := Aside0.mk (Kd.reads_of_C (d := (⟨#[]⟩ : ByteArray)) hC)
  have HCC := Aside0.mk hcc
  have HB1 := Aside0.mk hb
  have HM1 := Aside0.mk (HM.out.imp fun m h => pw_cell_below hb h)
  clear hcc hC hb HM
  go_wp2_with fail
  refine (name_Split.calls 100 _ _ _ _ w1 HM1.out shown_s2).mono ?_
  rintro e w2 ⟨A2, c2, rfl, hcc, hC, hb⟩
  have HM2 := Aside0.mk (HM1.out.imp fun m h => pw_cell_below hb h)
  have HC2 := Aside0.mk (HC.out.below hb)
  have HB2 := Aside0.mk (below_step HB1.out hb)
  clear hcc hC hb HM1 HC HB1
  go_wp2_with fail
  refine (name_Split.calls 100 _ _ _ _ w2 HM2.out shown_s3).mono ?_
  rintro e w3 ⟨A3, c3, rfl, hcc, hC, hb⟩
  have HM3 := Aside0.mk (HM2.out.imp fun m h => pw_cell_below hb h)
  have HC3 := Aside0.mk (HC2.out.below hb)
  have HB3 := Aside0.mk (below_step HB2.out hb)
  clear hcc hC hb HM2 HC2 HB2
  go_wp2_with fail
  refine (name_Split.calls 100 _ _ _ _ w3 HM3.out shown_s4).mono ?_
  rintro e w4 ⟨A4, c4, rfl, hcc, hC, hb⟩
  have HC4 := Aside0.mk (HC3.out.below hb)
  have HB4 := Aside0.mk (below_step HB3.out hb)
  clear hcc hC hb HM3 HC3 HB3
  obtain ⟨ad, rfl, q0⟩ := HC4.out.at_ 0 (by decide) (by decide)
  obtain ⟨ad', he, q1⟩ := HC4.out.at_ 1 (by decide) (by decide)
  cases he
  have q0 : w4.cell? ad = some (.string ⟨#[97]⟩) := by have := q0; rw [show (0 : Int).toNat = 0 from rfl, show ad.add 0 = ad from by simp [Addr.add]] at this; exact this
  have q1 : w4.cell? ⟨ad.block, ad.off + 1, none⟩ = some (.string ⟨#[98]⟩) := by have := q1; rw [show (1 : Int).toNat = 1 from rfl, show ad.add 1 = ⟨ad.block, ad.off + 1, none⟩ from by simp [Addr.add]] at this; exact this
  go_wp2_with fail
  refine (below1 w4).mono ?_
  rintro e w5 ⟨rfl, hd⟩
  have HB5 := Aside0.mk (below_step (below_alloc (below_alloc HB4.out (.cells #[.string ⟨#[97]⟩, .string ⟨#[98]⟩] 9)) (.cells #[.string ⟨#[97]⟩] 9)) hd.below)
  clear hd q0 q1 HC4
  go_wp2_with fail
  refine (below2 w5).mono ?_
  rintro e w6 ⟨rfl, hd⟩
  have HB6 := Aside0.mk (below_step (below_alloc (below_alloc HB5.out (.cells #[.string ⟨#[97]⟩] 9)) (.cells #[.string ⟨#[97]⟩] 9)) hd.below)
  clear hd
  go_wp2_with fail
  go_ret
  exact ⟨rfl, HB6.out⟩
end Go.Proofs.YtafgfaimenccdaaDoor.P
