/- The law NameSplits, walked. -/
import Derived.Test.YtafgfaimenccdaaDoorNameQ
import Derived.Test.YtafgfaimenccdaaDoorShown14
import Derived.Test.YtafgfaimenccdaaDoorRows
namespace Go.Proofs.YtafgfaimenccdaaDoor.P
open Go.RowKit Go.Proofs.YtafgfaimenccdaaDoorW.PrintWords Go.Proofs.YtafgfaimenccdaaDoorW.PrintLast Go.Proofs.YtafgfaimenccdaaDoorW.PrintMore
set_option linter.unusedVariables false
set_option maxHeartbeats 4000000 in
set_option maxRecDepth 100000 in
theorem NameSplits_law (z0n : ByteArray) (w : World) (h0 : Aside0 (z0n.size ≤ maxLen)) (hL : Aside0 (laidMetH Tryd.prog Rows.nameSplitsRow.laid w)) (hS : Aside0 (w.ShapedOpen Tryd.prog)) :
    Calls Tryd.prog 4 #[.string z0n] w fun e w' => e = .returned (.bool true) ∧ Below w.heap.size w w' := by
  have HM := Aside0.mk (Tryd.laysM146.s1_3 w hS.out)
  have K1 := Aside0.mk (shown14.st w HM.out)
  have hl := split_len z0n
  have hi := split_is z0n
  have hf := refSplit_is z0n
  obtain ⟨⟨r1, r2, r3⟩, hr⟩ : ∃ r, splitR z0n = r := ⟨_, rfl⟩
  rw [hr] at hl hi hf
  have HS := Aside0.mk (show cambiumref14_SameNames.f 2000 r2 r2 = some true by rw [same_is r2 r2 hl, decide_eq_true rfl])
  have HI := Aside0.mk hi
  have HF := Aside0.mk hf
  clear h0 hL hS hl hi hf hr
  go_enter Tryd.func4, Tryd.ntmps4
  go_wp2_with fail
  refine K1.out.mono ?_
  rintro e w1 ⟨rfl, hb⟩
  have HB1 := Aside0.mk hb
  have HM1 := Aside0.mk (HM.out.imp fun m h => pw_cell_below hb h)
  clear hb HM K1
  go_wp2_with fail
  refine (name_Split.calls 2000 z0n r1 r2 r3 w1 HM1.out HI.out).mono ?_
  rintro e w2 ⟨A, c, rfl, hcc, hC, hb⟩
  have HC := Aside0.mk hC
  have HCC := Aside0.mk hcc
  have HB2 := Aside0.mk (below_step HB1.out hb)
  clear hcc hC hb HM1 HB1
  go_wp2_with fail
  refine (cambiumref14_Split.calls 3000 z0n r1 r2 r3 w2 HF.out).mono ?_
  rintro e w3 ⟨v, rfl, hq, hb⟩
  obtain ⟨A2, c2, rfl, hcc, hC⟩ := Kd.Q_reads hq
  have HC2 := Aside0.mk hC
  have HCC2 := Aside0.mk hcc
  have HC3 := Aside0.mk (Kd.C_below HC.out hb)
  have HB3 := Aside0.mk (below_step HB2.out hb)
  clear hq hcc hC hb HC HB2
  go_wp2_with fail
  refine (cambiumref14_SameNames.calls 2000 A c r2 A2 c2 r2 true w3 HC3.out HCC.out HC2.out HCC2.out HS.out).mono ?_
  rintro e w4 ⟨rfl, hd⟩
  have HB4 := Aside0.mk (below_step HB3.out hd.below)
  clear hd
  go_wp2_with fail
  go_ret
  exact ⟨rfl, HB4.out⟩
end Go.Proofs.YtafgfaimenccdaaDoor.P
