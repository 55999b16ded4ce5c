/- A drive in memory; New, is, step, Fuse, Size, Cached, On, Steps. -/
import Derived.Test.YtoloibjdiojmlaaDrv0
import Derived.Test.YtoloibjdiojmlaaDrvL
namespace Go.Proofs.Ytoloibjdiojmlaa.P
open Go.RowKit Go.Proofs.YtoloibjdiojmlaaW.PrintWords Go.Proofs.YtoloibjdiojmlaaW.PrintLast Go.Proofs.YtoloibjdiojmlaaW.PrintMore Go.Proofs.Ytoloibjdiojmlaa.Sep
set_option linter.unusedVariables false
attribute [local go_sem] max2_int min2_int max_two min_two max_three min_three max_four min_four
abbrev dCells (A : Option Addr) (n c b : Nat) (off : Bool) (fuse steps : Int) : Array Value := #[.slice A n c, .map (some b), .bool off, .int .i64 fuse, .int .i64 steps]
structure DM where
  A : Option Addr
  c : Nat
  b : Nat
  m : Int → Option Value
abbrev drvM (g : Nat) (D : DV) (p : DM) : List HP := [blk g (dCells p.A D.hs.length p.c p.b D.off D.fuse D.steps) 63, row kSec 66 (.slice p.A D.hs.length p.c) D.hs, mpo p.b (cntT D.ts) 66 p.m (look D.ts) none none]
theorem run_mkmap {P : Program} (t : TypeId) (w : World) : (Instr.makeMap t none).run P w = .ok (.map (some w.heap.size)) (w.alloc (.map #[] 0)) := rfl
theorem wpList_mkmap {P : Program} {ops : Array Oper} {rest : List Oper} {o : Oper} {a : Act} {w : World} {Q : Exit → Act → World → Prop} (hgd : o.guard = none) (t : TypeId) (ho : o.op = .makeMap t none)
    (h : wpList P ops Q rest (a.put o.dst (.map (some w.heap.size))) (w.alloc (.map #[] 0))) : wpList P ops Q (o :: rest) a w := by
  refine wpList_plain hgd fun K hK => ?_
  unfold Oper.wp
  simp [execOp, ho, run_mkmap, Result.andThen]
  exact hK _ _ h
theorem St.cons_swap {w0 w : World} {p q r : HP} {ps : List HP} (h : St w0 w (p :: q :: r :: ps)) : St w0 w (p :: r :: q :: ps) := (h.front 2).swap
/-- The drive D in block g. -/
def drv (g : Nat) (D : DV) : HP := ex fun p : DM => and (DOk D) (all (drvM g D p))
section
variable {w0 w : World} {ps : List HP} {g : Nat} {D : DV}
theorem drv_out (h : St w0 w (drv g D :: ps)) : DOk D ∧ ∃ p, St w0 w (drvM g D p ++ ps) := by
  obtain ⟨p, h⟩ := h.out_ex
  obtain ⟨hp, h⟩ := h.out_and
  exact ⟨hp, p, h.out_all⟩
theorem drv_in (hp : DOk D) {p : DM} (h : St w0 w (drvM g D p ++ ps)) : St w0 w (drv g D :: ps) := St.in_ex p (St.in_and hp (St.in_all _ h))
theorem drv_cells {A : Option Addr} {n c b : Nat} {off : Bool} {fuse steps : Int} {qs : List HP} (h : St w0 w (blk g (dCells A n c b off fuse steps) 63 :: qs)) :
    w.cell? ⟨g, 0, none⟩ = some (.slice A n c) ∧ w.cell? ⟨g, 1, none⟩ = some (.map (some b)) ∧ w.cell? ⟨g, 2, none⟩ = some (.bool off) ∧ w.cell? ⟨g, 3, none⟩ = some (.int .i64 fuse) ∧ w.cell? ⟨g, 4, none⟩ = some (.int .i64 steps) :=
  ⟨blk_cell h.blk_is 0, blk_cell h.blk_is 1, blk_cell h.blk_is 2, blk_cell h.blk_is 3, blk_cell h.blk_is 4⟩
theorem info66 : ∃ z : Value, (Try.prog.info? 66).map (fun i => (i.zero, i.size, i.bytes)) = some (some z, 256, 256) ∧ z.cells = (encB zSec).toArray := ⟨_, rfl, by kernel_rfl⟩
theorem zSec_ok : Sec zSec := ⟨by unfold zSec; rw [List.length_replicate], fun y hy => by rw [List.eq_of_mem_replicate hy]; decide⟩
def NewPost (w0 : World) (ps : List HP) (C : Nat → Nat → HP) (n : Int) (e : Ending) (w' : World) : Prop :=
  if 32 ≤ n ∧ n ≤ 2048 then ∃ g : Nat, e = .returned (.tuple #[.pointer (some ⟨g, 0, none⟩), .int .i64 0]) ∧ St w0 w' (C g n.toNat :: ps)
  else e = .returned (.tuple #[.pointer none, .int .i64 1]) ∧ St w0 w' ps
theorem mpo_new {W : World} {e : Nat} (h : St w0 W ps) (n : Nat) : St w0 (W.alloc (.map #[] 0)) (mpo W.heap.size 0 e (fun _ => none) (look (List.replicate n [])) none none :: ps) :=
  h.new_ (below_alloc (Below.refl _ _) _) (fun k => k = W.heap.size) (fun k hk => by subst hk; simp) ⟨rfl, MapAt.made W, fun _ _ => False, fun _ _ q => q.elim, fun _ _ _ q => q.elim, fun k _ => Or.inl ⟨rfl, look_none n k⟩⟩
set_option maxHeartbeats 1000000 in
theorem drive_New.st (h : St w0 w ps) (n : Int) :
    Calls Try.prog 10 #[.int .i64 n] w fun e w' => NewPost w0 ps (fun g n => drv g (newD n)) n e w' := by
  have HH := Aside0.mk h
  clear h
  by_cases h1 : n < 32
  · have h2 : decide (n < 32) = true := decide_eq_true h1
    have HNE := Aside0.mk (show ¬ (32 ≤ n ∧ n ≤ 2048) from by omega)
    go_enter Try.func10, Try.ntmps10
    go_wp2
    go_ret2
    unfold NewPost
    rw [if_neg HNE.out]
    exact ⟨rfl, HH.out⟩
  · by_cases h3 : n > 2048
    · have h4 : decide (n > 2048) = true := decide_eq_true h3
      have HNE := Aside0.mk (show ¬ (32 ≤ n ∧ n ≤ 2048) from by omega)
      go_enter Try.func10, Try.ntmps10
      go_wp2
      go_ret2
      unfold NewPost
      rw [if_neg HNE.out]
      exact ⟨rfl, HH.out⟩
    · have HPO := Aside0.mk (show 32 ≤ n ∧ n ≤ 2048 from by omega)
      obtain ⟨m, rfl⟩ := Int.eq_ofNat_of_zero_le (by omega : 0 ≤ n)
      have h5 : decide ((m : Int) > 2048) = false := decide_eq_false h3
      have HL := Aside0.mk (show 32 ≤ m ∧ m ≤ 2048 from by omega)
      have h6 : ¬ (2048 : Int) < (m : Int) := h3
      obtain ⟨z, hz1, hz2⟩ := info66
      have HZ1 := Aside0.mk hz1
      have HZ2 := Aside0.mk hz2
      have HZ3 := Aside0.mk (show z.cells.size = 256 from by rw [hz2, List.size_toArray, encB_len]; exact zSec_ok.1)
      clear hz1 hz2
      go_enter Try.func10, Try.ntmps10
      go_wp2_with (first | ((with_reducible refine gate_dst (N := 11) rfl ?_); refine Kd.R_make kSec w.heap.size 66 ?hg (N := 11) ?hd 60 (.tmp 10) (.tmp 10) ?ho (m : Int) ?hx ?hy Try.underlying60 z 256 HZ1.out HZ3.out (by decide) (by decide) zSec (ok := fun _ => True) (okp := fun _ => True) ?hzero (fun _ h => h) trivial (Int.natCast_nonneg m) ?hl (Below.refl _ _) (Nat.le_refl _) ?_; (case hg => rfl); (case hd => rfl); (case ho => rfl); (case hx => rfl); (case hy => rfl); (case hzero => exact ⟨zSec_ok, by rw [HZ2.out]⟩); (case hl => (have := HL.out.2; rw [Int.toNat_natCast]; omega)); intro v1 w1 hr1 hb1 hg1 hn1; rw [Int.toNat_natCast] at hr1; obtain ⟨A1, c1, he1⟩ := Kd.R_slice hr1; rw [List.length_replicate] at he1; subst he1; have HR1 := Aside0.mk hr1; have HB1 := Aside0.mk hb1; clear hr1 hb1 hg1 hn1) | ((with_reducible refine gate_dst (N := 12) rfl ?_); refine wpList_mkmap rfl _ rfl ?_))
      go_ret2
      have HS := ((mpo_new (e := 66) (HH.out.row_new HB1.out HR1.out) m).alloc_ (dCells A1 m c1 w1.heap.size false (-1) 0) 63)
      unfold NewPost
      rw [if_pos HPO.out, Int.toNat_natCast]
      refine ⟨w1.heap.size + 1, by simp, drv_in (newD_ok HL.out.2) (p := ⟨A1, c1, w1.heap.size, fun _ => none⟩) ?_⟩
      show St w0 _ ([blk _ (dCells A1 (List.replicate m zSec).length c1 w1.heap.size false (-1) ((0 : Nat) : Int)) _, row kSec _ (.slice A1 (List.replicate m zSec).length c1) (List.replicate m zSec), mpo w1.heap.size (cntT (List.replicate m [])) _ (fun _ => none) (look (List.replicate m [])) none none] ++ ps)
      rw [List.length_replicate, cnt_none]
      have HZ : (w1.alloc (.map #[] 0)).heap.size = w1.heap.size + 1 := by simp
      rw [HZ] at HS
      exact St.cons_swap HS
set_option maxHeartbeats 1000000 in
theorem drive_is.st (h : St w0 w (drv g D :: ps)) (s : Int) :
    Calls Try.prog 32 #[.pointer (some ⟨g, 0, none⟩), .int .i64 s] w fun e w' => e = .returned (.bool (isS D s)) ∧ w = w' := by
  obtain ⟨hp, p, hs⟩ := drv_out h
  obtain ⟨A, c, b, m⟩ := p
  obtain ⟨k0, k1, k2, k3, k4⟩ := drv_cells hs
  clear h hs hp k1 k2 k3 k4
  unfold isS
  generalize D.hs.length = n at *
  by_cases h1 : 0 ≤ s
  · have h2 : decide (s ≥ 0) = true := decide_eq_true h1
    have h3 : decide (0 ≤ s) = true := decide_eq_true h1
    rw [h3]
    go_enter Try.func32, Try.ntmps32
    go_wp2
    go_ret
    exact ⟨by simp, rfl⟩
  · have h2 : decide (s ≥ 0) = false := decide_eq_false h1
    have h3 : decide (0 ≤ s) = false := decide_eq_false h1
    rw [h3]
    go_enter Try.func32, Try.ntmps32
    go_wp2
    go_ret
    exact ⟨by simp, rfl⟩
set_option maxHeartbeats 2000000 in
theorem drive_step.st (h : St w0 w (drv g D :: ps)) (hst : D.steps < 1000000) :
    Calls Try.prog 33 #[.pointer (some ⟨g, 0, none⟩)] w fun e w' => e = .returned (.int .i64 (stepE D)) ∧ St w0 w' (drv g (stepD D) :: ps) := by
  obtain ⟨hp, p, hs⟩ := drv_out h
  obtain ⟨A, c, b, m⟩ := p
  obtain ⟨k0, k1, k2, k3, k4⟩ := drv_cells hs
  have HP := Aside0.mk (stepD_ok hp)
  have HF := Aside0.mk hp.2.2.1
  obtain ⟨hs_, ts, off, fuse, steps⟩ := D
  dsimp only at *
  have HS := Aside0.mk hs
  have f2 : w.frozen? ⟨g, 2, none⟩ = false := blk_frozen hs.blk_is 2
  have f3 : w.frozen? ⟨g, 3, none⟩ = false := blk_frozen hs.blk_is 3
  have f4 : w.frozen? ⟨g, 4, none⟩ = false := blk_frozen hs.blk_is 4
  unfold stepE
  unfold stepD at HP ⊢
  dsimp only at HP ⊢
  have e1 := Aside0.mk (show wrap64 ((steps : Int) + 1) = ((steps + 1 : Nat) : Int) from by unfold wrap64; omega)
  clear h hs hp
  by_cases hf : fuse = 0
  · subst hf
    rw [if_pos (Or.inr rfl)] at HP ⊢
    rw [if_pos (Or.inr rfl)]
    have HB := Aside0.mk (show St w0 _ (blk g (dCells A hs_.length c b true 0 steps) _ :: _) from HS.out.blk_set 2 (.bool true))
    obtain ⟨j0, j1, j2, j3, j4⟩ := drv_cells HB.out
    go_enter Try.func33, Try.ntmps33
    go_wp2
    go_ret
    exact ⟨rfl, drv_in HP.out (p := ⟨A, c, b, m⟩) HB.out⟩
  · have h0 : (fuse == 0) = false := by simp [hf]
    cases off with
    | true =>
      rw [if_pos (Or.inl rfl)] at HP ⊢
      rw [if_pos (Or.inl rfl)]
      go_enter Try.func33, Try.ntmps33
      go_wp2
      go_ret
      exact ⟨rfl, drv_in HP.out (p := ⟨A, c, b, m⟩) HS.out⟩
    | false =>
      have hne : ¬ (false = true ∨ fuse = 0) := by simp [hf]
      rw [if_neg hne] at HP ⊢
      rw [if_neg hne]
      by_cases hp : 0 < fuse
      · have h1 : decide (fuse > 0) = true := decide_eq_true hp
        have e2 := Aside0.mk (show wrap64 (fuse - 1) = fuse - 1 from by have := HF.out; unfold wrap64; omega)
        rw [if_pos hp] at HP ⊢
        have HB1 := Aside0.mk (show St w0 _ (blk g (dCells A hs_.length c b false (fuse - 1) steps) _ :: _) from HS.out.blk_set 3 (.int .i64 (fuse - 1)))
        obtain ⟨j0, j1, j2, j3, j4⟩ := drv_cells HB1.out
        have HB2 := Aside0.mk (show St w0 _ (blk g (dCells A hs_.length c b false (fuse - 1) ((steps + 1 : Nat) : Int)) _ :: _) from HB1.out.blk_set 4 (.int .i64 ((steps + 1 : Nat) : Int)))
        have e1 := e1.out
        have e2 := e2.out
        clear hp j0 j1 j2 j3 k4 hf
        go_enter Try.func33, Try.ntmps33
        go_wp2
        go_ret
        exact ⟨rfl, drv_in HP.out (p := ⟨A, c, b, m⟩) HB2.out⟩
      · have h1 : decide (fuse > 0) = false := decide_eq_false hp
        rw [if_neg hp] at HP ⊢
        have HB2 := Aside0.mk (show St w0 _ (blk g (dCells A hs_.length c b false fuse ((steps + 1 : Nat) : Int)) _ :: _) from HS.out.blk_set 4 (.int .i64 ((steps + 1 : Nat) : Int)))
        have e1 := e1.out
        clear hp hf
        go_enter Try.func33, Try.ntmps33
        go_wp2
        go_ret
        exact ⟨rfl, drv_in HP.out (p := ⟨A, c, b, m⟩) HB2.out⟩
def fuseD (D : DV) (n : Int) : DV := { D with fuse := max n (-1) }
theorem fuseD_ok (h : DOk D) (n : Int) (hn : n ≤ 9223372036854775807) : DOk (fuseD D n) := by
  obtain ⟨h1, h2, h3, h4⟩ := h
  exact ⟨h1, h2, by unfold fuseD; dsimp only; omega, h4⟩
theorem drive_Fuse.st (h : St w0 w (drv g D :: ps)) (n : Int) (hn : n ≤ 9223372036854775807) :
    Calls Try.prog 18 #[.pointer (some ⟨g, 0, none⟩), .int .i64 n] w fun e w' => e = .returned (.tuple #[]) ∧ St w0 w' (drv g (fuseD D n) :: ps) := by
  obtain ⟨hp, p, hs⟩ := drv_out h
  obtain ⟨A, c, b, m⟩ := p
  obtain ⟨k0, k1, k2, k3, k4⟩ := drv_cells hs
  have HP := Aside0.mk (fuseD_ok hp n hn)
  obtain ⟨hs_, ts, off, fuse, steps⟩ := D
  dsimp only at *
  have f3 : w.frozen? ⟨g, 3, none⟩ = false := blk_frozen hs.blk_is 3
  have HB := Aside0.mk (show St w0 _ (blk g (dCells A hs_.length c b off (max n (-1)) steps) _ :: _) from hs.blk_set 3 (.int .i64 (max n (-1))))
  clear h hs hp hn
  rcases Int.lt_trichotomy n (-1) with h1 | h1 | h1
  · rw [show max n (-1) = -1 from by omega] at HB
    unfold fuseD at HP ⊢
    rw [show max n (-1) = -1 from by omega] at HP ⊢
    go_enter Try.func18, Try.ntmps18
    go_wp2
    go_end0
    exact ⟨rfl, drv_in HP.out (p := ⟨A, c, b, m⟩) HB.out⟩
  · subst h1
    rw [show max (-1 : Int) (-1) = -1 from by omega] at HB
    unfold fuseD at HP ⊢
    rw [show max (-1 : Int) (-1) = -1 from by omega] at HP ⊢
    go_enter Try.func18, Try.ntmps18
    go_wp2
    go_end0
    exact ⟨rfl, drv_in HP.out (p := ⟨A, c, b, m⟩) HB.out⟩
  · rw [show max n (-1) = n from by omega] at HB
    unfold fuseD at HP ⊢
    rw [show max n (-1) = n from by omega] at HP ⊢
    go_enter Try.func18, Try.ntmps18
    go_wp2
    go_end0
    exact ⟨rfl, drv_in HP.out (p := ⟨A, c, b, m⟩) HB.out⟩
theorem drive_Size.st (h : St w0 w (drv g D :: ps)) :
    Calls Try.prog 30 #[.pointer (some ⟨g, 0, none⟩)] w fun e w' => e = .returned (.int .i64 D.hs.length) ∧ w = w' := by
  obtain ⟨hp, ⟨A, c, b, m⟩, hs⟩ := drv_out h
  obtain ⟨k0, k1, k2, k3, k4⟩ := drv_cells hs
  clear h hs hp k1 k2 k3 k4
  go_enter Try.func30, Try.ntmps30
  go_wp2
  go_ret
  exact ⟨rfl, rfl⟩
theorem drive_On.st (h : St w0 w (drv g D :: ps)) :
    Calls Try.prog 19 #[.pointer (some ⟨g, 0, none⟩)] w fun e w' => e = .returned (.bool (!D.off)) ∧ w = w' := by
  obtain ⟨hp, ⟨A, c, b, m⟩, hs⟩ := drv_out h
  obtain ⟨k0, k1, k2, k3, k4⟩ := drv_cells hs
  clear h hs hp k1 k0 k3 k4
  go_enter Try.func19, Try.ntmps19
  go_wp2
  go_ret
  exact ⟨rfl, rfl⟩
theorem drive_Steps.st (h : St w0 w (drv g D :: ps)) :
    Calls Try.prog 20 #[.pointer (some ⟨g, 0, none⟩)] w fun e w' => e = .returned (.int .i64 D.steps) ∧ w = w' := by
  obtain ⟨hp, ⟨A, c, b, m⟩, hs⟩ := drv_out h
  obtain ⟨k0, k1, k2, k3, k4⟩ := drv_cells hs
  clear h hs hp k1 k0 k3 k2
  go_enter Try.func20, Try.ntmps20
  go_wp2
  go_ret
  exact ⟨rfl, rfl⟩
theorem drive_Cached.st (h : St w0 w (drv g D :: ps)) :
    Calls Try.prog 17 #[.pointer (some ⟨g, 0, none⟩)] w fun e w' => e = .returned (.int .i64 (cntT D.ts)) ∧ w = w' := by
  obtain ⟨hp, ⟨A, c, b, m⟩, hs⟩ := drv_out h
  obtain ⟨k0, k1, k2, k3, k4⟩ := drv_cells hs
  have HM := Aside0.mk (St.map_at (hs.front 2))
  clear h hs hp k2 k0 k3 k4
  go_enter Try.func17, Try.ntmps17
  go_wp2_with ((with_reducible refine gate_builtin (b := .len) (xs := #[.tmp 6]) rfl ?_); refine wpList_len_at rfl (.tmp 6) rfl rfl HM.out Try.underlying61 ?_)
  go_ret
  exact ⟨rfl, rfl⟩
end
end Go.Proofs.Ytoloibjdiojmlaa.P
