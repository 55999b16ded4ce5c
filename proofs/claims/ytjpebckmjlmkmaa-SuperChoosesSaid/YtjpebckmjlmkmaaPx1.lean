/- Functions and contracts, written by a program (mkprint.py, a wrapper of ours around the print); texts between GIVEN marks are ours. -/
import Derived.Test.YtjpebckmjlmkmaaPx0
namespace Go.Proofs.Ytjpebckmjlmkmaa.P
open Go.RowKit Go.Proofs.YtjpebckmjlmkmaaW.PrintWords Go.Proofs.YtjpebckmjlmkmaaW.PrintLast Go.Proofs.YtjpebckmjlmkmaaW.PrintMore
attribute [local go_sem] max2_int min2_int max_two min_two max_three min_three max_four min_four   -- for this text's walks alone
set_option linter.unusedVariables false
set_option linter.unusedSimpArgs false

/-! ### GIVEN bytes_conv: function 61 -/
/-- A string told as new bytes. -/
def Convs (P : Program) (src dst : TypeId) (v : Value) (w : World) (Q : Ending → World → Prop) : Prop := ∃ x w1, (convert src dst v).run P w = .ok x w1 ∧ Q (.returned x) w1
theorem Convs.mono {P : Program} {src dst : TypeId} {v : Value} {w : World} {Q Q' : Ending → World → Prop} (h : Convs P src dst v w Q) (hq : ∀ e w', Q e w' → Q' e w') : Convs P src dst v w Q' := by
 obtain ⟨x, w1, h1, h2⟩ := h
 exact ⟨x, w1, h1, hq _ _ h2⟩
theorem conv_ {P : Program} {ops : Array Oper} {Q : Exit → Act → World → Prop} {oi : Oper} {N : Option Tmp} {a : Act} {w : World} {K : Act → World → Prop} {src dst : TypeId} {x : Operand} (v : Value) (hw : Region.wanted oi (yielded ops a.tmps) = true) (hN : oi.dst = N) (hop : oi.op = .convert src dst x) (hx : a.eval x = v)
  (h : Convs P src dst v w fun e w' => ∃ v, e = .returned v ∧ K (a.put N v) w') : if Region.wanted oi (yielded ops a.tmps) = true then Oper.wp P oi a w K Q else K (a.put N undef) w := by
 obtain ⟨y, w1, h1, y', hy, hk⟩ := h
 cases hy
 refine value_ hw hN (v := y) (w1 := w1) ?_ hk
 unfold execOp
 simp only [hop, hx]
 go_simp
theorem convL_ {P : Program} {ops : Array Oper} {Q : Exit → Act → World → Prop} {rest : List Oper} {oi : Oper} {a : Act} {w : World} (N : Option Tmp) (hd : oi.dst = N) (hg : oi.guard = none) {src dst : TypeId} {x : Operand} (v : Value) (hop : oi.op = .convert src dst x) (hx : a.eval x = v)
  (h : Convs P src dst v w fun e w' => ∃ v, e = .returned v ∧ wpList P ops Q rest (a.put N v) w') : wpList P ops Q (oi :: rest) a w := by
 obtain ⟨y, w1, h1, y', hy, hk⟩ := h
 cases hy
 refine wpList_plain hg fun K hK => ?_
 unfold Oper.wp
 have hr : (execOp a.eval oi).run P w = .ok (.value y) w1 := by
  unfold execOp
  simp only [hop, hx]
  go_simp
 rw [hr]
 subst hd
 exact hK _ _ hk
theorem upon_conv {P : Program} {o : Oper} {a : Act} {w : World} {next : Act → World → Prop} {Q : Exit → Act → World → Prop} {src dst : TypeId} {v : Value}
  (h : Convs P src dst v w fun e w' => match e with
   | .returned y => next (a.put o.dst y) w'
   | _ => False) : o.upon P a next Q (((convert src dst v).run P w).andThen fun a w' => Result.ok (Next.value a) w') := by
 obtain ⟨y, w1, h1, hk⟩ := h
 rw [h1]
 exact hk
theorem gate_conv {P : Program} {ops : Array Oper} {Q : Exit → Act → World → Prop} {o : Oper} {rest : List Oper} {a : Act} {W : World} {src dst : TypeId} {x : Operand} (_ho : o.op = .convert src dst x) (h : wpList P ops Q (o :: rest) a W) : wpList P ops Q (o :: rest) a W := h
def bytes_conv.f (s : ByteArray) : Option (List Int) := if s.size ≤ 9223372036854775807 then some (bytesOf s) else none
theorem bytes_conv.calls (a0 : ByteArray) (r : List Int) (w : World) (h : bytes_conv.f a0 = some r) :
  Convs Try.prog 9 22 (.string a0) w fun e w' => ∃ v0_ : Value, e = .returned (v0_) ∧ Kd.V (Kd.int .u8) 5 w' w.heap.size (fun k_ => (w.heap.size ≤ k_)) v0_ r ∧ Below w.heap.size w w' := by
 unfold bytes_conv.f at h
 by_cases hs : a0.size ≤ 9223372036854775807
 ·rw [if_pos hs] at h
  obtain rfl := Option.some.inj h
  refine ⟨_, _, print_bytes (P := Try.prog) 9 22 5 Try.underlying9 Try.underlying22 Try.underlying5 a0 w, _, rfl, ?_, bytes_below (Below.refl w.heap.size w) (Nat.le_refl _) 5 a0⟩
  have hr := bytes_reads w 5 a0 hs
  refine ⟨some ⟨w.heap.size, 0, none⟩, grownCap w a0.size 0 5, by rw [bytesOf_length], by rw [bytesOf_length]; exact grownCap_ge w a0.size 0 5, ?_⟩
  intro W' hW
  refine Kd.C_of_reads (d := (0 : Int)) (h1 := fun _ => rfl) ?_
  rw [bytesOf_length]
  refine ⟨hr.1, hr.2.1, fun hn => ?_⟩
  obtain ⟨ad, he, hc⟩ := hr.2.2 hn
  cases he
  refine ⟨_, rfl, fun j hj => ?_⟩
  rw [← hc j hj, add_plain]
  have hb := hW w.heap.size (Nat.le_refl _) (by rw [Lib.bytesWorld_size]; omega)
  unfold World.cell?
  simp only [hb]
 ·rw [if_neg hs] at h
  cases h
/-! ### end of GIVEN -/
/-! ### super_Label: function 17 -/
mutual
def super_Label.l0 : Nat → ByteArray → List Int → Int → Int → Option (Bool)
 | 0, _, _, _, _ => none
 | k + 1, x0, x6, x7, x8 => if x8 < x7 then (if 0 ≤ x8 then (if x8 < (x6.length : Int) then (if 97 ≤ (rd x6 x8) then (super_Label.j1 k x0 (rd x6 x8) x6 x7 x8 (decide ((rd x6 x8) ≤ 122))) else (super_Label.j1 k x0 (rd x6 x8) x6 x7 x8 false)) else (none)) else (none)) else (if (x0.size : Int) > 0 then (some (decide ((x0.size : Int) ≤ 10))) else (some false))
def super_Label.j1 : Nat → ByteArray → Int → List Int → Int → Int → Bool → Option (Bool)
 | 0, _, _, _, _, _, _ => none
 | k + 1, x0, x4, x6, x7, x8, x12 => if x12 = true then (super_Label.l0 k x0 x6 x7 (wrap64 (x8 + 1))) else (if 48 ≤ x4 then (super_Label.j2 k x0 x4 x6 x7 x8 (decide (x4 ≤ 57))) else (super_Label.j2 k x0 x4 x6 x7 x8 false))
def super_Label.j2 : Nat → ByteArray → Int → List Int → Int → Int → Bool → Option (Bool)
 | 0, _, _, _, _, _, _ => none
 | k + 1, x0, x4, x6, x7, x8, x12 => if x12 = true then (super_Label.l0 k x0 x6 x7 (wrap64 (x8 + 1))) else (if x4 = 45 then (super_Label.l0 k x0 x6 x7 (wrap64 (x8 + 1))) else (some false))
end
def super_Label.f (k : Nat) (a0 : ByteArray) : Option (Bool) := (bytes_conv.f a0).bind fun t101 => (super_Label.l0 k a0 t101 (t101.length : Int) 0)
theorem super_Label.mono_l : ∀ k, (∀ y0 y1 y2 y3, LeO (super_Label.l0 k y0 y1 y2 y3) (super_Label.l0 (k + 1) y0 y1 y2 y3)) ∧ (∀ y0 y1 y2 y3 y4 y5, LeO (super_Label.j1 k y0 y1 y2 y3 y4 y5) (super_Label.j1 (k + 1) y0 y1 y2 y3 y4 y5)) ∧ (∀ y0 y1 y2 y3 y4 y5, LeO (super_Label.j2 k y0 y1 y2 y3 y4 y5) (super_Label.j2 (k + 1) y0 y1 y2 y3 y4 y5))
 | 0 => ⟨fun _ _ _ _ r h => by simp [super_Label.l0] at h, fun _ _ _ _ _ _ r h => by simp [super_Label.j1] at h, fun _ _ _ _ _ _ r h => by simp [super_Label.j2] at h⟩
 | k + 1 => by
  obtain ⟨ih0, ih1, ih2⟩ := super_Label.mono_l k
  refine ⟨?_, ?_, ?_⟩
  ·intro y0 y1 y2 y3
   unfold super_Label.l0
   repeat' first
   | (with_reducible exact ih0 _ _ _ _)
   | (with_reducible exact ih1 _ _ _ _ _ _)
   | (with_reducible exact ih2 _ _ _ _ _ _)
   | (with_reducible exact LeO.refl _)
   | (with_reducible exact LeO.none _)
   | (with_reducible refine LeO.ite ?_ ?_)
   | (with_reducible refine LeO.bind ?_ (fun _ => ?_))
   | exact ih0 _ _ _ _
   | exact ih1 _ _ _ _ _ _
   | exact ih2 _ _ _ _ _ _
   | exact LeO.none _
   | refine LeO.ite ?_ ?_
   | refine LeO.bind ?_ (fun _ => ?_)
  ·intro y0 y1 y2 y3 y4 y5
   unfold super_Label.j1
   repeat' first
   | (with_reducible exact ih0 _ _ _ _)
   | (with_reducible exact ih1 _ _ _ _ _ _)
   | (with_reducible exact ih2 _ _ _ _ _ _)
   | (with_reducible exact LeO.refl _)
   | (with_reducible exact LeO.none _)
   | (with_reducible refine LeO.ite ?_ ?_)
   | (with_reducible refine LeO.bind ?_ (fun _ => ?_))
   | exact ih0 _ _ _ _
   | exact ih1 _ _ _ _ _ _
   | exact ih2 _ _ _ _ _ _
   | exact LeO.none _
   | refine LeO.ite ?_ ?_
   | refine LeO.bind ?_ (fun _ => ?_)
  ·intro y0 y1 y2 y3 y4 y5
   unfold super_Label.j2
   repeat' first
   | (with_reducible exact ih0 _ _ _ _)
   | (with_reducible exact ih1 _ _ _ _ _ _)
   | (with_reducible exact ih2 _ _ _ _ _ _)
   | (with_reducible exact LeO.refl _)
   | (with_reducible exact LeO.none _)
   | (with_reducible refine LeO.ite ?_ ?_)
   | (with_reducible refine LeO.bind ?_ (fun _ => ?_))
   | exact ih0 _ _ _ _
   | exact ih1 _ _ _ _ _ _
   | exact ih2 _ _ _ _ _ _
   | exact LeO.none _
   | refine LeO.ite ?_ ?_
   | refine LeO.bind ?_ (fun _ => ?_)
theorem super_Label.mono : ∀ a0 k, LeO (super_Label.f k a0) (super_Label.f (k + 1) a0) := by
 intro a0 k
 obtain ⟨ih0, ih1, ih2⟩ := super_Label.mono_l k
 unfold super_Label.f
 repeat' first
   | (with_reducible exact ih0 _ _ _ _)
   | (with_reducible exact ih1 _ _ _ _ _ _)
   | (with_reducible exact ih2 _ _ _ _ _ _)
   | (with_reducible exact LeO.refl _)
   | (with_reducible exact LeO.none _)
   | (with_reducible refine LeO.ite ?_ ?_)
   | (with_reducible refine LeO.bind ?_ (fun _ => ?_))
   | exact ih0 _ _ _ _
   | exact ih1 _ _ _ _ _ _
   | exact ih2 _ _ _ _ _ _
   | exact LeO.none _
   | refine LeO.ite ?_ ?_
   | refine LeO.bind ?_ (fun _ => ?_)
set_option maxHeartbeats 8000000 in
set_option maxRecDepth 100000 in
theorem super_Label.calls (k : Nat) (a0 : ByteArray) (r : Bool) (w : World) (h : super_Label.f k a0 = some r) :
  Calls Try.prog 17 #[.string a0] w fun e w' => e = .returned (.bool r) ∧ Below w.heap.size w w' := by
 have HB := Aside0.mk (Below.refl w.heap.size w)
 have H : ((bytes_conv.f a0).bind fun t101 => (super_Label.l0 k a0 t101 (t101.length : Int) 0)) = some r := h
 clear h
 replace H := Option.bind_eq_some_iff.mp H
 obtain ⟨t101, A20, H⟩ := H
 replace H : (super_Label.l0 k a0 t101 (t101.length : Int) 0) = some r := H
 have A2 := Aside0.mk A20
 clear A20
 have H' := Aside0.mk H
 clear H
 go_enter Try.func17, Try.ntmps17
 go_wp2_with (first | ((with_reducible refine gate_conv (src := 9) (dst := 22) rfl ?_); refine convL_ (some 6) rfl rfl (.string a0) rfl (by rfl) ?_; (with_reducible refine (bytes_conv.calls a0 t101 _ A2.out).mono ?_); rintro e w3 ⟨v102, rfl, ho0, hb⟩; refine ⟨_, rfl, ?_⟩; have n0_ := Aside0.mk (Kd.V_lower (Kd.V_mono (ok' := fun k_ => True) ho0 (fun k_ hk_ => trivial)) (below_size (by repeat (first | (with_reducible first | exact HB.out | apply below_alloc | apply pw_below_drewN | apply below_drew1) | exact HB.out)))); have n1_ := Aside0.mk (below_step (by repeat (first | (with_reducible first | exact HB.out | apply below_alloc | apply pw_below_drewN | apply below_drew1) | exact HB.out)) hb); clear HB; have HO103 := n0_; have HB := n1_; clear n0_ n1_; (try clear hb); (try clear hb2); (try clear hk); (try clear hi); (try clear ho0); obtain ⟨Ao4, co4, eo4⟩ := Kd.V_slice HO103.out; subst eo4))
 go_loopg [8] k (fun kq v8 w' => ∃ (x8_1 : Int), v8 = .int .i64 x8_1 ∧ Aside0 (super_Label.l0 kq a0 t101 (t101.length : Int) x8_1 = some r) ∧ Aside0 (kq ≤ k) ∧ Aside0 (Kd.V (Kd.int .u8) 5 w' w.heap.size (fun _ => True) (.slice Ao4 t101.length co4) t101) ∧ Aside0 (Below w.heap.size w w'))
 case atStart => exact ⟨(0), (by first | rfl | (simp; done) | (simp [*]; done) | (simp; generalize ByteArray.toList _ = l_; cases l_ <;> rfl)), H', ⟨Nat.le_refl _⟩, ⟨by (with_reducible repeat (first | apply Kd.V_alloc | apply Kd.V_drewN | apply Kd.V_drew)); exact HO103.out⟩, ⟨by repeat (first | (with_reducible first | exact HB.out | apply below_alloc | apply pw_below_drewN | apply below_drew1) | exact HB.out)⟩⟩
 case round =>
  clear H'
  try clear c1
  try clear p2
  obtain ⟨x8_1, rfl, HA, HK1, HO_6, HB⟩ := hrel
  cases gk with
  | zero => exact absurd (show none = some _ from HA.out) (by simp)
  | succ k1 =>
   have H := HA.out
   clear HA
   simp only [super_Label.l0] at H
   by_cases c5 : x8_1 < (t101.length : Int)
   ·rw [if_pos c5] at H
    have c5b0 : decide (x8_1 < (t101.length : Int)) = true := decide_eq_true c5
    clear c5
    by_cases c6 : 0 ≤ x8_1
    ·rw [if_pos c6] at H
     have c6b0 : decide (0 ≤ x8_1) = true := decide_eq_true c6
     clear c6
     by_cases c7 : x8_1 < (t101.length : Int)
     ·rw [if_pos c7] at H
      have c7b0 : decide (x8_1 < (t101.length : Int)) = true := decide_eq_true c7
      clear c7
      have HC8 := Aside0.mk H
      clear H
      have p104 : 0 ≤ (x8_1 : Int) := of_decide_eq_true (by first | (with_reducible assumption) | assumption)
      have q104 : x8_1 < (t101.length : Int) := of_decide_eq_true (by first | (with_reducible assumption) | assumption)
      obtain ⟨ad104, e104, hx104_0⟩ := Kd.at_int (Kd.V_reads' HO_6.out).2.2 x8_1 p104 q104
      cases e104
      replace p104 := eq_true p104
      replace q104 := eq_true q104
      go_upto_region 5 with (fail)
      go_cut [12] (fun v12 wc => ∃ (kq : Nat) (x12_7 : Bool), v12 = .bool x12_7 ∧ Aside0 (super_Label.j1 kq a0 (rd t101 x8_1) t101 (t101.length : Int) x8_1 x12_7 = some r) ∧ Aside0 (kq ≤ k1) ∧ Aside0 (Kd.V (Kd.int .u8) 5 wc w.heap.size (fun _ => True) (.slice (some ad104) t101.length co4) t101) ∧ Aside0 (Below w.heap.size w wc))
      case first =>
       have H := HC8.out
       clear HC8
       by_cases c9 : 97 ≤ (rd t101 x8_1)
       ·rw [if_pos c9] at H
        have c9b0 : decide (97 ≤ (rd t101 x8_1)) = true := decide_eq_true c9
        clear c9
        (first | rw [c9b0] | (simp only [i64_w, i32_w]; rw [c9b0]) | skip)
        have H' := Aside0.mk H
        clear H
        go_wp2
        go_meet
        case rel => exact ⟨_, (decide ((rd t101 x8_1) ≤ 122)), (by first | rfl | (simp; done) | (simp [*]; done) | (simp; generalize ByteArray.toList _ = l_; cases l_ <;> rfl)), H', ⟨by have := HK1.out; first | omega | exact Nat.le_refl _⟩, ⟨by (with_reducible repeat (first | apply Kd.V_alloc | apply Kd.V_drewN | apply Kd.V_drew)); exact HO_6.out⟩, ⟨by repeat (first | (with_reducible first | exact HB.out | apply below_alloc | apply pw_below_drewN | apply below_drew1) | exact HB.out)⟩⟩
       ·rw [if_neg c9] at H
        have c9b0 : decide (97 ≤ (rd t101 x8_1)) = false := decide_eq_false c9
        clear c9
        (first | rw [c9b0] | (simp only [i64_w, i32_w]; rw [c9b0]) | skip)
        have H' := Aside0.mk H
        clear H
        go_wp2
        go_meet
        case rel => exact ⟨_, (false), (by first | rfl | (simp; done) | (simp [*]; done) | (simp; generalize ByteArray.toList _ = l_; cases l_ <;> rfl)), H', ⟨by have := HK1.out; first | omega | exact Nat.le_refl _⟩, ⟨by (with_reducible repeat (first | apply Kd.V_alloc | apply Kd.V_drewN | apply Kd.V_drew)); exact HO_6.out⟩, ⟨by repeat (first | (with_reducible first | exact HB.out | apply below_alloc | apply pw_below_drewN | apply below_drew1) | exact HB.out)⟩⟩
      case rest =>
       clear HC8
       try clear c1
       try clear p1
       try clear q1
       try clear hx1
       try clear p2
       try clear c5
       try clear c5b0
       try clear c6
       try clear c6b0
       try clear c7
       try clear c7b0
       try clear c9
       try clear c9b0
       try clear hx104_0
       try clear p104
       try clear p2
       try clear q104
       obtain ⟨kq, x12_7, rfl, HA, HJ7, HO_6, HB⟩ := hcut
       cases kq with
       | zero => exact absurd (show none = some _ from HA.out) (by simp)
       | succ kj7 =>
        have H := HA.out
        clear HA
        simp only [super_Label.j1] at H
        by_cases c10 : x12_7 = true
        ·subst c10
         have H1 : (super_Label.l0 kj7 a0 t101 (t101.length : Int) (wrap64 (x8_1 + 1))) = some r := by rw [if_pos rfl] at H; exact H
         clear H
         have H := H1
         clear H1
         have H' := Aside0.mk H
         clear H
         go_wp2
         go_roundg kj7
         case measure => have := HK1.out; have := HJ7.out; omega
         case rel => exact ⟨(wrap64 (x8_1 + 1)), (by first | rfl | (simp; done) | (simp [*]; done) | (simp; generalize ByteArray.toList _ = l_; cases l_ <;> rfl)), H', ⟨by have := HK1.out; have := HJ7.out; omega⟩, ⟨by (with_reducible repeat (first | apply Kd.V_alloc | apply Kd.V_drewN | apply Kd.V_drew)); exact HO_6.out⟩, ⟨by repeat (first | (with_reducible first | exact HB.out | apply below_alloc | apply pw_below_drewN | apply below_drew1) | exact HB.out)⟩⟩
        ·replace c10 := Bool.eq_false_iff.mpr c10
         subst c10
         have H1 : (if 48 ≤ (rd t101 x8_1) then (super_Label.j2 kj7 a0 (rd t101 x8_1) t101 (t101.length : Int) x8_1 (decide ((rd t101 x8_1) ≤ 57))) else (super_Label.j2 kj7 a0 (rd t101 x8_1) t101 (t101.length : Int) x8_1 false)) = some r := by rw [if_neg (show ¬ (false = true) by decide)] at H; exact H
         clear H
         have H := H1
         clear H1
         have HC11 := Aside0.mk H
         clear H
         go_upto_region 6 with (fail)
         go_cut [12] (fun v12 wc => ∃ (kq : Nat) (x12_10 : Bool), v12 = .bool x12_10 ∧ Aside0 (super_Label.j2 kq a0 (rd t101 x8_1) t101 (t101.length : Int) x8_1 x12_10 = some r) ∧ Aside0 (kq ≤ kj7) ∧ Aside0 (Kd.V (Kd.int .u8) 5 wc w.heap.size (fun _ => True) (.slice (some ad104) t101.length co4) t101) ∧ Aside0 (Below w.heap.size w wc))
         case first =>
          have H := HC11.out
          clear HC11
          by_cases c12 : 48 ≤ (rd t101 x8_1)
          ·rw [if_pos c12] at H
           have c12b0 : decide (48 ≤ (rd t101 x8_1)) = true := decide_eq_true c12
           clear c12
           (first | rw [c12b0] | (simp only [i64_w, i32_w]; rw [c12b0]) | skip)
           have H' := Aside0.mk H
           clear H
           go_wp2
           go_meet
           case rel => exact ⟨_, (decide ((rd t101 x8_1) ≤ 57)), (by first | rfl | (simp; done) | (simp [*]; done) | (simp; generalize ByteArray.toList _ = l_; cases l_ <;> rfl)), H', ⟨by have := HK1.out; have := HJ7.out; first | omega | exact Nat.le_refl _⟩, ⟨by (with_reducible repeat (first | apply Kd.V_alloc | apply Kd.V_drewN | apply Kd.V_drew)); exact HO_6.out⟩, ⟨by repeat (first | (with_reducible first | exact HB.out | apply below_alloc | apply pw_below_drewN | apply below_drew1) | exact HB.out)⟩⟩
          ·rw [if_neg c12] at H
           have c12b0 : decide (48 ≤ (rd t101 x8_1)) = false := decide_eq_false c12
           clear c12
           (first | rw [c12b0] | (simp only [i64_w, i32_w]; rw [c12b0]) | skip)
           have H' := Aside0.mk H
           clear H
           go_wp2
           go_meet
           case rel => exact ⟨_, (false), (by first | rfl | (simp; done) | (simp [*]; done) | (simp; generalize ByteArray.toList _ = l_; cases l_ <;> rfl)), H', ⟨by have := HK1.out; have := HJ7.out; first | omega | exact Nat.le_refl _⟩, ⟨by (with_reducible repeat (first | apply Kd.V_alloc | apply Kd.V_drewN | apply Kd.V_drew)); exact HO_6.out⟩, ⟨by repeat (first | (with_reducible first | exact HB.out | apply below_alloc | apply pw_below_drewN | apply below_drew1) | exact HB.out)⟩⟩
         case rest =>
          clear HC11
          try clear c1
          try clear p1
          try clear q1
          try clear hx1
          try clear p2
          try clear c5
          try clear c5b0
          try clear c6
          try clear c6b0
          try clear p6
          try clear c7
          try clear c7b0
          try clear c9
          try clear c9b0
          try clear c10
          try clear p10
          try clear q10
          try clear hx10
          try clear c12
          try clear c12b0
          try clear hx104_0
          try clear p1
          try clear p104
          try clear p2
          try clear q1
          try clear q104
          obtain ⟨kq, x12_10, rfl, HA, HJ10, HO_6, HB⟩ := hcut
          cases kq with
          | zero => exact absurd (show none = some _ from HA.out) (by simp)
          | succ kj10 =>
           have H := HA.out
           clear HA
           simp only [super_Label.j2] at H
           by_cases c13 : x12_10 = true
           ·subst c13
            have H1 : (super_Label.l0 kj10 a0 t101 (t101.length : Int) (wrap64 (x8_1 + 1))) = some r := by rw [if_pos rfl] at H; exact H
            clear H
            have H := H1
            clear H1
            have H' := Aside0.mk H
            clear H
            go_wp2
            go_roundg kj10
            case measure => have := HK1.out; have := HJ7.out; have := HJ10.out; omega
            case rel => exact ⟨(wrap64 (x8_1 + 1)), (by first | rfl | (simp; done) | (simp [*]; done) | (simp; generalize ByteArray.toList _ = l_; cases l_ <;> rfl)), H', ⟨by have := HK1.out; have := HJ7.out; have := HJ10.out; omega⟩, ⟨by (with_reducible repeat (first | apply Kd.V_alloc | apply Kd.V_drewN | apply Kd.V_drew)); exact HO_6.out⟩, ⟨by repeat (first | (with_reducible first | exact HB.out | apply below_alloc | apply pw_below_drewN | apply below_drew1) | exact HB.out)⟩⟩
           ·replace c13 := Bool.eq_false_iff.mpr c13
            subst c13
            have H1 : (if (rd t101 x8_1) = 45 then (super_Label.l0 kj10 a0 t101 (t101.length : Int) (wrap64 (x8_1 + 1))) else (some false)) = some r := by rw [if_neg (show ¬ (false = true) by decide)] at H; exact H
            clear H
            have H := H1
            clear H1
            by_cases c14 : (rd t101 x8_1) = 45
            ·rw [if_pos c14] at H
             have c14b0 : ((rd t101 x8_1) == 45) = true := beq_iff_eq.mpr c14
             have c14b1 : ((rd t101 x8_1) != 45) = false := bne_eq_false_iff_eq.mpr c14
             clear c14
             have H' := Aside0.mk H
             clear H
             go_wp2
             go_roundg kj10
             case measure => have := HK1.out; have := HJ7.out; have := HJ10.out; omega
             case rel => exact ⟨(wrap64 (x8_1 + 1)), (by first | rfl | (simp; done) | (simp [*]; done) | (simp; generalize ByteArray.toList _ = l_; cases l_ <;> rfl)), H', ⟨by have := HK1.out; have := HJ7.out; have := HJ10.out; omega⟩, ⟨by (with_reducible repeat (first | apply Kd.V_alloc | apply Kd.V_drewN | apply Kd.V_drew)); exact HO_6.out⟩, ⟨by repeat (first | (with_reducible first | exact HB.out | apply below_alloc | apply pw_below_drewN | apply below_drew1) | exact HB.out)⟩⟩
            ·rw [if_neg c14] at H
             have c14b0 : ((rd t101 x8_1) == 45) = false := beq_eq_false_iff_ne.mpr c14
             have c14b1 : ((rd t101 x8_1) != 45) = true := bne_iff_ne.mpr c14
             obtain rfl := Option.some.inj H
             go_wp2
             go_ret
             exact ⟨by first | rfl | (simp [errW_none, errW_some] <;> rfl) | (simp [*, errW_none, errW_some] <;> rfl), by repeat (first | (with_reducible first | exact HB.out | apply below_alloc | apply pw_below_drewN | apply below_drew1) | exact HB.out)⟩
     ·rw [if_neg c7] at H
      exact absurd H (by simp)
    ·rw [if_neg c6] at H
     exact absurd H (by simp)
   ·rw [if_neg c5] at H
    have c5b0 : decide (x8_1 < (t101.length : Int)) = false := decide_eq_false c5
    clear c5
    by_cases c15 : (a0.size : Int) > 0
    ·rw [if_pos c15] at H
     have c15b0 : decide (0 < (a0.size : Int)) = true := decide_eq_true c15
     have c15b1 : decide (0 < a0.size) = true := decide_eq_true (by omega)
     clear c15
     obtain rfl := Option.some.inj H
     go_wp2
     go_ret
     exact ⟨by first | rfl | (simp [errW_none, errW_some] <;> rfl) | (simp [*, errW_none, errW_some] <;> rfl), by repeat (first | (with_reducible first | exact HB.out | apply below_alloc | apply pw_below_drewN | apply below_drew1) | exact HB.out)⟩
    ·rw [if_neg c15] at H
     have c15b0 : decide (0 < (a0.size : Int)) = false := decide_eq_false c15
     have c15b1 : decide (0 < a0.size) = false := decide_eq_false (by omega)
     clear c15
     obtain rfl := Option.some.inj H
     go_wp2
     go_ret
     exact ⟨by first | rfl | (simp [errW_none, errW_some] <;> rfl) | (simp [*, errW_none, errW_some] <;> rfl), by repeat (first | (with_reducible first | exact HB.out | apply below_alloc | apply pw_below_drewN | apply below_drew1) | exact HB.out)⟩

/-! ### super_within: function 24 -/
def super_within.f (a0 : Int) (a1 : Int) (a2 : Int) : Option (Bool) := if a1 ≤ a0 then (some (decide (a0 ≤ a2))) else (some false)
set_option maxHeartbeats 8000000 in
set_option maxRecDepth 100000 in
theorem super_within.calls (a0 : Int) (a1 : Int) (a2 : Int) (r : Bool) (w : World) (h : super_within.f a0 a1 a2 = some r) :
  Calls Try.prog 24 #[.int .i64 a0, .int .i64 a1, .int .i64 a2] w fun e w' => e = .returned (.bool r) ∧ Drawn0 w w' := by
 have H : (if a1 ≤ a0 then (some (decide (a0 ≤ a2))) else (some false)) = some r := h
 clear h
 by_cases c4 : a1 ≤ a0
 ·rw [if_pos c4] at H
  have c4b0 : decide (a1 ≤ a0) = true := decide_eq_true c4
  clear c4
  obtain rfl := Option.some.inj H
  go_enter Try.func24, Try.ntmps24
  go_wp2
  go_ret
  exact ⟨by first | rfl | (simp; done) | (simp [*]; done) | (simp; generalize ByteArray.toList _ = l_; cases l_ <;> rfl), by repeat (first | exact Drawn0.refl _ | apply Drawn0.step)⟩
 ·rw [if_neg c4] at H
  have c4b0 : decide (a1 ≤ a0) = false := decide_eq_false c4
  clear c4
  obtain rfl := Option.some.inj H
  go_enter Try.func24, Try.ntmps24
  go_wp2
  go_ret
  exact ⟨by first | rfl | (simp; done) | (simp [*]; done) | (simp; generalize ByteArray.toList _ = l_; cases l_ <;> rfl), by repeat (first | exact Drawn0.refl _ | apply Drawn0.step)⟩

-- NOT PRINTED: function 21 (super_May)

/-! ### GIVEN seal_may: function 37 -/
def sealMay (a0_0 a0_1 a0_2 a0_3 a0_4 : Int) : Bool := decide (1 ≤ a0_0 ∧ a0_0 ≤ 6 ∧ (0 ≤ a0_3 ∧ a0_3 ≤ 8) ∧ (0 ≤ a0_1 ∧ a0_1 ≤ 2047) ∧ (0 ≤ a0_2 ∧ a0_2 ≤ 65535) ∧ (0 ≤ a0_4 ∧ a0_4 ≤ 1099511627775))
theorem sealMay_no {a0_0 a0_1 a0_2 a0_3 a0_4 : Int} (h : ¬ (1 ≤ a0_0 ∧ a0_0 ≤ 6 ∧ (0 ≤ a0_3 ∧ a0_3 ≤ 8) ∧ (0 ≤ a0_1 ∧ a0_1 ≤ 2047) ∧ (0 ≤ a0_2 ∧ a0_2 ≤ 65535) ∧ (0 ≤ a0_4 ∧ a0_4 ≤ 1099511627775))) : Ending.returned (.bool false) = .returned (.bool (sealMay a0_0 a0_1 a0_2 a0_3 a0_4)) := by unfold sealMay; rw [decide_eq_false h]
theorem sealMay_yes {a0_0 a0_1 a0_2 a0_3 a0_4 : Int} (h : (1 ≤ a0_0 ∧ a0_0 ≤ 6 ∧ (0 ≤ a0_3 ∧ a0_3 ≤ 8) ∧ (0 ≤ a0_1 ∧ a0_1 ≤ 2047) ∧ (0 ≤ a0_2 ∧ a0_2 ≤ 65535) ∧ (0 ≤ a0_4 ∧ a0_4 ≤ 1099511627775))) : Ending.returned (.bool true) = .returned (.bool (sealMay a0_0 a0_1 a0_2 a0_3 a0_4)) := by unfold sealMay; rw [decide_eq_true h]
def seal_may.f (a0_0 a0_1 a0_2 a0_3 a0_4 : Int) : Option Bool := some (sealMay a0_0 a0_1 a0_2 a0_3 a0_4)
def mayRow (a1 a2 a3 a4 : Int) : Array Value := #[.int .i64 a3, .int .i64 8, .int .i64 a1, .int .i64 2047, .int .i64 a2, .int .i64 65535, .int .i64 a4, .int .i64 1099511627775]
def mayTo (k : Nat) (a1 a2 a3 a4 : Int) : Prop := (0 < k → 0 ≤ a3 ∧ a3 ≤ 8) ∧ (1 < k → 0 ≤ a1 ∧ a1 ≤ 2047) ∧ (2 < k → 0 ≤ a2 ∧ a2 ≤ 65535) ∧ (3 < k → 0 ≤ a4 ∧ a4 ≤ 1099511627775)
def mayX (a1 a2 a3 a4 : Int) : Nat → Int
 | 0 => a3
 | 1 => a1
 | 2 => a2
 | _ => a4
def mayT : Nat → Int
 | 0 => 8
 | 1 => 2047
 | 2 => 65535
 | _ => 1099511627775
theorem mayTo_succ (a1 a2 a3 a4 : Int) (k : Nat) (h : k < 4) : mayTo (k + 1) a1 a2 a3 a4 ↔ mayTo k a1 a2 a3 a4 ∧ 0 ≤ mayX a1 a2 a3 a4 k ∧ mayX a1 a2 a3 a4 k ≤ mayT k := by
 have hk4 : k = 0 ∨ k = 1 ∨ k = 2 ∨ k = 3 := by omega
 rcases hk4 with rfl | rfl | rfl | rfl <;> simp only [mayTo, mayX, mayT] <;> omega
theorem mayNo (a0 a1 a2 a3 a4 : Int) (k : Nat) (h : k < 4) (hx : mayX a1 a2 a3 a4 k < 0 ∨ mayT k < mayX a1 a2 a3 a4 k) :
  ¬ (1 ≤ a0 ∧ a0 ≤ 6 ∧ (0 ≤ a3 ∧ a3 ≤ 8) ∧ (0 ≤ a1 ∧ a1 ≤ 2047) ∧ (0 ≤ a2 ∧ a2 ≤ 65535) ∧ (0 ≤ a4 ∧ a4 ≤ 1099511627775)) := by
 have hk4 : k = 0 ∨ k = 1 ∨ k = 2 ∨ k = 3 := by omega
 rcases hk4 with rfl | rfl | rfl | rfl <;> simp only [mayX, mayT] at hx <;> omega
set_option maxHeartbeats 1000000 in
theorem seal_may.calls (a0_0 : Int) (a0_1 : Int) (a0_2 : Int) (a0_3 : Int) (a0_4 : Int) (r : Bool) (w : World) (h : seal_may.f a0_0 a0_1 a0_2 a0_3 a0_4 = some r) :
  Calls Try.prog 37 #[.agg #[.int .i64 a0_0, .int .i64 a0_1, .int .i64 a0_2, .int .i64 a0_3, .int .i64 a0_4]] w fun e w' => e = .returned (.bool r) ∧ Below w.heap.size w w' := by
 obtain rfl := Option.some.inj h
 clear h
 have HB0 := Aside0.mk ((Below.refl w.heap.size w).alloc (Nat.le_refl _) (.cells #[.int .i64 a0_0, .int .i64 a0_1, .int .i64 a0_2, .int .i64 a0_3, .int .i64 a0_4] 49))
 by_cases h0 : a0_0 < 1
 ·have d0 : decide (a0_0 < 1) = true := by simpa using h0
  go_enter Try.func37, Try.ntmps37
  go_wp2
  go_ret
  exact ⟨sealMay_no (by omega), HB0.out⟩
 have d0 : decide (a0_0 < 1) = false := by simpa using h0
 by_cases h1 : 6 < a0_0
 ·have d1 : decide (6 < a0_0) = true := by simpa using h1
  go_enter Try.func37, Try.ntmps37
  go_wp2
  go_ret
  exact ⟨sealMay_no (by omega), HB0.out⟩
 have d1 : decide (6 < a0_0) = false := by simpa using h1
 go_enter Try.func37, Try.ntmps37
 go_wp2
 go_loopw [27] (fun i wr => ∃ k : Nat, k ≤ 4 ∧ i = .int .i64 k ∧ Aside0 (wr.heap[w.heap.size + 1]? = some (.cells (mayRow a0_1 a0_2 a0_3 a0_4) 45 (0, 0))) ∧ Aside0 (Below w.heap.size w wr) ∧ Aside0 (mayTo k a0_1 a0_2 a0_3 a0_4)) (fun i _ => 4 - (intOf i).toNat)
 case atStart => exact ⟨0, by omega, rfl, ⟨heap_alloc2_new w _ _⟩, ⟨HB0.out.alloc (by simp) _⟩, ⟨by unfold mayTo; omega⟩⟩
 case round =>
  obtain ⟨k, hk, rfl, HH, HB, HM⟩ := hrel
  by_cases hlt : k < 4
  ·have hc : wr.cell? ⟨w.heap.size + 1, k * 2, none⟩ = some (.int .i64 (mayX a0_1 a0_2 a0_3 a0_4 k)) ∧ wr.cell? ⟨w.heap.size + 1, k * 2 + 1, none⟩ = some (.int .i64 (mayT k)) := by
    rw [cell_of_row _ _ _ _ _ _ HH.out, cell_of_row _ _ _ _ _ _ HH.out]
    have hk4 : k = 0 ∨ k = 1 ∨ k = 2 ∨ k = 3 := by omega
    rcases hk4 with rfl | rfl | rfl | rfl <;> exact ⟨rfl, rfl⟩
   obtain ⟨hc0, hc1⟩ := hc
   have HT := Aside0.mk (mayTo_succ a0_1 a0_2 a0_3 a0_4 k hlt)
   have HN := Aside0.mk (mayNo a0_0 a0_1 a0_2 a0_3 a0_4 k hlt)
   have hsz := blk_lt HH.out
   generalize mayX a0_1 a0_2 a0_3 a0_4 k = x at *
   generalize mayT k = y at *
   by_cases hx : x < 0
   ·have d2 : decide (x < 0) = true := by simpa using hx
    go_wp2
    go_ret
    exact ⟨sealMay_no (HN.out (Or.inl hx)), HB.out.alloc HB.out.size _⟩
   have d2 : decide (x < 0) = false := by simpa using hx
   by_cases hy : y < x
   ·have d3 : decide (y < x) = true := by simpa using hy
    go_wp2
    go_ret
    exact ⟨sealMay_no (HN.out (Or.inr hy)), HB.out.alloc HB.out.size _⟩
   have d3 : decide (y < x) = false := by simpa using hy
   go_wp2
   go_roundw
   case rel => exact ⟨k + 1, by omega, by go_num, ⟨(heap_alloc_old wr _ hsz).trans HH.out⟩, ⟨HB.out.alloc HB.out.size _⟩, ⟨HT.out.2 ⟨HM.out, by omega, by omega⟩⟩⟩
   case measure => simp [intOf]; omega
  ·obtain rfl : k = 4 := by omega
   go_wp2
   go_ret
   have hm := HM.out
   unfold mayTo at hm
   exact ⟨sealMay_yes (by omega), HB.out⟩
/-! ### end of GIVEN -/
/-! ### GIVEN sum_nibbles: function 44 -/
def tabRow (k : Nat) : Array Value := ((List.range 16).map fun i => if i < k then Value.int .u32 (Crc.tb i) else .int .u32 0).toArray
theorem tabRow_get (k : Nat) (h : k < 16) : (tabRow k)[k]? = some (.int .u32 0) := by simp [tabRow, h]
theorem tabRow_set (k : Nat) (h : k < 16) : (tabRow k).setIfInBounds k (.int .u32 (Crc.tb k)) = tabRow (k + 1) := by
 apply Array.ext
 ·simp [tabRow]
 ·intro i h1 h2
  simp [tabRow, List.getElem_set]
  by_cases e : k = i
  ·subst e; simp
  ·have : i < k + 1 ↔ i < k := by omega
   simp [e, this]
theorem tabRow_lit : tabRow 16 = #[.int .u32 (Crc.tb 0), .int .u32 (Crc.tb 1), .int .u32 (Crc.tb 2), .int .u32 (Crc.tb 3), .int .u32 (Crc.tb 4), .int .u32 (Crc.tb 5), .int .u32 (Crc.tb 6), .int .u32 (Crc.tb 7), .int .u32 (Crc.tb 8), .int .u32 (Crc.tb 9), .int .u32 (Crc.tb 10), .int .u32 (Crc.tb 11), .int .u32 (Crc.tb 12), .int .u32 (Crc.tb 13), .int .u32 (Crc.tb 14), .int .u32 (Crc.tb 15)] := rfl
theorem tabRow_one : ∀ v ∈ (tabRow 16).toList, v.oneCell' = true := by simp [tabRow_lit, Value.oneCell']
set_option maxHeartbeats 400000 in
theorem nib (w : World) : Calls Try.prog 44 #[] w fun e w' => e = .returned (.agg (tabRow 16)) ∧ Below w.heap.size w w' := by
 go_enter Try.func44, Try.ntmps44
 go_wp2
 go_loopw [4] (fun i wr => ∃ k : Nat, k ≤ 16 ∧ i = .int .i64 k ∧ wr = (w.alloc (.cells (tabRow 0) 76)).alloc (.cells (tabRow k) 76)) (fun i _ => 16 - (intOf i).toNat)
 case atStart => exact ⟨0, by omega, rfl, rfl⟩
 case round =>
  obtain ⟨k, hk, rfl, rfl⟩ := hrel
  by_cases hlt : k < 16
  ·have hcell := tabRow_get k hlt
   go_wp2
   go_loop [3, 9] (fun r i => ∃ j : Nat, j ≤ 4 ∧ i = .int .i64 j ∧ r = .int .u32 (Crc.stpN j k)) (fun _ i => 4 - (intOf i).toNat)
   case atStart => exact ⟨0, by omega, rfl, by simp [Crc.stpN]⟩
   case round =>
    obtain ⟨j, hj, rfl, rfl⟩ := hrel
    by_cases hj4 : j < 4
    ·go_wp2
     ·rename_i h
      go_round
      case rel => exact ⟨j + 1, by omega, by go_num, by simp only [Crc.stpN, Crc.stp]; rw [if_pos (by simpa using h)]⟩
      case measure => simp [intOf]; omega
     ·rename_i h
      go_round
      case rel => exact ⟨j + 1, by omega, by go_num, by simp only [Crc.stpN, Crc.stp]; rw [if_neg (by simpa using h)]⟩
      case measure => simp [intOf]; omega
    ·obtain rfl : j = 4 := by omega
     go_wp2
     go_roundw
     case rel => exact ⟨k + 1, by omega, by go_num, by rw [← tabRow_set k hlt]; rfl⟩
     case measure => simp [intOf]; omega
  ·obtain rfl : k = 16 := by omega
   go_wp2_with (first | (refine wpList_load_row rfl 76 _ rfl (w.heap.size + 1) rfl 76 (tabRow 16) (0, 0) _ (heap_alloc2_new w _ _) Try.underlying76 rfl (by kernel_rfl) ?_) | (refine Own.wpList_store_row rfl 76 _ _ rfl w.heap.size rfl (tabRow 16) rfl 76 (tabRow 0) (heap_alloc2_old w _ _) (by kernel_rfl) rfl tabRow_one ?_))
   rw [Own.setRow_alloc_past _ _ _ _ (by simp), Own.setRow_alloc_at _ _ _ _ _ rfl]
   go_wp2
   exact bodyPost_ret (v := .agg (tabRow 16)) (results_cell_row rfl _ _ w.heap.size 76 (tabRow 16) (0, 0) _ rfl (heap_alloc2_old w _ _) Try.underlying76 rfl (by kernel_rfl)) rfl ⟨rfl, ((Below.refl _ _).alloc (Nat.le_refl _) _).alloc (by simp) _⟩
/-! ### end of GIVEN -/
/-! ### GIVEN sum_More: function 42 -/
theorem tab_at (x : Int) (h0 : 0 ≤ x) (h1 : x < 16) : (tabRow 16)[x.toNat]? = some (.int .u32 (Crc.tb x.toNat)) := by
 have : x.toNat < 16 := by omega
 simp [tabRow, this]
def sum_More.f (a0 : Int) (l1 : List Int) : Option Int := some (Crc.moreI a0 l1)
theorem fold_take (l : List Int) (a : Int) (k : Nat) (h : k < l.length) : (l.take (k + 1)).foldl Crc.moreStep a = Crc.moreStep ((l.take k).foldl Crc.moreStep a) (rd l k) := by
 rw [List.take_succ_eq_append_getElem h, List.foldl_append]
 simp [rd, List.getD_eq_getElem?_getD, h]
set_option maxHeartbeats 400000 in
theorem sum_More.calls (a0 : Int) (A1 : Option Addr) (c1 : Nat) (l1 : List Int) (r : Int) (w : World) (hr1 : Kd.C (Kd.int .u8) w A1 l1.length l1) (hc1 : l1.length ≤ c1) (h : sum_More.f a0 l1 = some r) :
  Calls Try.prog 42 #[.int .u32 a0, .slice A1 l1.length c1] w fun e w' => e = .returned (.int .u32 r) ∧ Below w.heap.size w w' := by
 have HR1 := Aside0.mk hr1
 have HC1 := Aside0.mk hc1
 have HL := Aside0.mk hr1.2.1
 clear hr1 hc1
 have H' := Aside0.mk h
 clear h
 go_enter Try.func42, Try.ntmps42
 go_wp2_with (first | (go_at_call 44; refine (nib _).mono ?_; rintro e w1 ⟨rfl, hb⟩) | (refine Own.wpList_store_row rfl 76 _ _ rfl _ rfl (tabRow 16) rfl 76 _ (heap_alloc_new _ _) (by kernel_rfl) rfl tabRow_one ?_; rw [Own.setRow_alloc_at _ _ _ _ _ rfl]))
 have HB := Aside0.mk (hb.alloc hb.size (.cells (tabRow 16) 76))
 have HR2 := Aside0.mk (Kd.C_below HR1.out HB.out)
 clear hb HR1
 go_loop [6, 14] (fun v i => ∃ k : Nat, k ≤ l1.length ∧ i = .int .i64 k ∧ v = .int .u32 ((l1.take k).foldl Crc.moreStep (Go.bits .xor .u32 4294967295 a0))) (fun _ i => l1.length - (intOf i).toNat)
 case atStart => exact ⟨0, by omega, rfl, rfl⟩
 case round =>
  obtain ⟨k, hk, rfl, rfl⟩ := hrel
  have hm := HL.out
  by_cases hlt : k < l1.length
  ·have HF := Aside0.mk (fold_take l1 (Go.bits .xor .u32 4294967295 a0) k hlt)
   generalize hx : (l1.take k).foldl Crc.moreStep (Go.bits .xor .u32 4294967295 a0) = x at HF
   clear hx
   obtain ⟨ad, rfl, hcell⟩ := Kd.at_int HR2.out (k : Int) (by omega) (by omega)
   rw [Int.toNat_natCast] at hcell
   have e1 := Crc.and15 (Go.bits .xor .u32 x (rd l1 k % 4294967296))
   have t1 := tab_at _ e1.1 e1.2
   have e2 := Crc.and15 (Go.bits .xor .u32 (Go.bits .xor .u32 x (rd l1 k % 4294967296) / 16) (Crc.tb (Go.bits .and .u32 (Go.bits .xor .u32 x (rd l1 k % 4294967296)) 15).toNat))
   have t2 := tab_at _ e2.1 e2.2
   go_wp2
   go_round
   case rel => exact ⟨k + 1, by omega, by go_num, by rw [HF.out]; rfl⟩
   case measure => simp [intOf]; omega
  ·obtain rfl : k = l1.length := by omega
   go_wp2
   go_ret
   have := H'.out

   exact ⟨by simp only [sum_More.f, Crc.moreI] at this; injection this with this; rw [← this]; rfl, HB.out⟩
/-! ### end of GIVEN -/
/-! ### sum_Sum: function 38 -/
def sum_Sum.f (l0 : List Int) : Option (Int) := (sum_More.f 0 l0).bind fun t105 => (some t105)
set_option maxHeartbeats 8000000 in
set_option maxRecDepth 100000 in
theorem sum_Sum.calls (A0 : Option Addr) (c0 : Nat) (l0 : List Int) (r : Int) (w : World) (hr0 : Kd.C (Kd.int .u8) w A0 l0.length l0) (hc0 : l0.length ≤ c0) (h : sum_Sum.f l0 = some r) :
  Calls Try.prog 38 #[.slice A0 l0.length c0] w fun e w' => e = .returned (.int .u32 r) ∧ Below w.heap.size w w' := by
 have HR0 := Aside0.mk hr0
 have HC0 := Aside0.mk hc0
 clear hr0 hc0
 have HB := Aside0.mk (Below.refl w.heap.size w)
 have H : ((sum_More.f 0 l0).bind fun t105 => (some t105)) = some r := h
 clear h
 replace H := Option.bind_eq_some_iff.mp H
 obtain ⟨t105, A20, H⟩ := H
 replace H : (some t105) = some r := H
 have A2 := Aside0.mk A20
 clear A20
 obtain rfl := Option.some.inj H
 go_enter Try.func38, Try.ntmps38
 go_wp2_with (first | ((with_reducible refine gate_callee (f := 42) rfl ?_); refine goesL_ (some 4) rfl rfl Try.func42 (by kernel_rfl) rfl #[.int .u32 0, .slice A0 l0.length c0] rfl (by (try simp only [List.map_toArray, List.map_cons, List.map_nil]); first | done | rfl | (simp only [List.length_drop, List.length_take]; rfl)) ?_; (with_reducible refine (sum_More.calls 0 _ _ l0 t105 _ ?side1 ?side2 A2.out).mono ?_); (case side1 => repeat (first | exact HR0.out | (with_reducible refine Kd.C_alloc ?_ _) | (with_reducible refine Kd.C_drewN ?_ _) | (with_reducible refine Kd.C_drew ?_))); (case side2 => exact HC0.out); rintro e w3 ⟨rfl, hb⟩; refine ⟨_, rfl, ?_⟩; have n0_ := Aside0.mk (below_step (by repeat (first | (with_reducible first | exact HB.out | apply below_alloc | apply pw_below_drewN | apply below_drew1) | exact HB.out)) hb); clear HB; have HB := n0_; clear n0_; (try clear hb); (try clear hb2); (try clear hk); (try clear hi)))
 go_ret
 exact ⟨by first | rfl | (simp [errW_none, errW_some] <;> rfl) | (simp [*, errW_none, errW_some] <;> rfl), by repeat (first | (with_reducible first | exact HB.out | apply below_alloc | apply pw_below_drewN | apply below_drew1) | exact HB.out)⟩

/-! ### GIVEN slices_Grow_byte_byte: function 43 -/
/-- slices.Grow of nil: an empty row with room. -/
theorem slices_Grow.nil (n : Int) (h0 : 0 ≤ n) (hn : n ≤ 140737488355328) (w : World) :
  Calls Try.prog 43 #[.slice none 0 0, .int .i64 n] w fun e w' => ∃ v, e = .returned v ∧ Kd.R (Kd.int .u8) 5 w' w.heap.size (fun _ => True) v [] ∧ Below w.heap.size w w' := by
 by_cases hz : n = 0
 ·subst hz
  go_enter Try.func43, Try.ntmps43
  go_wp2
  go_ret
  exact ⟨_, rfl, Kd.R_nil _ _ _ _ _, Below.refl _ _⟩
 ·have hpos : 0 < n := by omega
  clear hz
  go_enter Try.func43, Try.ntmps43
  go_wp2_with (first | (refine Kd.R_append_zeros (Kd.int .u8) (w0 := w) w.heap.size rfl (.tmp 20) (.tmp 21) 22 3 5 (.int .u8 0) 1 rfl Try.underlying22 Try.underlying3 info5 rfl (by decide) (by omega) (.slice none 0 0) [] 0 n (fun _ => True) rfl rfl rfl (fun _ _ => trivial) (Kd.R_nil _ _ _ _ _) h0 (Below.refl _ _) (Nat.le_refl _) (by simp; omega) ?_; intro v1 w1 ho hb _ _; have HO := Aside0.mk ho; have HB := Aside0.mk hb; clear ho hb; obtain ⟨A1, c1, he1⟩ := Kd.R_slice HO.out; subst he1; obtain ⟨i0, hi0, _, hs0, _⟩ := info_parts info5; have hcut := cut_to (P := Try.prog) 22 5 .i64 Try.underlying22 hi0 A1 _ c1 0 (by omega) (by omega) (Kd.R_reads' HO.out).2.1))
  go_ret
  exact ⟨_, rfl, Kd.R_take (m := 0) HO.out (Nat.zero_le _), HB.out⟩
/-! ### end of GIVEN -/
/-! ### GIVEN slices_Concat_byte_byte: function 40 -/
/-- A row of rows that is read: its element k. -/
theorem rows_at {α : Type} {d : Kd α} {e : Nat} {w : World} {A : Option Addr} {n : Nat} {ls : List (List α)} (h : Kd.C (Kd.slice e d) w A n ls) (k : Nat) (hk : k < ls.length) :
  ∃ ad A' c', A = some ad ∧ w.cell? (ad.add k) = some (.slice A' ls[k].length c') ∧ ls[k].length ≤ c' ∧ Kd.C d w A' ls[k].length ls[k] := by
 obtain ⟨hl, _, hc⟩ := h
 obtain ⟨ad, he, hg⟩ := hc (by omega)
 obtain ⟨cs, h1, ⟨A', c', rfl, h2, h3⟩, h4⟩ := hg k ls[k] (List.getElem?_eq_getElem hk)
 refine ⟨ad, A', c', he, ?_, h2, h3⟩
 have := h4 0 _ rfl
 simpa [Kd.slice] using this
def lensum (ls : List (List Int)) : Nat := (ls.map List.length).sum
theorem lensum_append (a b : List (List Int)) : lensum (a ++ b) = lensum a + lensum b := by simp [lensum]
theorem lensum_take (ls : List (List Int)) (k : Nat) (h : k < ls.length) : lensum (ls.take (k + 1)) = lensum (ls.take k) + ls[k].length := by
 rw [List.take_succ_eq_append_getElem h, lensum_append]
 rfl
theorem lensum_le (ls : List (List Int)) (k : Nat) : lensum (ls.take k) ≤ lensum ls := by
 have h : lensum ls = lensum (ls.take k) + lensum (ls.drop k) := by rw [← lensum_append, List.take_append_drop]
 omega
theorem flatten_take (ls : List (List Int)) (k : Nat) (h : k < ls.length) : (ls.take (k + 1)).flatten = (ls.take k).flatten ++ ls[k] := by
 rw [List.take_succ_eq_append_getElem h, List.flatten_append, List.flatten_singleton]
theorem flatten_len (ls : List (List Int)) : ls.flatten.length = lensum ls := by simp [lensum, List.length_flatten]
set_option maxHeartbeats 1000000 in
theorem slices_Concat.calls (A : Option Addr) (c : Nat) (ls : List (List Int)) (w : World) (hr : Kd.C (Kd.slice 5 (Kd.int .u8)) w A ls.length ls) (hl : lensum ls ≤ 140737488355328) :
  Calls Try.prog 40 #[.slice A ls.length c] w fun e w' => ∃ v, e = .returned v ∧ Kd.R (Kd.int .u8) 5 w' w.heap.size (fun _ => True) v ls.flatten ∧ Below w.heap.size w w' := by
 have HR := Aside0.mk hr
 have HM := Aside0.mk hr.2.1
 have HL := Aside0.mk hl
 clear hr hl
 go_enter Try.func40, Try.ntmps40
 go_wp2
 go_loop [3, 11] (fun s i => ∃ k : Nat, k ≤ ls.length ∧ i = .int .i64 k ∧ s = .int .i64 (lensum (ls.take k) : Nat)) (fun _ i => ls.length - (intOf i).toNat)
 case atStart => exact ⟨0, by omega, rfl, rfl⟩
 case round =>
  obtain ⟨k, hk, rfl, rfl⟩ := hrel
  have hm := HM.out
  have hs1 : lensum (ls.take k) ≤ 140737488355328 := Nat.le_trans (lensum_le ls k) HL.out
  by_cases hlt : k < ls.length
  ·have hs2 : lensum (ls.take k) + ls[k].length ≤ 140737488355328 := by rw [← lensum_take ls k hlt]; exact Nat.le_trans (lensum_le ls (k + 1)) HL.out
   have HS := Aside0.mk (lensum_take ls k hlt)
   obtain ⟨ad, A1, c1, rfl, hcell, hc1, hC⟩ := rows_at HR.out k hlt
   have HC := Aside0.mk hC
   clear hC
   go_wp2
   go_round
   case rel => exact ⟨k + 1, by omega, by go_num, by rw [HS.out]; go_num⟩
   case measure => simp [intOf]; omega
  ·obtain rfl : k = ls.length := by omega
   rw [List.take_length] at *
   go_wp2_with (go_at_call 43; refine (slices_Grow.nil _ (by omega) (by omega) _).mono ?_; rintro e w1 ⟨v1, rfl, ho, hb⟩; have HO := Aside0.mk ho; have HB := Aside0.mk hb; clear ho hb)
   go_loopw [6, 27] (fun v i wr => ∃ k : Nat, k ≤ ls.length ∧ i = .int .i64 k ∧ Aside0 (Kd.R (Kd.int .u8) 5 wr w.heap.size (fun _ => True) v (ls.take k).flatten) ∧ Aside0 (Below w.heap.size w wr)) (fun _ i _ => ls.length - (intOf i).toNat)
   case atStart => exact ⟨0, by omega, rfl, HO, HB⟩
   case round =>
    clear HO HB
    obtain ⟨k, hk, rfl, HO, HB⟩ := hrel
    by_cases hlt : k < ls.length
    ·obtain ⟨ad, A1, c1, rfl, hcell, hc1, hC⟩ := rows_at (Kd.C_below HR.out HB.out) k hlt
     have HC := Aside0.mk hC
     have HF := Aside0.mk (flatten_take ls k hlt)
     have HS := Aside0.mk (show (ls.take k).flatten.length + ls[k].length ≤ 140737488355328 from by
      rw [flatten_len, ← lensum_take ls k hlt]; exact Nat.le_trans (lensum_le ls (k + 1)) HL.out)
     clear hC
     go_wp2_with (first | ((with_reducible refine gate_builtin (b := .append) (xs := #[.tmp 31, .tmp 32]) rfl ?_); at_builtin; refine Kd.R_append_rows (Kd.int .u8) (w0 := w) w.heap.size rfl (.tmp 31) (.tmp 32) 22 5 (.int .u8 0) 1 rfl Try.underlying22 info5 rfl (by decide) (by omega) _ _ ls[k] _ _ _ (fun _ => True) (fun _ => False) rfl rfl HO.out HC.out (fun _ _ h => h) (fun _ h => h.elim) (fun _ _ => trivial) HB.out HB.out.size (by have := HS.out; omega) ?_; intro v1 w2 ho hb _ _; have HO2 := Aside0.mk ho; have HB2 := Aside0.mk hb; clear ho hb))
     go_roundw
     case rel => exact ⟨k + 1, by omega, by go_num, by rw [HF.out]; exact HO2, HB2⟩
     case measure => simp [intOf]; omega
    ·obtain rfl : k = ls.length := by omega
     rw [List.take_length] at HO
     go_wp2
     go_ret
     exact ⟨_, rfl, HO.out, HB.out⟩
/-! ### end of GIVEN -/
/-! ### GIVEN num_join: function 34 -/
theorem rows_two {α : Type} {d : Kd α} {e t : Nat} {W : World} {A0 A1 : Option Addr} {c0 c1 : Nat} {l0 l1 : List α} (h0 : Kd.C d W A0 l0.length l0) (hc0 : l0.length ≤ c0) (h1 : Kd.C d W A1 l1.length l1) (hc1 : l1.length ≤ c1) :
  Kd.C (Kd.slice e d) (W.alloc (.cells #[.slice A0 l0.length c0, .slice A1 l1.length c1] t)) (some ⟨W.heap.size, 0, none⟩) 2 [l0, l1] := by
 refine ⟨rfl, by omega, fun _ => ⟨_, rfl, fun j p hj => ?_⟩⟩
 have cell : ∀ i, (W.alloc (.cells #[Value.slice A0 l0.length c0, .slice A1 l1.length c1] t)).cell? ((⟨W.heap.size, 0, none⟩ : Addr).add i) = (#[Value.slice A0 l0.length c0, .slice A1 l1.length c1] : Array Value)[i]? := fun i => by
  rw [add_plain, cell_of_row _ _ _ _ _ _ (heap_alloc_new W _)]
 rcases j with _ | _ | j
 ·obtain rfl : l0 = p := by simpa using hj
  refine ⟨[.slice A0 l0.length c0], rfl, ⟨A0, c0, rfl, hc0, Kd.C_alloc h0 _⟩, fun i u hu => ?_⟩
  rcases i with _ | i
  ·rw [cell]; exact hu
  ·simp at hu
 ·obtain rfl : l1 = p := by simpa using hj
  refine ⟨[.slice A1 l1.length c1], rfl, ⟨A1, c1, rfl, hc1, Kd.C_alloc h1 _⟩, fun i u hu => ?_⟩
  rcases i with _ | i
  ·rw [cell]; exact hu
  ·simp at hu
 ·simp at hj
def num_join.f (l0 l1 : List Int) : Option (List Int) := if l0.length + l1.length ≤ 140737488355328 then some (l0 ++ l1) else none
theorem num_join.calls (A0 : Option Addr) (c0 : Nat) (l0 : List Int) (A1 : Option Addr) (c1 : Nat) (l1 : List Int) (r : List Int) (w : World) (hr0 : Kd.C (Kd.int .u8) w A0 l0.length l0) (hc0 : l0.length ≤ c0) (hr1 : Kd.C (Kd.int .u8) w A1 l1.length l1) (hc1 : l1.length ≤ c1) (h : num_join.f l0 l1 = some r) :
  Calls Try.prog 34 #[.slice A0 l0.length c0, .slice A1 l1.length c1] w fun e w' => ∃ v0_ : Value, e = .returned (v0_) ∧ Kd.R (Kd.int .u8) 5 w' w.heap.size (fun _ => True) v0_ r ∧ Below w.heap.size w w' := by
 have hl : l0.length + l1.length ≤ 140737488355328 := by
  unfold num_join.f at h
  split at h
  ·assumption
  ·cases h
 have hr : r = l0 ++ l1 := by
  unfold num_join.f at h
  rw [if_pos hl] at h
  exact (Option.some.inj h).symm
 have hC := rows_two (e := 5) (t := 22) hr0 hc0 hr1 hc1
 have HX := Aside0.mk (slices_Concat.calls _ 2 _ _ hC (by simp only [lensum, List.map_cons, List.map_nil, List.sum_cons, List.sum_nil]; omega))
 have HB := Aside0.mk ((Below.refl w.heap.size w).alloc (Nat.le_refl _) (.cells #[.slice A0 l0.length c0, .slice A1 l1.length c1] 22))
 subst hr
 clear h hr0 hc0 hr1 hc1 hC hl
 go_enter Try.func34, Try.ntmps34
 go_wp2_with (go_at_call 40; refine HX.out.mono ?_; rintro e w1 ⟨v1, rfl, ho, hb⟩; have HO := Aside0.mk ho; have HB1 := Aside0.mk hb; clear ho hb)
 go_ret
 exact ⟨_, rfl, Kd.R_lower (by simpa using HO.out) HB.out.size, below_step HB.out HB1.out⟩
/-! ### end of GIVEN -/
/-! ### GIVEN num_Take: function 26 -/
def takeStep (x c : Int) : Int := Go.bits .or .i64 (wrap64 (x * 256)) (wrap64 c)
def num_Take.f (l0 : List Int) (n : Int) : Option (Int × List Int × Int) :=
 if n < 1 ∨ 7 < n then some (0, [], 1) else if (l0.length : Int) < n then some (0, [], 2) else (num_join.f [] (l0.drop n.toNat)).bind fun r => some ((l0.take n.toNat).foldl takeStep 0, r, 0)
theorem foldT (l : List Int) (a : Int) (k : Nat) (h : k < l.length) : (l.take (k + 1)).foldl takeStep a = takeStep ((l.take k).foldl takeStep a) (rd l k) := by
 rw [List.take_succ_eq_append_getElem h, List.foldl_append]
 simp [rd, List.getD_eq_getElem?_getD, h]
set_option maxRecDepth 100000 in
set_option maxHeartbeats 1000000 in
theorem num_Take.calls (A0 : Option Addr) (c0 : Nat) (l0 : List Int) (n : Int) (r1 : Int) (r2 : List Int) (r3 : Int) (w : World) (hr0 : Kd.C (Kd.int .u8) w A0 l0.length l0) (hc0 : l0.length ≤ c0) (h : num_Take.f l0 n = some (r1, r2, r3)) :
  Calls Try.prog 26 #[.slice A0 l0.length c0, .int .i64 n] w fun e w' => ∃ v1_ : Value, e = .returned (.tuple #[.int .i64 r1, v1_, .int .i64 r3]) ∧ Kd.R (Kd.int .u8) 5 w' w.heap.size (fun _ => True) v1_ r2 ∧ Below w.heap.size w w' := by
 have HR0 := Aside0.mk hr0
 have HC0 := Aside0.mk hc0
 have HM := Aside0.mk hr0.2.1
 clear hr0 hc0
 unfold num_Take.f at h
 by_cases hbad : n < 1 ∨ 7 < n
 ·rw [if_pos hbad] at h
  obtain ⟨rfl, rfl, rfl⟩ : 0 = r1 ∧ [] = r2 ∧ 1 = r3 := by simpa using h
  clear h
  rcases hbad with hbad | hbad
  all_goals
   go_enter Try.func26, Try.ntmps26
   go_wp2
   go_ret3
   exact ⟨_, rfl, Kd.R_nil _ _ _ _ _, Below.refl _ _⟩
 rw [if_neg hbad] at h
 have h1 : 1 ≤ n := by omega
 have h7 : n ≤ 7 := by omega
 clear hbad
 obtain ⟨m, rfl⟩ : ∃ m : Nat, n = m := ⟨n.toNat, by omega⟩
 have hm := HM.out
 by_cases hsh : (l0.length : Int) < m
 ·rw [if_pos hsh] at h
  obtain ⟨rfl, rfl, rfl⟩ : 0 = r1 ∧ [] = r2 ∧ 2 = r3 := by simpa using h
  clear h
  have hsh2 : decide (l0.length < m) = true := by simp; omega
  go_enter Try.func26, Try.ntmps26
  go_wp2
  go_ret3
  exact ⟨_, rfl, Kd.R_nil _ _ _ _ _, Below.refl _ _⟩
 ·rw [if_neg hsh] at h
  obtain ⟨q, hq, hr⟩ := Option.bind_eq_some_iff.1 h
  obtain ⟨rfl, rfl, rfl⟩ : _ = r1 ∧ q = r2 ∧ 0 = r3 := by simpa using hr
  rw [Int.toNat_natCast] at *
  have HQ := Aside0.mk hq
  clear h hr hq
  have hsh2 : decide (l0.length < m) = false := by simp; omega
  have hle : m ≤ l0.length := by omega
  obtain ⟨i0, hi0, _, hs0, _⟩ := info_parts info5
  have hcut := cut_to (P := Try.prog) 22 5 .i64 Try.underlying22 hi0 A0 l0.length c0 m (by omega) (by omega) HC0.out
  rw [Int.toNat_natCast] at hcut
  obtain ⟨A1, ys, HY, hcut2, HD, HCD⟩ := Own.cut_drop (P := Try.prog) (Kd.int .u8) 22 5 .i64 Try.underlying22 (by kernel_rfl) HR0.out HC0.out m hle
  go_enter Try.func26, Try.ntmps26
  go_wp2
  go_loop [7, 26] (fun v i => ∃ k : Nat, k ≤ m ∧ i = .int .i64 k ∧ v = .int .i64 ((l0.take k).foldl takeStep 0)) (fun _ i => m - (intOf i).toNat)
  case atStart => exact ⟨0, by omega, rfl, rfl⟩
  case round =>
   obtain ⟨k, hk, rfl, rfl⟩ := hrel
   by_cases hlt : k < m
   ·have HF := Aside0.mk (foldT l0 0 k (by omega))
    obtain ⟨ad, hAd, hcell⟩ := Kd.at_int HR0.out (k : Int) (by omega) (by omega)
    subst hAd
    rw [Int.toNat_natCast] at hcell
    go_wp2
    go_round
    case rel => exact ⟨k + 1, by omega, by go_num, by rw [HF.out]; rfl⟩
    case measure => simp [intOf]; omega
   ·obtain rfl : k = m := by omega
    go_wp2_with (go_at_call 34; refine (num_join.calls none 0 [] _ _ ys q _ (Kd.C_nil _ _) (Nat.le_refl _) HD.out HCD.out (by rw [HY.out]; exact HQ.out)).mono ?_; rintro e w1 ⟨v1, rfl, ho, hb⟩; have HO := Aside0.mk ho; have HB1 := Aside0.mk hb; clear ho hb)
    go_ret3
    exact ⟨_, rfl, HO.out, HB1.out⟩
/-! ### end of GIVEN -/
/-! ### GIVEN seal_Open_1: function 39 -/
theorem grown_set {w w1 : World} (hb : Below w.heap.size w w1) (g : Nat) (v : Value) : w.grownBy (w1.setCell ⟨g, 0, none⟩ v) (some g) :=
 ⟨hb.os, hb.tape, hb.output, by rw [World.size_setCell]; exact hb.size, fun k hk hne => (heap_setCell_other w1 ⟨g, 0, none⟩ k v (fun e => hne (congrArg some e))).trans (hb.block k hk)⟩
set_option maxHeartbeats 1000000 in
/-- The number that 'next' takes off the bytes in block g; the rest stands there behind it. -/
theorem seal_next.calls (g : Nat) (A0 : Option Addr) (c0 : Nat) (l0 : List Int) (n r1 : Int) (r2 : List Int) (r3 : Int) (w : World) (hg : w.heap[g]? = some (.cells #[.slice A0 l0.length c0] 22 (0, 0))) (hr0 : Kd.C (Kd.int .u8) w A0 l0.length l0) (hc0 : l0.length ≤ c0) (h : num_Take.f l0 n = some (r1, r2, r3)) :
  Calls Try.prog 39 #[.int .i64 n, .pointer (some ⟨g, 0, none⟩)] w fun e w' => ∃ (A1 : Option Addr) (c1 : Nat), e = .returned (.int .i64 r1) ∧ w'.heap[g]? = some (.cells #[.slice A1 r2.length c1] 22 (0, 0)) ∧ Kd.R (Kd.int .u8) 5 w' w.heap.size (fun k_ => w.heap.size ≤ k_) (.slice A1 r2.length c1) r2 ∧ w.grownBy w' (some g) := by
 have HG := Aside0.mk hg
 have HR := Aside0.mk hr0
 have HC := Aside0.mk hc0
 have HT := Aside0.mk h
 have hcell := blk_cell hg 0
 rw [show (#[Value.slice A0 l0.length c0] : Array Value)[0]? = some (.slice A0 l0.length c0) from rfl] at hcell
 clear hg hr0 hc0 h
 go_enter Try.func39, Try.ntmps39
 go_wp2_with fail
 refine (num_Take.calls A0 c0 l0 n r1 r2 r3 _ HR.out HC.out HT.out).mono ?_
 rintro e w1 ⟨v1, rfl, ho, hb⟩
 obtain ⟨A1, c1, he1⟩ := Kd.R_slice ho
 subst he1
 have HG1 := Aside0.mk (blk_below HG.out hb)
 have hcell1 := blk_cell HG1.out 0
 rw [show (#[Value.slice A0 l0.length c0] : Array Value)[0]? = some (.slice A0 l0.length c0) from rfl] at hcell1
 have hfro1 := blk_frozen HG1.out 0
 have HO := Aside0.mk ho
 have HB := Aside0.mk hb
 clear ho hb hcell
 go_wp2
 go_ret
 exact ⟨A1, c1, rfl, heap_setCell_same _ _ _ _ _ _ HG1.out, Kd.R_far (p := ⟨g, 0, none⟩) (Kd.R_mono (Kd.R_bound HO.out) (fun k hk => hk.2.1)) (fun k hk => by have := blk_lt HG.out; show k ≠ g; omega) _, grown_set HB.out g _⟩
/-! ### end of GIVEN -/
end Go.Proofs.Ytjpebckmjlmkmaa.P
