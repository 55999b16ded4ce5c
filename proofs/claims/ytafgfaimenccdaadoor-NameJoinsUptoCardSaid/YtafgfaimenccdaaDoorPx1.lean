/- Functions and contracts, written by a program (mkprint.py, a wrapper of ours around the print); texts between GIVEN marks are ours. -/
import Derived.Test.YtafgfaimenccdaaDoorPx0
namespace Go.Proofs.YtafgfaimenccdaaDoor.P
open Go.RowKit Go.Proofs.YtafgfaimenccdaaDoorW.PrintWords Go.Proofs.YtafgfaimenccdaaDoorW.PrintLast Go.Proofs.YtafgfaimenccdaaDoorW.PrintMore
attribute [local go_sem] max2_int min2_int max_two min_two max_three min_three max_four min_four   -- for this text's walks alone
set_option linter.unusedVariables false
set_option linter.unusedSimpArgs false
theorem q3_ {P : Prop} (h : P := by (with_reducible repeat (first | apply Kd.V_alloc | apply Kd.V_drewN | apply Kd.V_drew)); exact HO_6.out) : P := h

/-! ### GIVEN bytes_conv: function 76 -/
/-- A string told as new bytes. -/
def Convs (P : Program) (src dst : TypeId) (v : Value) (w : World) (Q : Ending → World → Prop) : Prop := ∃ x w1, (convert src dst v).run P w = .ok x w1 ∧ Q (.returned x) w1
theorem Convs.mono {P : Program} {src dst : TypeId} {v : Value} {w : World} {Q Q' : Ending → World → Prop} (h : Convs P src dst v w Q) (hq : ∀ e w', Q e w' → Q' e w') : Convs P src dst v w Q' := by
 obtain ⟨x, w1, h1, h2⟩ := h
 exact ⟨x, w1, h1, hq _ _ h2⟩
theorem conv_ {P : Program} {ops : Array Oper} {Q : Exit → Act → World → Prop} {oi : Oper} {N : Option Tmp} {a : Act} {w : World} {K : Act → World → Prop} {src dst : TypeId} {x : Operand} (v : Value) (hw : Region.wanted oi (yielded ops a.tmps) = true) (hN : oi.dst = N) (hop : oi.op = .convert src dst x) (hx : a.eval x = v)
  (h : Convs P src dst v w fun e w' => ∃ v, e = .returned v ∧ K (a.put N v) w') : if Region.wanted oi (yielded ops a.tmps) = true then Oper.wp P oi a w K Q else K (a.put N undef) w := by
 obtain ⟨y, w1, h1, y', hy, hk⟩ := h
 cases hy
 refine value_ hw hN (v := y) (w1 := w1) ?_ hk
 unfold execOp
 simp only [hop, hx]
 go_simp
theorem convL_ {P : Program} {ops : Array Oper} {Q : Exit → Act → World → Prop} {rest : List Oper} {oi : Oper} {a : Act} {w : World} (N : Option Tmp) (hd : oi.dst = N) (hg : oi.guard = none) {src dst : TypeId} {x : Operand} (v : Value) (hop : oi.op = .convert src dst x) (hx : a.eval x = v)
  (h : Convs P src dst v w fun e w' => ∃ v, e = .returned v ∧ wpList P ops Q rest (a.put N v) w') : wpList P ops Q (oi :: rest) a w := by
 obtain ⟨y, w1, h1, y', hy, hk⟩ := h
 cases hy
 refine wpList_plain hg fun K hK => ?_
 unfold Oper.wp
 have hr : (execOp a.eval oi).run P w = .ok (.value y) w1 := by
  unfold execOp
  simp only [hop, hx]
  go_simp
 rw [hr]
 subst hd
 exact hK _ _ hk
theorem upon_conv {P : Program} {o : Oper} {a : Act} {w : World} {next : Act → World → Prop} {Q : Exit → Act → World → Prop} {src dst : TypeId} {v : Value}
  (h : Convs P src dst v w fun e w' => match e with
   | .returned y => next (a.put o.dst y) w'
   | _ => False) : o.upon P a next Q (((convert src dst v).run P w).andThen fun a w' => Result.ok (Next.value a) w') := by
 obtain ⟨y, w1, h1, hk⟩ := h
 rw [h1]
 exact hk
theorem gate_conv {P : Program} {ops : Array Oper} {Q : Exit → Act → World → Prop} {o : Oper} {rest : List Oper} {a : Act} {W : World} {src dst : TypeId} {x : Operand} (_ho : o.op = .convert src dst x) (h : wpList P ops Q (o :: rest) a W) : wpList P ops Q (o :: rest) a W := h
def bytes_conv.f (s : ByteArray) : Option (List Int) := if s.size ≤ 9223372036854775807 then some (bytesOf s) else none
theorem bytes_conv.calls (a0 : ByteArray) (r : List Int) (w : World) (h : bytes_conv.f a0 = some r) :
  Convs Tryd.prog 9 44 (.string a0) w fun e w' => ∃ v0_ : Value, e = .returned (v0_) ∧ Kd.V (Kd.int .u8) 5 w' w.heap.size (fun k_ => (w.heap.size ≤ k_)) v0_ r ∧ Below w.heap.size w w' := by
 unfold bytes_conv.f at h
 by_cases hs : a0.size ≤ 9223372036854775807
 ·rw [if_pos hs] at h
  obtain rfl := Option.some.inj h
  refine ⟨_, _, print_bytes (P := Tryd.prog) 9 44 5 Tryd.underlying9 Tryd.underlying44 Tryd.underlying5 a0 w, _, rfl, ?_, bytes_below (Below.refl w.heap.size w) (Nat.le_refl _) 5 a0⟩
  have hr := bytes_reads w 5 a0 hs
  refine ⟨some ⟨w.heap.size, 0, none⟩, grownCap w a0.size 0 5, by rw [bytesOf_length], by rw [bytesOf_length]; exact grownCap_ge w a0.size 0 5, ?_⟩
  intro W' hW
  refine Kd.C_of_reads (d := (0 : Int)) (h1 := fun _ => rfl) ?_
  rw [bytesOf_length]
  refine ⟨hr.1, hr.2.1, fun hn => ?_⟩
  obtain ⟨ad, he, hc⟩ := hr.2.2 hn
  cases he
  refine ⟨_, rfl, fun j hj => ?_⟩
  rw [← hc j hj, add_plain]
  have hb := hW w.heap.size (Nat.le_refl _) (by rw [Lib.bytesWorld_size]; omega)
  unfold World.cell?
  simp only [hb]
 ·rw [if_neg hs] at h
  cases h
/-! ### end of GIVEN -/
-- NOT PRINTED: function 11 (name_Valid)

-- NOT PRINTED: function 35 (stringslite_HasPrefix)

-- NOT PRINTED: function 30 (stringslite_CutPrefix)

-- NOT PRINTED: function 23 (strings_CutPrefix)

-- NOT PRINTED: function 41 (utf8_RuneCountInString)

-- NOT PRINTED: function 47 (utf8_decodeRuneInStringSlow)

-- NOT PRINTED: function 42 (utf8_DecodeRuneInString)

-- NOT PRINTED: function 36 (strings_explode)

-- NOT PRINTED: function 52 (bytealg_IndexByteString)

-- NOT PRINTED: function 48 (stringslite_IndexByte)

-- NOT PRINTED: function 49 (bytealg_IndexString)

-- NOT PRINTED: function 50 (bytealg_Cutover)

-- NOT PRINTED: function 53 (bytealg_hashStr_string)

-- NOT PRINTED: function 51 (bytealg_IndexRabinKarp_string)

-- NOT PRINTED: function 44 (stringslite_Index)

-- NOT PRINTED: function 38 (strings_Index)

-- NOT PRINTED: function 43 (bytealg_CountString)

-- NOT PRINTED: function 37 (strings_Count)

-- NOT PRINTED: function 31 (strings_genSplit)

-- NOT PRINTED: function 24 (strings_Split)

/-! ### super_Label: function 25 -/
mutual
def super_Label.l0 : Nat → ByteArray → List Int → Int → Int → Option (Bool)
 | 0, _, _, _, _ => none
 | k + 1, x0, x6, x7, x8 => if x8 < x7 then (if 0 ≤ x8 then (if x8 < (x6.length : Int) then (if 97 ≤ (rd x6 x8) then (super_Label.j1 k x0 (rd x6 x8) x6 x7 x8 (decide ((rd x6 x8) ≤ 122))) else (super_Label.j1 k x0 (rd x6 x8) x6 x7 x8 false)) else (none)) else (none)) else (if (x0.size : Int) > 0 then (some (decide ((x0.size : Int) ≤ 10))) else (some false))
def super_Label.j1 : Nat → ByteArray → Int → List Int → Int → Int → Bool → Option (Bool)
 | 0, _, _, _, _, _, _ => none
 | k + 1, x0, x4, x6, x7, x8, x12 => if x12 = true then (super_Label.l0 k x0 x6 x7 (wrap64 (x8 + 1))) else (if 48 ≤ x4 then (super_Label.j2 k x0 x4 x6 x7 x8 (decide (x4 ≤ 57))) else (super_Label.j2 k x0 x4 x6 x7 x8 false))
def super_Label.j2 : Nat → ByteArray → Int → List Int → Int → Int → Bool → Option (Bool)
 | 0, _, _, _, _, _, _ => none
 | k + 1, x0, x4, x6, x7, x8, x12 => if x12 = true then (super_Label.l0 k x0 x6 x7 (wrap64 (x8 + 1))) else (if x4 = 45 then (super_Label.l0 k x0 x6 x7 (wrap64 (x8 + 1))) else (some false))
end
def super_Label.f (k : Nat) (a0 : ByteArray) : Option (Bool) := (bytes_conv.f a0).bind fun t101 => (super_Label.l0 k a0 t101 (t101.length : Int) 0)
theorem super_Label.mono_l : ∀ k, (∀ y0 y1 y2 y3, LeO (super_Label.l0 k y0 y1 y2 y3) (super_Label.l0 (k + 1) y0 y1 y2 y3)) ∧ (∀ y0 y1 y2 y3 y4 y5, LeO (super_Label.j1 k y0 y1 y2 y3 y4 y5) (super_Label.j1 (k + 1) y0 y1 y2 y3 y4 y5)) ∧ (∀ y0 y1 y2 y3 y4 y5, LeO (super_Label.j2 k y0 y1 y2 y3 y4 y5) (super_Label.j2 (k + 1) y0 y1 y2 y3 y4 y5))
 | 0 => ⟨fun _ _ _ _ r h => by simp [super_Label.l0] at h, fun _ _ _ _ _ _ r h => by simp [super_Label.j1] at h, fun _ _ _ _ _ _ r h => by simp [super_Label.j2] at h⟩
 | k + 1 => by
  obtain ⟨ih0, ih1, ih2⟩ := super_Label.mono_l k
  refine ⟨?_, ?_, ?_⟩
  ·intro y0 y1 y2 y3
   unfold super_Label.l0
   repeat' first
   | (with_reducible exact ih0 _ _ _ _)
   | (with_reducible exact ih1 _ _ _ _ _ _)
   | (with_reducible exact ih2 _ _ _ _ _ _)
   | (with_reducible exact LeO.refl _)
   | (with_reducible exact LeO.none _)
   | (with_reducible refine LeO.ite ?_ ?_)
   | (with_reducible refine LeO.bind ?_ (fun _ => ?_))
   | exact ih0 _ _ _ _
   | exact ih1 _ _ _ _ _ _
   | exact ih2 _ _ _ _ _ _
   | exact LeO.none _
   | refine LeO.ite ?_ ?_
   | refine LeO.bind ?_ (fun _ => ?_)
  ·intro y0 y1 y2 y3 y4 y5
   unfold super_Label.j1
   repeat' first
   | (with_reducible exact ih0 _ _ _ _)
   | (with_reducible exact ih1 _ _ _ _ _ _)
   | (with_reducible exact ih2 _ _ _ _ _ _)
   | (with_reducible exact LeO.refl _)
   | (with_reducible exact LeO.none _)
   | (with_reducible refine LeO.ite ?_ ?_)
   | (with_reducible refine LeO.bind ?_ (fun _ => ?_))
   | exact ih0 _ _ _ _
   | exact ih1 _ _ _ _ _ _
   | exact ih2 _ _ _ _ _ _
   | exact LeO.none _
   | refine LeO.ite ?_ ?_
   | refine LeO.bind ?_ (fun _ => ?_)
  ·intro y0 y1 y2 y3 y4 y5
   unfold super_Label.j2
   repeat' first
   | (with_reducible exact ih0 _ _ _ _)
   | (with_reducible exact ih1 _ _ _ _ _ _)
   | (with_reducible exact ih2 _ _ _ _ _ _)
   | (with_reducible exact LeO.refl _)
   | (with_reducible exact LeO.none _)
   | (with_reducible refine LeO.ite ?_ ?_)
   | (with_reducible refine LeO.bind ?_ (fun _ => ?_))
   | exact ih0 _ _ _ _
   | exact ih1 _ _ _ _ _ _
   | exact ih2 _ _ _ _ _ _
   | exact LeO.none _
   | refine LeO.ite ?_ ?_
   | refine LeO.bind ?_ (fun _ => ?_)
theorem super_Label.mono : ∀ a0 k, LeO (super_Label.f k a0) (super_Label.f (k + 1) a0) := by
 intro a0 k
 obtain ⟨ih0, ih1, ih2⟩ := super_Label.mono_l k
 unfold super_Label.f
 repeat' first
   | (with_reducible exact ih0 _ _ _ _)
   | (with_reducible exact ih1 _ _ _ _ _ _)
   | (with_reducible exact ih2 _ _ _ _ _ _)
   | (with_reducible exact LeO.refl _)
   | (with_reducible exact LeO.none _)
   | (with_reducible refine LeO.ite ?_ ?_)
   | (with_reducible refine LeO.bind ?_ (fun _ => ?_))
   | exact ih0 _ _ _ _
   | exact ih1 _ _ _ _ _ _
   | exact ih2 _ _ _ _ _ _
   | exact LeO.none _
   | refine LeO.ite ?_ ?_
   | refine LeO.bind ?_ (fun _ => ?_)
set_option maxHeartbeats 8000000 in
set_option maxRecDepth 100000 in
theorem super_Label.calls (k : Nat) (a0 : ByteArray) (r : Bool) (w : World) (h : super_Label.f k a0 = some r) :
  Calls Tryd.prog 25 #[.string a0] w fun e w' => e = .returned (.bool r) ∧ Below w.heap.size w w' := by
 have HB := Aside0.mk (Below.refl w.heap.size w)
 have H : ((bytes_conv.f a0).bind fun t101 => (super_Label.l0 k a0 t101 (t101.length : Int) 0)) = some r := h
 clear h
 replace H := Option.bind_eq_some_iff.mp H
 obtain ⟨t101, A20, H⟩ := H
 replace H : (super_Label.l0 k a0 t101 (t101.length : Int) 0) = some r := H
 have A2 := Aside0.mk A20
 clear A20
 have H' := Aside0.mk H
 clear H
 go_enter Tryd.func25, Tryd.ntmps25
 go_wp2_with (first | ((with_reducible refine gate_conv (src := 9) (dst := 44) rfl ?_); refine convL_ (some 6) rfl rfl (.string a0) rfl (by rfl) ?_; (with_reducible refine (bytes_conv.calls a0 t101 _ A2.out).mono ?_); rintro e w3 ⟨v102, rfl, ho0, hb⟩; refine ⟨_, rfl, ?_⟩; have n0_ := Aside0.mk (Kd.V_lower (Kd.V_mono (ok' := fun k_ => True) ho0 (fun k_ hk_ => trivial)) (below_size q0_)); have n1_ := Aside0.mk (below_step q0_ hb); clear HB; have HO103 := n0_; have HB := n1_; clear n0_ n1_; (try clear hb); (try clear hb2); (try clear hk); (try clear hi); (try clear ho0); obtain ⟨Ao4, co4, eo4⟩ := Kd.V_slice HO103.out; subst eo4))
 go_loopg [8] k (fun kq v8 w' => ∃ (x8_1 : Int), v8 = .int .i64 x8_1 ∧ Aside0 (super_Label.l0 kq a0 t101 (t101.length : Int) x8_1 = some r) ∧ Aside0 (kq ≤ k) ∧ Aside0 (Kd.V (Kd.int .u8) 5 w' w.heap.size (fun _ => True) (.slice Ao4 t101.length co4) t101) ∧ Aside0 (Below w.heap.size w w'))
 case atStart => exact ⟨(0), q2_, H', ⟨Nat.le_refl _⟩, ⟨by (with_reducible repeat (first | apply Kd.V_alloc | apply Kd.V_drewN | apply Kd.V_drew)); exact HO103.out⟩, ⟨q0_⟩⟩
 case round =>
  clear H'
  try clear c2
  try clear p2
  obtain ⟨x8_1, rfl, HA, HK1, HO_6, HB⟩ := hrel
  cases gk with
  | zero => exact absurd (show none = some _ from HA.out) (by simp)
  | succ k1 =>
   have H := HA.out
   clear HA
   simp only [super_Label.l0] at H
   by_cases c5 : x8_1 < (t101.length : Int)
   ·rw [if_pos c5] at H
    have c5b0 : decide (x8_1 < (t101.length : Int)) = true := decide_eq_true c5
    clear c5
    by_cases c6 : 0 ≤ x8_1
    ·rw [if_pos c6] at H
     have c6b0 : decide (0 ≤ x8_1) = true := decide_eq_true c6
     clear c6
     by_cases c7 : x8_1 < (t101.length : Int)
     ·rw [if_pos c7] at H
      have c7b0 : decide (x8_1 < (t101.length : Int)) = true := decide_eq_true c7
      clear c7
      have HC8 := Aside0.mk H
      clear H
      have p104 : 0 ≤ (x8_1 : Int) := of_decide_eq_true q1_
      have q104 : x8_1 < (t101.length : Int) := of_decide_eq_true q1_
      obtain ⟨ad104, e104, hx104_0⟩ := Kd.at_int (Kd.V_reads' HO_6.out).2.2 x8_1 p104 q104
      cases e104
      replace p104 := eq_true p104
      replace q104 := eq_true q104
      go_upto_region 5 with (fail)
      go_cut [12] (fun v12 wc => ∃ (kq : Nat) (x12_7 : Bool), v12 = .bool x12_7 ∧ Aside0 (super_Label.j1 kq a0 (rd t101 x8_1) t101 (t101.length : Int) x8_1 x12_7 = some r) ∧ Aside0 (kq ≤ k1) ∧ Aside0 (Kd.V (Kd.int .u8) 5 wc w.heap.size (fun _ => True) (.slice (some ad104) t101.length co4) t101) ∧ Aside0 (Below w.heap.size w wc))
      case first =>
       have H := HC8.out
       clear HC8
       by_cases c9 : 97 ≤ (rd t101 x8_1)
       ·rw [if_pos c9] at H
        have c9b0 : decide (97 ≤ (rd t101 x8_1)) = true := decide_eq_true c9
        clear c9
        (first | rw [c9b0] | (simp only [i64_w, i32_w]; rw [c9b0]) | skip)
        have H' := Aside0.mk H
        clear H
        go_wp2
        go_meet
        case rel => exact ⟨_, (decide ((rd t101 x8_1) ≤ 122)), q2_, H', ⟨by have := HK1.out; first | omega | exact Nat.le_refl _⟩, ⟨q3_⟩, ⟨q0_⟩⟩
       ·rw [if_neg c9] at H
        have c9b0 : decide (97 ≤ (rd t101 x8_1)) = false := decide_eq_false c9
        clear c9
        (first | rw [c9b0] | (simp only [i64_w, i32_w]; rw [c9b0]) | skip)
        have H' := Aside0.mk H
        clear H
        go_wp2
        go_meet
        case rel => exact ⟨_, (false), q2_, H', ⟨by have := HK1.out; first | omega | exact Nat.le_refl _⟩, ⟨q3_⟩, ⟨q0_⟩⟩
      case rest =>
       clear HC8
       try clear p1
       try clear q1
       try clear hx1
       try clear c2
       try clear p2
       try clear c5
       try clear c5b0
       try clear c6
       try clear c6b0
       try clear c7
       try clear c7b0
       try clear c9
       try clear c9b0
       try clear hx104_0
       try clear p104
       try clear p2
       try clear q104
       obtain ⟨kq, x12_7, rfl, HA, HJ7, HO_6, HB⟩ := hcut
       cases kq with
       | zero => exact absurd (show none = some _ from HA.out) (by simp)
       | succ kj7 =>
        have H := HA.out
        clear HA
        simp only [super_Label.j1] at H
        by_cases c10 : x12_7 = true
        ·subst c10
         have H1 : (super_Label.l0 kj7 a0 t101 (t101.length : Int) (wrap64 (x8_1 + 1))) = some r := by rw [if_pos rfl] at H; exact H
         clear H
         have H := H1
         clear H1
         have H' := Aside0.mk H
         clear H
         go_wp2
         go_roundg kj7
         case measure => have := HK1.out; have := HJ7.out; omega
         case rel => exact ⟨(wrap64 (x8_1 + 1)), q2_, H', ⟨by have := HK1.out; have := HJ7.out; omega⟩, ⟨q3_⟩, ⟨q0_⟩⟩
        ·replace c10 := Bool.eq_false_iff.mpr c10
         subst c10
         have H1 : (if 48 ≤ (rd t101 x8_1) then (super_Label.j2 kj7 a0 (rd t101 x8_1) t101 (t101.length : Int) x8_1 (decide ((rd t101 x8_1) ≤ 57))) else (super_Label.j2 kj7 a0 (rd t101 x8_1) t101 (t101.length : Int) x8_1 false)) = some r := by rw [if_neg (show ¬ (false = true) by decide)] at H; exact H
         clear H
         have H := H1
         clear H1
         have HC11 := Aside0.mk H
         clear H
         go_upto_region 6 with (fail)
         go_cut [12] (fun v12 wc => ∃ (kq : Nat) (x12_10 : Bool), v12 = .bool x12_10 ∧ Aside0 (super_Label.j2 kq a0 (rd t101 x8_1) t101 (t101.length : Int) x8_1 x12_10 = some r) ∧ Aside0 (kq ≤ kj7) ∧ Aside0 (Kd.V (Kd.int .u8) 5 wc w.heap.size (fun _ => True) (.slice (some ad104) t101.length co4) t101) ∧ Aside0 (Below w.heap.size w wc))
         case first =>
          have H := HC11.out
          clear HC11
          by_cases c12 : 48 ≤ (rd t101 x8_1)
          ·rw [if_pos c12] at H
           have c12b0 : decide (48 ≤ (rd t101 x8_1)) = true := decide_eq_true c12
           clear c12
           (first | rw [c12b0] | (simp only [i64_w, i32_w]; rw [c12b0]) | skip)
           have H' := Aside0.mk H
           clear H
           go_wp2
           go_meet
           case rel => exact ⟨_, (decide ((rd t101 x8_1) ≤ 57)), q2_, H', ⟨by have := HK1.out; have := HJ7.out; first | omega | exact Nat.le_refl _⟩, ⟨q3_⟩, ⟨q0_⟩⟩
          ·rw [if_neg c12] at H
           have c12b0 : decide (48 ≤ (rd t101 x8_1)) = false := decide_eq_false c12
           clear c12
           (first | rw [c12b0] | (simp only [i64_w, i32_w]; rw [c12b0]) | skip)
           have H' := Aside0.mk H
           clear H
           go_wp2
           go_meet
           case rel => exact ⟨_, (false), q2_, H', ⟨by have := HK1.out; have := HJ7.out; first | omega | exact Nat.le_refl _⟩, ⟨q3_⟩, ⟨q0_⟩⟩
         case rest =>
          clear HC11
          try clear c1
          try clear p1
          try clear q1
          try clear hx1
          try clear c2
          try clear p2
          try clear c5
          try clear c5b0
          try clear c6
          try clear c6b0
          try clear p6
          try clear c7
          try clear c7b0
          try clear c9
          try clear c9b0
          try clear c10
          try clear p10
          try clear q10
          try clear hx10
          try clear c12
          try clear c12b0
          try clear hx104_0
          try clear p1
          try clear p104
          try clear p2
          try clear q1
          try clear q104
          obtain ⟨kq, x12_10, rfl, HA, HJ10, HO_6, HB⟩ := hcut
          cases kq with
          | zero => exact absurd (show none = some _ from HA.out) (by simp)
          | succ kj10 =>
           have H := HA.out
           clear HA
           simp only [super_Label.j2] at H
           by_cases c13 : x12_10 = true
           ·subst c13
            have H1 : (super_Label.l0 kj10 a0 t101 (t101.length : Int) (wrap64 (x8_1 + 1))) = some r := by rw [if_pos rfl] at H; exact H
            clear H
            have H := H1
            clear H1
            have H' := Aside0.mk H
            clear H
            go_wp2
            go_roundg kj10
            case measure => have := HK1.out; have := HJ7.out; have := HJ10.out; omega
            case rel => exact ⟨(wrap64 (x8_1 + 1)), q2_, H', ⟨by have := HK1.out; have := HJ7.out; have := HJ10.out; omega⟩, ⟨q3_⟩, ⟨q0_⟩⟩
           ·replace c13 := Bool.eq_false_iff.mpr c13
            subst c13
            have H1 : (if (rd t101 x8_1) = 45 then (super_Label.l0 kj10 a0 t101 (t101.length : Int) (wrap64 (x8_1 + 1))) else (some false)) = some r := by rw [if_neg (show ¬ (false = true) by decide)] at H; exact H
            clear H
            have H := H1
            clear H1
            by_cases c14 : (rd t101 x8_1) = 45
            ·rw [if_pos c14] at H
             have c14b0 : ((rd t101 x8_1) == 45) = true := beq_iff_eq.mpr c14
             have c14b1 : ((rd t101 x8_1) != 45) = false := bne_eq_false_iff_eq.mpr c14
             clear c14
             have H' := Aside0.mk H
             clear H
             go_wp2
             go_roundg kj10
             case measure => have := HK1.out; have := HJ7.out; have := HJ10.out; omega
             case rel => exact ⟨(wrap64 (x8_1 + 1)), q2_, H', ⟨by have := HK1.out; have := HJ7.out; have := HJ10.out; omega⟩, ⟨q3_⟩, ⟨q0_⟩⟩
            ·rw [if_neg c14] at H
             have c14b0 : ((rd t101 x8_1) == 45) = false := beq_eq_false_iff_ne.mpr c14
             have c14b1 : ((rd t101 x8_1) != 45) = true := bne_iff_ne.mpr c14
             obtain rfl := Option.some.inj H
             go_wp2
             go_ret
             exact ⟨by first | rfl | (simp [errW_none, errW_some] <;> rfl) | (simp [*, errW_none, errW_some] <;> rfl), by repeat (first | (with_reducible first | exact HB.out | apply below_alloc | apply pw_below_drewN | apply below_drew1) | exact HB.out)⟩
     ·rw [if_neg c7] at H
      exact absurd H (by simp)
    ·rw [if_neg c6] at H
     exact absurd H (by simp)
   ·rw [if_neg c5] at H
    have c5b0 : decide (x8_1 < (t101.length : Int)) = false := decide_eq_false c5
    clear c5
    by_cases c15 : (a0.size : Int) > 0
    ·rw [if_pos c15] at H
     have c15b0 : decide (0 < (a0.size : Int)) = true := decide_eq_true c15
     have c15b1 : decide (0 < a0.size) = true := decide_eq_true (by omega)
     clear c15
     obtain rfl := Option.some.inj H
     go_wp2
     go_ret
     exact ⟨by first | rfl | (simp [errW_none, errW_some] <;> rfl) | (simp [*, errW_none, errW_some] <;> rfl), by repeat (first | (with_reducible first | exact HB.out | apply below_alloc | apply pw_below_drewN | apply below_drew1) | exact HB.out)⟩
    ·rw [if_neg c15] at H
     have c15b0 : decide (0 < (a0.size : Int)) = false := decide_eq_false c15
     have c15b1 : decide (0 < a0.size) = false := decide_eq_false (by omega)
     clear c15
     obtain rfl := Option.some.inj H
     go_wp2
     go_ret
     exact ⟨by first | rfl | (simp [errW_none, errW_some] <;> rfl) | (simp [*, errW_none, errW_some] <;> rfl), by repeat (first | (with_reducible first | exact HB.out | apply below_alloc | apply pw_below_drewN | apply below_drew1) | exact HB.out)⟩

-- NOT PRINTED: function 13 (name_Split)

end Go.Proofs.YtafgfaimenccdaaDoor.P
