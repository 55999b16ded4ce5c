/- Functions and contracts, written by a program (mkprint.py, a wrapper of ours around the print); texts between GIVEN marks are ours. -/
import Derived.Test.YtgklipfeheohkaaDoorPx0
namespace Go.Proofs.YtgklipfeheohkaaDoor.P
open Go.RowKit Go.Proofs.YtgklipfeheohkaaDoorW.PrintWords Go.Proofs.YtgklipfeheohkaaDoorW.PrintLast Go.Proofs.YtgklipfeheohkaaDoorW.PrintMore
attribute [local go_sem] max2_int min2_int max_two min_two max_three min_three max_four min_four   -- for this text's walks alone
set_option linter.unusedVariables false
set_option linter.unusedSimpArgs false

/-! ### GIVEN bytes_conv: function 100 -/
/-- A string told as new bytes. -/
def Convs (P : Program) (src dst : TypeId) (v : Value) (w : World) (Q : Ending → World → Prop) : Prop := ∃ x w1, (convert src dst v).run P w = .ok x w1 ∧ Q (.returned x) w1
theorem Convs.mono {P : Program} {src dst : TypeId} {v : Value} {w : World} {Q Q' : Ending → World → Prop} (h : Convs P src dst v w Q) (hq : ∀ e w', Q e w' → Q' e w') : Convs P src dst v w Q' := by
 obtain ⟨x, w1, h1, h2⟩ := h
 exact ⟨x, w1, h1, hq _ _ h2⟩
theorem conv_ {P : Program} {ops : Array Oper} {Q : Exit → Act → World → Prop} {oi : Oper} {N : Option Tmp} {a : Act} {w : World} {K : Act → World → Prop} {src dst : TypeId} {x : Operand} (v : Value) (hw : Region.wanted oi (yielded ops a.tmps) = true) (hN : oi.dst = N) (hop : oi.op = .convert src dst x) (hx : a.eval x = v)
  (h : Convs P src dst v w fun e w' => ∃ v, e = .returned v ∧ K (a.put N v) w') : if Region.wanted oi (yielded ops a.tmps) = true then Oper.wp P oi a w K Q else K (a.put N undef) w := by
 obtain ⟨y, w1, h1, y', hy, hk⟩ := h
 cases hy
 refine value_ hw hN (v := y) (w1 := w1) ?_ hk
 unfold execOp
 simp only [hop, hx]
 go_simp
theorem convL_ {P : Program} {ops : Array Oper} {Q : Exit → Act → World → Prop} {rest : List Oper} {oi : Oper} {a : Act} {w : World} (N : Option Tmp) (hd : oi.dst = N) (hg : oi.guard = none) {src dst : TypeId} {x : Operand} (v : Value) (hop : oi.op = .convert src dst x) (hx : a.eval x = v)
  (h : Convs P src dst v w fun e w' => ∃ v, e = .returned v ∧ wpList P ops Q rest (a.put N v) w') : wpList P ops Q (oi :: rest) a w := by
 obtain ⟨y, w1, h1, y', hy, hk⟩ := h
 cases hy
 refine wpList_plain hg fun K hK => ?_
 unfold Oper.wp
 have hr : (execOp a.eval oi).run P w = .ok (.value y) w1 := by
  unfold execOp
  simp only [hop, hx]
  go_simp
 rw [hr]
 subst hd
 exact hK _ _ hk
theorem upon_conv {P : Program} {o : Oper} {a : Act} {w : World} {next : Act → World → Prop} {Q : Exit → Act → World → Prop} {src dst : TypeId} {v : Value}
  (h : Convs P src dst v w fun e w' => match e with
   | .returned y => next (a.put o.dst y) w'
   | _ => False) : o.upon P a next Q (((convert src dst v).run P w).andThen fun a w' => Result.ok (Next.value a) w') := by
 obtain ⟨y, w1, h1, hk⟩ := h
 rw [h1]
 exact hk
theorem gate_conv {P : Program} {ops : Array Oper} {Q : Exit → Act → World → Prop} {o : Oper} {rest : List Oper} {a : Act} {W : World} {src dst : TypeId} {x : Operand} (_ho : o.op = .convert src dst x) (h : wpList P ops Q (o :: rest) a W) : wpList P ops Q (o :: rest) a W := h
def bytes_conv.f (s : ByteArray) : Option (List Int) := if s.size ≤ 9223372036854775807 then some (bytesOf s) else none
theorem bytes_conv.calls (a0 : ByteArray) (r : List Int) (w : World) (h : bytes_conv.f a0 = some r) :
  Convs Tryd.prog 9 35 (.string a0) w fun e w' => ∃ v0_ : Value, e = .returned (v0_) ∧ Kd.V (Kd.int .u8) 5 w' w.heap.size (fun k_ => (w.heap.size ≤ k_)) v0_ r ∧ Below w.heap.size w w' := by
 unfold bytes_conv.f at h
 by_cases hs : a0.size ≤ 9223372036854775807
 ·rw [if_pos hs] at h
  obtain rfl := Option.some.inj h
  refine ⟨_, _, print_bytes (P := Tryd.prog) 9 35 5 Tryd.underlying9 Tryd.underlying35 Tryd.underlying5 a0 w, _, rfl, ?_, bytes_below (Below.refl w.heap.size w) (Nat.le_refl _) 5 a0⟩
  have hr := bytes_reads w 5 a0 hs
  refine ⟨some ⟨w.heap.size, 0, none⟩, grownCap w a0.size 0 5, by rw [bytesOf_length], by rw [bytesOf_length]; exact grownCap_ge w a0.size 0 5, ?_⟩
  intro W' hW
  refine Kd.C_of_reads (d := (0 : Int)) (h1 := fun _ => rfl) ?_
  rw [bytesOf_length]
  refine ⟨hr.1, hr.2.1, fun hn => ?_⟩
  obtain ⟨ad, he, hc⟩ := hr.2.2 hn
  cases he
  refine ⟨_, rfl, fun j hj => ?_⟩
  rw [← hc j hj, add_plain]
  have hb := hW w.heap.size (Nat.le_refl _) (by rw [Lib.bytesWorld_size]; omega)
  unfold World.cell?
  simp only [hb]
 ·rw [if_neg hs] at h
  cases h
/-! ### end of GIVEN -/
-- NOT PRINTED: function 63 (utf8_RuneCountInString)

-- NOT PRINTED: function 71 (utf8_decodeRuneInStringSlow)

-- NOT PRINTED: function 64 (utf8_DecodeRuneInString)

-- NOT PRINTED: function 55 (strings_explode)

-- NOT PRINTED: function 76 (bytealg_IndexByteString)

-- NOT PRINTED: function 72 (stringslite_IndexByte)

-- NOT PRINTED: function 73 (bytealg_IndexString)

-- NOT PRINTED: function 74 (bytealg_Cutover)

-- NOT PRINTED: function 77 (bytealg_hashStr_string)

-- NOT PRINTED: function 75 (bytealg_IndexRabinKarp_string)

-- NOT PRINTED: function 66 (stringslite_Index)

-- NOT PRINTED: function 57 (strings_Index)

-- NOT PRINTED: function 65 (bytealg_CountString)

-- NOT PRINTED: function 56 (strings_Count)

-- NOT PRINTED: function 42 (strings_genSplit)

-- NOT PRINTED: function 24 (strings_Split)

-- NOT PRINTED: function 25 (name_Valid)

/-! ### GIVEN stream_Cut: function 10 -/
/- stream.Cut is walked in the text CutG. -/
/-! ### end of GIVEN -/
/-! ### stream_path: function 28 -/
def stream_path.f (a0 : ByteArray) : Option (Bool) := (stream_Cut.f a0).bind fun bt101 => (some (bt101.2 == 0))
set_option maxHeartbeats 8000000 in
set_option maxRecDepth 100000 in
theorem stream_path.calls (a0 : ByteArray) (r : Bool) (w : World) (h : stream_path.f a0 = some r) :
  Calls Tryd.prog 28 #[.string a0] w fun e w' => e = .returned (.bool r) ∧ Below w.heap.size w w' := by
 have HB := Aside0.mk (Below.refl w.heap.size w)
 have H : ((stream_Cut.f a0).bind fun bt101 => (some (bt101.2 == 0))) = some r := h
 clear h
 replace H := Option.bind_eq_some_iff.mp H
 obtain ⟨⟨t101, t102⟩, A20, H⟩ := H
 replace H : (some (t102 == 0)) = some r := H
 have A2 := Aside0.mk A20
 clear A20
 obtain rfl := Option.some.inj H
 go_enter Tryd.func28, Tryd.ntmps28
 go_wp2_with (first | ((with_reducible refine gate_callee (f := 10) rfl ?_); refine goesL_ (some 7) rfl rfl Tryd.func10 q37_ rfl #[.string a0] rfl q3_ ?_; (with_reducible refine (stream_Cut.calls a0 t101 t102 _ A2.out).mono ?_); rintro e w3 ⟨v103, rfl, ho0, hb⟩; refine ⟨_, rfl, ?_⟩; have n0_ := Aside0.mk (Kd.R_lower ho0 (below_size q0_)); have n1_ := Aside0.mk (below_step q0_ hb); clear HB; have HO104 := n0_; have HB := n1_; clear n0_ n1_; (try clear hb); (try clear hb2); (try clear hk); (try clear hi); (try clear ho0)))
 go_ret
 exact ⟨q10_, by repeat (first | (with_reducible first | exact HB.out | apply below_alloc | apply pw_below_drewN | apply below_drew1) | exact HB.out)⟩

end Go.Proofs.YtgklipfeheohkaaDoor.P
