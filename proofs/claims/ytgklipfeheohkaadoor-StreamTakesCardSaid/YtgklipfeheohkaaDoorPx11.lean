import Derived.Test.YtgklipfeheohkaaDoorPx0
import Derived.Test.YtgklipfeheohkaaDoorPx2
import Derived.Test.YtgklipfeheohkaaDoorPx10
namespace Go.Proofs.YtgklipfeheohkaaDoor.P
open Go.RowKit Go.Proofs.YtgklipfeheohkaaDoorW.PrintWords Go.Proofs.YtgklipfeheohkaaDoorW.PrintLast Go.Proofs.YtgklipfeheohkaaDoorW.PrintMore
attribute [local go_sem] max2_int min2_int max_two min_two max_three min_three max_four min_four   -- for this text's walks alone
set_option linter.unusedVariables false
set_option linter.unusedSimpArgs false
def take2_T : Bool × List (List Nat × List Nat) := (true, [([], []), ([0], [0]), ([1], [1]), ([2], [2]), ([3, 2], [2, 3]), ([4, 2], [2, 4]), ([2, 5], [2, 5]), ([6, 2], [6]), ([7], [7]), ([8, 7], [7, 8]), ([9, 7], [7, 9]), ([10, 7], [7, 10]), ([7, 11], [7, 11]), ([12, 7], [12]), ([13], [13]), ([14, 13], [13, 14]), ([15, 13], [13, 15]), ([16, 13], [13, 16]), ([13, 17], [13, 17]), ([18, 13], [18]), ([19], [19]), ([19], [19]), ([20, 21, 19], [19, 20, 21]), ([22, 19], [19, 22]), ([23, 19], [19, 23]), ([19, 24], [19, 24]), ([25, 19], [25]), ([26], [26]), ([26], [26]), ([28, 26], [26, 28]), ([27, 29, 26], [26, 27, 29]), ([30, 26], [26, 30]), ([26], [26]), ([26], [26]), ([33, 26], [26, 33]), ([32, 34, 26], [26, 32, 34]), ([35, 26, 26], [26, 35]), ([36, 26], [26, 36]), ([31, 37, 26], [26, 31, 37]), ([26, 38], [26, 38])])
def take2_B : List Nat := [0, 1, 3, 7, 15, 31, 63, 127, 255, 511, 1023, 2047, 4095, 8191, 16383, 32767, 65535, 131071, 262143, 524287, 1048575, 1048575, 4194303, 8388607, 16777215, 33554431, 67108863, 134217727, 134217727, 402653183, 1073741823, 2147483647, 134217727, 134217727, 8724152319, 30198988799, 64558727167, 133278203903, 274877906943, 549755813887]
theorem take2_tab : rtab .any (opsOf Tryd.f21 2) = take2_T := by kernel_rfl
theorem take2_bits : waitsOk take2_T.2 take2_B = true := by kernel_rfl
theorem CutStr_ (s : ByteArray) (l : List UInt8) (h : s.toList = l) : s = ⟨l.toArray⟩ := toList_inj h
theorem take_m (L N M : Nat) (h1 : L = N + 5) (h2 : L - 4 = M) : M = N + 1 := by omega
theorem take_w (N M : Nat) (h : M = N + 1) (hN : N ≤ 9223372036854775000) : wrap64 ((N : Int) + 1) = (M : Int) := by unfold wrap64; omega
theorem take_r (N : Nat) : min N (N + 5) - 3 = N - 3 := by omega
theorem take_3 (N L : Nat) (h : L = N + 5) (h1 : ¬ L < 8) : (3 : Int) ≤ (N : Int) := by omega
theorem take_3n (N L : Nat) (h : L = N + 5) (h1 : ¬ L < 8) : 3 ≤ N := by omega
theorem take_c (N L c : Nat) (h : L = N + 5) (h1 : L ≤ c) : N - 3 ≤ c - 3 := by omega
theorem take_room (n : Nat) (h : n ≤ 1000000) : (n + 1) * 72 ≤ 140737488355328 := by omega
theorem take_n (L N : Nat) (h1 : L = N + 5) (h2 : ¬ 65536 < L) : N ≤ 9223372036854775000 := by omega
theorem want_run {P : Program} {ops : Array Oper} {Q : Exit → Act → World → Prop} {K : Act → World → Prop} {oi : Oper} {N : Tmp} {a : Act} {w : World} {v : Value} (t1 t2 : TypeId) (x : Operand) (ho : oi.op = .convert t1 t2 x) (hd : oi.dst = some N) (hw : Region.wanted oi (yielded ops a.tmps) = true) (u : Value) (hx : a.eval x = u) (hr : (convert t1 t2 u).run P w = .ok v w)
  (h : K (a.put (some N) v) w) : if Region.wanted oi (yielded ops a.tmps) = true then Oper.wp P oi a w K Q else K (a.put (some N) undef) w := by
 rw [if_pos hw]
 unfold Oper.wp
 simp [execOp, ho, hx, hr, Result.andThen]
 simpa [Oper.upon, hd] using h
/-- The records that bytes are. -/
def stream_Take.l0 : Nat → List Int → List S37 → Option (List S37 × Bool)
 | 0, _, _ => none
 | k + 1, x, l => if 0 < x.length then (if l.length ≤ 1000000 then (stream_record.f k x).bind fun t => (if t.2.2.2.2.2.2 = true then stream_Take.l0 k t.2.2.2.2.2.1 (l ++ [(⟨t.1, t.2.1, t.2.2.1, t.2.2.2.1, t.2.2.2.2.1⟩ : S37)]) else some ([], false)) else none) else some (l, true)
def stream_Take.f (k : Nat) (b : List Int) : Option (List S37 × Bool × Int) :=
 if b.length < 8 then some ([], false, 26) else if 65536 < b.length then some ([], false, 26)
 else if (strOfNums (b.take 2)).toList ≠ ([67, 66] : List UInt8) then some ([], false, 26)
 else if 1 < rd b 2 then some ([], false, 26)
 else if rd b ((b.length - 5 : Nat) : Int) ≠ 8 then some ([], false, 26)
 else (stream_tail.f (b.take (b.length - 4))).bind fun t => if strOfNums (b.drop (b.length - 4)) ≠ strOfNums t then some ([], false, 26) else (stream_Take.l0 k ((b.take (b.length - 5)).drop 3) []).bind fun u => if u.2 = true then some (u.1, decide (rd b 2 = 1), 0) else some ([], false, 26)
set_option maxHeartbeats 16000000 in
set_option maxRecDepth 100000 in
theorem stream_Take.callsR (k : Nat) (A0 : Option Addr) (c0 : Nat) (l0 : List Int) (r1 : List S37) (r2 : Bool) (r3 : Int) (w : World) (hr0 : Kd.C (Kd.int .u8) w A0 l0.length l0) (hc0 : l0.length ≤ c0) (h : stream_Take.f k l0 = some (r1, r2, r3)) :
  Calls Tryd.prog 21 #[.slice A0 l0.length c0] w fun e w' => ∃ v0_ : Value, e = .returned (.tuple #[v0_, .bool r2, .int .i64 r3]) ∧ Kd.R k37 37 w' w.heap.size (fun _ => True) v0_ r1 ∧ Below w.heap.size w w' := by
 unfold stream_Take.f at h
 have HB0 := Aside0.mk (Below.refl w.heap.size w)
 have HR0 := Aside0.mk hr0
 have HC0 := Aside0.mk hc0
 have hmax := hr0.2.1
 by_cases c1 : l0.length < 8
 ·rw [if_pos c1] at h
  obtain ⟨rfl, rfl, rfl⟩ : [] = r1 ∧ false = r2 ∧ 26 = r3 := by simpa using h
  obtain ⟨n5, hn5⟩ : ∃ n5, wrap64 ((l0.length : Int) - 5) = n5 := ⟨_, rfl⟩
  have d1 : decide (n5 < 3) = true := decide_eq_true (by rw [← hn5]; unfold wrap64; omega)
  clear h hr0 hc0 c1 hmax
  go_enter Tryd.func21, Tryd.ntmps21
  go_wp2_with fail
  refine stepStart (fun _ => True) 40 [0, 1, 2, 3, 4, 5, 6, 7, 8, 9, 10, 11, 12, 13, 14, 15, 16, 17, 18, 19, 20, 21, 22, 23, 24, 25, 26, 27, 28, 29, 30, 31, 32, 33, 34, 35, 36, 37, 38, 39] take2_tab take2_bits q18_ rfl (trivial) (fun HT_ HW_ hHeld => ?_)
  iterate 3 (refine stepPu (v := ?_) rfl rfl (any_of HT_.out q18_) (fun _ _ _ h => h) (Or.inl ⟨by rfl, ?_⟩) (a' := ?_) ?_ ?_; rotate_left; (· intro w'; go_simp; with_reducible rfl); rotate_left; (· (simp only [Act.put, List.setIfInBounds_toArray, List.set_cons_zero, List.set_cons_succ, i64_w, i32_w]; rfl)))
  iterate 3 (refine stepPu (v := undef) rfl rfl (any_of HT_.out q18_) (fun _ _ _ h => h) (Or.inr ⟨by rfl, rfl⟩) (a' := ?_) ?_ ?_; rotate_left; (· (simp only [Act.put, List.setIfInBounds_toArray, List.set_cons_zero, List.set_cons_succ, i64_w, i32_w]; rfl)))
  iterate 2 (refine stepPu (v := ?_) rfl rfl (any_of HT_.out q18_) (fun _ _ _ h => h) (Or.inl ⟨by rfl, ?_⟩) (a' := ?_) ?_ ?_; rotate_left; (· intro w'; go_simp; with_reducible rfl); rotate_left; (· (simp only [Act.put, List.setIfInBounds_toArray, List.set_cons_zero, List.set_cons_succ, i64_w, i32_w]; rfl)))
  iterate 4 (refine stepPu (v := undef) rfl rfl (any_of HT_.out q18_) (fun _ _ _ h => h) (Or.inr ⟨by rfl, rfl⟩) (a' := ?_) ?_ ?_; rotate_left; (· (simp only [Act.put, List.setIfInBounds_toArray, List.set_cons_zero, List.set_cons_succ, i64_w, i32_w]; rfl)))
  iterate 2 (refine stepPu (v := ?_) rfl rfl (any_of HT_.out q18_) (fun _ _ _ h => h) (Or.inl ⟨by rfl, ?_⟩) (a' := ?_) ?_ ?_; rotate_left; (· intro w'; go_simp; with_reducible rfl); rotate_left; (· (simp only [Act.put, List.setIfInBounds_toArray, List.set_cons_zero, List.set_cons_succ, i64_w, i32_w]; rfl)))
  iterate 4 (refine stepPu (v := undef) rfl rfl (any_of HT_.out q18_) (fun _ _ _ h => h) (Or.inr ⟨by rfl, rfl⟩) (a' := ?_) ?_ ?_; rotate_left; (· (simp only [Act.put, List.setIfInBounds_toArray, List.set_cons_zero, List.set_cons_succ, i64_w, i32_w]; rfl)))
  iterate 2 (refine stepPu (v := ?_) rfl rfl (any_of HT_.out q18_) (fun _ _ _ h => h) (Or.inl ⟨by rfl, ?_⟩) (a' := ?_) ?_ ?_; rotate_left; (· intro w'; go_simp; with_reducible rfl); rotate_left; (· (simp only [Act.put, List.setIfInBounds_toArray, List.set_cons_zero, List.set_cons_succ, i64_w, i32_w]; rfl)))
  iterate 5 (refine stepPu (v := undef) rfl rfl (any_of HT_.out q18_) (fun _ _ _ h => h) (Or.inr ⟨by rfl, rfl⟩) (a' := ?_) ?_ ?_; rotate_left; (· (simp only [Act.put, List.setIfInBounds_toArray, List.set_cons_zero, List.set_cons_succ, i64_w, i32_w]; rfl)))
  iterate 2 (refine stepPu (v := ?_) rfl rfl (any_of HT_.out q18_) (fun _ _ _ h => h) (Or.inl ⟨by rfl, ?_⟩) (a' := ?_) ?_ ?_; rotate_left; (· intro w'; go_simp; with_reducible rfl); rotate_left; (· (simp only [Act.put, List.setIfInBounds_toArray, List.set_cons_zero, List.set_cons_succ, i64_w, i32_w]; rfl)))
  iterate 12 (refine stepPu (v := undef) rfl rfl (any_of HT_.out q18_) (fun _ _ _ h => h) (Or.inr ⟨by rfl, rfl⟩) (a' := ?_) ?_ ?_; rotate_left; (· (simp only [Act.put, List.setIfInBounds_toArray, List.set_cons_zero, List.set_cons_succ, i64_w, i32_w]; rfl)))
  (refine stepPu (v := ?_) rfl rfl (any_of HT_.out q18_) (fun _ _ _ h => h) (Or.inl ⟨by rfl, ?_⟩) (a' := ?_) ?_ ?_; rotate_left; (· intro w'; go_simp; with_reducible rfl); rotate_left; (· (simp only [Act.put, List.setIfInBounds_toArray, List.set_cons_zero, List.set_cons_succ, i64_w, i32_w]; rfl)))
  refine done_ (done_of HT_.out q18_) ?_
  go_wp2_with fail
  go_ret3
  exact ⟨.slice none 0 0, rfl, Kd.R_nil _ _ _ _ _, below_drew HB0.out⟩
 rw [if_neg c1] at h
 obtain ⟨N, hN⟩ : ∃ N, l0.length = N + 5 := ⟨l0.length - 5, by omega⟩
 have hn : wrap64 ((l0.length : Int) - 5) = (N : Int) := by unfold wrap64; omega
 have d1 : decide ((N : Int) < 3) = false := decide_eq_false (by omega)
 have d1n : decide (N < 3) = false := decide_eq_false (by omega)
 by_cases c2 : 65536 < l0.length
 ·rw [if_pos c2] at h
  obtain ⟨rfl, rfl, rfl⟩ : [] = r1 ∧ false = r2 ∧ 26 = r3 := by simpa using h
  have d2 : decide ((l0.length : Int) > 65536) = true := decide_eq_true (by omega)
  have d2a : decide (65536 < (l0.length : Int)) = true := decide_eq_true (by omega)
  have d2b : decide (65536 < l0.length) = true := decide_eq_true c2
  clear h hr0 hc0 c1 c2 hmax hN
  go_enter Tryd.func21, Tryd.ntmps21
  go_wp2_with fail
  refine stepStart (fun _ => True) 40 [0, 1, 2, 3, 4, 5, 6, 7, 8, 9, 10, 11, 12, 13, 14, 15, 16, 17, 18, 19, 20, 21, 22, 23, 24, 25, 26, 27, 28, 29, 30, 31, 32, 33, 34, 35, 36, 37, 38, 39] take2_tab take2_bits q18_ rfl (trivial) (fun HT_ HW_ hHeld => ?_)
  iterate 3 (refine stepPu (v := ?_) rfl rfl (any_of HT_.out q18_) (fun _ _ _ h => h) (Or.inl ⟨by rfl, ?_⟩) (a' := ?_) ?_ ?_; rotate_left; (· intro w'; go_simp; with_reducible rfl); rotate_left; (· (simp only [Act.put, List.setIfInBounds_toArray, List.set_cons_zero, List.set_cons_succ, i64_w, i32_w]; rfl)))
  iterate 3 (refine stepPu (v := ?_) rfl rfl (any_of HT_.out q18_) (fun _ _ _ h => h) (Or.inl ⟨by rfl, ?_⟩) (a' := ?_) ?_ ?_; rotate_left; (· intro w'; go_simp; with_reducible rfl); rotate_left; (· (simp only [Act.put, List.setIfInBounds_toArray, List.set_cons_zero, List.set_cons_succ, i64_w, i32_w]; rfl)))
  iterate 2 (refine stepPu (v := ?_) rfl rfl (any_of HT_.out q18_) (fun _ _ _ h => h) (Or.inl ⟨by rfl, ?_⟩) (a' := ?_) ?_ ?_; rotate_left; (· intro w'; go_simp; with_reducible rfl); rotate_left; (· (simp only [Act.put, List.setIfInBounds_toArray, List.set_cons_zero, List.set_cons_succ, i64_w, i32_w]; rfl)))
  iterate 4 (refine stepPu (v := undef) rfl rfl (any_of HT_.out q18_) (fun _ _ _ h => h) (Or.inr ⟨by rfl, rfl⟩) (a' := ?_) ?_ ?_; rotate_left; (· (simp only [Act.put, List.setIfInBounds_toArray, List.set_cons_zero, List.set_cons_succ, i64_w, i32_w]; rfl)))
  iterate 2 (refine stepPu (v := ?_) rfl rfl (any_of HT_.out q18_) (fun _ _ _ h => h) (Or.inl ⟨by rfl, ?_⟩) (a' := ?_) ?_ ?_; rotate_left; (· intro w'; go_simp; with_reducible rfl); rotate_left; (· (simp only [Act.put, List.setIfInBounds_toArray, List.set_cons_zero, List.set_cons_succ, i64_w, i32_w]; rfl)))
  iterate 4 (refine stepPu (v := undef) rfl rfl (any_of HT_.out q18_) (fun _ _ _ h => h) (Or.inr ⟨by rfl, rfl⟩) (a' := ?_) ?_ ?_; rotate_left; (· (simp only [Act.put, List.setIfInBounds_toArray, List.set_cons_zero, List.set_cons_succ, i64_w, i32_w]; rfl)))
  iterate 2 (refine stepPu (v := ?_) rfl rfl (any_of HT_.out q18_) (fun _ _ _ h => h) (Or.inl ⟨by rfl, ?_⟩) (a' := ?_) ?_ ?_; rotate_left; (· intro w'; go_simp; with_reducible rfl); rotate_left; (· (simp only [Act.put, List.setIfInBounds_toArray, List.set_cons_zero, List.set_cons_succ, i64_w, i32_w]; rfl)))
  iterate 5 (refine stepPu (v := undef) rfl rfl (any_of HT_.out q18_) (fun _ _ _ h => h) (Or.inr ⟨by rfl, rfl⟩) (a' := ?_) ?_ ?_; rotate_left; (· (simp only [Act.put, List.setIfInBounds_toArray, List.set_cons_zero, List.set_cons_succ, i64_w, i32_w]; rfl)))
  iterate 2 (refine stepPu (v := ?_) rfl rfl (any_of HT_.out q18_) (fun _ _ _ h => h) (Or.inl ⟨by rfl, ?_⟩) (a' := ?_) ?_ ?_; rotate_left; (· intro w'; go_simp; with_reducible rfl); rotate_left; (· (simp only [Act.put, List.setIfInBounds_toArray, List.set_cons_zero, List.set_cons_succ, i64_w, i32_w]; rfl)))
  iterate 12 (refine stepPu (v := undef) rfl rfl (any_of HT_.out q18_) (fun _ _ _ h => h) (Or.inr ⟨by rfl, rfl⟩) (a' := ?_) ?_ ?_; rotate_left; (· (simp only [Act.put, List.setIfInBounds_toArray, List.set_cons_zero, List.set_cons_succ, i64_w, i32_w]; rfl)))
  (refine stepPu (v := ?_) rfl rfl (any_of HT_.out q18_) (fun _ _ _ h => h) (Or.inl ⟨by rfl, ?_⟩) (a' := ?_) ?_ ?_; rotate_left; (· intro w'; go_simp; with_reducible rfl); rotate_left; (· (simp only [Act.put, List.setIfInBounds_toArray, List.set_cons_zero, List.set_cons_succ, i64_w, i32_w]; rfl)))
  refine done_ (done_of HT_.out q18_) ?_
  go_wp2_with fail
  go_ret3
  exact ⟨.slice none 0 0, rfl, Kd.R_nil _ _ _ _ _, below_drew HB0.out⟩
 rw [if_neg c2] at h
 have d2 : decide ((l0.length : Int) > 65536) = false := decide_eq_false (by omega)
 have d2a : decide (65536 < (l0.length : Int)) = false := decide_eq_false (by omega)
 have d2b : decide (65536 < l0.length) = false := decide_eq_false c2
 obtain ⟨i, hi, _, hsz, _⟩ := info_parts info5
 have hcut2 := cut_to (P := Tryd.prog) 35 5 .i64 Tryd.underlying35 hi A0 l0.length c0 2 (by omega) (by omega) hc0
 rw [show (2 : Int).toNat = 2 from rfl] at hcut2
 obtain ⟨ad, rfl, hx2⟩ := Kd.at_int hr0 2 q81_ (by omega)
 obtain ⟨ad', he, hx5⟩ := Kd.at_int hr0 (N : Int) (Int.natCast_nonneg N) (by omega)
 injection he with he
 subst he
 rw [show (2 : Int).toNat = 2 from rfl, show ad.add 2 = ⟨ad.block, ad.off + 2, none⟩ from by simp [Addr.add]] at hx2
 rw [Int.toNat_natCast] at hx5
 have hlN : (N : Int) < (l0.length : Int) := by omega
 have hl2 : (2 : Int) < (l0.length : Int) := by omega
 rw [show l0.length - 5 = N from by omega] at h
 obtain ⟨x2, hx2e⟩ : ∃ x, rd l0 2 = x := ⟨_, rfl⟩
 obtain ⟨x5, hx5e⟩ : ∃ x, rd l0 (N : Int) = x := ⟨_, rfl⟩
 rw [hx2e] at hx2 h
 rw [hx5e] at hx5 h
 have hC2 : ∀ W, Below w.heap.size w W → Kd.C (Kd.int .u8) W (some ad) 2 (l0.take 2) := fun W hb => by
  have := Kd.C_below (Kd.C_take hr0 (show 2 ≤ l0.length by omega)) hb
  rwa [show (l0.take 2).length = 2 from by rw [List.length_take]; omega] at this
 have hv2 : ∀ W, Below w.heap.size w W → (convert 35 9 (.slice (some ad) 2 c0)).run Tryd.prog W = .ok (.string (strOfNums (l0.take 2))) W := fun W hb => Kd.C_string (P := Tryd.prog) (A := some ad) (c := c0) Tryd.underlying35 Tryd.underlying5 Tryd.underlying9 (hC2 W hb)
 obtain ⟨s2, hs2⟩ : ∃ s, strOfNums (l0.take 2) = s := ⟨_, rfl⟩
 rw [hs2] at hv2 h
 have HV2 := Aside0.mk hv2
 have HX2 := Aside0.mk hx2
 have HX5 := Aside0.mk hx5
 clear hC2 hv2 hx2 hx5 hs2 hi hsz
 by_cases c3 : s2.toList ≠ ([67, 66] : List UInt8)
 ·rw [if_pos c3] at h
  obtain ⟨rfl, rfl, rfl⟩ : [] = r1 ∧ false = r2 ∧ 26 = r3 := by simpa using h
  have e1 : ¬ s2.toList = [67, 66] := c3
  have e2 : (s2.toList == [67, 66]) = false := beq_false_of_ne c3
  have e3 : (s2.toList != [67, 66]) = true := bne_iff_ne.2 c3
  have e4 : decide (s2.toList = [67, 66]) = false := decide_eq_false c3
  clear h hr0 hc0 c1 c2 c3 hmax hN
  go_enter Tryd.func21, Tryd.ntmps21
  go_wp2_with fail
  refine stepStart (fun w' => (convert 35 9 (.slice (some ad) 2 c0)).run Tryd.prog w' = .ok (.string s2) w' ∧ w'.cell? ⟨ad.block, ad.off + 2, none⟩ = some (.int .u8 x2)) 40 [0, 1, 2, 3, 4, 5, 6, 7, 8, 9, 10, 11, 12, 13, 14, 15, 16, 17, 18, 19, 20, 21, 22, 23, 24, 25, 26, 27, 28, 29, 30, 31, 32, 33, 34, 35, 36, 37, 38, 39] take2_tab take2_bits q18_ rfl (⟨HV2.out _ (below_drew HB0.out), HX2.out⟩) (fun HT_ HW_ hHeld => ?_)
  iterate 3 (refine stepPu (v := ?_) rfl rfl (any_of HT_.out q18_) (fun _ _ _ h => h) (Or.inl ⟨by rfl, ?_⟩) (a' := ?_) ?_ ?_; rotate_left; (· intro w'; go_simp; with_reducible rfl); rotate_left; (· (simp only [Act.put, List.setIfInBounds_toArray, List.set_cons_zero, List.set_cons_succ, i64_w, i32_w]; rfl)))
  iterate 3 (refine stepPu (v := ?_) rfl rfl (any_of HT_.out q18_) (fun _ _ _ h => h) (Or.inl ⟨by rfl, ?_⟩) (a' := ?_) ?_ ?_; rotate_left; (· intro w'; go_simp; with_reducible rfl); rotate_left; (· (simp only [Act.put, List.setIfInBounds_toArray, List.set_cons_zero, List.set_cons_succ, i64_w, i32_w]; rfl)))
  iterate 2 (refine stepPu (v := ?_) rfl rfl (any_of HT_.out q18_) (fun _ _ _ h => h) (Or.inl ⟨by rfl, ?_⟩) (a' := ?_) ?_ ?_; rotate_left; (· intro w'; go_simp; with_reducible rfl); rotate_left; (· (simp only [Act.put, List.setIfInBounds_toArray, List.set_cons_zero, List.set_cons_succ, i64_w, i32_w]; rfl)))
  iterate 2 (refine stepPu (v := ?_) rfl rfl (any_of HT_.out q18_) (fun _ _ _ h => h) (Or.inl ⟨by rfl, ?_⟩) (a' := ?_) ?_ ?_; rotate_left; (· intro w'; go_simp; with_reducible rfl); rotate_left; (· (simp only [Act.put, List.setIfInBounds_toArray, List.set_cons_zero, List.set_cons_succ, i64_w, i32_w]; rfl)))
  (refine stepLd (v := ?_) rfl rfl (take_ofW HT_.out HW_.out q18_) (fun _ _ _ h => h) (Or.inl ⟨by rfl, ?_⟩) hHeld (a' := ?_) ?_ ?_; rotate_left; (· rintro w' ⟨s0, s1⟩; go_simp; with_reducible rfl); rotate_left; (· (simp only [Act.put, List.setIfInBounds_toArray, List.set_cons_zero, List.set_cons_succ, i64_w, i32_w]; rfl)))
  (refine stepPu (v := ?_) rfl rfl (any_of HT_.out q18_) (fun _ _ _ h => h) (Or.inl ⟨by rfl, ?_⟩) (a' := ?_) ?_ ?_; rotate_left; (· intro w'; go_simp; with_reducible rfl); rotate_left; (· (simp only [Act.put, List.setIfInBounds_toArray, List.set_cons_zero, List.set_cons_succ, i64_w, i32_w]; rfl)))
  iterate 2 (refine stepPu (v := ?_) rfl rfl (any_of HT_.out q18_) (fun _ _ _ h => h) (Or.inl ⟨by rfl, ?_⟩) (a' := ?_) ?_ ?_; rotate_left; (· intro w'; go_simp; with_reducible rfl); rotate_left; (· (simp only [Act.put, List.setIfInBounds_toArray, List.set_cons_zero, List.set_cons_succ, i64_w, i32_w]; rfl)))
  iterate 4 (refine stepPu (v := undef) rfl rfl (any_of HT_.out q18_) (fun _ _ _ h => h) (Or.inr ⟨by rfl, rfl⟩) (a' := ?_) ?_ ?_; rotate_left; (· (simp only [Act.put, List.setIfInBounds_toArray, List.set_cons_zero, List.set_cons_succ, i64_w, i32_w]; rfl)))
  iterate 2 (refine stepPu (v := ?_) rfl rfl (any_of HT_.out q18_) (fun _ _ _ h => h) (Or.inl ⟨by rfl, ?_⟩) (a' := ?_) ?_ ?_; rotate_left; (· intro w'; go_simp; with_reducible rfl); rotate_left; (· (simp only [Act.put, List.setIfInBounds_toArray, List.set_cons_zero, List.set_cons_succ, i64_w, i32_w]; rfl)))
  iterate 5 (refine stepPu (v := undef) rfl rfl (any_of HT_.out q18_) (fun _ _ _ h => h) (Or.inr ⟨by rfl, rfl⟩) (a' := ?_) ?_ ?_; rotate_left; (· (simp only [Act.put, List.setIfInBounds_toArray, List.set_cons_zero, List.set_cons_succ, i64_w, i32_w]; rfl)))
  iterate 2 (refine stepPu (v := ?_) rfl rfl (any_of HT_.out q18_) (fun _ _ _ h => h) (Or.inl ⟨by rfl, ?_⟩) (a' := ?_) ?_ ?_; rotate_left; (· intro w'; go_simp; with_reducible rfl); rotate_left; (· (simp only [Act.put, List.setIfInBounds_toArray, List.set_cons_zero, List.set_cons_succ, i64_w, i32_w]; rfl)))
  iterate 12 (refine stepPu (v := undef) rfl rfl (any_of HT_.out q18_) (fun _ _ _ h => h) (Or.inr ⟨by rfl, rfl⟩) (a' := ?_) ?_ ?_; rotate_left; (· (simp only [Act.put, List.setIfInBounds_toArray, List.set_cons_zero, List.set_cons_succ, i64_w, i32_w]; rfl)))
  (refine stepPu (v := ?_) rfl rfl (any_of HT_.out q18_) (fun _ _ _ h => h) (Or.inl ⟨by rfl, ?_⟩) (a' := ?_) ?_ ?_; rotate_left; (· intro w'; go_simp; with_reducible rfl); rotate_left; (· (simp only [Act.put, List.setIfInBounds_toArray, List.set_cons_zero, List.set_cons_succ, i64_w, i32_w]; rfl)))
  refine done_ (done_of HT_.out q18_) ?_
  go_wp2_with fail
  go_ret3
  exact ⟨.slice none 0 0, rfl, Kd.R_nil _ _ _ _ _, below_drew HB0.out⟩
 rw [if_neg c3] at h
 obtain rfl : s2 = ⟨#[67, 66]⟩ := CutStr_ s2 [67, 66] (by simpa using c3)
 by_cases c4 : 1 < x2
 ·rw [if_pos c4] at h
  obtain ⟨rfl, rfl, rfl⟩ : [] = r1 ∧ false = r2 ∧ 26 = r3 := by simpa using h
  have d4 : decide (x2 > 1) = true := decide_eq_true c4
  have d4a : decide (1 < x2) = true := decide_eq_true c4
  clear h hr0 hc0 c1 c2 c3 c4 hmax hN
  go_enter Tryd.func21, Tryd.ntmps21
  go_wp2_with fail
  refine stepStart (fun w' => (convert 35 9 (.slice (some ad) 2 c0)).run Tryd.prog w' = .ok (.string ⟨#[67, 66]⟩) w' ∧ w'.cell? ⟨ad.block, ad.off + 2, none⟩ = some (.int .u8 x2) ∧ w'.cell? (ad.add N) = some (.int .u8 x5)) 40 [0, 1, 2, 3, 4, 5, 6, 7, 8, 9, 10, 11, 12, 13, 14, 15, 16, 17, 18, 19, 20, 21, 22, 23, 24, 25, 26, 27, 28, 29, 30, 31, 32, 33, 34, 35, 36, 37, 38, 39] take2_tab take2_bits q18_ rfl (⟨HV2.out _ (below_drew HB0.out), HX2.out, HX5.out⟩) (fun HT_ HW_ hHeld => ?_)
  iterate 3 (refine stepPu (v := ?_) rfl rfl (any_of HT_.out q18_) (fun _ _ _ h => h) (Or.inl ⟨by rfl, ?_⟩) (a' := ?_) ?_ ?_; rotate_left; (· intro w'; go_simp; with_reducible rfl); rotate_left; (· (simp only [Act.put, List.setIfInBounds_toArray, List.set_cons_zero, List.set_cons_succ, i64_w, i32_w]; rfl)))
  iterate 3 (refine stepPu (v := ?_) rfl rfl (any_of HT_.out q18_) (fun _ _ _ h => h) (Or.inl ⟨by rfl, ?_⟩) (a' := ?_) ?_ ?_; rotate_left; (· intro w'; go_simp; with_reducible rfl); rotate_left; (· (simp only [Act.put, List.setIfInBounds_toArray, List.set_cons_zero, List.set_cons_succ, i64_w, i32_w]; rfl)))
  iterate 2 (refine stepPu (v := ?_) rfl rfl (any_of HT_.out q18_) (fun _ _ _ h => h) (Or.inl ⟨by rfl, ?_⟩) (a' := ?_) ?_ ?_; rotate_left; (· intro w'; go_simp; with_reducible rfl); rotate_left; (· (simp only [Act.put, List.setIfInBounds_toArray, List.set_cons_zero, List.set_cons_succ, i64_w, i32_w]; rfl)))
  iterate 2 (refine stepPu (v := ?_) rfl rfl (any_of HT_.out q18_) (fun _ _ _ h => h) (Or.inl ⟨by rfl, ?_⟩) (a' := ?_) ?_ ?_; rotate_left; (· intro w'; go_simp; with_reducible rfl); rotate_left; (· (simp only [Act.put, List.setIfInBounds_toArray, List.set_cons_zero, List.set_cons_succ, i64_w, i32_w]; rfl)))
  (refine stepLd (v := ?_) rfl rfl (take_ofW HT_.out HW_.out q18_) (fun _ _ _ h => h) (Or.inl ⟨by rfl, ?_⟩) hHeld (a' := ?_) ?_ ?_; rotate_left; (· rintro w' ⟨s0, s1, s2⟩; go_simp; with_reducible rfl); rotate_left; (· (simp only [Act.put, List.setIfInBounds_toArray, List.set_cons_zero, List.set_cons_succ, i64_w, i32_w]; rfl)))
  (refine stepPu (v := ?_) rfl rfl (any_of HT_.out q18_) (fun _ _ _ h => h) (Or.inl ⟨by rfl, ?_⟩) (a' := ?_) ?_ ?_; rotate_left; (· intro w'; go_simp; with_reducible rfl); rotate_left; (· (simp only [Act.put, List.setIfInBounds_toArray, List.set_cons_zero, List.set_cons_succ, i64_w, i32_w]; rfl)))
  iterate 2 (refine stepPu (v := ?_) rfl rfl (any_of HT_.out q18_) (fun _ _ _ h => h) (Or.inl ⟨by rfl, ?_⟩) (a' := ?_) ?_ ?_; rotate_left; (· intro w'; go_simp; with_reducible rfl); rotate_left; (· (simp only [Act.put, List.setIfInBounds_toArray, List.set_cons_zero, List.set_cons_succ, i64_w, i32_w]; rfl)))
  iterate 2 (refine stepPu (v := ?_) rfl rfl (any_of HT_.out q18_) (fun _ _ _ h => h) (Or.inl ⟨by rfl, ?_⟩) (a' := ?_) ?_ ?_; rotate_left; (· intro w'; go_simp; with_reducible rfl); rotate_left; (· (simp only [Act.put, List.setIfInBounds_toArray, List.set_cons_zero, List.set_cons_succ, i64_w, i32_w]; rfl)))
  (refine stepLd (v := ?_) rfl rfl (take_ofW HT_.out HW_.out q18_) (fun _ _ _ h => h) (Or.inl ⟨by rfl, ?_⟩) hHeld (a' := ?_) ?_ ?_; rotate_left; (· rintro w' ⟨s0, s1, s2⟩; go_simp; with_reducible rfl); rotate_left; (· (simp only [Act.put, List.setIfInBounds_toArray, List.set_cons_zero, List.set_cons_succ, i64_w, i32_w]; rfl)))
  (refine stepPu (v := ?_) rfl rfl (any_of HT_.out q18_) (fun _ _ _ h => h) (Or.inl ⟨by rfl, ?_⟩) (a' := ?_) ?_ ?_; rotate_left; (· intro w'; go_simp; with_reducible rfl); rotate_left; (· (simp only [Act.put, List.setIfInBounds_toArray, List.set_cons_zero, List.set_cons_succ, i64_w, i32_w]; rfl)))
  iterate 2 (refine stepPu (v := ?_) rfl rfl (any_of HT_.out q18_) (fun _ _ _ h => h) (Or.inl ⟨by rfl, ?_⟩) (a' := ?_) ?_ ?_; rotate_left; (· intro w'; go_simp; with_reducible rfl); rotate_left; (· (simp only [Act.put, List.setIfInBounds_toArray, List.set_cons_zero, List.set_cons_succ, i64_w, i32_w]; rfl)))
  iterate 5 (refine stepPu (v := undef) rfl rfl (any_of HT_.out q18_) (fun _ _ _ h => h) (Or.inr ⟨by rfl, rfl⟩) (a' := ?_) ?_ ?_; rotate_left; (· (simp only [Act.put, List.setIfInBounds_toArray, List.set_cons_zero, List.set_cons_succ, i64_w, i32_w]; rfl)))
  iterate 2 (refine stepPu (v := ?_) rfl rfl (any_of HT_.out q18_) (fun _ _ _ h => h) (Or.inl ⟨by rfl, ?_⟩) (a' := ?_) ?_ ?_; rotate_left; (· intro w'; go_simp; with_reducible rfl); rotate_left; (· (simp only [Act.put, List.setIfInBounds_toArray, List.set_cons_zero, List.set_cons_succ, i64_w, i32_w]; rfl)))
  iterate 12 (refine stepPu (v := undef) rfl rfl (any_of HT_.out q18_) (fun _ _ _ h => h) (Or.inr ⟨by rfl, rfl⟩) (a' := ?_) ?_ ?_; rotate_left; (· (simp only [Act.put, List.setIfInBounds_toArray, List.set_cons_zero, List.set_cons_succ, i64_w, i32_w]; rfl)))
  (refine stepPu (v := ?_) rfl rfl (any_of HT_.out q18_) (fun _ _ _ h => h) (Or.inl ⟨by rfl, ?_⟩) (a' := ?_) ?_ ?_; rotate_left; (· intro w'; go_simp; with_reducible rfl); rotate_left; (· (simp only [Act.put, List.setIfInBounds_toArray, List.set_cons_zero, List.set_cons_succ, i64_w, i32_w]; rfl)))
  refine done_ (done_of HT_.out q18_) ?_
  go_wp2_with fail
  go_ret3
  exact ⟨.slice none 0 0, rfl, Kd.R_nil _ _ _ _ _, below_drew HB0.out⟩
 rw [if_neg c4] at h
 have d4 : decide (x2 > 1) = false := decide_eq_false c4
 have d4a : decide (1 < x2) = false := decide_eq_false c4
 by_cases c5 : x5 ≠ 8
 ·rw [if_pos c5] at h
  obtain ⟨rfl, rfl, rfl⟩ : [] = r1 ∧ false = r2 ∧ 26 = r3 := by simpa using h
  have e1 : ¬ x5 = 8 := c5
  have e2 : (x5 == 8) = false := beq_false_of_ne c5
  have e3 : (x5 != 8) = true := bne_iff_ne.2 c5
  have e4 : decide (x5 = 8) = false := decide_eq_false c5
  clear h hr0 hc0 c1 c2 c3 c4 c5 hmax hN
  go_enter Tryd.func21, Tryd.ntmps21
  go_wp2_with fail
  refine stepStart (fun w' => (convert 35 9 (.slice (some ad) 2 c0)).run Tryd.prog w' = .ok (.string ⟨#[67, 66]⟩) w' ∧ w'.cell? ⟨ad.block, ad.off + 2, none⟩ = some (.int .u8 x2) ∧ w'.cell? (ad.add N) = some (.int .u8 x5)) 40 [0, 1, 2, 3, 4, 5, 6, 7, 8, 9, 10, 11, 12, 13, 14, 15, 16, 17, 18, 19, 20, 21, 22, 23, 24, 25, 26, 27, 28, 29, 30, 31, 32, 33, 34, 35, 36, 37, 38, 39] take2_tab take2_bits q18_ rfl (⟨HV2.out _ (below_drew HB0.out), HX2.out, HX5.out⟩) (fun HT_ HW_ hHeld => ?_)
  iterate 3 (refine stepPu (v := ?_) rfl rfl (any_of HT_.out q18_) (fun _ _ _ h => h) (Or.inl ⟨by rfl, ?_⟩) (a' := ?_) ?_ ?_; rotate_left; (· intro w'; go_simp; with_reducible rfl); rotate_left; (· (simp only [Act.put, List.setIfInBounds_toArray, List.set_cons_zero, List.set_cons_succ, i64_w, i32_w]; rfl)))
  iterate 3 (refine stepPu (v := ?_) rfl rfl (any_of HT_.out q18_) (fun _ _ _ h => h) (Or.inl ⟨by rfl, ?_⟩) (a' := ?_) ?_ ?_; rotate_left; (· intro w'; go_simp; with_reducible rfl); rotate_left; (· (simp only [Act.put, List.setIfInBounds_toArray, List.set_cons_zero, List.set_cons_succ, i64_w, i32_w]; rfl)))
  iterate 2 (refine stepPu (v := ?_) rfl rfl (any_of HT_.out q18_) (fun _ _ _ h => h) (Or.inl ⟨by rfl, ?_⟩) (a' := ?_) ?_ ?_; rotate_left; (· intro w'; go_simp; with_reducible rfl); rotate_left; (· (simp only [Act.put, List.setIfInBounds_toArray, List.set_cons_zero, List.set_cons_succ, i64_w, i32_w]; rfl)))
  iterate 2 (refine stepPu (v := ?_) rfl rfl (any_of HT_.out q18_) (fun _ _ _ h => h) (Or.inl ⟨by rfl, ?_⟩) (a' := ?_) ?_ ?_; rotate_left; (· intro w'; go_simp; with_reducible rfl); rotate_left; (· (simp only [Act.put, List.setIfInBounds_toArray, List.set_cons_zero, List.set_cons_succ, i64_w, i32_w]; rfl)))
  (refine stepLd (v := ?_) rfl rfl (take_ofW HT_.out HW_.out q18_) (fun _ _ _ h => h) (Or.inl ⟨by rfl, ?_⟩) hHeld (a' := ?_) ?_ ?_; rotate_left; (· rintro w' ⟨s0, s1, s2⟩; go_simp; with_reducible rfl); rotate_left; (· (simp only [Act.put, List.setIfInBounds_toArray, List.set_cons_zero, List.set_cons_succ, i64_w, i32_w]; rfl)))
  (refine stepPu (v := ?_) rfl rfl (any_of HT_.out q18_) (fun _ _ _ h => h) (Or.inl ⟨by rfl, ?_⟩) (a' := ?_) ?_ ?_; rotate_left; (· intro w'; go_simp; with_reducible rfl); rotate_left; (· (simp only [Act.put, List.setIfInBounds_toArray, List.set_cons_zero, List.set_cons_succ, i64_w, i32_w]; rfl)))
  iterate 2 (refine stepPu (v := ?_) rfl rfl (any_of HT_.out q18_) (fun _ _ _ h => h) (Or.inl ⟨by rfl, ?_⟩) (a' := ?_) ?_ ?_; rotate_left; (· intro w'; go_simp; with_reducible rfl); rotate_left; (· (simp only [Act.put, List.setIfInBounds_toArray, List.set_cons_zero, List.set_cons_succ, i64_w, i32_w]; rfl)))
  iterate 2 (refine stepPu (v := ?_) rfl rfl (any_of HT_.out q18_) (fun _ _ _ h => h) (Or.inl ⟨by rfl, ?_⟩) (a' := ?_) ?_ ?_; rotate_left; (· intro w'; go_simp; with_reducible rfl); rotate_left; (· (simp only [Act.put, List.setIfInBounds_toArray, List.set_cons_zero, List.set_cons_succ, i64_w, i32_w]; rfl)))
  (refine stepLd (v := ?_) rfl rfl (take_ofW HT_.out HW_.out q18_) (fun _ _ _ h => h) (Or.inl ⟨by rfl, ?_⟩) hHeld (a' := ?_) ?_ ?_; rotate_left; (· rintro w' ⟨s0, s1, s2⟩; go_simp; with_reducible rfl); rotate_left; (· (simp only [Act.put, List.setIfInBounds_toArray, List.set_cons_zero, List.set_cons_succ, i64_w, i32_w]; rfl)))
  (refine stepPu (v := ?_) rfl rfl (any_of HT_.out q18_) (fun _ _ _ h => h) (Or.inl ⟨by rfl, ?_⟩) (a' := ?_) ?_ ?_; rotate_left; (· intro w'; go_simp; with_reducible rfl); rotate_left; (· (simp only [Act.put, List.setIfInBounds_toArray, List.set_cons_zero, List.set_cons_succ, i64_w, i32_w]; rfl)))
  iterate 2 (refine stepPu (v := ?_) rfl rfl (any_of HT_.out q18_) (fun _ _ _ h => h) (Or.inl ⟨by rfl, ?_⟩) (a' := ?_) ?_ ?_; rotate_left; (· intro w'; go_simp; with_reducible rfl); rotate_left; (· (simp only [Act.put, List.setIfInBounds_toArray, List.set_cons_zero, List.set_cons_succ, i64_w, i32_w]; rfl)))
  iterate 3 (refine stepPu (v := ?_) rfl rfl (any_of HT_.out q18_) (fun _ _ _ h => h) (Or.inl ⟨by rfl, ?_⟩) (a' := ?_) ?_ ?_; rotate_left; (· intro w'; go_simp; with_reducible rfl); rotate_left; (· (simp only [Act.put, List.setIfInBounds_toArray, List.set_cons_zero, List.set_cons_succ, i64_w, i32_w]; rfl)))
  (refine stepLd (v := ?_) rfl rfl (take_ofW HT_.out HW_.out q18_) (fun _ _ _ h => h) (Or.inl ⟨by rfl, ?_⟩) hHeld (a' := ?_) ?_ ?_; rotate_left; (· rintro w' ⟨s0, s1, s2⟩; go_simp; with_reducible rfl); rotate_left; (· (simp only [Act.put, List.setIfInBounds_toArray, List.set_cons_zero, List.set_cons_succ, i64_w, i32_w]; rfl)))
  (refine stepPu (v := ?_) rfl rfl (any_of HT_.out q18_) (fun _ _ _ h => h) (Or.inl ⟨by rfl, ?_⟩) (a' := ?_) ?_ ?_; rotate_left; (· intro w'; go_simp; with_reducible rfl); rotate_left; (· (simp only [Act.put, List.setIfInBounds_toArray, List.set_cons_zero, List.set_cons_succ, i64_w, i32_w]; rfl)))
  iterate 2 (refine stepPu (v := ?_) rfl rfl (any_of HT_.out q18_) (fun _ _ _ h => h) (Or.inl ⟨by rfl, ?_⟩) (a' := ?_) ?_ ?_; rotate_left; (· intro w'; go_simp; with_reducible rfl); rotate_left; (· (simp only [Act.put, List.setIfInBounds_toArray, List.set_cons_zero, List.set_cons_succ, i64_w, i32_w]; rfl)))
  iterate 12 (refine stepPu (v := undef) rfl rfl (any_of HT_.out q18_) (fun _ _ _ h => h) (Or.inr ⟨by rfl, rfl⟩) (a' := ?_) ?_ ?_; rotate_left; (· (simp only [Act.put, List.setIfInBounds_toArray, List.set_cons_zero, List.set_cons_succ, i64_w, i32_w]; rfl)))
  (refine stepPu (v := ?_) rfl rfl (any_of HT_.out q18_) (fun _ _ _ h => h) (Or.inl ⟨by rfl, ?_⟩) (a' := ?_) ?_ ?_; rotate_left; (· intro w'; go_simp; with_reducible rfl); rotate_left; (· (simp only [Act.put, List.setIfInBounds_toArray, List.set_cons_zero, List.set_cons_succ, i64_w, i32_w]; rfl)))
  refine done_ (done_of HT_.out q18_) ?_
  go_wp2_with fail
  go_ret3
  exact ⟨.slice none 0 0, rfl, Kd.R_nil _ _ _ _ _, below_drew HB0.out⟩
 rw [if_neg c5] at h
 obtain rfl : x5 = 8 := by omega
 obtain ⟨t, ht, h⟩ := Option.bind_eq_some_iff.mp h
 have hMe : l0.length - 4 = (l0.take (l0.length - 4)).length := by rw [List.length_take]; omega
 have hRM := Kd.C_take hr0 (Nat.sub_le l0.length 4)
 obtain ⟨bM, hbM⟩ : ∃ b, l0.take (l0.length - 4) = b := ⟨_, rfl⟩
 rw [hbM] at ht hMe hRM
 rw [hMe] at h
 have hmN : bM.length = N + 1 := take_m _ _ _ hN hMe
 have hle : bM.length ≤ l0.length := by rw [← hMe]; exact Nat.sub_le _ _
 have HRM := Aside0.mk hRM
 have HLM := Aside0.mk (Nat.le_trans hle hc0)
 have HTL := Aside0.mk ht
 have hm1 : wrap64 ((N : Int) + 1) = (bM.length : Int) := take_w _ _ hmN (take_n _ _ hN c2)
 obtain ⟨i, hi, _, hsz, _⟩ := info_parts info5
 have hcutM := cut_to (P := Tryd.prog) 35 5 .i64 Tryd.underlying35 hi (some ad) l0.length c0 (bM.length : Int) (Int.natCast_nonneg _) (Int.ofNat_le.2 hle) hc0
 rw [Int.toNat_natCast] at hcutM
 obtain ⟨A6, y6, hy6, hcut6, hC6, hl6⟩ := Own.cut_drop (P := Tryd.prog) (Kd.int .u8) 35 5 .i64 Tryd.underlying35 (by rw [hi]; exact congrArg some hsz) hr0 hc0 bM.length hle
 obtain ⟨c6, hc6⟩ : ∃ c, c0 - bM.length = c := ⟨_, rfl⟩
 rw [hc6] at hcut6 hl6
 have hv6 : ∀ W, Below w.heap.size w W → (convert 35 9 (.slice A6 y6.length c6)).run Tryd.prog W = .ok (.string (strOfNums y6)) W := fun W hb => Kd.C_string (P := Tryd.prog) (A := A6) (c := c6) Tryd.underlying35 Tryd.underlying5 Tryd.underlying9 (Kd.C_below hC6.out hb)
 rw [← hy6.out] at h
 obtain ⟨s6, hs6⟩ : ∃ s, strOfNums y6 = s := ⟨_, rfl⟩
 rw [hs6] at h hv6
 have HSS := Aside0.mk (fun W (hb : Below w.heap.size w W) => show (fun w' => (convert 35 9 (.slice (some ad) 2 c0)).run Tryd.prog w' = .ok (.string ⟨#[67, 66]⟩) w' ∧ w'.cell? ⟨ad.block, ad.off + 2, none⟩ = some (.int .u8 x2) ∧ w'.cell? (ad.add N) = some (.int .u8 8) ∧ (convert 35 9 (.slice A6 y6.length c6)).run Tryd.prog w' = .ok (.string s6) w') W from ⟨HV2.out W hb, pw_cell_below hb HX2.out, pw_cell_below hb HX5.out, hv6 W hb⟩)
 by_cases c7 : s6 ≠ strOfNums t
 ·rw [if_pos c7] at h
  obtain ⟨rfl, rfl, rfl⟩ : [] = r1 ∧ false = r2 ∧ 26 = r3 := by simpa using h
  obtain ⟨st, hst⟩ : ∃ s, strOfNums t = s := ⟨_, rfl⟩
  rw [hst] at c7
  have HST := Aside0.mk hst
  have c7l : s6.toList ≠ st.toList := fun q => c7 (by cases s6; cases st; rw [ByteArray.toList_eq, ByteArray.toList_eq] at q; exact congrArg ByteArray.mk (Array.toList_inj.1 q))
  have e1 : ¬ s6.toList = st.toList := c7l
  have e2 : (s6.toList == st.toList) = false := beq_false_of_ne c7l
  have e3 : (s6.toList != st.toList) = true := bne_iff_ne.2 c7l
  have e4 : decide (s6.toList = st.toList) = false := decide_eq_false c7l
  clear c7l hst h hr0 hc0 c1 c2 c3 c4 c5 c7 hmax hN hs6 hv6 hC6 hl6 hc6 hy6 hi hsz ht hRM hbM hMe hmN hle
  go_enter Tryd.func21, Tryd.ntmps21
  go_wp2_with fail
  refine stepStart (fun w' => (convert 35 9 (.slice (some ad) 2 c0)).run Tryd.prog w' = .ok (.string ⟨#[67, 66]⟩) w' ∧ w'.cell? ⟨ad.block, ad.off + 2, none⟩ = some (.int .u8 x2) ∧ w'.cell? (ad.add N) = some (.int .u8 8) ∧ (convert 35 9 (.slice A6 y6.length c6)).run Tryd.prog w' = .ok (.string s6) w') 40 [0, 1, 2, 3, 4, 5, 6, 7, 8, 9, 10, 11, 12, 13, 14, 15, 16, 17, 18, 19, 20, 21, 22, 23, 24, 25, 26, 27, 28, 29, 30, 31, 32, 33, 34, 35, 36, 37, 38, 39] take2_tab take2_bits q18_ rfl (HSS.out _ (below_drew HB0.out)) (fun HT_ HW_ hHeld => ?_)
  iterate 3 (refine stepPu (v := ?_) rfl rfl (any_of HT_.out q18_) (fun _ _ _ h => h) (Or.inl ⟨by rfl, ?_⟩) (a' := ?_) ?_ ?_; rotate_left; (· intro w'; go_simp; with_reducible rfl); rotate_left; (· (simp only [Act.put, List.setIfInBounds_toArray, List.set_cons_zero, List.set_cons_succ, i64_w, i32_w]; rfl)))
  iterate 3 (refine stepPu (v := ?_) rfl rfl (any_of HT_.out q18_) (fun _ _ _ h => h) (Or.inl ⟨by rfl, ?_⟩) (a' := ?_) ?_ ?_; rotate_left; (· intro w'; go_simp; with_reducible rfl); rotate_left; (· (simp only [Act.put, List.setIfInBounds_toArray, List.set_cons_zero, List.set_cons_succ, i64_w, i32_w]; rfl)))
  iterate 2 (refine stepPu (v := ?_) rfl rfl (any_of HT_.out q18_) (fun _ _ _ h => h) (Or.inl ⟨by rfl, ?_⟩) (a' := ?_) ?_ ?_; rotate_left; (· intro w'; go_simp; with_reducible rfl); rotate_left; (· (simp only [Act.put, List.setIfInBounds_toArray, List.set_cons_zero, List.set_cons_succ, i64_w, i32_w]; rfl)))
  iterate 2 (refine stepPu (v := ?_) rfl rfl (any_of HT_.out q18_) (fun _ _ _ h => h) (Or.inl ⟨by rfl, ?_⟩) (a' := ?_) ?_ ?_; rotate_left; (· intro w'; go_simp; with_reducible rfl); rotate_left; (· (simp only [Act.put, List.setIfInBounds_toArray, List.set_cons_zero, List.set_cons_succ, i64_w, i32_w]; rfl)))
  (refine stepLd (v := ?_) rfl rfl (take_ofW HT_.out HW_.out q18_) (fun _ _ _ h => h) (Or.inl ⟨by rfl, ?_⟩) hHeld (a' := ?_) ?_ ?_; rotate_left; (· rintro w' ⟨s0, s1, s2, s3⟩; go_simp; with_reducible rfl); rotate_left; (· (simp only [Act.put, List.setIfInBounds_toArray, List.set_cons_zero, List.set_cons_succ, i64_w, i32_w]; rfl)))
  (refine stepPu (v := ?_) rfl rfl (any_of HT_.out q18_) (fun _ _ _ h => h) (Or.inl ⟨by rfl, ?_⟩) (a' := ?_) ?_ ?_; rotate_left; (· intro w'; go_simp; with_reducible rfl); rotate_left; (· (simp only [Act.put, List.setIfInBounds_toArray, List.set_cons_zero, List.set_cons_succ, i64_w, i32_w]; rfl)))
  iterate 2 (refine stepPu (v := ?_) rfl rfl (any_of HT_.out q18_) (fun _ _ _ h => h) (Or.inl ⟨by rfl, ?_⟩) (a' := ?_) ?_ ?_; rotate_left; (· intro w'; go_simp; with_reducible rfl); rotate_left; (· (simp only [Act.put, List.setIfInBounds_toArray, List.set_cons_zero, List.set_cons_succ, i64_w, i32_w]; rfl)))
  iterate 2 (refine stepPu (v := ?_) rfl rfl (any_of HT_.out q18_) (fun _ _ _ h => h) (Or.inl ⟨by rfl, ?_⟩) (a' := ?_) ?_ ?_; rotate_left; (· intro w'; go_simp; with_reducible rfl); rotate_left; (· (simp only [Act.put, List.setIfInBounds_toArray, List.set_cons_zero, List.set_cons_succ, i64_w, i32_w]; rfl)))
  (refine stepLd (v := ?_) rfl rfl (take_ofW HT_.out HW_.out q18_) (fun _ _ _ h => h) (Or.inl ⟨by rfl, ?_⟩) hHeld (a' := ?_) ?_ ?_; rotate_left; (· rintro w' ⟨s0, s1, s2, s3⟩; go_simp; with_reducible rfl); rotate_left; (· (simp only [Act.put, List.setIfInBounds_toArray, List.set_cons_zero, List.set_cons_succ, i64_w, i32_w]; rfl)))
  (refine stepPu (v := ?_) rfl rfl (any_of HT_.out q18_) (fun _ _ _ h => h) (Or.inl ⟨by rfl, ?_⟩) (a' := ?_) ?_ ?_; rotate_left; (· intro w'; go_simp; with_reducible rfl); rotate_left; (· (simp only [Act.put, List.setIfInBounds_toArray, List.set_cons_zero, List.set_cons_succ, i64_w, i32_w]; rfl)))
  iterate 2 (refine stepPu (v := ?_) rfl rfl (any_of HT_.out q18_) (fun _ _ _ h => h) (Or.inl ⟨by rfl, ?_⟩) (a' := ?_) ?_ ?_; rotate_left; (· intro w'; go_simp; with_reducible rfl); rotate_left; (· (simp only [Act.put, List.setIfInBounds_toArray, List.set_cons_zero, List.set_cons_succ, i64_w, i32_w]; rfl)))
  iterate 3 (refine stepPu (v := ?_) rfl rfl (any_of HT_.out q18_) (fun _ _ _ h => h) (Or.inl ⟨by rfl, ?_⟩) (a' := ?_) ?_ ?_; rotate_left; (· intro w'; go_simp; with_reducible rfl); rotate_left; (· (simp only [Act.put, List.setIfInBounds_toArray, List.set_cons_zero, List.set_cons_succ, i64_w, i32_w]; rfl)))
  (refine stepLd (v := ?_) rfl rfl (take_ofW HT_.out HW_.out q18_) (fun _ _ _ h => h) (Or.inl ⟨by rfl, ?_⟩) hHeld (a' := ?_) ?_ ?_; rotate_left; (· rintro w' ⟨s0, s1, s2, s3⟩; go_simp; with_reducible rfl); rotate_left; (· (simp only [Act.put, List.setIfInBounds_toArray, List.set_cons_zero, List.set_cons_succ, i64_w, i32_w]; rfl)))
  (refine stepPu (v := ?_) rfl rfl (any_of HT_.out q18_) (fun _ _ _ h => h) (Or.inl ⟨by rfl, ?_⟩) (a' := ?_) ?_ ?_; rotate_left; (· intro w'; go_simp; with_reducible rfl); rotate_left; (· (simp only [Act.put, List.setIfInBounds_toArray, List.set_cons_zero, List.set_cons_succ, i64_w, i32_w]; rfl)))
  iterate 2 (refine stepPu (v := ?_) rfl rfl (any_of HT_.out q18_) (fun _ _ _ h => h) (Or.inl ⟨by rfl, ?_⟩) (a' := ?_) ?_ ?_; rotate_left; (· intro w'; go_simp; with_reducible rfl); rotate_left; (· (simp only [Act.put, List.setIfInBounds_toArray, List.set_cons_zero, List.set_cons_succ, i64_w, i32_w]; rfl)))
  iterate 4 (refine stepPu (v := ?_) rfl rfl (any_of HT_.out q18_) (fun _ _ _ h => h) (Or.inl ⟨by rfl, ?_⟩) (a' := ?_) ?_ ?_; rotate_left; (· intro w'; go_simp; with_reducible rfl); rotate_left; (· (simp only [Act.put, List.setIfInBounds_toArray, List.set_cons_zero, List.set_cons_succ, i64_w, i32_w]; rfl)))
  (refine stepLd (v := ?_) rfl rfl (take_ofW HT_.out HW_.out q18_) (fun _ _ _ h => h) (Or.inl ⟨by rfl, ?_⟩) hHeld (a' := ?_) ?_ ?_; rotate_left; (· rintro w' ⟨s0, s1, s2, s3⟩; go_simp; with_reducible rfl); rotate_left; (· (simp only [Act.put, List.setIfInBounds_toArray, List.set_cons_zero, List.set_cons_succ, i64_w, i32_w]; rfl)))
  iterate 4 (refine stepPu (v := ?_) rfl rfl (any_of HT_.out q18_) (fun _ _ _ h => h) (Or.inl ⟨by rfl, ?_⟩) (a' := ?_) ?_ ?_; rotate_left; (· intro w'; go_simp; with_reducible rfl); rotate_left; (· (simp only [Act.put, List.setIfInBounds_toArray, List.set_cons_zero, List.set_cons_succ, i64_w, i32_w]; rfl)))
  refine stepOne rfl rfl (one_of HT_.out q18_) q81_ (fun K hK => ?_)
  refine goes_ Tryd.func32 q18_ rfl #[.slice (some ad) bM.length c0] (by rfl) rfl rfl (by first | rfl | (simp only [List.map_toArray, List.map_cons, List.map_nil]; rfl)) ?_
  with_reducible refine (stream_tail.calls (some ad) c0 bM t (w.drew) (Kd.C_below HRM.out (below_drew (Below.refl _ _))) HLM.out HTL.out).mono ?_
  rintro e w5 ⟨v5, rfl, hv, hb⟩
  refine ⟨_, rfl, ?_⟩
  obtain ⟨A5, c5, rfl⟩ := Kd.V_slice hv
  obtain ⟨_, hc5, hC5⟩ := Kd.V_reads' hv
  have HB5 := Aside0.mk (below_step (below_drew HB0.out) hb)
  have HC5 := Aside0.mk hC5
  clear hv hb hc5 hC5
  refine hK.out _ _ (HSS.out _ HB5.out) (fun hHeld => ?_)
  clear hK K
  refine norm_ (a' := ?_) ?_ ?_
  rotate_left
  ·show Act.put _ (some 50) _ = _
   simp only [Act.put, List.setIfInBounds_toArray, List.set_cons_zero, List.set_cons_succ, i64_w, i32_w]
   rfl
  have hcv5 := Kd.C_string (P := Tryd.prog) (A := A5) (c := c5) Tryd.underlying35 Tryd.underlying5 Tryd.underlying9 HC5.out
  (try (have hcv5m := hcv5; simp only [Int.reduceToNat, List.length_take] at hcv5m))
  refine stepOne rfl rfl (one_of HT_.out q18_) q81_ (fun K hK => ?_)
  refine want_run 35 9 (.tmp 50) rfl rfl (by rfl) _ (by rfl) hcv5 ?_
  refine hK.out _ _ (HSS.out _ HB5.out) (fun hHeld => ?_)
  clear hK K
  refine norm_ (a' := ?_) ?_ ?_
  rotate_left
  ·show Act.put _ (some 51) _ = _
   simp only [Act.put, List.setIfInBounds_toArray, List.set_cons_zero, List.set_cons_succ, i64_w, i32_w]
   rfl
  rw [HST.out]
  iterate 2 (refine stepPu (v := ?_) rfl rfl (any_of HT_.out q18_) (fun _ _ _ h => h) (Or.inl ⟨by rfl, ?_⟩) (a' := ?_) ?_ ?_; rotate_left; (· intro w'; go_simp; with_reducible rfl); rotate_left; (· (simp only [Act.put, List.setIfInBounds_toArray, List.set_cons_zero, List.set_cons_succ, i64_w, i32_w]; rfl)))
  refine done_ (done_of HT_.out q18_) ?_
  go_wp2_with fail
  go_ret3
  exact ⟨.slice none 0 0, rfl, Kd.R_nil _ _ _ _ _, HB5.out⟩
 rw [if_neg c7] at h
 obtain rfl : s6 = strOfNums t := Classical.byContradiction c7
 obtain ⟨u, hu, h⟩ := Option.bind_eq_some_iff.mp h
 have hrl : ((l0.take N).drop 3).length = N - 3 := by rw [List.length_drop, List.length_take, hN]; exact take_r N
 have hcut37 := cut_mid (P := Tryd.prog) 35 5 .i64 .i64 Tryd.underlying35 hi 1 hsz (some ad) l0.length c0 3 (N : Int) q81_ (take_3 N l0.length hN c1) (Int.ofNat_le.2 (by rw [hN]; exact Nat.le_add_right _ _)) hc0
 rw [show (3 : Int).toNat = 3 from rfl, Int.toNat_natCast, ← hrl] at hcut37
 have hCR := Kd.C_mid hr0 (take_3n N l0.length hN c1) (show N ≤ l0.length by rw [hN]; exact Nat.le_add_right _ _) hc0
 obtain ⟨R, hR⟩ : ∃ R, (l0.take N).drop 3 = R := ⟨_, rfl⟩
 obtain ⟨A7, hA7⟩ : ∃ A, (if c0 = 3 then some ad else (some ad).map (·.add (3 * 1))) = A := ⟨_, rfl⟩
 have hA7' : (if c0 = 3 then some ad else (some ad).map (·.add (3 * (Kd.int IntKind.u8).sz))) = A7 := hA7
 obtain ⟨c7', hc7⟩ : ∃ c, c0 - 3 = c := ⟨_, rfl⟩
 rw [hR, hA7, hc7] at hcut37
 rw [hR, hA7'] at hCR
 rw [hR] at hu hrl
 have hlR : R.length ≤ c7' := by rw [hrl, ← hc7]; exact take_c N l0.length c0 hN hc0
 have HCR := Aside0.mk hCR
 have HLR := Aside0.mk hlR
 have HU := Aside0.mk hu
 have HH := Aside0.mk h
 obtain ⟨st, hst⟩ : ∃ s, strOfNums t = s := ⟨_, rfl⟩
 have HST := Aside0.mk hst
 rw [hst] at HSS
 have x2a : decide (x2 = 1) = (x2 == 1) := rfl
 clear h hr0 hc0 c1 c2 c3 c4 c5 c7 hmax hN hv6 hC6 hl6 hc6 hy6 hi hsz ht hRM hbM hMe hmN hle hrl hCR hR hA7 hA7' hc7 hlR hu hst hs6
 go_enter Tryd.func21, Tryd.ntmps21
 go_wp2_with fail
 refine stepStart (fun w' => (convert 35 9 (.slice (some ad) 2 c0)).run Tryd.prog w' = .ok (.string ⟨#[67, 66]⟩) w' ∧ w'.cell? ⟨ad.block, ad.off + 2, none⟩ = some (.int .u8 x2) ∧ w'.cell? (ad.add N) = some (.int .u8 8) ∧ (convert 35 9 (.slice A6 y6.length c6)).run Tryd.prog w' = .ok (.string st) w') 40 [0, 1, 2, 3, 4, 5, 6, 7, 8, 9, 10, 11, 12, 13, 14, 15, 16, 17, 18, 19, 20, 21, 22, 23, 24, 25, 26, 27, 28, 29, 30, 31, 32, 33, 34, 35, 36, 37, 38, 39] take2_tab take2_bits q18_ rfl (HSS.out _ (below_drew HB0.out)) (fun HT_ HW_ hHeld => ?_)
 iterate 3 (refine stepPu (v := ?_) rfl rfl (any_of HT_.out q18_) (fun _ _ _ h => h) (Or.inl ⟨by rfl, ?_⟩) (a' := ?_) ?_ ?_; rotate_left; (· intro w'; go_simp; with_reducible rfl); rotate_left; (· (simp only [Act.put, List.setIfInBounds_toArray, List.set_cons_zero, List.set_cons_succ, i64_w, i32_w]; rfl)))
 iterate 3 (refine stepPu (v := ?_) rfl rfl (any_of HT_.out q18_) (fun _ _ _ h => h) (Or.inl ⟨by rfl, ?_⟩) (a' := ?_) ?_ ?_; rotate_left; (· intro w'; go_simp; with_reducible rfl); rotate_left; (· (simp only [Act.put, List.setIfInBounds_toArray, List.set_cons_zero, List.set_cons_succ, i64_w, i32_w]; rfl)))
 iterate 2 (refine stepPu (v := ?_) rfl rfl (any_of HT_.out q18_) (fun _ _ _ h => h) (Or.inl ⟨by rfl, ?_⟩) (a' := ?_) ?_ ?_; rotate_left; (· intro w'; go_simp; with_reducible rfl); rotate_left; (· (simp only [Act.put, List.setIfInBounds_toArray, List.set_cons_zero, List.set_cons_succ, i64_w, i32_w]; rfl)))
 iterate 2 (refine stepPu (v := ?_) rfl rfl (any_of HT_.out q18_) (fun _ _ _ h => h) (Or.inl ⟨by rfl, ?_⟩) (a' := ?_) ?_ ?_; rotate_left; (· intro w'; go_simp; with_reducible rfl); rotate_left; (· (simp only [Act.put, List.setIfInBounds_toArray, List.set_cons_zero, List.set_cons_succ, i64_w, i32_w]; rfl)))
 (refine stepLd (v := ?_) rfl rfl (take_ofW HT_.out HW_.out q18_) (fun _ _ _ h => h) (Or.inl ⟨by rfl, ?_⟩) hHeld (a' := ?_) ?_ ?_; rotate_left; (· rintro w' ⟨s0, s1, s2, s3⟩; go_simp; with_reducible rfl); rotate_left; (· (simp only [Act.put, List.setIfInBounds_toArray, List.set_cons_zero, List.set_cons_succ, i64_w, i32_w]; rfl)))
 (refine stepPu (v := ?_) rfl rfl (any_of HT_.out q18_) (fun _ _ _ h => h) (Or.inl ⟨by rfl, ?_⟩) (a' := ?_) ?_ ?_; rotate_left; (· intro w'; go_simp; with_reducible rfl); rotate_left; (· (simp only [Act.put, List.setIfInBounds_toArray, List.set_cons_zero, List.set_cons_succ, i64_w, i32_w]; rfl)))
 iterate 2 (refine stepPu (v := ?_) rfl rfl (any_of HT_.out q18_) (fun _ _ _ h => h) (Or.inl ⟨by rfl, ?_⟩) (a' := ?_) ?_ ?_; rotate_left; (· intro w'; go_simp; with_reducible rfl); rotate_left; (· (simp only [Act.put, List.setIfInBounds_toArray, List.set_cons_zero, List.set_cons_succ, i64_w, i32_w]; rfl)))
 iterate 2 (refine stepPu (v := ?_) rfl rfl (any_of HT_.out q18_) (fun _ _ _ h => h) (Or.inl ⟨by rfl, ?_⟩) (a' := ?_) ?_ ?_; rotate_left; (· intro w'; go_simp; with_reducible rfl); rotate_left; (· (simp only [Act.put, List.setIfInBounds_toArray, List.set_cons_zero, List.set_cons_succ, i64_w, i32_w]; rfl)))
 (refine stepLd (v := ?_) rfl rfl (take_ofW HT_.out HW_.out q18_) (fun _ _ _ h => h) (Or.inl ⟨by rfl, ?_⟩) hHeld (a' := ?_) ?_ ?_; rotate_left; (· rintro w' ⟨s0, s1, s2, s3⟩; go_simp; with_reducible rfl); rotate_left; (· (simp only [Act.put, List.setIfInBounds_toArray, List.set_cons_zero, List.set_cons_succ, i64_w, i32_w]; rfl)))
 (refine stepPu (v := ?_) rfl rfl (any_of HT_.out q18_) (fun _ _ _ h => h) (Or.inl ⟨by rfl, ?_⟩) (a' := ?_) ?_ ?_; rotate_left; (· intro w'; go_simp; with_reducible rfl); rotate_left; (· (simp only [Act.put, List.setIfInBounds_toArray, List.set_cons_zero, List.set_cons_succ, i64_w, i32_w]; rfl)))
 iterate 2 (refine stepPu (v := ?_) rfl rfl (any_of HT_.out q18_) (fun _ _ _ h => h) (Or.inl ⟨by rfl, ?_⟩) (a' := ?_) ?_ ?_; rotate_left; (· intro w'; go_simp; with_reducible rfl); rotate_left; (· (simp only [Act.put, List.setIfInBounds_toArray, List.set_cons_zero, List.set_cons_succ, i64_w, i32_w]; rfl)))
 iterate 3 (refine stepPu (v := ?_) rfl rfl (any_of HT_.out q18_) (fun _ _ _ h => h) (Or.inl ⟨by rfl, ?_⟩) (a' := ?_) ?_ ?_; rotate_left; (· intro w'; go_simp; with_reducible rfl); rotate_left; (· (simp only [Act.put, List.setIfInBounds_toArray, List.set_cons_zero, List.set_cons_succ, i64_w, i32_w]; rfl)))
 (refine stepLd (v := ?_) rfl rfl (take_ofW HT_.out HW_.out q18_) (fun _ _ _ h => h) (Or.inl ⟨by rfl, ?_⟩) hHeld (a' := ?_) ?_ ?_; rotate_left; (· rintro w' ⟨s0, s1, s2, s3⟩; go_simp; with_reducible rfl); rotate_left; (· (simp only [Act.put, List.setIfInBounds_toArray, List.set_cons_zero, List.set_cons_succ, i64_w, i32_w]; rfl)))
 (refine stepPu (v := ?_) rfl rfl (any_of HT_.out q18_) (fun _ _ _ h => h) (Or.inl ⟨by rfl, ?_⟩) (a' := ?_) ?_ ?_; rotate_left; (· intro w'; go_simp; with_reducible rfl); rotate_left; (· (simp only [Act.put, List.setIfInBounds_toArray, List.set_cons_zero, List.set_cons_succ, i64_w, i32_w]; rfl)))
 iterate 2 (refine stepPu (v := ?_) rfl rfl (any_of HT_.out q18_) (fun _ _ _ h => h) (Or.inl ⟨by rfl, ?_⟩) (a' := ?_) ?_ ?_; rotate_left; (· intro w'; go_simp; with_reducible rfl); rotate_left; (· (simp only [Act.put, List.setIfInBounds_toArray, List.set_cons_zero, List.set_cons_succ, i64_w, i32_w]; rfl)))
 iterate 4 (refine stepPu (v := ?_) rfl rfl (any_of HT_.out q18_) (fun _ _ _ h => h) (Or.inl ⟨by rfl, ?_⟩) (a' := ?_) ?_ ?_; rotate_left; (· intro w'; go_simp; with_reducible rfl); rotate_left; (· (simp only [Act.put, List.setIfInBounds_toArray, List.set_cons_zero, List.set_cons_succ, i64_w, i32_w]; rfl)))
 (refine stepLd (v := ?_) rfl rfl (take_ofW HT_.out HW_.out q18_) (fun _ _ _ h => h) (Or.inl ⟨by rfl, ?_⟩) hHeld (a' := ?_) ?_ ?_; rotate_left; (· rintro w' ⟨s0, s1, s2, s3⟩; go_simp; with_reducible rfl); rotate_left; (· (simp only [Act.put, List.setIfInBounds_toArray, List.set_cons_zero, List.set_cons_succ, i64_w, i32_w]; rfl)))
 iterate 4 (refine stepPu (v := ?_) rfl rfl (any_of HT_.out q18_) (fun _ _ _ h => h) (Or.inl ⟨by rfl, ?_⟩) (a' := ?_) ?_ ?_; rotate_left; (· intro w'; go_simp; with_reducible rfl); rotate_left; (· (simp only [Act.put, List.setIfInBounds_toArray, List.set_cons_zero, List.set_cons_succ, i64_w, i32_w]; rfl)))
 refine stepOne rfl rfl (one_of HT_.out q18_) q81_ (fun K hK => ?_)
 refine goes_ Tryd.func32 q18_ rfl #[.slice (some ad) bM.length c0] (by rfl) rfl rfl (by first | rfl | (simp only [List.map_toArray, List.map_cons, List.map_nil]; rfl)) ?_
 with_reducible refine (stream_tail.calls (some ad) c0 bM t (w.drew) (Kd.C_below HRM.out (below_drew (Below.refl _ _))) HLM.out HTL.out).mono ?_
 rintro e w5 ⟨v5, rfl, hv, hb⟩
 refine ⟨_, rfl, ?_⟩
 obtain ⟨A5, c5, rfl⟩ := Kd.V_slice hv
 obtain ⟨_, hc5, hC5⟩ := Kd.V_reads' hv
 have HB5 := Aside0.mk (below_step (below_drew HB0.out) hb)
 have HC5 := Aside0.mk hC5
 clear hv hb hc5 hC5
 refine hK.out _ _ (HSS.out _ HB5.out) (fun hHeld => ?_)
 clear hK K
 refine norm_ (a' := ?_) ?_ ?_
 rotate_left
 ·show Act.put _ (some 50) _ = _
  simp only [Act.put, List.setIfInBounds_toArray, List.set_cons_zero, List.set_cons_succ, i64_w, i32_w]
  rfl
 have hcv5 := Kd.C_string (P := Tryd.prog) (A := A5) (c := c5) Tryd.underlying35 Tryd.underlying5 Tryd.underlying9 HC5.out
 (try (have hcv5m := hcv5; simp only [Int.reduceToNat, List.length_take] at hcv5m))
 refine stepOne rfl rfl (one_of HT_.out q18_) q81_ (fun K hK => ?_)
 refine want_run 35 9 (.tmp 50) rfl rfl (by rfl) _ (by rfl) hcv5 ?_
 refine hK.out _ _ (HSS.out _ HB5.out) (fun hHeld => ?_)
 clear hK K
 refine norm_ (a' := ?_) ?_ ?_
 rotate_left
 ·show Act.put _ (some 51) _ = _
  simp only [Act.put, List.setIfInBounds_toArray, List.set_cons_zero, List.set_cons_succ, i64_w, i32_w]
  rfl
 rw [HST.out]
 iterate 2 (refine stepPu (v := ?_) rfl rfl (any_of HT_.out q18_) (fun _ _ _ h => h) (Or.inl ⟨by rfl, ?_⟩) (a' := ?_) ?_ ?_; rotate_left; (· intro w'; go_simp; with_reducible rfl); rotate_left; (· (simp only [Act.put, List.setIfInBounds_toArray, List.set_cons_zero, List.set_cons_succ, i64_w, i32_w]; rfl)))
 refine done_ (done_of HT_.out q18_) ?_
 go_wp2_with fail
 go_loopg [6, 7, 8, 9, 10] k (fun kq v6 v7 v8 v9 v10 w' => ∃ (x : List Int) (l : List S37) (A : Option Addr) (c : Nat), v7 = .slice A x.length c ∧ Aside0 (stream_Take.l0 kq x l = some u) ∧ Aside0 (kq ≤ k) ∧ Aside0 (x.length ≤ c) ∧ Aside0 (Kd.C (Kd.int .u8) w' A x.length x) ∧ Aside0 (Kd.R k37 37 w' w.heap.size (fun _ => True) v6 l) ∧ Aside0 (Below w.heap.size w w'))
 case atStart => exact ⟨R, [], A7, c7', rfl, HU, ⟨Nat.le_refl _⟩, HLR, ⟨Kd.C_below HCR.out HB5.out⟩, ⟨Kd.R_nil _ _ _ _ _⟩, HB5⟩
 case round =>
  clear HU
  obtain ⟨x, l, A, c, rfl, HA, HK1, HLX, HCX, HOL, HBX⟩ := hrel
  cases gk with
  | zero => exact absurd (show none = some _ from HA.out) (by simp)
  | succ k1 =>
   have H := HA.out
   clear HA
   simp only [stream_Take.l0] at H
   by_cases hx0 : 0 < x.length
   ·rw [if_pos hx0] at H
    have dx : decide ((x.length : Int) > 0) = true := decide_eq_true (by omega)
    have dx1 : decide (0 < (x.length : Int)) = true := dx
    have dx2 : decide (0 < x.length) = true := decide_eq_true hx0
    by_cases hl6 : l.length ≤ 1000000
    ·rw [if_pos hl6] at H
     obtain ⟨⟨a1, a2, a3, a4, a5, a6, a7⟩, ht, H⟩ := Option.bind_eq_some_iff.mp H
     have HT := Aside0.mk ht
     have HL6 := Aside0.mk hl6
     have HHH := Aside0.mk H
     clear ht H hx0 hl6
     go_wp2_with fail
     refine (stream_record.calls k1 A c x a1 a2 a3 a4 a5 a6 a7 _ HCX.out HLX.out HT.out).mono ?_
     rintro e w7 ⟨v4, v5, rfl, hR4, hV5, hb⟩
     obtain ⟨A4, c4, rfl⟩ := Kd.R_slice hR4
     obtain ⟨A9, c9, rfl⟩ := Kd.V_slice hV5
     obtain ⟨_, hc9, hC9⟩ := Kd.V_reads' hV5
     have HR4 := Aside0.mk hR4
     have HC9 := Aside0.mk hC9
     have HV5 := Aside0.mk hV5
     have HL9 := Aside0.mk hc9
     have HB7 := Aside0.mk (below_step HBX.out hb)
     have HO7 := Aside0.mk (Kd.R_below HOL.out hb)
     have HOB := Aside0.mk (fun k hk => Kd.R_lt HOL.out k hk)
     have HSZ := Aside0.mk HBX.out.size
     clear hR4 hV5 hc9 hC9 hb HOL HCX HBX
     cases a7 with
     | false =>
      have H := HHH.out
      simp only [Bool.false_eq_true, if_false] at H
      obtain rfl := Option.some.inj H
      have hh := HH.out
      simp only [Bool.false_eq_true, if_false] at hh
      obtain ⟨rfl, rfl, rfl⟩ : [] = r1 ∧ false = r2 ∧ 26 = r3 := by simpa using hh
      clear hh H
      go_wp2_with fail
      go_ret3
      exact ⟨.slice none 0 0, rfl, Kd.R_nil _ _ _ _ _, below_alloc HB7.out _⟩
     | true =>
      have H := HHH.out
      rw [if_pos rfl] at H
      have H' := Aside0.mk H
      clear H
      have HS9 := Aside0.mk (show (w7.alloc (.cells #[.int .i64 a1, .string a2, .string a3, .int .i64 a4, .slice A4 a5.length c4] 37)).heap.size = w7.heap.size + 1 by simp)
      have HB9 := Aside0.mk (below_alloc HB7.out (.cells #[.int .i64 a1, .string a2, .string a3, .int .i64 a4, .slice A4 a5.length c4] 37))
      have HO9 := Aside0.mk (Kd.R_alloc HO7.out (.cells #[.int .i64 a1, .string a2, .string a3, .int .i64 a4, .slice A4 a5.length c4] 37))
      have HM9 := Aside0.mk (Kd.M_below (k37_mkM w7 w.heap.size (fun k_ => wr.heap.size ≤ k_) ⟨a1, a2, a3, a4, a5⟩ (Kd.R_lower HR4.out HSZ.out)) (below_alloc (Below.refl w7.heap.size w7) (.cells #[.int .i64 a1, .string a2, .string a3, .int .i64 a4, .slice A4 a5.length c4] 37)))
      have HV9 := Aside0.mk (Kd.V_alloc HV5.out (.cells #[.int .i64 a1, .string a2, .string a3, .int .i64 a4, .slice A4 a5.length c4] 37))
      go_wp2_with (first
       | ((with_reducible refine gate_builtin (b := .append) (xs := #[.tmp 68, .tmp 70]) rfl ?_); at_builtin; refine Kd.R_append k37 (w0 := w) w.heap.size rfl (.tmp 68) (.tmp 70) 32 37 (.agg #[(.int .i64 0), (.string ⟨#[]⟩), (.string ⟨#[]⟩), (.int .i64 0), (.slice none 0 0)]) 72 rfl Tryd.underlying32 info37 rfl q81_ q81_ _ l ⟨a1, a2, a3, a4, a5⟩ [.int .i64 a1, .string a2, .string a3, .int .i64 a4, .slice A4 a5.length c4] (fun _ => True) (fun k_ => wr.heap.size ≤ k_) rfl (by rw [HS9.out]; rfl) HM9.out (fun k hk => ⟨trivial, fun e => Nat.lt_irrefl _ (Nat.lt_of_lt_of_le (HOB.out k e.symm) hk)⟩) (fun _ _ => trivial) HO9.out HB9.out HB9.out.size (take_room _ HL6.out) ?_; intro v10 w10 ho hb hg hat; have HO10 := Aside0.mk ho; have HB10 := Aside0.mk hb; have HG10 := Aside0.mk hg; have HC10 := Aside0.mk (Kd.V_reads' (Kd.V_grown HV9.out hg (fun k hk e => Nat.lt_irrefl _ (Nat.lt_of_lt_of_le (HOB.out k e.symm) hk.1)))).2.2; clear ho hb hg hat))
      go_roundg k1
      case measure => have := HK1.out; omega
      case rel => exact ⟨a6, _, A9, c9, rfl, H', ⟨by have := HK1.out; omega⟩, HL9, HC10, HO10, HB10⟩
    ·rw [if_neg hl6] at H
     cases H
   ·rw [if_neg hx0] at H
    obtain rfl := Option.some.inj H
    have dx : decide ((x.length : Int) > 0) = false := decide_eq_false (by omega)
    have dx1 : decide (0 < (x.length : Int)) = false := dx
    have dx2 : decide (0 < x.length) = false := decide_eq_false hx0
    have hh := HH.out
    simp only [if_true] at hh
    obtain ⟨rfl, rfl, rfl⟩ : l = r1 ∧ decide (x2 = 1) = r2 ∧ 0 = r3 := by simpa using hh
    obtain ⟨A9, c9, he9⟩ := Kd.R_slice HOL.out
    subst he9
    have hx2 := pw_cell_below HBX.out HX2.out
    clear hh H hx0
    go_upto_region 11 with fail
    go_quiet (fail)
    go_wp2_with fail
    go_ret3
    exact ⟨_, rfl, Kd.R_below HOL.out (pw_below_drewN (Below.refl _ _) _), pw_below_drewN HBX.out _⟩
/-- The same, the row told as shared. -/
theorem stream_Take.calls (k : Nat) (A0 : Option Addr) (c0 : Nat) (l0 : List Int) (r1 : List S37) (r2 : Bool) (r3 : Int) (w : World) (hr0 : Kd.C (Kd.int .u8) w A0 l0.length l0) (hc0 : l0.length ≤ c0) (h : stream_Take.f k l0 = some (r1, r2, r3)) :
  Calls Tryd.prog 21 #[.slice A0 l0.length c0] w fun e w' => ∃ v0_ : Value, e = .returned (.tuple #[v0_, .bool r2, .int .i64 r3]) ∧ Kd.V k37 37 w' w.heap.size (fun k_ => w.heap.size ≤ k_) v0_ r1 ∧ Below w.heap.size w w' := by
 refine (stream_Take.callsR k A0 c0 l0 r1 r2 r3 w hr0 hc0 h).mono ?_
 rintro e w' ⟨v_, rfl, ho, hb⟩
 exact ⟨v_, rfl, Kd.V_mono (Kd.R_V (Kd.R_bound ho)) (fun k_ hk => hk.2.1), hb⟩
mutual
def cambiumref01_Take.j0 : Nat → List Int → Int → Bool → Option (Int × List Int × Int)
 | 0, _, _, _ => none
 | k + 1, x0, x1, x14 => if x14 = true then (some (0, ([] : List Int), 1)) else (if (x0.length : Int) < x1 then (some (0, ([] : List Int), 2)) else (cambiumref01_Take.l0 k x0 x1 0 0))
def cambiumref01_Take.l0 : Nat → List Int → Int → Int → Int → Option (Int × List Int × Int)
 | 0, _, _, _, _ => none
 | k + 1, x0, x1, x7, x8 => if x8 < x1 then (if 0 ≤ x8 then (if x8 < (x0.length : Int) then (cambiumref01_Take.l0 k x0 x1 (wrap64 ((wrap64 (256 * x7)) + (wrap64 (rd x0 x8)))) (wrap64 (x8 + 1))) else (none)) else (none)) else ((some (([] : List Int) : List Int)).bind fun y366 => (if 0 ≤ x1 then (if x1 ≤ (x0.length : Int) then (if y366.length + (x0.drop (x1 : Int).toNat).length < 140737488355328 then (some (x7, (y366 ++ (x0.drop (x1 : Int).toNat)), 0)) else (none)) else (none)) else (none)))
end
def cambiumref01_Take.f (k : Nat) (l0 : List Int) (a1 : Int) : Option (Int × List Int × Int) := if a1 < 1 then (cambiumref01_Take.j0 k l0 a1 true) else (cambiumref01_Take.j0 k l0 a1 (decide (a1 > 7)))
set_option maxHeartbeats 8000000 in
set_option maxRecDepth 100000 in
theorem cambiumref01_Take.callsR (k : Nat) (A0 : Option Addr) (c0 : Nat) (l0 : List Int) (a1 : Int) (r1 : Int) (r2 : List Int) (r3 : Int) (w : World) (hr0 : Kd.C (Kd.int .u8) w A0 l0.length l0) (hc0 : l0.length ≤ c0) (h : cambiumref01_Take.f k l0 a1 = some (r1, r2, r3)) :
  Calls Tryd.prog 39 #[.slice A0 l0.length c0, .int .i64 a1] w fun e w' => ∃ v1_ : Value, e = .returned (.tuple #[.int .i64 r1, v1_, .int .i64 r3]) ∧ Kd.R (Kd.int .u8) 5 w' w.heap.size (fun _ => True) v1_ r2 ∧ Below w.heap.size w w' := by
 have HR0 := Aside0.mk hr0
 have HC0 := Aside0.mk hc0
 clear hr0 hc0
 have HB := Aside0.mk (Below.refl w.heap.size w)
 have H : (if a1 < 1 then (cambiumref01_Take.j0 k l0 a1 true) else (cambiumref01_Take.j0 k l0 a1 (decide (a1 > 7)))) = some (r1, r2, r3) := h
 clear h
 have HC3 := Aside0.mk H
 clear H
 go_enter Tryd.func39, Tryd.ntmps39
 go_upto_region 1 with (fail)
 go_cut [14] (fun v14 wc => ∃ (kq : Nat) (x14_2 : Bool), v14 = .bool x14_2 ∧ Aside0 (cambiumref01_Take.j0 kq l0 a1 x14_2 = some (r1, r2, r3)) ∧ Aside0 (kq ≤ k) ∧ Aside0 (Below w.heap.size w wc))
 case first =>
  have H := HC3.out
  clear HC3
  by_cases c4 : a1 < 1
  ·rw [if_pos c4] at H
   have c4b0 : decide (a1 < 1) = true := decide_eq_true c4
   clear c4
   (first | rw [c4b0] | (simp only [i64_w, i32_w]; rw [c4b0]) | skip)
   have H' := Aside0.mk H
   clear H
   go_wp2
   go_meet
   case rel => exact ⟨_, (true), q3_, H', ⟨q51_⟩, ⟨q0_⟩⟩
  ·rw [if_neg c4] at H
   have c4b0 : decide (a1 < 1) = false := decide_eq_false c4
   clear c4
   (first | rw [c4b0] | (simp only [i64_w, i32_w]; rw [c4b0]) | skip)
   have H' := Aside0.mk H
   clear H
   go_wp2
   go_meet
   case rel => exact ⟨_, (decide (a1 > 7)), q3_, H', ⟨q51_⟩, ⟨q0_⟩⟩
 case rest =>
  clear HC3
  try clear p2
  try clear c3
  try clear c4
  try clear c4b0
  obtain ⟨kq, x14_2, rfl, HA, HJ2, HB⟩ := hcut
  cases kq with
  | zero => exact absurd (show none = some _ from HA.out) (by simp)
  | succ kj2 =>
   have H := HA.out
   clear HA
   simp only [cambiumref01_Take.j0] at H
   by_cases c5 : x14_2 = true
   ·subst c5
    have H1 : (some (0, ([] : List Int), 1)) = some (r1, r2, r3) := by rw [if_pos rfl] at H; exact H
    clear H
    have H := H1
    clear H1
    simp only [Option.some.injEq, Prod.mk.injEq] at H
    obtain ⟨rfl, rfl, rfl⟩ := H
    go_wp2
    go_ret3
    exact ⟨_, by first | rfl | (simp [errW_none, errW_some] <;> rfl) | (simp [*, errW_none, errW_some] <;> rfl), by first | exact Kd.R_nil _ _ _ _ _ | exact Kd.N_nil _ _ _ _ _ | exact Kd.V_nil _ _ _ _ _ | exact Kd.Q_nil _ _ _ _ _ | exact Kd.S_nil _ _ _ _ _, by repeat (first | (with_reducible first | exact HB.out | apply below_alloc | apply pw_below_drewN | apply below_drew1) | exact HB.out)⟩
   ·replace c5 := Bool.eq_false_iff.mpr c5
    subst c5
    have H1 : (if (l0.length : Int) < a1 then (some (0, ([] : List Int), 2)) else (cambiumref01_Take.l0 kj2 l0 a1 0 0)) = some (r1, r2, r3) := by rw [if_neg (show ¬ (false = true) by decide)] at H; exact H
    clear H
    have H := H1
    clear H1
    by_cases c6 : (l0.length : Int) < a1
    ·rw [if_pos c6] at H
     have c6b0 : decide ((l0.length : Int) < a1) = true := decide_eq_true c6
     clear c6
     simp only [Option.some.injEq, Prod.mk.injEq] at H
     obtain ⟨rfl, rfl, rfl⟩ := H
     go_wp2
     go_ret3
     exact ⟨_, by first | rfl | (simp [errW_none, errW_some] <;> rfl) | (simp [*, errW_none, errW_some] <;> rfl), by first | exact Kd.R_nil _ _ _ _ _ | exact Kd.N_nil _ _ _ _ _ | exact Kd.V_nil _ _ _ _ _ | exact Kd.Q_nil _ _ _ _ _ | exact Kd.S_nil _ _ _ _ _, by repeat (first | (with_reducible first | exact HB.out | apply below_alloc | apply pw_below_drewN | apply below_drew1) | exact HB.out)⟩
    ·rw [if_neg c6] at H
     have c6b0 : decide ((l0.length : Int) < a1) = false := decide_eq_false c6
     clear c6
     have H' := Aside0.mk H
     clear H
     go_wp2
     go_loopg [7, 8] kj2 (fun kq v7 v8 w' => ∃ (x7_2 : Int) (x8_2 : Int), v7 = .int .i64 x7_2 ∧ v8 = .int .i64 x8_2 ∧ Aside0 (cambiumref01_Take.l0 kq l0 a1 x7_2 x8_2 = some (r1, r2, r3)) ∧ Aside0 (kq ≤ kj2) ∧ Aside0 (Below w.heap.size w w'))
     case atStart => exact ⟨(0), (0), q3_, q3_, H', ⟨Nat.le_refl _⟩, ⟨q0_⟩⟩
     case round =>
      clear H'
      try clear p2
      try clear c3
      try clear c4
      try clear c4b0
      try clear c5
      try clear c6
      try clear c6b0
      try clear p2
      obtain ⟨x7_2, x8_2, rfl, rfl, HA, HK2, HB⟩ := hrel
      cases gk with
      | zero => exact absurd (show none = some _ from HA.out) (by simp)
      | succ k2 =>
       have H := HA.out
       clear HA
       simp only [cambiumref01_Take.l0] at H
       by_cases c7 : x8_2 < a1
       ·rw [if_pos c7] at H
        have c7b0 : decide (x8_2 < a1) = true := decide_eq_true c7
        clear c7
        by_cases c8 : 0 ≤ x8_2
        ·rw [if_pos c8] at H
         have c8b0 : decide (0 ≤ x8_2) = true := decide_eq_true c8
         clear c8
         by_cases c9 : x8_2 < (l0.length : Int)
         ·rw [if_pos c9] at H
          have c9b0 : decide (x8_2 < (l0.length : Int)) = true := decide_eq_true c9
          clear c9
          have H' := Aside0.mk H
          clear H
          have p365 : 0 ≤ (x8_2 : Int) := of_decide_eq_true q7_
          have q365 : x8_2 < (l0.length : Int) := of_decide_eq_true q7_
          obtain ⟨ad365, e365, hx365_0⟩ := Kd.at_int HR0.out x8_2 p365 q365
          cases e365
          replace hx365_0 := (HB.out.cell (World.block_lt_of_cell? w _ hx365_0)).trans hx365_0
          replace p365 := eq_true p365
          replace q365 := eq_true q365
          go_wp2
          go_roundg k2
          case measure => have := HJ2.out; have := HK2.out; omega
          case rel => exact ⟨(wrap64 ((wrap64 (256 * x7_2)) + (wrap64 (rd l0 x8_2)))), (wrap64 (x8_2 + 1)), q3_, q3_, H', ⟨by have := HJ2.out; have := HK2.out; omega⟩, ⟨q0_⟩⟩
         ·rw [if_neg c9] at H
          exact absurd H (by simp)
        ·rw [if_neg c8] at H
         exact absurd H (by simp)
       ·rw [if_neg c7] at H
        have c7b0 : decide (x8_2 < a1) = false := decide_eq_false c7
        clear c7
        obtain ⟨y366, hy366⟩ : ∃ y_ : List Int, y_ = (([] : List Int)) := ⟨_, rfl⟩
        replace H : (if 0 ≤ a1 then (if a1 ≤ (l0.length : Int) then (if y366.length + (l0.drop (a1 : Int).toNat).length < 140737488355328 then (some (x7_2, (y366 ++ (l0.drop (a1 : Int).toNat)), 0)) else (none)) else (none)) else (none)) = some (r1, r2, r3) := by first | (rw [hy366]; with_reducible exact H) | (have H2_ := (Option.bind_some _ _).symm.trans H; rw [hy366]; with_reducible exact H2_) | (have H2_ := (Option.bind_some _ _).symm.trans H; with_reducible exact H2_) | with_reducible exact H | (rw [hy366]; exact H) | exact H
        have Ny366 := Aside0.mk hy366
        clear hy366
        by_cases c10 : 0 ≤ a1
        ·rw [if_pos c10] at H
         have c10b0 := eq_true c10
         have c10b1 : decide (0 ≤ a1) = true := decide_eq_true c10
         clear c10
         by_cases c11 : a1 ≤ (l0.length : Int)
         ·rw [if_pos c11] at H
          have c11b0 := eq_true c11
          have c11b1 : decide (a1 ≤ (l0.length : Int)) = true := decide_eq_true c11
          clear c11
          by_cases c12 : y366.length + (l0.drop (a1 : Int).toNat).length < 140737488355328
          ·rw [if_pos c12] at H
           have LMc12 := Aside0.mk c12
           clear c12
           obtain ⟨y370, hy370⟩ : ∃ y_ : List Int, y_ = (y366 ++ (l0.drop (a1 : Int).toNat)) := ⟨_, rfl⟩
           replace H : (some (x7_2, y370, 0)) = some (r1, r2, r3) := by first | (rw [hy370]; with_reducible exact H) | (have H2_ := (Option.bind_some _ _).symm.trans H; rw [hy370]; with_reducible exact H2_) | (have H2_ := (Option.bind_some _ _).symm.trans H; with_reducible exact H2_) | with_reducible exact H | (rw [hy370]; exact H) | exact H
           have Ny370 := Aside0.mk hy370
           clear hy370
           simp only [Option.some.injEq, Prod.mk.injEq] at H
           obtain ⟨rfl, rfl, rfl⟩ := H
           go_wp2_with (first | ((with_reducible refine gate_dst (N := 33) rfl ?_); refine Kd.R_lit (Kd.int .u8) _ 5 ?hg (N := 33) ?hd (xs := ([] : List Int)) (inner := []) (ok := fun _ => True) (okp := fun _ => True) ?hr ?hp (fun _ hk => hk) trivial (Below.refl _ _) (Nat.le_refl _) (by simp) ?_; (case hd => rfl); (case hg => rfl); (case hr => first | (go_simp; done) | (go_simp; rfl)); (case hp => exact (Reps.none _ _)); intro v367 w13 ho14 hb hg_ hnew_; clear hg_ hnew_; (first | rw [← Ny366.out] at ho14 | (simp only [Int.reduceToNat] at ho14; rw [← Ny366.out] at ho14)); have n0_ := Aside0.mk (Kd.R_lower ho14 (below_size q0_)); have n1_ := Aside0.mk (below_step q0_ hb); clear HB; have HO368 := n0_; have HB := n1_; clear n0_ n1_; clear hb ho14; obtain ⟨i015, hi015, _, hsz15, _⟩ := info_parts info5; obtain ⟨A15, hcut15, hA15, hC15⟩ := print_drop_of (P := Tryd.prog) (Value.int .u8) 0 35 5 .i64 Tryd.underlying35 hi015 hsz15 A0 c0 l0 a1 (of_decide_eq_true q7_) (of_decide_eq_true q7_) HC0.out; have HR369 := Aside0.mk (Kd.C_of_reads (h1 := fun _ => rfl) (hA15 _ (Kd.reads_of_C HR0.out))); have HC369 := Aside0.mk hC15; clear hA15 hC15 hi015 hsz15) | ((with_reducible refine gate_builtin (b := .append) (xs := #[.tmp 33, .tmp 36]) rfl ?_); at_builtin; refine Kd.R_append_rows (Kd.int .u8) (w0 := w) w.heap.size rfl (.tmp 33) (.tmp 36) 35 5 (.int .u8 0) 1 rfl Tryd.underlying35 info5 rfl q81_ (by omega) v367 y366 (l0.drop (a1 : Int).toNat) _ _ _ (fun _ => True) (fun _ => False) rfl rfl ?aO ?aR (fun _ _ h => h) (fun _ h => h.elim) ?aF ?aB ?aS ?aL ?_; (case aR => first | (rw [← List.length_take]; repeat (first | exact (Kd.C_below HR369.out HB.out) | (with_reducible refine Kd.C_alloc ?_ _) | (with_reducible refine Kd.C_drewN ?_ _) | (with_reducible refine Kd.C_drew ?_))) | (rw [← show (l0.drop (a1 : Int).toNat).length = (l0.length - a1.toNat) from List.length_drop]; repeat (first | exact (Kd.C_below HR369.out HB.out) | (with_reducible refine Kd.C_alloc ?_ _) | (with_reducible refine Kd.C_drewN ?_ _) | (with_reducible refine Kd.C_drew ?_))) | (repeat (first | exact (Kd.C_below HR369.out HB.out) | (with_reducible refine Kd.C_alloc ?_ _) | (with_reducible refine Kd.C_drewN ?_ _) | (with_reducible refine Kd.C_drew ?_)))); (case aB => exact q0_); (case aF => exact (fun _ _ => trivial)); (case aO => exact (by (with_reducible repeat (first | apply Kd.R_alloc | apply Kd.R_drewN | apply Kd.R_drew)); exact HO368.out)); (case aS => exact (below_size q0_)); (case aL => have := LMc12.out; have hlx_ := (show (l0.drop (a1 : Int).toNat).length = (l0.length - a1.toNat) from List.length_drop); omega); intro v371 w16 ho hb hg hat; rw [← Ny370.out] at ho; have n0_ := Aside0.mk (hb); have n1_ := Aside0.mk (ho); clear HB; clear HO368; have HB := n0_; have HO372 := n1_; clear n0_ n1_; clear ho hb hg hat))
           go_ret3
           exact ⟨_, by first | rfl | (simp [errW_none, errW_some] <;> rfl) | (simp [*, errW_none, errW_some] <;> rfl), by (with_reducible repeat (first | apply Kd.R_alloc | apply Kd.R_drewN | apply Kd.R_drew)); exact HO372.out, by repeat (first | (with_reducible first | exact HB.out | apply below_alloc | apply pw_below_drewN | apply below_drew1) | exact HB.out)⟩
          ·rw [if_neg c12] at H
           exact absurd H (by simp)
         ·rw [if_neg c11] at H
          exact absurd H (by simp)
        ·rw [if_neg c10] at H
         exact absurd H (by simp)
theorem cambiumref01_Take.calls (k : Nat) (A0 : Option Addr) (c0 : Nat) (l0 : List Int) (a1 : Int) (r1 : Int) (r2 : List Int) (r3 : Int) (w : World) (hr0 : Kd.C (Kd.int .u8) w A0 l0.length l0) (hc0 : l0.length ≤ c0) (h : cambiumref01_Take.f k l0 a1 = some (r1, r2, r3)) :
  Calls Tryd.prog 39 #[.slice A0 l0.length c0, .int .i64 a1] w fun e w' => ∃ v1_ : Value, e = .returned (.tuple #[.int .i64 r1, v1_, .int .i64 r3]) ∧ Kd.V (Kd.int .u8) 5 w' w.heap.size (fun k_ => (w.heap.size ≤ k_)) v1_ r2 ∧ Below w.heap.size w w' := by
 refine (cambiumref01_Take.callsR k A0 c0 l0 a1 r1 r2 r3 w hr0 hc0 h).mono ?_
 rintro e w' ⟨v_, rfl, ho, hb⟩
 exact ⟨v_, rfl, Kd.V_mono (Kd.R_V (Kd.R_bound ho)) (fun k_ hk => hk.2.1), hb⟩
end Go.Proofs.YtgklipfeheohkaaDoor.P
