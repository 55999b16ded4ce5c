import Derived.Test.YtgklipfeheohkaaDoorNameP
import Derived.Test.YtgklipfeheohkaaDoorVStr
import Derived.Test.YtgklipfeheohkaaDoorSep
import Derived.Test.YtgklipfeheohkaaDoorShelf
import Derived.Lib.OthersKept
import Derived.ArgAppend
import Derived.Lib.SplitLaws
import Derived.Lib.Join
import Derived.Lib.IndexBytes
import Derived.LoopTactic
namespace Go.Proofs.YtgklipfeheohkaaDoor.P
open Go.RowKit Go.Proofs.YtgklipfeheohkaaDoorW.PrintWords Go.Proofs.YtgklipfeheohkaaDoorW.PrintLast Go.Proofs.YtgklipfeheohkaaDoorW.PrintMore Go.Proofs.YtgklipfeheohkaaDoor.Sep
set_option linter.unusedVariables false
theorem below_iter_ (w : World) (s : ByteArray) (p : Nat) : Below w.heap.size w (w.iter s p) := (Below.refl _ _).alloc (Nat.le_refl _) _
theorem toList_inj {s : ByteArray} {l : List UInt8} (h : s.toList = l) : s = ⟨l.toArray⟩ := by
  rw [ByteArray.toList_eq] at h
  cases s with
  | mk d => rw [← h]
set_option maxHeartbeats 4000000 in
set_option maxRecDepth 100000 in
theorem name_Valid.calls (s : ByteArray) (w : World) :
    Calls Tryd.prog 25 #[.string s] w fun e w' => e = .returned (.int .i64 (validR s)) ∧ Below w.heap.size w w' := by
  by_cases h20 : s.size > 20
  · have d1 : decide ((s.size : Int) > 20) = true := decide_eq_true (by omega)
    have hv : validR s = 7 := by unfold validR; rw [if_pos h20]
    rw [hv]
    have HB := Aside0.mk (Below.refl w.heap.size w)
    clear h20 hv
    go_enter Tryd.func25, Tryd.ntmps25
    go_wp2
    go_ret
    exact ⟨rfl, HB.out⟩
  · have d1 : decide ((s.size : Int) > 20) = false := decide_eq_false (by omega)
    have d1' : decide (20 < s.size) = false := decide_eq_false (by omega)
    have HS := Aside0.mk (show s.size ≤ 20 by omega)
    have hv20 : ∀ (x : Int), (if s.size > 20 then (7 : Int) else x) = x := fun x => if_neg h20
    by_cases hd : s = ⟨#[]⟩ ∨ s = ⟨#[46]⟩ ∨ s = ⟨#[46, 46]⟩
    · have hv : validR s = 12 := by unfold validR; rw [hv20, if_pos hd]
      rw [hv]
      have HB := Aside0.mk (Below.refl w.heap.size w)
      clear h20 hv hv20 d1 d1'
      rcases hd with rfl | rfl | rfl
      · go_enter Tryd.func25, Tryd.ntmps25
        go_wp2
        go_ret
        exact ⟨rfl, HB.out⟩
      · go_enter Tryd.func25, Tryd.ntmps25
        go_wp2
        go_ret
        exact ⟨rfl, HB.out⟩
      · go_enter Tryd.func25, Tryd.ntmps25
        go_wp2
        go_ret
        exact ⟨rfl, HB.out⟩
    · have hne : s ≠ ⟨#[]⟩ ∧ s ≠ ⟨#[46]⟩ ∧ s ≠ ⟨#[46, 46]⟩ := ⟨fun q => hd (Or.inl q), fun q => hd (Or.inr (Or.inl q)), fun q => hd (Or.inr (Or.inr q))⟩
      obtain ⟨n1, n2, n3⟩ := hne
      have t1 : ¬ s.toList = [] := fun q => n1 (toList_inj q)
      have t2 : ¬ s.toList = [46] := fun q => n2 (toList_inj q)
      have t3 : ¬ s.toList = [46, 46] := fun q => n3 (toList_inj q)
      have e1 : s.toList.isEmpty = false := by cases hq : s.toList with
        | nil => exact absurd hq t1
        | cons => rfl
      have e2 : (s.toList == [46]) = false := beq_false_of_ne t2
      have e3 : (s.toList == [46, 46]) = false := beq_false_of_ne t3
      have HV := Aside0.mk (show validR s = if anyBad s then 12 else 0 by unfold validR; rw [hv20, if_neg hd])
      have HB := Aside0.mk (Below.refl w.heap.size w)
      clear h20 hv20 hd
      go_enter Tryd.func25, Tryd.ntmps25
      go_wp2_with fail
      go_loopw [4] (fun _ w' => ∃ pos : Nat, w' = w.iter s pos ∧ Aside0 (Clean s pos)) (fun _ w' => s.size - w'.iterPos w.heap.size)
      case atStart => exact ⟨0, rfl, ⟨fun j hj => absurd hj (Nat.not_lt_zero _)⟩⟩
      case round =>
        obtain ⟨pos, rfl, HC⟩ := hrel
        by_cases hp : pos < s.size
        · have hnx : ∀ ty, (Instr.next (.pointer (some ⟨w.heap.size, 0, none⟩)) true ty).run Tryd.prog (w.iter s pos) = _ := fun ty => run_next_any w s pos ty hp
          have hwd := width_pos s pos hp
          by_cases hb : (Utf8.decode s pos).1 = 0 ∨ (Utf8.decode s pos).1 = 47
          · have HR := Aside0.mk (show validR s = 12 by rw [HV.out, bad_rune hp hb]; rfl)
            rcases hb with hb | hb <;> rw [hb] at hnx
            all_goals
              clear hb hwd hp
              go_wp2
              go_ret
              exact ⟨by rw [HR.out]; rfl, below_iter_ w s _⟩
          · obtain ⟨c, hc⟩ : ∃ c, (Utf8.decode s pos).1 = c := ⟨_, rfl⟩
            have HC' := Aside0.mk (clean_step hp HC.out (fun q => hb (Or.inl q)) (fun q => hb (Or.inr q)))
            rw [hc] at hnx hb
            have h0 : ¬ c = 0 := fun q => hb (Or.inl q)
            have h47 : ¬ c = 47 := fun q => hb (Or.inr q)
            have z1 : decide ((c : Int) = 0) = false := decide_eq_false (by omega)
            have z2 : decide ((c : Int) = 47) = false := decide_eq_false (by omega)
            have z3 : ((c : Int) == 0) = false := beq_false_of_ne (by omega)
            have z4 : ((c : Int) == 47) = false := beq_false_of_ne (by omega)
            clear hb hc
            go_wp2
            go_roundw
            case rel => exact ⟨pos + (Utf8.decode s pos).2, rfl, HC'⟩
            case measure =>
              simp
              omega
        · have hnx : ∀ ty, (Instr.next (.pointer (some ⟨w.heap.size, 0, none⟩)) true ty).run Tryd.prog (w.iter s pos) = _ := fun ty => run_next_end w s pos ty hp
          have HR := Aside0.mk (show validR s = 0 by rw [HV.out, anyBad_no (fun j hj hjs => HC.out j (by omega) hjs)]; rfl)
          clear hp
          go_wp2
          go_ret
          exact ⟨by rw [HR.out]; rfl, below_iter_ w s _⟩
def partsB (s : ByteArray) : List ByteArray := Lib.splitB ⟨#[47]⟩ 0 (Lib.countB s ⟨#[47]⟩) s
/-- The first name's fault. -/
def firstErr : List ByteArray → Int
  | [] => 0
  | x :: r => if validR x = 0 then firstErr r else validR x
theorem firstErr_all : ∀ (T : List ByteArray), (∀ q, q < T.length → validR (T.getD q ⟨#[]⟩) = 0) → firstErr T = 0
  | [], _ => rfl
  | x :: r, h => by
    have h0 : validR x = 0 := h 0 (by simp)
    unfold firstErr
    rw [if_pos h0]
    exact firstErr_all r (fun q hq => h (q + 1) (by simpa using hq))
theorem firstErr_at : ∀ (T : List ByteArray) (j : Nat), j < T.length → (∀ q, q < j → validR (T.getD q ⟨#[]⟩) = 0) → validR (T.getD j ⟨#[]⟩) ≠ 0 → firstErr T = validR (T.getD j ⟨#[]⟩)
  | [], j, hj, _, _ => absurd hj (Nat.not_lt_zero j)
  | x :: r, 0, _, _, hn => by
    have hn' : validR x ≠ 0 := hn
    unfold firstErr
    rw [if_neg hn']
    rfl
  | x :: r, j + 1, hj, h, hn => by
    have h0 : validR x = 0 := h 0 (Nat.succ_pos j)
    unfold firstErr
    rw [if_pos h0]
    exact firstErr_at r j (by simpa using hj) (fun q hq => h (q + 1) (by omega)) hn
/-- A path within, cut. -/
def cutR (s : ByteArray) : List ByteArray × Int := if s.size > 200 then ([], 7) else if firstErr (partsB s) = 0 then (partsB s, 0) else ([], firstErr (partsB s))
def stream_Cut.f (s : ByteArray) : Option (List ByteArray × Int) := some (cutR s)
theorem split_slash (s : ByteArray) (w : World) (hs : s.size < 4294967281) :
    Calls Tryd.prog 24 #[.string s, .string ⟨#[47]⟩] w fun e w' => e = .returned (.slice (some ⟨w.heap.size, 0, none⟩) (partsB s).length (partsB s).length) ∧ w' = w.alloc (.cells ((partsB s).map Value.string).toArray 9) := by
  have h1 : 1 ≤ (⟨#[47]⟩ : ByteArray).size := by decide
  have hle := Lib.countB_le ⟨#[47]⟩ h1 s.size s (Nat.le_refl _)
  have hlen := Lib.splitB_all ⟨#[47]⟩ h1 0 _ s rfl
  have c := Any.strings_genSplit_core Tryd.lays221 (by kernel_rfl) s ⟨#[47]⟩ 0 (-1) (Lib.countB s ⟨#[47]⟩ + 1) w hs h1 (Nat.zero_le _)
    (fun x c hx => by
      refine (Tryd.strings_Index_one x 47 _).mono ?_
      rintro e w' ⟨rfl, rfl⟩
      exact ⟨by rw [← Lib.index_one], rfl⟩)
    (by
      refine (Tryd.strings_Count_one s 47 w).mono ?_
      rintro e w' ⟨rfl, rfl⟩
      refine ⟨?_, rfl⟩
      show _ = Ending.returned (Value.int .i64 ((Lib.count s.data.toList [47] : Nat) : Int))
      rw [Lib.count_one]
      rfl)
    (by decide) (by decide) (by rw [if_pos (by decide)]; omega)
  rw [Nat.add_sub_cancel, hlen] at c
  have e2 : Lib.cellsOf (Lib.splitB ⟨#[47]⟩ 0 (Lib.countB s ⟨#[47]⟩) s) (Lib.countB s ⟨#[47]⟩ + 1) = ((Lib.splitB ⟨#[47]⟩ 0 (Lib.countB s ⟨#[47]⟩) s).map Value.string).toArray := by rw [← hlen]; exact Lib.cellsOf_full _
  rw [e2, ← hlen] at c
  have c2 : Calls Tryd.prog 42 #[.string s, .string ⟨#[47]⟩, .int .i64 0, .int .i64 (-1)] w fun e w' => e = .returned (.slice (some ⟨w.heap.size, 0, none⟩) (partsB s).length (partsB s).length) ∧ w' = w.alloc (.cells ((partsB s).map Value.string).toArray 9) := c
  have HK := Aside0.mk c2
  clear c c2 e2 hlen hle h1
  go_enter Tryd.func24, Tryd.ntmps24
  go_wp2_with (go_at_call 42; refine HK.out.mono ?_; rintro e w' ⟨rfl, hw⟩; rw [hw])
  go_ret
  exact ⟨rfl, rfl⟩
set_option maxHeartbeats 8000000 in
set_option maxRecDepth 100000 in
theorem stream_Cut.calls (a0 : ByteArray) (r1 : List ByteArray) (r2 : Int) (w : World) (h : stream_Cut.f a0 = some (r1, r2)) :
    Calls Tryd.prog 10 #[.string a0] w fun e w' => ∃ v0_ : Value, e = .returned (.tuple #[v0_, .int .i64 r2]) ∧ Kd.R Kd.string 9 w' w.heap.size (fun _ => True) v0_ r1 ∧ Below w.heap.size w w' := by
  have hc : cutR a0 = (r1, r2) := Option.some.inj h
  clear h
  unfold cutR at hc
  have HB := Aside0.mk (Below.refl w.heap.size w)
  by_cases h2 : a0.size > 200
  · rw [if_pos h2] at hc
    obtain ⟨rfl, rfl⟩ := Prod.mk.inj hc
    have d1 : decide ((a0.size : Int) > 200) = true := decide_eq_true (by omega)
    clear hc h2
    go_enter Tryd.func10, Tryd.ntmps10
    go_wp2
    go_ret2
    exact ⟨.slice none 0 0, rfl, Kd.R_nil _ _ _ _ _, HB.out⟩
  · rw [if_neg h2] at hc
    have d1 : decide ((a0.size : Int) > 200) = false := decide_eq_false (by omega)
    have d1' : decide (200 < a0.size) = false := decide_eq_false (by omega)
    have K := split_slash a0 w (by omega)
    have hl : (partsB a0).length ≤ 1000 := by
      have h1 : 1 ≤ (⟨#[47]⟩ : ByteArray).size := by decide
      have hle := Lib.countB_le ⟨#[47]⟩ h1 a0.size a0 (Nat.le_refl _)
      have hlen : (partsB a0).length = _ := Lib.splitB_all ⟨#[47]⟩ h1 0 _ a0 rfl
      omega
    obtain ⟨T, hT⟩ : ∃ T, partsB a0 = T := ⟨_, rfl⟩
    rw [hT] at K hl hc
    obtain ⟨w2, hw2⟩ : ∃ w2, w.alloc (.cells (T.map Value.string).toArray 9) = w2 := ⟨_, rfl⟩
    rw [hw2] at K
    have HS := Aside0.mk (show St w w2 [row Kd.string 9 (.slice (some ⟨w.heap.size, 0, none⟩) T.length T.length) T] by
      rw [← hw2]
      exact (St.start w).row_new (ok := fun _ => True) (below_alloc (Below.refl _ _) _) (Kd.R_of_own (h1 := fun _ => rfl) (own_lit_of (enc := Value.string) w w.heap.size 9 T (Nat.le_refl _) (by omega)) (fun _ _ => trivial)))
    have HR := Aside0.mk (show Kd.R Kd.string 9 w2 w.heap.size (fun _ => True) (.slice (some ⟨w.heap.size, 0, none⟩) T.length T.length) T by
      rw [← hw2]
      exact Kd.R_of_own (h1 := fun _ => rfl) (own_lit_of (enc := Value.string) w w.heap.size 9 T (Nat.le_refl _) (by omega)) (fun _ _ => trivial))
    have HC := Aside0.mk HS.out.row_C.2.2
    have HB2 := Aside0.mk HS.out.below
    have HK := Aside0.mk K
    have HL := Aside0.mk hl
    have HH := Aside0.mk hc
    clear K hT hw2 hl hc h2
    go_enter Tryd.func10, Tryd.ntmps10
    go_wp2_with (go_at_call 24; refine HK.out.mono ?_; rintro e w' ⟨rfl, hw'⟩; have hw'' := hw'.symm; clear hw'; subst hw'')
    go_loopw [6, 7, 15] (fun _ _ i wr => ∃ j : Nat, i = .int .i64 j ∧ j ≤ T.length ∧ Aside0 (Below w2.heap.size w2 wr) ∧ Aside0 (∀ q, q < j → validR (T.getD q ⟨#[]⟩) = 0)) (fun _ _ i _ => T.length - (intOf i).toNat)
    case atStart => exact ⟨0, rfl, Nat.zero_le _, ⟨Below.refl _ _⟩, ⟨fun q hq => absurd hq (Nat.not_lt_zero _)⟩⟩
    case round =>
      obtain ⟨j, rfl, hj, HB4, HZ⟩ := hrel
      rename_i wr
      by_cases hlt : j < T.length
      · have l2 : (j : Int) < (T.length : Int) := Int.ofNat_lt.2 hlt
        have l1 : decide ((j : Int) < (T.length : Int)) = true := decide_eq_true l2
        obtain ⟨ad, he, hcell⟩ := Kd.at_string (Kd.C_below HC.out HB4.out) (j : Int) (Int.natCast_nonneg j) l2
        injection he with he
        subst he
        rw [Int.toNat_natCast, show (⟨w.heap.size, 0, none⟩ : Addr).add j = ⟨w.heap.size, j, none⟩ from by by_cases h0 : j = 0 <;> simp [Addr.add, h0], show rdOf ByteArray.empty T (j : Int) = T.getD j ⟨#[]⟩ from by unfold rdOf; rw [Int.toNat_natCast]; rfl] at hcell
        obtain ⟨y, hy⟩ : ∃ y, T.getD j ⟨#[]⟩ = y := ⟨_, rfl⟩
        obtain ⟨v, hv⟩ : ∃ v, validR y = v := ⟨_, rfl⟩
        have HV := Aside0.mk (show validR (T.getD j ⟨#[]⟩) = v by rw [hy]; exact hv)
        have HKV := Aside0.mk (hv ▸ name_Valid.calls y wr)
        rw [hy] at hcell
        have HLT := Aside0.mk hlt
        have wi : wrap64 ((j : Int) + 1) = ((j + 1 : Nat) : Int) := by have := HL.out; unfold wrap64; omega
        clear hy hv hlt hj
        by_cases hv0 : v = 0
        · subst hv0
          go_wp2_with (go_at_call 25; refine HKV.out.mono ?_; rintro e w5 ⟨rfl, hb5⟩)
          go_roundw
          case rel =>
            refine ⟨j + 1, by rw [wi], HLT.out, ⟨below_step HB4.out hb5⟩, ⟨fun q hq => ?_⟩⟩
            by_cases hqj : q < j
            · exact HZ.out q hqj
            · obtain rfl : q = j := by omega
              exact HV.out
          case measure =>
            rw [wi]
            have := HLT.out
            show T.length - (((j + 1 : Nat) : Int)).toNat < T.length - ((j : Nat) : Int).toNat
            rw [Int.toNat_natCast, Int.toNat_natCast]
            omega
        · have z1 : (v != 0) = true := by simpa using hv0
          have z2 : decide (v = 0) = false := decide_eq_false hv0
          have z3 : (v == 0) = false := beq_false_of_ne hv0
          have hE : firstErr T = v := by rw [← HV.out]; exact firstErr_at T j HLT.out HZ.out (by rw [HV.out]; exact hv0)
          have hh := HH.out
          rw [hE, if_neg hv0] at hh
          obtain ⟨rfl, rfl⟩ := Prod.mk.inj hh
          clear hh hE hv0
          go_wp2_with (go_at_call 25; refine HKV.out.mono ?_; rintro e w5 ⟨rfl, hb5⟩)
          go_ret2
          exact ⟨.slice none 0 0, rfl, Kd.R_nil _ _ _ _ _, below_step HB2.out (below_step HB4.out hb5)⟩
      · have l1 : decide ((j : Int) < (T.length : Int)) = false := decide_eq_false (by omega)
        have l1n : decide (j < T.length) = false := decide_eq_false hlt
        have hE : firstErr T = 0 := firstErr_all T (fun q hq => HZ.out q (by omega))
        have hh := HH.out
        rw [hE, if_pos rfl] at hh
        obtain ⟨rfl, rfl⟩ := Prod.mk.inj hh
        have HR4 := Aside0.mk (Kd.R_below HR.out HB4.out)
        have HB5 := Aside0.mk (below_step HB2.out HB4.out)
        clear hh hE hlt hj
        go_wp2_with fail
        go_ret2
        exact ⟨_, rfl, HR4.out, HB5.out⟩
theorem data_inj {a b : ByteArray} (h : a.data.toList = b.data.toList) : a = b := by
  cases a with | mk a => cases b with | mk b => congr 1; exact Array.toList_inj.1 h
def asB (l : List UInt8) : ByteArray := ⟨l.toArray⟩
theorem asB_data (l : List UInt8) : (asB l).data.toList = l := rfl
theorem asB_of (s : ByteArray) : asB s.data.toList = s := by cases s; rfl
theorem size_is (s : ByteArray) : s.data.toList.length = s.size := by cases s; simp [ByteArray.size]
end Go.Proofs.YtgklipfeheohkaaDoor.P
namespace Go.Proofs.YtgklipfeheohkaaDoor.Own
open Go.RowKit Go.Proofs.YtgklipfeheohkaaDoorW.PrintWords Go.Proofs.YtgklipfeheohkaaDoorW.PrintLast Go.Proofs.YtgklipfeheohkaaDoorW.PrintMore
/-- append(xs, y), xs a full row that is read: a new row. -/
theorem append_marked {P : Program} {ops : Array Oper} {rest : List Oper} {o : Oper} {a : Act} {Q : Exit → Act → World → Prop} {W : World} (hg : o.guard = none) (s x : Operand) (t e : TypeId) (hop : o.op = Op.call { callee := Callee.builtin Builtin.append, args := #[s, x], argTypes := #[t, t] })
    (h1 : P.underlying t = some (.slice e)) (hinfo : (P.info? e).map (fun i => (i.zero, i.size, i.bytes)) = some (some (.int .u8 0), 1, 1)) (A : Option Addr) (xs : List Int) (hs : a.eval s = .slice A xs.length xs.length) (hC : Kd.C (Kd.int .u8) W A xs.length xs) (hx0 : 0 < xs.length) (y : Int)
    (hx : a.eval x = .slice (some ⟨W.heap.size, 0, none⟩) 1 1) (hl : xs.length ≤ 1000)
    (h : ∀ v1 w1, Kd.R (Kd.int .u8) e w1 W.heap.size (fun _ => True) v1 (xs ++ [y]) → Below W.heap.size W w1 → wpList P ops Q rest (a.put o.dst v1) w1) :
    wpList P ops Q (o :: rest) a (W.alloc (.cells #[.int .u8 y] e)) := by
  obtain ⟨i, hi, hz, hsz, hby⟩ := info_parts hinfo
  have hr := Kd.reads_of_C (d := (0 : Int)) hC
  refine wpList_append_grows _ hg s x t hop e i (.int .u8 0) 1 1 h1 hi hz hsz hby rfl (by decide) A xs.length xs.length (encs (Value.int .u8) xs) hs ?_ (by rw [encs_length, Nat.mul_one]) ?_ ⟨W.heap.size, 0, none⟩ 1 1 [.int .u8 y] hx rfl ?_ ?_ (by omega) (by simp only [maxLen]; omega) (by omega) ?_
  · intro hA
    subst hA
    obtain ⟨ad, he, _⟩ := hr.at_ 0 (by decide) (by omega)
    cases he
  · intro b hb j u hj
    subst hb
    obtain ⟨hlt, hu⟩ := List.getElem?_eq_some_iff.1 hj
    rw [encs_length] at hlt
    obtain ⟨ad, he, hc⟩ := hr.at_ (j : Int) (Int.natCast_nonneg j) (by omega)
    cases he
    rw [Int.toNat_natCast] at hc
    have hold := World.cell?_alloc_old W (.cells #[.int .u8 y] e) (b.add j) (Nat.ne_of_lt (World.block_lt_of_cell? _ _ hc))
    rw [hold, hc, ← hu]
    simp [encs, rdOf, List.getD_eq_getElem?_getD, List.getElem?_eq_getElem hlt]
  · intro j u hj
    have : j = 0 := by
      rcases j with _ | j
      · rfl
      · simp at hj
    subst this
    obtain rfl : Value.int .u8 y = u := by simpa using hj
    rw [show (⟨W.heap.size, 0, none⟩ : Addr).add 0 = ⟨W.heap.size, 0, none⟩ from by simp [Addr.add]]
    exact cell_of_row _ _ _ _ _ _ (heap_alloc_new W _)
  · intro u hu
    obtain rfl := List.mem_singleton.1 hu
    rfl
  · intro v1 w1 ho hgr
    refine h v1 w1 (Kd.R_of_own (h1 := fun _ => rfl) (enc := Value.int .u8) ?_ (fun _ _ => trivial)) ?_
    · rw [List.length_append, List.length_singleton]
      have e1 : encs (Value.int .u8) xs ++ [Value.int .u8 y] = encs (Value.int .u8) (xs ++ [y]) := by simp [encs]
      rw [← e1]
      exact own_weaken ho (by simp)
    · exact ⟨hgr.os, hgr.tape, hgr.output, Nat.le_trans (by simp) hgr.size, fun k hk => (hgr.block k (by simp; omega) (by simp)).trans (heap_alloc_old W _ hk)⟩
end Go.Proofs.YtgklipfeheohkaaDoor.Own
