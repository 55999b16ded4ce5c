/- name.Join and name.Parent, walked. -/
import Derived.Test.YtafgfaimenccdaaDoorNameQ
import Derived.Test.YtafgfaimenccdaaDoorSep
import Derived.Lib.Join
import Derived.Deep.RegionHeld3
namespace Go.Proofs.YtafgfaimenccdaaDoor.P
open Go.RowKit Go.Proofs.YtafgfaimenccdaaDoorW.PrintWords Go.Proofs.YtafgfaimenccdaaDoorW.PrintLast Go.Proofs.YtafgfaimenccdaaDoorW.PrintMore Go.Proofs.YtafgfaimenccdaaDoor.Sep
set_option linter.unusedVariables false
theorem row_lit {w0 w : World} {ps : List HP} (h : St w0 w ps) (e : Nat) (xs : List ByteArray) (hm : xs.length ≤ 1000) : St w0 (w.alloc (.cells (encs Value.string xs).toArray e)) (row Kd.string e (.slice (some ⟨w.heap.size, 0, none⟩) xs.length xs.length) xs :: ps) :=
  h.row_new (ok := fun _ => True) (below_alloc (Below.refl _ _) _) (Kd.R_of_own (h1 := fun _ => rfl) (own_lit_of (enc := Value.string) w w.heap.size e xs (Nat.le_refl _) (by omega)) (fun _ _ => trivial))
/-- What is between the slashes. -/
def gluR (l : List ByteArray) : ByteArray := asB (Lib.join (l.map (·.data.toList)) [47])
/-- A label and names, put together. -/
def pathR (a : ByteArray) (l : List ByteArray) : ByteArray := (⟨#[47]⟩ : ByteArray) ++ gluR (a :: l)
theorem pathR_data (a : ByteArray) (l : List ByteArray) : (pathR a l).data.toList = 47 :: Lib.join ((a :: l).map (·.data.toList)) [47] := by
  unfold pathR gluR
  rw [ByteArray.data_append, Array.toList_append]
  rfl
theorem cell_plain {w : World} {ad : Addr} {v : Value} (h : w.cell? ad = some v) : ad = ⟨ad.block, ad.off, none⟩ ∧ ad.block < w.heap.size := by
  unfold World.cell? at h
  split at h
  · rename_i c _ _ hb
    by_cases hs : ad.spot.isSome = true
    · rw [if_pos hs] at h
      cases h
    · refine ⟨?_, (Array.getElem?_eq_some_iff.1 hb).1⟩
      cases ad with
      | mk b o s => cases s with
        | none => rfl
        | some _ => exact absurd rfl hs
  · cases h
/-- Where a row of strings that is read lies. -/
theorem strs_at {w : World} {A : Option Addr} {xs : List ByteArray} (h : Kd.C Kd.string w A xs.length xs) (h1 : 0 < xs.length) : ∃ b o, A = some ⟨b, o, none⟩ ∧ b < w.heap.size ∧ ∀ j, j < xs.length → w.cell? ⟨b, o + j, none⟩ = some (.string (xs.getD j ByteArray.empty)) := by
  have hr := Kd.reads_of_C (d := ByteArray.empty) h
  obtain ⟨ad, rfl, h0⟩ := hr.at_ 0 (by decide) (by omega)
  rw [show ad.add (0 : Int).toNat = ad from by simp [Addr.add]] at h0
  obtain ⟨hp, hb⟩ := cell_plain h0
  refine ⟨ad.block, ad.off, by rw [← hp], hb, fun j hj => ?_⟩
  obtain ⟨ad', he, hc⟩ := hr.at_ (j : Int) (Int.natCast_nonneg j) (by omega)
  cases he
  rw [hp] at hc
  rw [Int.toNat_natCast] at hc
  rw [show (⟨ad.block, ad.off + j, none⟩ : Addr) = (⟨ad.block, ad.off, none⟩ : Addr).add j from by by_cases q : j = 0 <;> simp [Addr.add, q], hc]
  unfold rdOf
  rw [Int.toNat_natCast]
/-- strings.Join at any row of strings. -/
theorem join_row (A : Option Addr) (c : Nat) (xs : List ByteArray) (w : World) (hC : Kd.C Kd.string w A xs.length xs) (hc : xs.length ≤ c) (hl : xs.length ≤ 2000) (hz : (gluR xs).size ≤ 1099511627776) :
    Calls Tryd.prog 29 #[.slice A xs.length c, .string ⟨#[47]⟩] w fun e w' => e = .returned (.string (gluR xs)) ∧ Below w.heap.size w w' := by
  by_cases h0 : 0 < xs.length
  · obtain ⟨b, o, rfl, hb, hcell⟩ := strs_at hC h0
    refine Tryd.strings_Join b o c xs ⟨#[47]⟩ w (fun j x hx => ?_) hb (by omega) hc ?_
    · obtain ⟨hj, hx⟩ := List.getElem?_eq_some_iff.1 hx
      rw [hcell j hj, List.getD_eq_getElem?_getD, List.getElem?_eq_getElem hj, ← hx]
      rfl
    · rw [← size_is] at hz
      unfold gluR at hz
      rw [asB_data] at hz
      exact Nat.le_trans hz (by decide)
  · obtain rfl : xs = [] := List.eq_nil_of_length_eq_zero (by omega)
    refine (Tryd.strings_Join_none A c ⟨#[47]⟩ w).mono ?_
    rintro e w' ⟨rfl, rfl⟩
    exact ⟨rfl, Below.refl _ _⟩
theorem info_str : (Tryd.prog.info? 9).map (fun i => (i.zero, i.size, i.bytes)) = some (some (.string ByteArray.empty), 1, 16) := by kernel_rfl
set_option maxHeartbeats 4000000 in
set_option maxRecDepth 100000 in
theorem name_Join.st (a : ByteArray) (A : Option Addr) (c : Nat) (l : List ByteArray) (w : World) (hr : Kd.C Kd.string w A l.length l) (hc : l.length ≤ c) (hl : l.length ≤ 1000) (hz : (gluR (a :: l)).size ≤ 1099511627776) :
    Calls Tryd.prog 20 #[.string a, .slice A l.length c] w fun e w' => e = .returned (.string (pathR a l)) ∧ Below w.heap.size w w' := by
  have H1 := Aside0.mk (row_lit (St.start w) 9 [a] (by simp))
  have HR := Aside0.mk (Kd.C_alloc hr (.cells (encs Value.string [a]).toArray 9))
  have HL := Aside0.mk hl
  obtain ⟨g, hg⟩ : ∃ g, gluR (a :: l) = g := ⟨_, rfl⟩
  have HZ := Aside0.mk hz
  have hgl : (⟨#[47]⟩ : ByteArray).size + (gluR (a :: l)).size ≤ 9223372036854775807 := by
    have : (⟨#[47]⟩ : ByteArray).size = 1 := rfl
    omega
  have HG := Aside0.mk hgl
  rw [show pathR a l = (⟨#[47]⟩ : ByteArray) ++ g from by rw [← hg]; rfl]
  clear hr hl hz hgl
  go_enter Tryd.func20, Tryd.ntmps20
  go_wp2_with (first
    | ((with_reducible refine gate_builtin (b := .append) (xs := #[.tmp 6, .tmp 7]) rfl ?_); at_builtin; refine St.append_rows (d := Kd.string) rfl (.tmp 6) (.tmp 7) 26 9 (.string ByteArray.empty) 16 rfl Tryd.underlying26 info_str rfl (by decide) (by decide) _ [a] l _ _ _ rfl rfl H1.out HR.out (fun _ _ h => h) (show (([a] : List ByteArray).length + l.length) * 16 ≤ 140737488355328 from by have := HL.out; simp; omega) ?_; intro v6 w6 hs6; rw [List.singleton_append] at hs6; have HS6 := Aside0.mk hs6; clear hs6))
  obtain ⟨A6, c6, he6, hc6, hC6⟩ := HS6.out.row_reads
  subst he6
  refine (join_row A6 c6 (a :: l) w6 hC6 hc6 (by have := HL.out; simp; omega) HZ.out).mono ?_
  rintro e w7 ⟨rfl, hb⟩
  have HB := Aside0.mk (HS6.out.below_ hb).below
  have hgl := HG.out
  clear hb hC6 hc6
  rw [hg] at hgl
  rw [hg]
  go_wp2_with fail
  go_ret
  exact ⟨rfl, HB.out⟩
set_option maxHeartbeats 4000000 in
set_option maxRecDepth 100000 in
theorem name_Parent.none_ (A : Option Addr) (c : Nat) (w : World) :
    Calls Tryd.prog 18 #[.slice A 0 c] w fun e w' => e = .returned (.tuple #[.slice none 0 0, .string ⟨#[]⟩, .int .i64 1]) ∧ Below w.heap.size w w' := by
  have HB := Aside0.mk (Below.refl w.heap.size w)
  go_enter Tryd.func18, Tryd.ntmps18
  go_wp2
  go_ret3
  exact ⟨rfl, HB.out⟩
set_option maxHeartbeats 4000000 in
set_option maxRecDepth 100000 in
theorem name_Parent.some_ (A : Option Addr) (c n : Nat) (l : List ByteArray) (w : World) (hr : Kd.C Kd.string w A l.length l) (hc : l.length ≤ c) (hl : l.length ≤ 1000) (hn : l.length = n + 1) :
    Calls Tryd.prog 18 #[.slice A l.length c] w fun e w' => ∃ A1 c1, e = .returned (.tuple #[.slice A1 n c1, .string (l.getD n ByteArray.empty), .int .i64 0]) ∧ n ≤ c1 ∧ Kd.C Kd.string w' A1 (l.take n).length (l.take n) ∧ Below w.heap.size w w' := by
  obtain ⟨b, o, rfl, hb, hcell⟩ := strs_at hr (by omega)
  obtain ⟨x, hx⟩ : ∃ x, l.getD n ByteArray.empty = x := ⟨_, rfl⟩
  have q := hcell n (by omega)
  rw [hx] at q ⊢
  have hlen : (l.take n).length = n := by rw [List.length_take]; omega
  have KC : ∀ W, Below w.heap.size w W → Calls Tryd.prog 28 #[.slice (some ⟨b, o, none⟩) n c] W fun e w' => ∃ A1 c1, e = .returned (.slice A1 n c1) ∧ n ≤ c1 ∧ Kd.C Kd.string w' A1 (l.take n).length (l.take n) ∧ Below W.heap.size W w' := by
    intro W hW
    refine (Tryd.slices_Clone_string b o n c l W (by omega) (by omega) (fun j hj => pw_cell_below hW (hcell j hj))).mono ?_
    rintro e w' ⟨v, rfl, ho, _, hbb⟩
    have hR : Kd.R Kd.string 9 w' W.heap.size (fun _ => True) v (l.take n) := Kd.R_of_own (h1 := fun _ => rfl) (enc := Value.string) (by rw [hlen]; exact ho) (fun _ _ => trivial)
    obtain ⟨A1, c1, rfl, hle, hC⟩ := Kd.R_reads hR
    rw [hlen] at hle
    exact ⟨A1, c1, by rw [hlen], hle, hC, hbb⟩
  have HKC := Aside0.mk KC
  have hw : wrap64 ((l.length : Int) - 1) = (n : Int) := by unfold wrap64; omega
  have h1 : (n : Int) < (l.length : Int) := by omega
  obtain ⟨i, hi, _⟩ := info_parts info_str
  have hcut := cut_to (P := Tryd.prog) 26 9 .i64 Tryd.underlying26 hi (some ⟨b, o, none⟩) l.length c (n : Int) (by omega) (by omega) hc
  rw [Int.toNat_natCast] at hcut
  have hz : ((l.length : Int) == 0) = false := beq_false_of_ne (by omega)
  have hz2 : decide ((l.length : Int) = 0) = false := decide_eq_false (by omega)
  have hz3 : decide (l.length = 0) = false := decide_eq_false (by omega)
  have hz4 : (l.length == 0) = false := beq_false_of_ne (by omega)
  clear hr hcell KC hx hlen hl hn hc hi
  go_enter Tryd.func18, Tryd.ntmps18
  go_wp2_with fail
  go_region_held3 (fun w' => w'.cell? ⟨b, o + n, none⟩ = some (.string x)) (first | exact q | exact pw_cell_below HBB.out q | go_keep) ((go_at_call 28; refine (HKC.out _ (below_drew (Below.refl _ _))).mono ?_; rintro e w7 ⟨A1, c1, rfl, hle, hC, hbb⟩; have HC1 := Aside0.mk hC; have HLE := Aside0.mk hle; have HBB := Aside0.mk hbb; clear hC hle hbb))
  have HBW := Aside0.mk (below_step (below_drew (Below.refl w.heap.size w)) HBB.out)
  go_wp2_with fail
  go_ret3
  exact ⟨A1, c1, rfl, HLE.out, HC1.out, HBW.out⟩
end Go.Proofs.YtafgfaimenccdaaDoor.P
