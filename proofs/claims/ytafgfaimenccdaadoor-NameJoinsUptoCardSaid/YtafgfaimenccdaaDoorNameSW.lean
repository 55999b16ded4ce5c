/- name.Split, walked. -/
import Derived.Test.YtafgfaimenccdaaDoorNameVW
import Derived.Test.YtafgfaimenccdaaDoorShelf
import Derived.Lib.SplitLaws
import Derived.Test.YtafgfaimenccdaaDoorPx1
namespace Go.Proofs.YtafgfaimenccdaaDoor.P
open Go.RowKit Go.Proofs.YtafgfaimenccdaaDoorW.PrintWords Go.Proofs.YtafgfaimenccdaaDoorW.PrintLast
set_option linter.unusedVariables false
/-- What follows the first slash; what slashes part. -/
def restB (s : ByteArray) : ByteArray := ⟨(Lib.trimPrefix s.data.toList [47]).toArray⟩
def partsB (s : ByteArray) : List ByteArray := Lib.splitB ⟨#[47]⟩ 0 (Lib.countB s ⟨#[47]⟩) s
/-- The first name's fault. -/
def firstErr : List ByteArray → Int
  | [] => 0
  | x :: r => if validR x = 0 then firstErr r else validR x
theorem firstErr_all : ∀ (T : List ByteArray), (∀ q, q < T.length → validR (T.getD q ⟨#[]⟩) = 0) → firstErr T = 0
  | [], _ => rfl
  | x :: r, h => by
    have h0 : validR x = 0 := h 0 (by simp)
    unfold firstErr
    rw [if_pos h0]
    exact firstErr_all r (fun q hq => h (q + 1) (by simpa using hq))
theorem firstErr_at : ∀ (T : List ByteArray) (j : Nat), j < T.length → (∀ q, q < j → validR (T.getD q ⟨#[]⟩) = 0) → validR (T.getD j ⟨#[]⟩) ≠ 0 → firstErr T = validR (T.getD j ⟨#[]⟩)
  | [], j, hj, _, _ => absurd hj (Nat.not_lt_zero j)
  | x :: r, 0, _, _, hn => by
    have hn' : validR x ≠ 0 := hn
    unfold firstErr
    rw [if_neg hn']
    rfl
  | x :: r, j + 1, hj, h, hn => by
    have h0 : validR x = 0 := h 0 (Nat.succ_pos j)
    unfold firstErr
    rw [if_pos h0]
    exact firstErr_at r j (by simpa using hj) (fun q hq => h (q + 1) (by omega)) hn
def name_Split.f (k : Nat) (s : ByteArray) : Option (ByteArray × List ByteArray × Int) :=
  if s.size > 200 then some (⟨#[]⟩, [], 7)
  else if Lib.hasPrefix s.data.toList [47] = false then some (⟨#[]⟩, [], 12)
  else if restB s = ⟨#[]⟩ then some (⟨#[]⟩, [], 0)
  else (super_Label.f k ((partsB (restB s)).getD 0 ⟨#[]⟩)).bind fun b =>
    if b = false then some (⟨#[]⟩, [], 12)
    else if firstErr ((partsB (restB s)).drop 1) = 0 then some ((partsB (restB s)).getD 0 ⟨#[]⟩, (partsB (restB s)).drop 1, 0)
    else some (⟨#[]⟩, [], firstErr ((partsB (restB s)).drop 1))
theorem C_none (w : World) : Kd.C Kd.string w none 0 [] := ⟨rfl, by decide, fun h => absurd h (by decide)⟩
set_option maxHeartbeats 8000000 in
set_option maxRecDepth 100000 in
theorem name_Split.calls (k : Nat) (s : ByteArray) (r1 : ByteArray) (r2 : List ByteArray) (r3 : Int) (w : World) (hm : ∃ m, w.cell? ⟨0, 0, none⟩ = some (.int .i64 m)) (h : name_Split.f k s = some (r1, r2, r3)) :
    Calls Tryd.prog 13 #[.string s] w fun e w' => ∃ A c, e = .returned (.tuple #[.string r1, .slice A r2.length c, .int .i64 r3]) ∧ r2.length ≤ c ∧ Kd.C Kd.string w' A r2.length r2 ∧ Below w.heap.size w w' := by
  have K := Tryd.strings_CutPrefix s ⟨#[47]⟩ w
  rw [show (⟨#[47]⟩ : ByteArray).data.toList = [47] from rfl, show (⟨(Lib.trimPrefix s.data.toList [47]).toArray⟩ : ByteArray) = restB s from rfl] at K
  rw [name_Split.f] at h
  have hrs : (restB s).size ≤ s.size := by
    show (Lib.trimPrefix s.data.toList [47]).toArray.size ≤ s.data.size
    unfold Lib.trimPrefix
    split <;> simp
  obtain ⟨b, hb⟩ : ∃ b, Lib.hasPrefix s.data.toList [47] = b := ⟨_, rfl⟩
  obtain ⟨rs, hr⟩ : ∃ rs, restB s = rs := ⟨_, rfl⟩
  rw [hb, hr] at K h
  rw [hr] at hrs
  have HK := Aside0.mk K
  have HB := Aside0.mk (Below.refl w.heap.size w)
  clear K hb hr
  by_cases h2 : s.size > 200
  · rw [if_pos h2] at h
    obtain ⟨rfl, rfl, rfl⟩ : ⟨#[]⟩ = r1 ∧ [] = r2 ∧ 7 = r3 := by simpa using h
    have d1 : decide ((s.size : Int) > 200) = true := decide_eq_true (by omega)
    clear h hrs h2 hm
    go_enter Tryd.func13, Tryd.ntmps13
    go_wp2_with (go_at_call 23; refine HK.out.mono ?_; rintro e w' ⟨rfl, rfl⟩)
    go_ret3
    exact ⟨none, 0, rfl, Nat.le_refl _, C_none _, HB.out⟩
  · rw [if_neg h2] at h
    have d1 : decide ((s.size : Int) > 200) = false := decide_eq_false (by omega)
    have d1' : decide (200 < s.size) = false := decide_eq_false (by omega)
    cases b with
    | false =>
      rw [if_pos rfl] at h
      obtain ⟨rfl, rfl, rfl⟩ : ⟨#[]⟩ = r1 ∧ [] = r2 ∧ 12 = r3 := by simpa using h
      clear h hrs h2 hm
      go_enter Tryd.func13, Tryd.ntmps13
      go_wp2_with (go_at_call 23; refine HK.out.mono ?_; rintro e w' ⟨rfl, rfl⟩)
      go_ret3
      exact ⟨none, 0, rfl, Nat.le_refl _, C_none _, HB.out⟩
    | true =>
      rw [if_neg (by decide)] at h
      by_cases h3 : rs = ⟨#[]⟩
      · rw [if_pos h3] at h
        obtain ⟨rfl, rfl, rfl⟩ : ⟨#[]⟩ = r1 ∧ [] = r2 ∧ 0 = r3 := by simpa using h
        subst h3
        clear h hrs h2 hm
        go_enter Tryd.func13, Tryd.ntmps13
        go_wp2_with (go_at_call 23; refine HK.out.mono ?_; rintro e w' ⟨rfl, rfl⟩)
        go_ret3
        exact ⟨none, 0, rfl, Nat.le_refl _, C_none _, HB.out⟩
      · rw [if_neg h3] at h
        have t1 : ¬ rs.toList = [] := fun q => h3 (toList_inj q)
        have e1 : rs.toList.isEmpty = false := by cases hq : rs.toList with
          | nil => exact absurd hq t1
          | cons => rfl
        obtain ⟨m, hm⟩ := hm
        have K2 := Tryd.strings_Split rs ⟨#[47]⟩ m w (by omega) hm (by decide)
        have hl := Lib.splitB_all ⟨#[47]⟩ (by decide) 0 (Lib.countB rs ⟨#[47]⟩) rs rfl
        rw [← hl] at K2
        rw [show Lib.splitB ⟨#[47]⟩ 0 (Lib.countB rs ⟨#[47]⟩) rs = partsB rs from rfl] at K2 hl
        obtain ⟨P, hP⟩ : ∃ P, partsB rs = P := ⟨_, rfl⟩
        rw [hP] at K2 h hl
        have hlu : P.length ≤ 9223372036854775807 := by have := Lib.countB_le ⟨#[47]⟩ (by decide) rs.size rs (Nat.le_refl _); omega
        have HK2 := Aside0.mk K2
        have hp1 : 1 ≤ P.length := by omega
        clear K2 hl hP h3 h2 hrs hm
        obtain ⟨i, hi, _, hsz, _⟩ := info_parts info9
        obtain ⟨AT, hcut, hrd, hle⟩ := print_drop_of (P := Tryd.prog) Value.string (⟨#[]⟩ : ByteArray) 26 9 .i64 Tryd.underlying26 hi hsz (some ⟨w.heap.size, 0, none⟩) P.length P 1 (by decide) (by omega) (Nat.le_refl _)
        rw [show (1 : Int).toNat = 1 from rfl] at hcut hrd hle
        obtain ⟨T, hT⟩ : ∃ T, P.drop 1 = T := ⟨_, rfl⟩
        obtain ⟨p0, hp0⟩ : ∃ p0, P.getD 0 ⟨#[]⟩ = p0 := ⟨_, rfl⟩
        rw [hT] at hcut hrd hle h
        rw [hp0] at h
        obtain ⟨cT, hcT⟩ : ∃ cT, P.length - 1 = cT := ⟨_, rfl⟩
        rw [hcT] at hcut hle
        obtain ⟨w2, hw2⟩ : ∃ w2, w.alloc (.cells (P.map Value.string).toArray 9) = w2 := ⟨_, rfl⟩
        rw [hw2] at HK2
        have hg : w2.heap[w.heap.size]? = some (.cells (P.map Value.string).toArray 9 (0, 0)) := by rw [← hw2]; exact blk_new w _
        have HB2 := Aside0.mk (show Below w.heap.size w w2 by rw [← hw2]; exact (Below.refl _ _).alloc (Nat.le_refl _) _)
        have hcell : ∀ j, j < P.length → w2.cell? ⟨w.heap.size, j, none⟩ = some (.string (P.getD j ⟨#[]⟩)) := fun j hj => by
          rw [blk_cell hg j, List.getElem?_toArray, List.getElem?_map, List.getElem?_eq_getElem hj, List.getD_eq_getElem?_getD, List.getElem?_eq_getElem hj]
          rfl
        have HRP : ReadsOf Value.string (⟨#[]⟩ : ByteArray) w2 (some ⟨w.heap.size, 0, none⟩) P.length P := ⟨rfl, hlu, fun _ => ⟨_, rfl, fun j hj => by
          rw [show (⟨w.heap.size, 0, none⟩ : Addr).add j = ⟨w.heap.size, j, none⟩ from by by_cases h0 : j = 0 <;> simp [Addr.add, h0]]
          exact hcell j hj⟩⟩
        have HRT := Aside0.mk (hrd w2 HRP)
        have q0 : w2.cell? ⟨w.heap.size, 0, none⟩ = some (.string p0) := by rw [← hp0]; exact hcell 0 (by omega)
        have HLE := Aside0.mk hle
        have HCUT := Aside0.mk hcut
        have hq1 : 0 < P.length := hp1
        have hq2 : (0 : Int) < (P.length : Int) := by omega
        obtain ⟨bl, hbl, h⟩ := Option.bind_eq_some_iff.mp h
        have HBL := Aside0.mk hbl
        have HH := Aside0.mk h
        have HQ0 := Aside0.mk q0
        clear hrd hle hw2 hg hcell HRP hi hsz hp1 hlu hT hp0 hcT hbl h
        go_enter Tryd.func13, Tryd.ntmps13
        go_wp2_with (first | (go_at_call 23; refine HK.out.mono ?_; rintro e w' ⟨rfl, rfl⟩) | (go_at_call 24; refine HK2.out.mono ?_; rintro e w' ⟨rfl, hw'⟩; have hw'' := hw'.symm; clear hw'; subst hw''))
        refine (super_Label.calls k p0 bl w2 HBL.out).mono ?_
        rintro e w3 ⟨rfl, hb3⟩
        have HB3 := Aside0.mk hb3
        clear hb3 q0
        have hh := HH.out
        clear HH HBL HK HK2
        cases bl with
        | false =>
          rw [if_pos rfl] at hh
          obtain ⟨rfl, rfl, rfl⟩ : ⟨#[]⟩ = r1 ∧ [] = r2 ∧ 12 = r3 := by simpa using hh
          clear hh
          go_wp2
          go_ret3
          exact ⟨none, 0, rfl, Nat.le_refl _, C_none _, below_step HB2.out HB3.out⟩
        | true =>
          rw [if_neg (by decide)] at hh
          have HH := Aside0.mk hh
          clear hh
          go_wp2_with fail
          go_loopw [9, 10, 36] (fun _ _ i wr => ∃ j : Nat, i = .int .i64 j ∧ j ≤ T.length ∧ Aside0 (Below w2.heap.size w2 wr) ∧ Aside0 (∀ q, q < j → validR (T.getD q ⟨#[]⟩) = 0)) (fun _ _ i _ => T.length - (intOf i).toNat)
          case atStart => exact ⟨0, rfl, Nat.zero_le _, HB3, ⟨fun q hq => absurd hq (Nat.not_lt_zero _)⟩⟩
          case round =>
            obtain ⟨j, rfl, hj, HB4, HZ⟩ := hrel
            rename_i wr
            by_cases hlt : j < T.length
            · have l2 : (j : Int) < (T.length : Int) := Int.ofNat_lt.2 hlt
              have l1 : decide ((j : Int) < (T.length : Int)) = true := decide_eq_true l2
              obtain ⟨ad, rfl, hc⟩ := (HRT.out.below HB4.out).at_ (j : Int) (Int.natCast_nonneg j) l2
              rw [Int.toNat_natCast, show rdOf ⟨#[]⟩ T (j : Int) = T.getD j ⟨#[]⟩ from by unfold rdOf; rw [Int.toNat_natCast]] at hc
              obtain ⟨y, hy⟩ : ∃ y, T.getD j ⟨#[]⟩ = y := ⟨_, rfl⟩
              obtain ⟨v, hv⟩ : ∃ v, validR y = v := ⟨_, rfl⟩
              have HY := Aside0.mk hy
              have HV := Aside0.mk (show validR (T.getD j ⟨#[]⟩) = v by rw [hy]; exact hv)
              have HK := Aside0.mk (hv ▸ name_Valid.calls y wr)
              rw [hy] at hc
              have HLT := Aside0.mk hlt
              have wi : wrap64 ((j : Int) + 1) = ((j + 1 : Nat) : Int) := by have := HRT.out.2.1; unfold wrap64; omega
              clear hy hv hlt hj h
              by_cases hv0 : v = 0
              · subst hv0
                go_wp2_with (go_at_call 11; refine HK.out.mono ?_; rintro e w5 ⟨rfl, hb5⟩)
                refine ⟨⟨j + 1, by rw [wi], HLT.out, ⟨below_step HB4.out hb5⟩, ⟨fun q hq => ?_⟩⟩, ?_⟩
                · by_cases hqj : q < j
                  · exact HZ.out q hqj
                  · obtain rfl : q = j := by omega
                    exact HV.out
                · rw [wi]
                  have := HLT.out
                  show T.length - (((j + 1 : Nat) : Int)).toNat < T.length - ((j : Nat) : Int).toNat
                  rw [Int.toNat_natCast, Int.toNat_natCast]
                  omega
              · have z1 : (v != 0) = true := by simpa using hv0
                have z2 : decide (v = 0) = false := decide_eq_false hv0
                have z3 : (v == 0) = false := beq_false_of_ne hv0
                have hE : firstErr T = v := by rw [← HV.out]; exact firstErr_at T j HLT.out HZ.out (by rw [HV.out]; exact hv0)
                have hh := HH.out
                rw [hE, if_neg hv0] at hh
                obtain ⟨rfl, rfl, rfl⟩ : ⟨#[]⟩ = r1 ∧ [] = r2 ∧ v = r3 := by simpa using hh
                clear hh hE hv0
                go_wp2_with (go_at_call 11; refine HK.out.mono ?_; rintro e w5 ⟨rfl, hb5⟩)
                go_ret3
                exact ⟨none, 0, rfl, Nat.le_refl _, C_none _, below_step HB2.out (below_step HB4.out hb5)⟩
            · have l1 : decide ((j : Int) < (T.length : Int)) = false := decide_eq_false (by omega)
              have l1n : decide (j < T.length) = false := decide_eq_false hlt
              have hcut := HCUT.out
              have hE : firstErr T = 0 := firstErr_all T (fun q hq => HZ.out q (by omega))
              have hh := HH.out
              rw [hE, if_pos rfl] at hh
              obtain ⟨rfl, rfl, rfl⟩ : p0 = r1 ∧ T = r2 ∧ 0 = r3 := by simpa using hh
              have HCT := Aside0.mk (Kd.C_of_reads (h1 := fun _ => rfl) (HRT.out.below HB4.out))
              have q0 := pw_cell_below HB4.out HQ0.out
              clear hh hE hlt hj h
              go_upto_region 18 with fail
              have hcut := HCUT.out
              go_quiet (fail)
              rename_i nq
              have HCN := Aside0.mk (Kd.C_drewN HCT.out nq)
              have HBN := Aside0.mk (below_step HB2.out (pw_below_drewN HB4.out nq))
              clear HCT
              go_wp2_with fail
              go_ret3
              exact ⟨AT, cT, rfl, HLE.out, HCN.out, HBN.out⟩
end Go.Proofs.YtafgfaimenccdaaDoor.P
