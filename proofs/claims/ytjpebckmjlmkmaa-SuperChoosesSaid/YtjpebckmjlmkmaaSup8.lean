/- Bytes that are only read, as a part of memory; taking numbers off them. -/
import Derived.Test.YtjpebckmjlmkmaaSup5
import Derived.Test.YtjpebckmjlmkmaaPx1
import Derived.Test.YtjpebckmjlmkmaaPx2
namespace Go.Proofs.Ytjpebckmjlmkmaa.P
open Go.RowKit Go.Proofs.YtjpebckmjlmkmaaW.PrintWords Go.Proofs.YtjpebckmjlmkmaaW.PrintLast Go.Proofs.YtjpebckmjlmkmaaW.PrintMore Go.Proofs.Ytjpebckmjlmkmaa.NumLem Go.Proofs.Ytjpebckmjlmkmaa.SealLem Go.Proofs.Ytjpebckmjlmkmaa.Sep
set_option linter.unusedVariables false
set_option linter.unusedSimpArgs false
/-- Bytes that are only read. -/
def rdp (A : Option Addr) (n : Nat) (l : List Int) : HP where
  P w F := Kd.F (Kd.int .u8) w F A n l
  move := fun h hp => Kd.F_step hp (fun k hk _ => h k hk)
section
variable {w0 w w' : World} {ps : List HP} {p q : HP} {A : Option Addr} {n c : Nat} {l : List Int}
theorem St.turn (h : St w0 w (p :: ps)) (hpq : ∀ F, p.P w F → q.P w F) : St w0 w (q :: ps) := by
  obtain ⟨hb, F, hF, hp, hs⟩ := h
  exact ⟨hb, F, hF, hpq F hp, hs⟩
theorem rd_C (h : St w0 w (rdp A n l :: ps)) : Kd.C (Kd.int .u8) w A n l := by
  obtain ⟨F, hp⟩ := h.tells
  exact Kd.F_now hp
theorem rd_len (h : St w0 w (rdp A n l :: ps)) : l.length = n := (rd_C h).1
theorem rd_of_row {e : Nat} (h : St w0 w (row (Kd.int .u8) e (.slice A n c) l :: ps)) : St w0 w (rdp A n l :: ps) := by
  refine St.turn h fun F hp => ?_
  have h1 : Kd.R (Kd.int .u8) e w 0 F (.slice A n c) l := hp
  exact Kd.V_F (Kd.R_V (base' := 0) h1)
theorem rd_of_V (h : St w0 w ps) {e base : Nat} {v : Value} (hv : Kd.V (Kd.int .u8) e w' base (fun k => w.heap.size ≤ k) v l) (hb : Below w.heap.size w w') : ∃ A n c, v = .slice A n c ∧ n ≤ c ∧ St w0 w' (rdp A n l :: ps) := by
  obtain ⟨A, c, rfl⟩ := Kd.V_slice hv
  have h1 := Kd.V_at hv
  exact ⟨A, _, c, rfl, h1.2.1, h.new_ hb (fun k => w.heap.size ≤ k ∧ k < w'.heap.size) (fun k hk => hk) (p := rdp A l.length l) (Kd.V_F (Kd.V_bound hv))⟩
theorem rd_nil (h : St w0 w ps) : St w0 w (rdp none 0 [] :: ps) :=
  h.new_ (Below.refl _ _) (fun _ => False) (fun k hk => hk.elim) (p := rdp none 0 []) (Kd.F_nil _ _ _)
/-- l[k:] of bytes that are only read. -/
theorem rd_cut (h : St w0 w (rdp A n l :: ps)) (hc : n ≤ c) (k : Nat) (hk : k ≤ n) :
    ∃ A1, (∀ W : World, (Instr.slice 22 (.slice A n c) (some (.int .i64 (k : Int))) none none).run Try.prog W = .ok (.slice A1 (n - k) (c - k)) W) ∧ St w0 w (rdp A1 (n - k) (l.drop k) :: ps) := by
  obtain rfl := rd_len h
  obtain ⟨i, hi0, hs⟩ := Option.map_eq_some_iff.1 (show (Try.prog.info? 5).map (·.size) = some 1 from by kernel_rfl)
  refine ⟨if c = k then A else A.map (·.add (k * (Kd.int .u8).sz)), fun W => ?_, ?_⟩
  · have := cut_from (P := Try.prog) 22 5 .i64 Try.underlying22 hi0 1 hs A l.length c k (by omega) (by omega) W
    rw [Int.toNat_natCast] at this
    exact this
  · refine St.turn h fun F hp => ?_
    have := Kd.F_cut (c := c) (m := k) (show Kd.F (Kd.int .u8) w F A l.length l from hp) hk hc
    rwa [List.length_drop] at this
theorem Take_st (h : St w0 w ps) (hr : Kd.C (Kd.int .u8) w A n l) (hc : n ≤ c) (m : Nat) (h1 : 1 ≤ m) (h7 : m ≤ 7) (hm : m ≤ n) (hn : n ≤ 1000) (hb : Bytes l) :
    Calls Try.prog 26 #[.slice A n c, .int .i64 m] w fun e w' => ∃ A1 n1 c1, e = .returned (.tuple #[.int .i64 (val (l.take m)), .slice A1 n1 c1, .int .i64 0]) ∧ n1 ≤ c1 ∧ St w0 w' (rdp A1 n1 (l.drop m) :: ps) := by
  obtain rfl := hr.1
  have ht := Take_is l m hb (by omega)
  have ha := take_at l 0 m (by omega) h1 h7
  rw [List.drop_zero, Nat.zero_add] at ha
  rw [ha] at ht
  refine (num_Take.calls A c l m _ _ _ w hr hc ht).mono ?_
  rintro e w' ⟨v, rfl, hv, hb⟩
  have h1 := h.row_new hb hv
  obtain ⟨A1, c1, rfl⟩ := h1.row_slice
  exact ⟨A1, _, c1, rfl, h1.row_C.2.1, rd_of_row h1⟩
set_option maxHeartbeats 1000000 in
/-- The number that 'next' takes off the bytes in block g; the rest stands there behind it. -/
theorem super_next.st {g : Nat} (h : St w0 w (blk g #[.slice A n c] 22 :: rdp A n l :: ps)) (hc : n ≤ c) (m : Nat) (h1 : 1 ≤ m) (h7 : m ≤ 7) (hm : m ≤ n) (hn : n ≤ 1000) (hb : Bytes l) :
    Calls Try.prog 25 #[.int .i64 m, .pointer (some ⟨g, 0, none⟩)] w fun e w' => ∃ A1 n1 c1, e = .returned (.int .i64 (val (l.take m))) ∧ n1 ≤ c1 ∧ St w0 w' (blk g #[.slice A1 n1 c1] 22 :: rdp A1 n1 (l.drop m) :: ps) := by
  have HS := Aside0.mk h
  have HC := Aside0.mk hc
  have HM := Aside0.mk hm
  have HN := Aside0.mk hn
  have HB := Aside0.mk hb
  have H1 := Aside0.mk h1
  have H7 := Aside0.mk h7
  have k0 := blk_cell HS.out.blk_is 0
  clear h hc hm hn hb h1 h7
  go_enter Try.func25, Try.ntmps25
  go_wp2_with fail
  refine (Take_st HS.out (rd_C HS.out.swap) HC.out m H1.out H7.out HM.out HN.out HB.out).mono ?_
  rintro e w1 ⟨A1, n1, c1, rfl, hc1, hs⟩
  have HS1 := Aside0.mk hs.swap
  have HC1 := Aside0.mk hc1
  have f0 := blk_frozen HS1.out.blk_is 0
  have e0 := blk_cell HS1.out.blk_is 0
  clear hs hc1 k0
  go_wp2
  go_ret
  exact ⟨A1, n1, c1, rfl, HC1.out, (HS1.out.blk_set 0 (.slice A1 n1 c1)).swap.front 2 |>.drop |>.swap⟩
end
/-- What Check answers. -/
def checkR (l : List Int) (slot : Int) : Int × Int × Int × Int × Int × List Int × Int :=
  if openOk l ∧ kindOf l = 1 ∧ addrOf l = slot then (kindOf l, addrOf l, countOf l, levelOf l, genOf l, l.drop 20, 0) else (0, 0, 0, 0, 0, [], 3)
theorem Check_is (l : List Int) (hb : Bytes l) (hl : l.length ≤ 1000) (slot : Int) : seal_Check.f l 1 slot = some (checkR l slot) := by
  unfold seal_Check.f checkR
  rw [Open_is l hb hl, Option.bind_some]
  unfold openR
  by_cases ho : openOk l
  · rw [if_pos ho]
    simp only [if_true]
    by_cases hk : kindOf l = 1
    · rw [if_pos (show val ((l.drop 4).take 1) = 1 from hk)]
      by_cases ha : addrOf l = slot
      · rw [if_pos (show val ((l.drop 6).take 2) = slot from ha), if_pos ⟨ho, hk, ha⟩]
        rfl
      · rw [if_neg (show ¬ val ((l.drop 6).take 2) = slot from ha), if_neg (fun q => ha q.2.2)]
    · rw [if_neg (show ¬ val ((l.drop 4).take 1) = 1 from hk), if_neg (fun q => hk q.2.1)]
  · rw [if_neg ho, if_neg (show ¬ (openOk l ∧ kindOf l = 1 ∧ addrOf l = slot) from fun q => ho q.1)]
    rfl
theorem Check_st {w0 w : World} {ps : List HP} {A : Option Addr} {n c : Nat} {l : List Int} (h : St w0 w ps) (hr : Kd.C (Kd.int .u8) w A n l) (hc : n ≤ c) (hn : n ≤ 1000) (hb : Bytes l) (slot : Int) {a0 a1 a2 a3 a4 q : Int} {r : List Int} (hk : checkR l slot = (a0, a1, a2, a3, a4, r, q)) :
    Calls Try.prog 23 #[.slice A n c, .int .i64 1, .int .i64 slot] w fun e w' => ∃ A1 n1 c1, e = .returned (.tuple #[.agg #[.int .i64 a0, .int .i64 a1, .int .i64 a2, .int .i64 a3, .int .i64 a4], .slice A1 n1 c1, .int .i64 q]) ∧ n1 ≤ c1 ∧ St w0 w' (rdp A1 n1 r :: ps) := by
  obtain rfl := hr.1
  refine (seal_Check.calls A c l 1 slot a0 a1 a2 a3 a4 r q w hr hc (by rw [Check_is l hb hn, hk])).mono ?_
  rintro e w' ⟨v, rfl, hv, hb⟩
  obtain ⟨A1, n1, c1, rfl, hle, hs⟩ := rd_of_V h hv hb
  exact ⟨A1, n1, c1, rfl, hle, hs⟩
end Go.Proofs.Ytjpebckmjlmkmaa.P
