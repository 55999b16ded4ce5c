/- What laying down, sealing and copying do to memory in parts. -/
import Derived.Test.YtjpebckmjlmkmaaSup4
import Derived.Test.YtjpebckmjlmkmaaPx2
import Derived.Test.YtjpebckmjlmkmaaPx2
import Derived.Lib.BufferWrite
namespace Go.Proofs.Ytjpebckmjlmkmaa.P
open Go.RowKit Go.Proofs.YtjpebckmjlmkmaaW.PrintWords Go.Proofs.YtjpebckmjlmkmaaW.PrintLast Go.Proofs.YtjpebckmjlmkmaaW.PrintMore Go.Proofs.Ytjpebckmjlmkmaa.NumLem Go.Proofs.Ytjpebckmjlmkmaa.SealLem Go.Proofs.Ytjpebckmjlmkmaa.Sep
set_option linter.unusedVariables false
theorem putR_dig (l : List Int) (x : Int) (n : Nat) (h1 : 1 ≤ n) (h7 : n ≤ 7) (h0 : 0 ≤ x) (hx : x < 256 ^ n) : putR l x n = l ++ digits x n := by
  have h2 : (256 : Int) ^ n ≤ 256 ^ 7 := pow256 h7
  have h3 : (256 : Int) ^ 7 = 72057594037927936 := rfl
  unfold putR
  rw [if_neg (by omega), Int.toNat_natCast, u64_of h0 (by omega)]
/-- A row of bytes, handed back. -/
def RowPost (w0 : World) (ps : List HP) (l : List Int) (e : Ending) (w' : World) : Prop :=
  ∃ A m c l1, e = .returned (.slice A m c) ∧ l1 = l ∧ St w0 w' (row (Kd.int .u8) 5 (.slice A m c) l1 :: ps)
/-- A row of bytes and a word, handed back. -/
def RowsPost (w0 : World) (ps : List HP) (r : List Int × Int) (e : Ending) (w' : World) : Prop :=
  ∃ A m c, e = .returned (.tuple #[.slice A m c, .int .i64 r.2]) ∧ St w0 w' (row (Kd.int .u8) 5 (.slice A m c) r.1 :: ps)
theorem row_post {w0 w w' : World} {ps : List HP} (h : St w0 w ps) {v : Value} {l : List Int} (hr : Kd.R (Kd.int .u8) 5 w' w.heap.size (fun _ => True) v l) (hb : Below w.heap.size w w') : ∃ A m c, v = .slice A m c ∧ St w0 w' (row (Kd.int .u8) 5 (.slice A m c) l :: ps) := by
  have h1 := h.row_new hb hr
  obtain ⟨A, c, rfl⟩ := h1.row_slice
  exact ⟨A, _, c, rfl, h1⟩
theorem num_Put.st {w0 w : World} {ps : List HP} (h : St w0 w ps) {A : Option Addr} {m c : Nat} {l : List Int} (hr : Kd.C (Kd.int .u8) w A m l) (hc : m ≤ c) (x : Int) (n : Nat) (h1 : 1 ≤ n) (h7 : n ≤ 7) (h0 : 0 ≤ x) (hx : x < 256 ^ n) (hm : m ≤ 1000) :
    Calls Try.prog 29 #[.slice A m c, .int .i64 x, .int .i64 n] w fun e w' => RowPost w0 ps (l ++ digits x n) e w' := by
  obtain rfl := hr.1
  refine (num_Put.calls A c l x n (l ++ digits x n) w hr hc (by rw [Put_is _ _ _ (by omega), putR_dig l x n h1 h7 h0 hx])).mono ?_
  rintro e w' ⟨v, rfl, hv, hb⟩
  obtain ⟨A1, m1, c1, rfl, hs⟩ := row_post h hv hb
  exact ⟨A1, m1, c1, _, rfl, rfl, hs⟩
theorem seal_Seal.st {w0 w : World} {ps : List HP} (h : St w0 w ps) {A : Option Addr} {m c : Nat} {l : List Int} (hr : Kd.C (Kd.int .u8) w A m l) (hc : m ≤ c) (a0 a1 a2 a3 a4 : Int) :
    Calls Try.prog 30 #[.agg #[.int .i64 a0, .int .i64 a1, .int .i64 a2, .int .i64 a3, .int .i64 a4], .slice A m c] w fun e w' => RowsPost w0 ps (sealR a0 a1 a2 a3 a4 l) e w' := by
  obtain rfl := hr.1
  refine (seal_Seal.calls a0 a1 a2 a3 a4 A c l _ _ w hr hc (Seal_is a0 a1 a2 a3 a4 l)).mono ?_
  rintro e w' ⟨v, rfl, hv, hb⟩
  obtain ⟨A1, m1, c1, rfl, hs⟩ := row_post h hv hb
  exact ⟨A1, m1, c1, rfl, hs⟩
/-- The cells of a row of bytes. -/
def byC (l : List Int) : Array Value := (encs (Value.int .u8) l).toArray
theorem byC_size (l : List Int) : (byC l).size = l.length := by simp [byC, encs]
/-- A text's bytes laid over a row's head. -/
theorem copied_str (s : ByteArray) (n : Nat) (h : s.size ≤ n) : ((byC (List.replicate n 0)).toList.take 0 ++ Lib.byteCells s.data.toList ++ (byC (List.replicate n 0)).toList.drop (0 + s.size)).toArray = byC (bytesOf s ++ List.replicate (n - s.size) 0) := by
  unfold byC encs Lib.byteCells bytesOf
  simp [List.map_append, List.map_map, List.map_replicate]
theorem St.copy_string {P : Program} {ops : Array Oper} {o : Oper} {a : Act} {w0 W : World} {ps : List HP} {K : Act → World → Prop} {Q : Exit → Act → World → Prop} {E : Prop}
    (hgd : o.guard = none) (d x : Operand) (dT sT : TypeId) (hop : o.op = Op.call { callee := Callee.builtin Builtin.copy, args := #[d, x], argTypes := #[dT, sT] })
    (elem : TypeId) (hu : P.underlying dT = some (.slice elem)) (hz : (P.info? elem).map (·.size) = some 1)
    (g n dCap : Nat) (t : TypeId) (hd : a.eval d = .slice (some ⟨g, 0, none⟩) n dCap) (s : ByteArray) (hx : a.eval x = .string s) (hle : s.size ≤ n)
    (H : St w0 W (blk g (byC (List.replicate n 0)) t :: ps))
    (hK : ∀ w1, St w0 w1 (blk g (byC (bytesOf s ++ List.replicate (n - s.size) 0)) t :: ps) → K (a.put o.dst (goInt s.size)) w1) :
    if Region.wanted o (yielded ops a.tmps) = true then Oper.wp P o a W K Q else E := by
  have hw : Region.wanted o (yielded ops a.tmps) = true := by simp [Region.wanted, hgd]
  rw [if_pos hw]
  have hrun := Lib.run_copy_row_string (P := P) W dT sT o.type elem g 0 n dCap s _ t hu hz H.blk_is hle (by rw [byC_size, List.length_replicate]; omega)
  rw [copied_str s n hle] at hrun
  obtain ⟨F, hF, hp, hst⟩ := H.out
  unfold Oper.wp
  simp [execOp, hop, resolve, invoke, builtin, hd, hx, hrun, Result.andThen]
  refine hK _ (hst (qs := [blk g (byC (bytesOf s ++ List.replicate (n - s.size) 0)) t]) (F' := F) ⟨rfl, rfl, rfl, by simp, fun i hi hni => setRow_other _ _ _ _ (fun e => hni (e ▸ hp.1)), fun _ h => Or.inl h⟩ (Sep.one (fun k hk => by simpa using (hF k hk).2) ⟨hp.1, setRow_heap _ _ _ _ _ _ hp.2⟩))
/-- A block of bytes, read as a row. -/
theorem St.blk_row {w0 w : World} {ps : List HP} {g t : Nat} {l : List Int} (h : St w0 w (blk g (byC l) t :: ps)) (hl : l.length ≤ 9223372036854775807) : Kd.C (Kd.int .u8) w (some ⟨g, 0, none⟩) l.length l :=
  blk_C (cur := encs (Value.int .u8) l) h.blk_is 0 l (fun j p hp => by unfold encs; rw [Nat.zero_add, List.getElem?_map, hp]; rfl) hl
end Go.Proofs.Ytjpebckmjlmkmaa.P
