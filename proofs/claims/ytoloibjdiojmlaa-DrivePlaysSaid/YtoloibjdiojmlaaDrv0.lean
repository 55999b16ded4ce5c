/- A drive's places in memory: sectors of 256 bytes in rows, a map of such rows. -/
import Derived.Test.YtoloibjdiojmlaaProg
import Derived.Test.YtoloibjdiojmlaaWWords
import Derived.Test.YtoloibjdiojmlaaWLast
import Derived.Test.YtoloibjdiojmlaaWMore
import Derived.Test.YtoloibjdiojmlaaWFoot
import Derived.Test.YtoloibjdiojmlaaWShare
import Derived.Test.YtoloibjdiojmlaaWAt
import Derived.Test.YtoloibjdiojmlaaWKept
import Derived.Test.YtoloibjdiojmlaaWArr
import Derived.Test.YtoloibjdiojmlaaOwn
import Derived.Test.YtoloibjdiojmlaaSep
import Derived.Test.YtoloibjdiojmlaaMap0
import Derived.Deep.MidRow
namespace Go.Proofs.Ytoloibjdiojmlaa.P
open Go.RowKit Go.Proofs.YtoloibjdiojmlaaW.PrintWords Go.Proofs.YtoloibjdiojmlaaW.PrintLast Go.Proofs.YtoloibjdiojmlaaW.PrintMore Go.Proofs.Ytoloibjdiojmlaa.Sep
set_option linter.unusedVariables false
set_option linter.unusedSimpArgs false
abbrev encB : List Int → List Value := encs (Value.int .u8)
/-- A sector. -/
def Sec (x : List Int) : Prop := x.length = 256 ∧ ∀ y ∈ x, 0 ≤ y ∧ y < 256
theorem encB_len (x : List Int) : (encB x).length = x.length := encs_length ..
theorem encB_one {x : List Int} : ∀ u ∈ encB x, u.oneCell' = true := by
  intro u hu
  simp only [encB, encs, List.mem_map] at hu
  obtain ⟨x, _, rfl⟩ := hu
  rfl
def kSec : Kd (List Int) where
  sz := 256
  E := []
  K := fun _ x cs => Sec x ∧ cs = encB x
  M := fun _ _ _ x cs => Sec x ∧ cs = encB x
  K_len := fun h => by rw [h.2, encB_len]; exact h.1.1
  K_one := fun h => by rw [h.2]; exact encB_one
  K_below := fun _ h => h
  K_of_M := fun h => h
  M_mono := fun _ h => h
  M_bound := fun h => h
  M_move := fun _ h => h
  M_lower := fun _ h => h
theorem setCells_heap (g t : Nat) : ∀ (vs : List Value) (o : Nat) (w : World) (cur : Array Value), w.heap[g]? = some (.cells cur t (0, 0)) → o + vs.length ≤ cur.size →
    (w.setCells g o vs).heap[g]? = some (.cells (cur.toList.take o ++ vs ++ cur.toList.drop (o + vs.length)).toArray t (0, 0))
  | [], o, w, cur, h, _ => by
    rw [World.setCells, h]
    simp
  | v :: r, o, w, cur, h, hl => by
    simp only [List.length_cons] at hl
    have h1 : (w.setCell ⟨g, o, none⟩ v).heap[g]? = some (.cells (cur.setIfInBounds o v) t (0, 0)) := blk_put h o v rfl
    rw [World.setCells, setCells_heap g t r (o + 1) _ _ h1 (by simp; omega)]
    congr 3
    simp only [Array.toList_setIfInBounds, List.length_cons]
    rw [List.drop_set_of_lt (by omega), List.take_set, List.take_add_one, List.getElem?_eq_getElem (by simp; omega)]
    have ho : (List.take o cur.toList).length = o := by rw [List.length_take, Array.length_toList]; omega
    rw [List.set_append_right _ _ (by omega), show o - (List.take o cur.toList).length = 0 from by omega]
    simp [show o + 1 + r.length = o + (r.length + 1) from by omega]
theorem setCells_other (g : Nat) : ∀ (vs : List Value) (o : Nat) (w : World) (k : Nat), k ≠ g → (w.setCells g o vs).heap[k]? = w.heap[k]?
  | [], _, _, _, _ => rfl
  | v :: r, o, w, k, h => by rw [World.setCells, setCells_other g r (o + 1) _ k h]; exact Below.heap_setCell w _ v k h
theorem setCells_same (g : Nat) : ∀ (vs : List Value) (o : Nat) (w : World), (w.setCells g o vs).heap.size = w.heap.size ∧ (w.setCells g o vs).os = w.os ∧ (w.setCells g o vs).tape = w.tape ∧ (w.setCells g o vs).output = w.output
  | [], _, _ => ⟨rfl, rfl, rfl, rfl⟩
  | v :: r, o, w => by
    rw [World.setCells]
    obtain ⟨a, b, c, d⟩ := setCells_same g r (o + 1) (w.setCell ⟨g, o, none⟩ v)
    exact ⟨by rw [a]; simp, by rw [b]; rfl, by rw [c]; rfl, by rw [d]; rfl⟩
theorem Step.cells {F : Nat → Prop} {w : World} {g : Nat} (hg : F g) (o : Nat) (vs : List Value) : Step F F w (w.setCells g o vs) := by
  obtain ⟨a, b, c, d⟩ := setCells_same g vs o w
  exact ⟨b, c, d, Nat.le_of_eq a.symm, fun k _ hk => setCells_other g vs o w k (fun e => hk (e ▸ hg)), fun _ h => Or.inl h⟩
theorem Step.refl (F : Nat → Prop) (w : World) : Step F F w w := ⟨rfl, rfl, rfl, Nat.le_refl _, fun _ _ _ => rfl, fun _ h => Or.inl h⟩
section
variable {w0 w : World} {ps : List HP} {e n c : Nat} {A : Option Addr} {xs : List (List Int)}
theorem take_pre {l vs : List Value} {a m : Nat} (h : a + vs.length ≤ m) (hm : m ≤ l.length) : (l.take a ++ vs ++ l.drop (a + vs.length)).take m = (l.take m).take a ++ vs ++ (l.take m).drop (a + vs.length) := by
  have ha : (l.take a).length = a := by rw [List.length_take]; omega
  rw [List.append_assoc, List.take_append, List.take_append, ha, List.take_of_length_le (by rw [ha]; omega), List.take_of_length_le (show vs.length ≤ m - a by omega), List.take_take, Nat.min_eq_left (by omega), List.drop_take, List.append_assoc, Nat.sub_sub]
theorem mul256 {i n : Nat} (h : i < n) : i * 256 + 256 ≤ n * 256 := by rw [← Nat.succ_mul]; exact Nat.mul_le_mul_right _ h
/-- A row of sectors: one is read, one is laid anew. -/
theorem St.row_sec (h : St w0 w (row kSec e (.slice A n c) xs :: ps)) (i : Nat) (hi : i < n) :
    ∃ g, A = some ⟨g, 0, none⟩ ∧ w.rangeAt g (i * 256) (encB (xs.getD i [])) ∧ w.there g (i * 256) 256 ∧ Sec (xs.getD i []) ∧ ∀ x, Sec x → St w0 (w.setCells g (i * 256) (encB x)) (row kSec e (.slice A n c) (xs.set i x) :: ps) := by
  obtain ⟨hn, hc, hC⟩ := h.row_C
  obtain ⟨F, hF, hp, hst⟩ := h.out
  obtain ⟨h0, inner, hown, hrep⟩ := hp
  have hix : i < xs.length := by omega
  rcases hown.2 with ⟨h', h''⟩ | ⟨g, cap, cur, h', hg0, hh, hle, hmax, hsz, htk⟩
  · injection h' with _ h' _
    omega
  · injection h' with h' h2 h3
    subst h' h3 hn
    have hzs : kSec.sz = 256 := rfl
    rw [hzs] at hsz htk
    have hcl : cur.toList.length = c * 256 := by rw [Array.length_toList (xs := cur)]; exact hsz
    have hlen : xs.length * 256 ≤ cur.toList.length := by rw [hcl]; exact Nat.mul_le_mul_right _ hc
    have hlen' : xs.length * 256 ≤ cur.size := by rw [hsz]; exact Nat.mul_le_mul_right _ hc
    have hfit : i * 256 + 256 ≤ xs.length * 256 := mul256 hix
    have hrp := hrep.2 i _ (List.getElem?_eq_getElem hix)
    obtain ⟨hs, he⟩ : Sec xs[i] ∧ (inner.drop (i * 256)).take 256 = encB xs[i] := hrp
    rw [List.getD_eq_getElem?_getD, List.getElem?_eq_getElem hix]
    refine ⟨g, rfl, ?_, fun j hj => ?_, hs, fun x hx => ?_⟩
    · intro j v hv
      have hj : j < 256 := by
        have := (List.getElem?_eq_some_iff.1 hv).1
        simp only [Option.getD_some] at this
        rw [encB_len, hs.1] at this
        exact this
      rw [cell_of_row w g (i * 256 + j) cur e (0, 0) hh, ← hv]
      simp only [Option.getD_some]
      rw [← he, ← htk, List.getElem?_take, if_pos hj, List.getElem?_drop, List.getElem?_take, if_pos (by omega), Array.getElem?_toList]
    · refine ⟨?_, blk_frozen hh _⟩
      rw [cell_of_row w g (i * 256 + j) cur e (0, 0) hh, Array.getElem?_eq_getElem (Nat.lt_of_lt_of_le (Nat.lt_of_lt_of_le (Nat.add_lt_add_left hj _) hfit) hlen')]
      rfl
    · have hx256 : (encB x).length = 256 := by rw [encB_len, hx.1]
      have hgF : F g := h0 g rfl
      have hset := setCells_heap g e (encB x) (i * 256) w cur hh (by rw [hx256]; exact Nat.le_trans hfit hlen')
      refine hst (qs := [row kSec e (.slice (some ⟨g, 0, none⟩) xs.length c) (xs.set i x)]) (Step.cells hgF _ _) (Sep.one (fun k hk => by rw [(setCells_same _ _ _ _).1]; exact (hF k hk).2) ⟨h0, inner.take (i * 256) ++ encB x ++ inner.drop (i * 256 + (encB x).length), ?_, Kd.reps_set hrep hix ⟨hx, rfl⟩ hx256⟩)
      rw [List.length_set]
      refine ⟨?_, Or.inr ⟨g, c, _, rfl, hg0, hset, hle, hmax, ?_, ?_⟩⟩
      · rw [hx256, List.length_append, List.length_append, List.length_take, List.length_drop, hx256, hown.1, hzs]
        omega
      · rw [hzs, List.size_toArray, List.length_append, List.length_append, List.length_take, List.length_drop, hx256, Array.length_toList, hsz]
        rw [hsz] at hlen'
        clear hcl hlen hs he
        omega
      · rw [hzs]
        show List.take (xs.length * 256) (cur.toList.take (i * 256) ++ encB x ++ cur.toList.drop (i * 256 + (encB x).length)) = _
        rw [take_pre (by rw [hx256]; exact hfit) hlen, htk]
theorem Sec.set {x : List Int} (h : Sec x) (j : Nat) {y : Int} (hy : 0 ≤ y ∧ y < 256) : Sec (x.set j y) :=
  ⟨by rw [List.length_set]; exact h.1, fun z hz => by
    rcases List.mem_or_eq_of_mem_set hz with hz | rfl
    · exact h.2 z hz
    · exact hy⟩
theorem setCells_one (g : Nat) (x : List Int) (y : Int) (j o : Nat) (w : World) {cur : Array Value} {t : Nat} (hh : w.heap[g]? = some (.cells cur t (0, 0))) (hj : j < x.length) (hr : ∀ k, k < x.length → cur[o + k]? = (encB x)[k]?) : w.setCells g o (encB (x.set j y)) = w.setCell ⟨g, o + j, none⟩ (.int .u8 y) := by
  have hl : (encB (x.set j y)).length = x.length := by rw [encB_len, List.length_set]
  have hfit : o + x.length ≤ cur.size := by
    have := hr (x.length - 1) (by omega)
    rw [List.getElem?_eq_getElem (by rw [encB_len]; omega)] at this
    have := (Array.getElem?_eq_some_iff.1 this).1
    omega
  have h1 := setCells_heap g t (encB (x.set j y)) o w cur hh (by omega)
  have h2 : (w.setCell ⟨g, o + j, none⟩ (.int .u8 y)).heap[g]? = some (.cells (cur.setIfInBounds (o + j) (.int .u8 y)) t (0, 0)) := blk_put hh (o + j) _ rfl
  have he : (cur.toList.take o ++ encB (x.set j y) ++ cur.toList.drop (o + (encB (x.set j y)).length)).toArray = cur.setIfInBounds (o + j) (.int .u8 y) := by
    apply Array.ext'
    rw [Array.toList_setIfInBounds]
    show cur.toList.take o ++ encB (x.set j y) ++ cur.toList.drop (o + (encB (x.set j y)).length) = _
    rw [hl]
    apply List.ext_getElem?
    intro k
    have ho : (cur.toList.take o).length = o := by rw [List.length_take, Array.length_toList]; omega
    rw [List.append_assoc, List.getElem?_append, ho]
    split
    · next hk => rw [List.getElem?_take, if_pos hk, List.getElem?_set_ne (by omega)]
    · next hk =>
      rw [List.getElem?_append, hl]
      split
      · next hk2 =>
        have e1 : encB (x.set j y) = (encB x).set j (.int .u8 y) := by
          show (x.set j y).map (Value.int .u8) = _
          rw [List.map_set]; rfl
        rw [e1]
        by_cases hkj : k - o = j
        · rw [hkj, List.getElem?_set_self (by rw [encB_len]; exact hj), show k = o + j from by omega, List.getElem?_set_self (by rw [Array.length_toList]; omega)]
        · rw [List.getElem?_set_ne (fun h => hkj h.symm), List.getElem?_set_ne (by omega), ← hr _ hk2, Array.getElem?_toList, show o + (k - o) = k from by omega]
      · next hk2 => rw [List.getElem?_drop, List.getElem?_set_ne (by omega), show o + x.length + (k - o - x.length) = k from by omega]
  have hheap : (w.setCells g o (encB (x.set j y))).heap = (w.setCell ⟨g, o + j, none⟩ (.int .u8 y)).heap := by
    apply Array.ext_getElem?
    intro k
    by_cases hk : k = g
    · subst hk; rw [h1, h2, he]
    · rw [setCells_other g _ _ _ k hk, Below.heap_setCell w _ _ k hk]
  have hw : ∀ (vs : List Value) (o : Nat) (w : World), w.setCells g o vs = { w with heap := (w.setCells g o vs).heap } := by
    intro vs
    induction vs with
    | nil => intro o w; rfl
    | cons v r ih => intro o w; rw [World.setCells, ih]; rfl
  rw [hw, hheap]
  rfl
theorem St.row_byte (h : St w0 w (row kSec e (.slice A n c) xs :: ps)) (i : Nat) (hi : i < n) (j : Nat) (hj : j < 256) :
    ∃ g, A = some ⟨g, 0, none⟩ ∧ w.cell? ⟨g, i * 256 + j, none⟩ = some (.int .u8 ((xs.getD i []).getD j 0)) ∧ w.frozen? ⟨g, i * 256 + j, none⟩ = false ∧ Sec (xs.getD i []) ∧
      ∀ y : Int, 0 ≤ y ∧ y < 256 → St w0 (w.setCell ⟨g, i * 256 + j, none⟩ (.int .u8 y)) (row kSec e (.slice A n c) (xs.set i ((xs.getD i []).set j y)) :: ps) := by
  obtain ⟨g, hA, hr, ht, hs, hset⟩ := St.row_sec h i hi
  have hjl : j < (xs.getD i []).length := by rw [hs.1]; exact hj
  refine ⟨g, hA, ?_, (ht j hj).2, hs, fun y hy => ?_⟩
  · refine hr j _ ?_
    show ((xs.getD i []).map (Value.int .u8))[j]? = _
    rw [List.getElem?_map, List.getElem?_eq_getElem hjl, List.getD_eq_getElem?_getD (l := xs.getD i []), List.getElem?_eq_getElem hjl]
    rfl
  · have := hset _ (hs.set j hy)
    obtain ⟨cur, t, hh⟩ : ∃ cur t, w.heap[g]? = some (.cells cur t (0, 0)) := by
      obtain ⟨F, hp⟩ := h.tells
      obtain ⟨inner, ho⟩ := Kd.R_own hp
      obtain ⟨cells, hc⟩ := own_typed ho g (by rw [hA]; rfl)
      exact ⟨cells, e, hc⟩
    rwa [setCells_one g _ y j (i * 256) w hh hjl (fun k hk => by
      have := hr k _ (List.getElem?_eq_getElem (by rw [encB_len]; exact hk))
      rw [cell_of_row w g _ cur t (0, 0) hh] at this
      rw [this, List.getElem?_eq_getElem (by rw [encB_len]; exact hk)])] at this
/-- A row of bytes whose block begins with them. -/
theorem St.row_range {x : List Int} {m : Nat} (h : St w0 w (row (Kd.int .u8) e (.slice A m c) x :: ps)) (hm : 0 < m) : ∃ g, A = some ⟨g, 0, none⟩ ∧ w.rangeAt g 0 (encB x) := by
  obtain ⟨g, hA, _⟩ := h.row_at 0 hm 0
  refine ⟨g, hA, fun j v hj => ?_⟩
  obtain ⟨hl, _⟩ := h.row_C
  have hj2 : j < x.length := by
    have := (List.getElem?_eq_some_iff.1 hj).1
    rwa [encB_len] at this
  obtain ⟨g', hA', hc, _⟩ := h.row_at j (by omega) 0
  rw [hA] at hA'
  injection hA' with hA'
  injection hA' with hA'
  subst hA'
  rw [Nat.zero_add, hc, ← hj]
  show some (Value.int .u8 (x.getD j 0)) = (x.map (Value.int .u8))[j]?
  rw [List.getElem?_map, List.getElem?_eq_getElem hj2, List.getD_eq_getElem?_getD, List.getElem?_eq_getElem hj2]
  rfl
/-- A block of bytes is a row of them. -/
theorem St.blk_bytes {g : Nat} {x : List Int} (h : St w0 w (blk g (encB x).toArray e :: ps)) (hx : x.length ≤ 9223372036854775807) : St w0 w (row (Kd.int .u8) e (.slice (some ⟨g, 0, none⟩) x.length x.length) x :: ps) := by
  obtain ⟨F, hF, hp, hst⟩ := h.out
  refine hst (qs := [row (Kd.int .u8) e (.slice (some ⟨g, 0, none⟩) x.length x.length) x]) (Step.refl F w) (Sep.one (fun k hk => (hF k hk).2) (Kd.R_of_own (ok := F) ?_ (fun k hk => ?_)))
  · refine ⟨by rw [encB_len, Nat.mul_one], Or.inr ⟨g, x.length, _, rfl, Nat.zero_le _, hp.2, Nat.le_refl _, hx, ?_, ?_⟩⟩
    · rw [List.size_toArray, encB_len, Nat.mul_one]
    · show List.take (x.length * 1) (encB x) = encB x
      rw [List.take_of_length_le (by rw [encB_len]; omega)]
  · have : g = k := by simpa [Value.ownBlock] using hk
    exact this ▸ hp.1
theorem St.blk_row {g t : Nat} {cs : Array Value} (h : St w0 w (blk g cs t :: ps)) (cs' : Array Value) : St w0 (w.setRow g cs') (blk g cs' t :: ps) := by
  obtain ⟨F, hF, hp, hst⟩ := h.out
  exact hst (qs := [blk g cs' t]) (F' := F) ⟨rfl, rfl, rfl, by simp, fun i hi hni => setRow_other _ _ _ _ (fun e => hni (e ▸ hp.1)), fun _ h => Or.inl h⟩ (Sep.one (fun k hk => by simpa using (hF k hk).2) ⟨hp.1, setRow_heap _ _ _ _ _ _ hp.2⟩)
end
/-! The map: block b; each entry's row in blocks of its own; key x is out. A range over it (iterator in block r, keys gone through): it. -/
abbrev It := Option (Nat × List Int)
def mapF (w : World) (F : Nat → Prop) (b n : Nat) (m : Int → Option Value) : It → Prop
  | none => MapAt w b m n
  | some (r, ks) => F r ∧ r ≠ b ∧ Going w b r m n ks
theorem mapF_move {w w' : World} {F : Nat → Prop} {b n : Nat} {m : Int → Option Value} {it : It} (hm : ∀ k, F k → w'.heap[k]? = w.heap[k]?) (hb : F b) (h : mapF w F b n m it) : mapF w' F b n m it := by
  match it with
  | none => exact MapAt.keep h (hm b hb)
  | some (r, ks) => exact ⟨h.1, h.2.1, h.2.2.keep (hm b hb) (hm r h.1)⟩
def ofIt (it : It) (i : Nat) : Prop := match it with | none => False | some (r, _) => i = r
def entF (w : World) (e : Nat) (m : Int → Option Value) (c : Int → List (List Int)) (G : Int → Nat → Prop) (k : Int) : Prop :=
  m k = none ∧ c k = [] ∨ ∃ v, m k = some v ∧ c k ≠ [] ∧ kSec.R e w 0 (G k) v (c k)
def mpo (b n e : Nat) (m : Int → Option Value) (c : Int → List (List Int)) (x : Option Int) (it : It) : HP where
  P w F := F b ∧ mapF w F b n m it ∧ ∃ G : Int → Nat → Prop, (∀ k i, G k i → F i ∧ i ≠ b ∧ ¬ ofIt it i) ∧ (∀ k k' i, G k i → G k' i → k = k') ∧ ∀ k, some k ≠ x → entF w e m c G k
  move := by
    rintro w w' F hm ⟨hb, hf, G, h1, h2, h3⟩
    refine ⟨hb, mapF_move hm hb hf, G, h1, h2, fun k hk => ?_⟩
    rcases h3 k hk with h | ⟨v, a, b', hr⟩
    · exact Or.inl h
    · exact Or.inr ⟨v, a, b', Kd.R_move hr (fun i hi => hm i (h1 k i hi).1)⟩
def nilS : Value := .slice none 0 0
section
variable {w0 w w1 : World} {ps : List HP} {b n n' e : Nat} {m m' : Int → Option Value} {c c' : Int → List (List Int)} {x x' : Option Int} {it : It}
theorem St.map_at (h : St w0 w (mpo b n e m c x none :: ps)) : MapAt w b m n := by
  obtain ⟨F, hp⟩ := h.tells
  exact hp.2.1
theorem St.map_going {r : Nat} {ks : List Int} (h : St w0 w (mpo b n e m c x (some (r, ks)) :: ps)) : Going w b r m n ks := by
  obtain ⟨F, hp⟩ := h.tells
  exact hp.2.1.2.2
theorem St.map_isSome (h : St w0 w (mpo b n e m c none it :: ps)) (k : Int) : (m k).isSome = true ↔ c k ≠ [] := by
  obtain ⟨F, _, _, G, _, _, h3⟩ := h.tells
  rcases h3 k (by simp) with ⟨a, b⟩ | ⟨v, a, b, _⟩
  · simp [a, b]
  · simp [a, b]
/-- An entry's row is taken out. -/
theorem St.map_take (h : St w0 w (mpo b n e m c none it :: ps)) (s : Int) : ∃ v, (m s).getD nilS = v ∧ (m s = none ∧ c s = [] ∨ m s = some v ∧ c s ≠ []) ∧ St w0 w (mpo b n e m c (some s) it :: row kSec e v (c s) :: ps) := by
  obtain ⟨F, hF, hp, hst⟩ := h.out
  obtain ⟨hb, hf, G, h1, h2, h3⟩ := hp
  have key : ∀ v, (m s).getD nilS = v → (m s = none ∧ c s = [] ∨ m s = some v ∧ c s ≠ []) → kSec.R e w 0 (G s) v (c s) → ∃ v, (m s).getD nilS = v ∧ (m s = none ∧ c s = [] ∨ m s = some v ∧ c s ≠ []) ∧ St w0 w (mpo b n e m c (some s) it :: row kSec e v (c s) :: ps) := by
    intro v hv hd hr
    have hfm : mapF w (fun i => F i ∧ ¬ G s i) b n m it := by
      match it with
      | none => exact hf
      | some (r, ks) => exact ⟨⟨hf.1, fun q => (h1 s r q).2.2 rfl⟩, hf.2⟩
    refine ⟨v, hv, hd, hst (qs := [mpo b n e m c (some s) it, row kSec e v (c s)]) (Step.refl F w) ⟨fun i => F i ∧ ¬ G s i, fun k hk => ⟨hk.1, (hF k hk.1).2⟩, ⟨⟨hb, fun q => (h1 s b q).2.1 rfl⟩, hfm, fun k i => G k i ∧ k ≠ s, fun k i hk => ⟨⟨(h1 k i hk.1).1, fun q => hk.2 (h2 k s i hk.1 q)⟩, (h1 k i hk.1).2⟩, fun k k' i hk hk' => h2 k k' i hk.1 hk'.1, fun k hk => ?_⟩, G s, fun k hk => ⟨⟨(h1 s k hk).1, fun q => q.2 hk⟩, (hF k (h1 s k hk).1).2⟩, hr, trivial⟩⟩
    rcases h3 k (by simp) with q | ⟨v, a, b', hr⟩
    · exact Or.inl q
    · exact Or.inr ⟨v, a, b', Kd.R_mono hr (fun i hi => ⟨hi, fun q => hk (by rw [q])⟩)⟩
  rcases h3 s (by simp) with ⟨a, b'⟩ | ⟨v, a, b', hr⟩
  · refine key nilS (by rw [a]; rfl) (Or.inl ⟨a, b'⟩) ?_
    rw [b']
    exact Kd.R_nil _ _ _ _ _
  · exact key v (by rw [a]; rfl) (Or.inr ⟨a, b'⟩) hr
/-- An entry's row is put in. -/
theorem St.map_put {v : Value} {xs : List (List Int)} {s : Int} (h : St w0 w (mpo b n e m c (some s) it :: row kSec e v xs :: ps)) (hv : m s = none ∧ xs = [] ∨ m s = some v ∧ xs ≠ []) (hc : ∀ k, c' k = if k = s then xs else c k) : St w0 w (mpo b n e m c' none it :: ps) := by
  obtain ⟨F, hF, ⟨_, F1, hF1, ⟨hb, hf, G, h1, h2, h3⟩, F2, hF2, hr, _⟩, hst⟩ := (St.in_all [mpo b n e m c (some s) it, row kSec e v xs] h).out
  have hfm : mapF w F b n m it := by
    match it with
    | none => exact hf
    | some (r, ks) => exact ⟨(hF1 r hf.1).1, hf.2⟩
  refine hst (qs := [mpo b n e m c' none it]) (Step.refl F w) (Sep.one (fun k hk => (hF k hk).2) ⟨(hF1 b hb).1, hfm, fun k i => if k = s then F2 i else G k i, ?_, ?_, ?_⟩)
  · intro k i hk
    split at hk
    · have := (hF2 i hk).1
      refine ⟨this.1, fun q => this.2 (q ▸ hb), fun q => this.2 ?_⟩
      match it with
      | none => exact q.elim
      | some (r, ks) => exact (show i = r from q) ▸ hf.1
    · exact ⟨(hF1 i (h1 k i hk).1).1, (h1 k i hk).2⟩
  · intro k k' i hk hk'
    split at hk
    · split at hk'
      · simp_all
      · exact absurd (h1 k' i hk').1 (hF2 i hk).1.2
    · split at hk'
      · exact absurd (h1 k i hk).1 (hF2 i hk').1.2
      · exact h2 k k' i hk hk'
  · intro k _
    unfold entF
    rw [hc]
    by_cases hk : k = s
    · subst hk
      simp only [if_true]
      rcases hv with hv | hv
      · exact Or.inl hv
      · exact Or.inr ⟨v, hv.1, hv.2, hr⟩
    · simp only [if_neg hk]
      exact h3 k (fun q => hk (by injection q))
/-- The map's block turns. -/
theorem St.map_turn {o : Obj} (h : St w0 w (mpo b n e m c x none :: ps)) (hM : MapAt { w with heap := w.heap.setIfInBounds b o } b m' n') (hk : ∀ k, some k ≠ x' → (m' k = m k ∧ c' k = c k ∧ some k ≠ x) ∨ (m' k = none ∧ c' k = [])) :
    St w0 { w with heap := w.heap.setIfInBounds b o } (mpo b n' e m' c' x' none :: ps) := by
  obtain ⟨F, hF, hp, hst⟩ := h.out
  obtain ⟨hb, hf, G, h1, h2, h3⟩ := hp
  have hoth : ∀ i, i ≠ b → (w.heap.setIfInBounds b o)[i]? = w.heap[i]? := fun i hi => by rw [Array.getElem?_setIfInBounds_ne (fun q => hi q.symm)]
  refine hst (qs := [mpo b n' e m' c' x' none]) (F' := F) ⟨rfl, rfl, rfl, by simp, fun i _ hi => hoth i (fun q => hi (q ▸ hb)), fun _ h => Or.inl h⟩ (Sep.one (fun k hk => by simpa using (hF k hk).2) ⟨hb, hM, G, h1, h2, fun k hk' => ?_⟩)
  rcases hk k hk' with ⟨a, b', hx⟩ | ⟨a, b'⟩
  · unfold entF
    rw [a, b']
    rcases h3 k hx with q | ⟨v, q1, q2, hr⟩
    · exact Or.inl q
    · exact Or.inr ⟨v, q1, q2, Kd.R_move hr (fun i hi => hoth i (h1 k i hi).2.1)⟩
  · exact Or.inl ⟨a, b'⟩
/-- A range begins. -/
theorem St.map_begin {o : Obj} (h : St w0 w (mpo b n e m c x none :: ps)) (hM : Going (w.alloc o) b w.heap.size m n []) : St w0 (w.alloc o) (mpo b n e m c x (some (w.heap.size, [])) :: ps) := by
  obtain ⟨F, hF, hp, hst⟩ := h.out
  obtain ⟨hb, hf, G, h1, h2, h3⟩ := hp
  have hsz : (w.alloc o).heap.size = w.heap.size + 1 := by simp
  have hold : ∀ i, i < w.heap.size → (w.alloc o).heap[i]? = w.heap[i]? := fun i hi => (below_alloc (Below.refl w.heap.size w) o).block i hi
  refine hst (qs := [mpo b n e m c x (some (w.heap.size, []))]) (F' := fun k => F k ∨ k = w.heap.size) ⟨rfl, rfl, rfl, by omega, fun i hi _ => hold i hi, fun i hi => hi.imp id (fun q => Nat.le_of_eq q.symm)⟩ (Sep.one (fun k hk => ?_) ⟨Or.inl hb, ⟨Or.inr rfl, fun q => by have := (hF b hb).2; omega, hM⟩, G, fun k i hk => ⟨Or.inl (h1 k i hk).1, (h1 k i hk).2.1, fun q => ?_⟩, h2, fun k hk => ?_⟩)
  · rcases hk with hk | rfl
    · have := (hF k hk).2; omega
    · omega
  · have := (hF i (h1 k i hk).1).2
    have q' : i = w.heap.size := q
    omega
  · rcases h3 k hk with q | ⟨v, q1, q2, hr⟩
    · exact Or.inl q
    · exact Or.inr ⟨v, q1, q2, Kd.R_move hr (fun i hi => hold i (hF i (h1 k i hi).1).2)⟩
theorem St.map_next {r : Nat} {ks ks' : List Int} {o : Obj} (h : St w0 w (mpo b n e m c x (some (r, ks)) :: ps)) (hw : w1 = w ∨ w1 = w.drew) (hM : Going (Go.ChangeMaps.setBlock w1 r o) b r m n ks') : St w0 (Go.ChangeMaps.setBlock w1 r o) (mpo b n e m c x (some (r, ks')) :: ps) := by
  have h' : St w0 w1 (mpo b n e m c x (some (r, ks)) :: ps) := by
    rcases hw with rfl | rfl
    · exact h
    · exact h.drew
  clear h hw
  obtain ⟨F, hF, hp, hst⟩ := h'.out
  obtain ⟨hb, hf, G, h1, h2, h3⟩ := hp
  have hoth : ∀ i, i ≠ r → (w1.heap.setIfInBounds r o)[i]? = w1.heap[i]? := fun i hi => by rw [Array.getElem?_setIfInBounds_ne (fun q => hi q.symm)]
  refine hst (qs := [mpo b n e m c x (some (r, ks'))]) (F' := F) ⟨rfl, rfl, rfl, by simp [Go.ChangeMaps.setBlock], fun i _ hi => hoth i (fun q => hi (q ▸ hf.1)), fun _ h => Or.inl h⟩ (Sep.one (fun k hk => by simpa [Go.ChangeMaps.setBlock] using (hF k hk).2) ⟨hb, ⟨hf.1, hf.2.1, hM⟩, G, h1, h2, fun k hk => ?_⟩)
  rcases h3 k hk with q | ⟨v, q1, q2, hr⟩
  · exact Or.inl q
  · exact Or.inr ⟨v, q1, q2, Kd.R_move hr (fun i hi => hoth i (fun q => (h1 k i hi).2.2 q))⟩
theorem St.map_stop {r : Nat} {ks : List Int} (h : St w0 w (mpo b n e m c x (some (r, ks)) :: ps)) : St w0 w (mpo b n e m c x none :: ps) := by
  obtain ⟨F, hF, ⟨hb, hf, G, h1, h2, h3⟩, hst⟩ := h.out
  exact hst (qs := [mpo b n e m c x none]) (Step.refl F w) (Sep.one (fun k hk => (hF k hk).2) ⟨hb, hf.2.2.map, G, fun k i hk => ⟨(h1 k i hk).1, (h1 k i hk).2.1, fun q => q⟩, h2, h3⟩)
end
end Go.Proofs.Ytoloibjdiojmlaa.P
