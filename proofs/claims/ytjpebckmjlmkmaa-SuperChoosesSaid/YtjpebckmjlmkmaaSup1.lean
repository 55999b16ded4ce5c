/- Superblocks in plain words: what may be, what is written, what is read. -/
import Derived.Test.YtjpebckmjlmkmaaSup0
import Derived.Test.YtjpebckmjlmkmaaLab
import Derived.Test.YtjpebckmjlmkmaaSealLem
namespace Go.Proofs.Ytjpebckmjlmkmaa.P
open Go.RowKit Go.Proofs.YtjpebckmjlmkmaaW.PrintWords Go.Proofs.YtjpebckmjlmkmaaW.PrintLast Go.Proofs.Ytjpebckmjlmkmaa.NumLem Go.Proofs.Ytjpebckmjlmkmaa.SealLem Go.Proofs.Ytjpebckmjlmkmaa.SuperLem
set_option linter.unusedVariables false
set_option linter.unusedSimpArgs false
/-- A label. -/
def labN (s : ByteArray) : Bool := labR (bytesOf s) s.size
theorem labN_size {s : ByteArray} (h : labN s = true) : 1 ≤ s.size ∧ s.size ≤ 10 := by
  unfold labN labR at h
  simp only [Bool.and_eq_true, decide_eq_true_eq] at h
  exact h.2
def isZ (v : VolS) : Bool := decide (v.name = ⟨#[]⟩) && (!v.ro && (decide (v.root = 0) && decide (v.next = 0)))
theorem isZ_iff (v : VolS) : isZ v = true ↔ v = VolS.zero := by
  obtain ⟨n, r, x, y⟩ := v
  unfold isZ VolS.zero
  simp
def okV (sec : Int) (v : VolS) : Bool := labN v.name && (decide (0 ≤ v.root ∧ v.root ≤ sec - 1) && decide (2 ≤ v.next ∧ v.next ≤ 2147483647))
/-- A name of one of the first i. -/
def seenB (l : List VolS) (i : Nat) (n : ByteArray) : Bool := (l.take i).any fun u => decide (u.name = n)
def mayFrom (sec : Int) (l : List VolS) (i : Nat) : Nat → Bool
  | 0 => true
  | d + 1 => (isZ (l.getD i .zero) || (okV sec (l.getD i .zero) && !(seenB l i (l.getD i .zero).name))) && mayFrom sec l (i + 1) d
/-- Whether a superblock may be. -/
def mayR (s : SupS) : Bool := decide (1 ≤ s.gen ∧ s.gen ≤ 1099511627775) && (decide (32 ≤ s.sectors ∧ s.sectors ≤ 2048) && (decide (0 ≤ s.log ∧ s.log ≤ s.sectors - 1) && mayFrom s.sectors s.vols 0 8))
def Small (v : VolS) : Prop := v.name.size ≤ 10 ∧ (0 ≤ v.root ∧ v.root ≤ 2047) ∧ (0 ≤ v.next ∧ v.next ≤ 2147483647)
theorem small_zero : Small VolS.zero := ⟨by decide +kernel, by decide +kernel, by decide +kernel⟩
theorem small_ok {sec : Int} {v : VolS} (hs : sec ≤ 2048) (h : okV sec v = true) : Small v := by
  unfold okV at h
  simp only [Bool.and_eq_true, decide_eq_true_eq] at h
  have := labN_size h.1
  unfold Small
  omega
theorem mayFrom_small {sec : Int} {l : List VolS} (hs : sec ≤ 2048) : ∀ (d i : Nat), mayFrom sec l i d = true → ∀ j, i ≤ j → j < i + d → Small (l.getD j .zero)
  | 0, i, h, j, h1, h2 => by omega
  | d + 1, i, h, j, h1, h2 => by
    unfold mayFrom at h
    simp only [Bool.and_eq_true, Bool.or_eq_true] at h
    by_cases hj : j = i
    · subst hj
      rcases h.1 with hz | hz
      · rw [(isZ_iff _).1 hz]; exact small_zero
      · exact small_ok hs hz.1
    · exact mayFrom_small hs d (i + 1) h.2 j (by omega) (by omega)
structure Fine (s : SupS) : Prop where
  gen : 1 ≤ s.gen ∧ s.gen ≤ 1099511627775
  sectors : 32 ≤ s.sectors ∧ s.sectors ≤ 2048
  log : 0 ≤ s.log ∧ s.log ≤ 2047
  vols : ∀ v ∈ s.vols, Small v
theorem may_fine {s : SupS} (hl : s.vols.length = 8) (h : mayR s = true) : Fine s := by
  unfold mayR at h
  simp only [Bool.and_eq_true, decide_eq_true_eq] at h
  refine ⟨h.1, h.2.1, by omega, fun v hv => ?_⟩
  obtain ⟨j, hj, rfl⟩ := List.mem_iff_getElem.1 hv
  have := mayFrom_small (by omega) 8 0 h.2.2.2 j (by omega) (by omega)
  rwa [List.getD_eq_getElem?_getD, List.getElem?_eq_getElem hj] at this
def flagI (b : Bool) : Int := if b = true then 1 else 0
/-- A subvolume's place. -/
def volD (v : VolS) : List Int := digits v.name.size 1 ++ (bytesOf v.name ++ (List.replicate (10 - v.name.size) 0 ++ (digits (flagI v.ro) 1 ++ (digits v.root 2 ++ digits v.next 4))))
theorem volD_length (v : VolS) (h : v.name.size ≤ 10) : (volD v).length = 18 := by
  have := SuperLem.bytesOf_length v.name
  unfold volD
  simp only [List.length_append, digits_length, List.length_replicate]
  omega
theorem bytesOf_bytes (s : ByteArray) : Bytes (bytesOf s) := by
  intro x hx
  unfold bytesOf at hx
  obtain ⟨b, _, rfl⟩ := List.mem_map.1 hx
  have := b.toNat_lt
  omega
theorem volD_bytes (v : VolS) : Bytes (volD v) := (digits_bytes _ _).append ((bytesOf_bytes _).append ((zeros_bytes _).append ((digits_bytes _ _).append ((digits_bytes _ _).append (digits_bytes _ _)))))
def bodyD (s : SupS) : List Int := digits s.sectors 2 ++ (digits s.log 2 ++ s.vols.flatMap volD)
theorem volsD_length : ∀ (l : List VolS), (∀ v ∈ l, Small v) → (l.flatMap volD).length = 18 * l.length
  | [], _ => rfl
  | v :: l, h => by
    rw [List.flatMap_cons, List.length_append, volD_length v (h v (by simp)).1, volsD_length l (fun u hu => h u (by simp [hu])), List.length_cons]
    omega
theorem bodyD_length {s : SupS} (hl : s.vols.length = 8) (h : Fine s) : (bodyD s).length = 148 := by
  unfold bodyD
  rw [List.length_append, List.length_append, digits_length, digits_length, volsD_length _ h.vols, hl]
theorem bodyD_bytes (s : SupS) : Bytes (bodyD s) := by
  refine (digits_bytes _ _).append ((digits_bytes _ _).append fun x hx => ?_)
  obtain ⟨v, _, hx⟩ := List.mem_flatMap.1 hx
  exact volD_bytes v x hx
def slotOk (slot : Int) : Prop := 0 ≤ slot ∧ slot ≤ 1
instance (slot : Int) : Decidable (slotOk slot) := by unfold slotOk; infer_instance
/-- What Write answers. -/
def writeR (s : SupS) (slot : Int) : List Int × Int := if mayR s = true ∧ slotOk slot then (block 1 slot 0 0 s.gen (bodyD s), 0) else ([], 1)
theorem sealMay_sup {s : SupS} (h : Fine s) {slot : Int} (hs : slotOk slot) : sealMay 1 slot 0 0 s.gen = true := by
  have := h.gen
  unfold slotOk at hs
  rw [may_iff]
  omega
theorem sealR_sup {s : SupS} (hl : s.vols.length = 8) (h : Fine s) {slot : Int} (hs : slotOk slot) : sealR 1 slot 0 0 s.gen (bodyD s) = (block 1 slot 0 0 s.gen (bodyD s), 0) :=
  sealR_ok _ _ _ _ _ _ (sealMay_sup h hs) (by rw [bodyD_length hl h]; decide)
/-- What stands in a place. -/
def volAt (b : List Int) : VolS := ⟨strOfNums ((b.drop 1).take (val (b.take 1)).toNat), decide (val ((b.drop 11).take 1) = 1), val ((b.drop 12).take 2), val ((b.drop 14).take 4)⟩
def volGood (b : List Int) : Bool := decide (val (b.take 1) ≤ 10) && (decide (((b.drop 1).take 10).drop (val (b.take 1)).toNat = List.replicate (10 - (val (b.take 1)).toNat) 0) && decide (val ((b.drop 11).take 1) ≤ 1))
theorem strOf_bytes (s : ByteArray) : strOfNums (bytesOf s) = s := by
  obtain ⟨⟨l⟩⟩ := s
  unfold strOfNums bytesOf
  simp only [List.map_map]
  have : ((fun n : Int => UInt8.ofNat n.toNat) ∘ fun b : UInt8 => (b.toNat : Int)) = id := by
    funext b
    simp
  rw [this]
  simp
theorem bytes_of (l : List Int) (h : Bytes l) : bytesOf (strOfNums l) = l := by
  unfold strOfNums bytesOf
  rw [List.map_map]
  conv => rhs; rw [← List.map_id l]
  apply List.map_congr_left
  intro x hx
  have := h x hx
  simp
  omega
theorem flagI_range (b : Bool) : 0 ≤ flagI b ∧ flagI b ≤ 1 := by cases b <;> decide
theorem vol_back (v : VolS) (hs : Small v) (r : List Int) : volAt (volD v ++ r) = v ∧ volGood (volD v ++ r) = true ∧ (volD v ++ r).drop 18 = r := by
  obtain ⟨h1, h2, h3⟩ := hs
  have hb := SuperLem.bytesOf_length v.name
  have hf := flagI_range v.ro
  have e : volD v ++ r = digits v.name.size 1 ++ ((bytesOf v.name ++ List.replicate (10 - v.name.size) 0) ++ (digits (flagI v.ro) 1 ++ (digits v.root 2 ++ (digits v.next 4 ++ r)))) := by
    unfold volD; simp only [List.append_assoc]
  have c1 := cut2 (digits v.name.size 1) ((bytesOf v.name ++ List.replicate (10 - v.name.size) 0) ++ (digits (flagI v.ro) 1 ++ (digits v.root 2 ++ (digits v.next 4 ++ r)))) 1 (digits_length _ _)
  rw [← e] at c1
  have c2 := cut2 (bytesOf v.name ++ List.replicate (10 - v.name.size) 0) (digits (flagI v.ro) 1 ++ (digits v.root 2 ++ (digits v.next 4 ++ r))) 10 (by rw [List.length_append, List.length_replicate]; omega)
  rw [← c1.2, List.drop_drop] at c2
  have c3 := cut2 (digits (flagI v.ro) 1) (digits v.root 2 ++ (digits v.next 4 ++ r)) 1 (digits_length _ _)
  rw [← c2.2, List.drop_drop] at c3
  have c4 := cut2 (digits v.root 2) (digits v.next 4 ++ r) 2 (digits_length _ _)
  rw [← c3.2, List.drop_drop] at c4
  have c5 := cut2 (digits v.next 4) r 4 (digits_length _ _)
  rw [← c4.2, List.drop_drop] at c5
  simp only [Nat.reduceAdd] at c1 c2 c3 c4 c5
  have v0 : val ((volD v ++ r).take 1) = v.name.size := by rw [c1.1]; exact val_dig _ 1 (by omega) (by show (v.name.size : Int) < 256; omega)
  have v1 : val (((volD v ++ r).drop 11).take 1) = flagI v.ro := by rw [c3.1]; exact val_dig _ 1 hf.1 (by show _ < (256 : Int); omega)
  have v2 : val (((volD v ++ r).drop 12).take 2) = v.root := by rw [c4.1]; exact val_dig _ 2 (by omega) (by show _ < (65536 : Int); omega)
  have v3 : val (((volD v ++ r).drop 14).take 4) = v.next := by rw [c5.1]; exact val_dig _ 4 (by omega) (by show _ < (4294967296 : Int); omega)
  have v4 : ((volD v ++ r).drop 1).take v.name.size = bytesOf v.name := by
    have := congrArg (List.take v.name.size) c2.1
    rw [List.take_take, Nat.min_eq_left h1, List.take_left' hb] at this
    exact this
  refine ⟨?_, ?_, c5.2⟩
  · unfold volAt
    rw [v0, v1, v2, v3, Int.toNat_natCast, v4, strOf_bytes]
    cases hro : v.ro <;> (obtain ⟨n, ro, x, y⟩ := v; simp only at hro; subst hro; simp [flagI])
  · unfold volGood
    rw [v0, v1, Int.toNat_natCast, c2.1, List.drop_left' hb]
    simp only [Bool.and_eq_true, decide_eq_true_eq]
    exact ⟨by omega, trivial, hf.2⟩
theorem vol_form (b : List Int) (hb : Bytes b) (hl : 18 ≤ b.length) (hg : volGood b = true) : volD (volAt b) ++ b.drop 18 = b := by
  unfold volGood at hg
  simp only [Bool.and_eq_true, decide_eq_true_eq] at hg
  obtain ⟨g1, g2, g3⟩ := hg
  have hv := val_range (b.take 1) (hb.take 1)
  have hf := val_range ((b.drop 11).take 1) ((hb.drop 11).take 1)
  obtain ⟨n, hn⟩ := Int.eq_ofNat_of_zero_le hv.1
  have d0 := dig_at b 0 1 (by omega) hb
  rw [List.drop_zero] at d0
  rw [hn, Int.toNat_natCast] at g2
  rw [hn] at g1 d0
  have hsz : (strOfNums ((b.drop 1).take n)).size = n := by rw [strOfNums_size, List.length_take, List.length_drop]; omega
  have hby : bytesOf (strOfNums ((b.drop 1).take n)) = (b.drop 1).take n := bytes_of _ ((hb.drop 1).take n)
  have hfl : flagI (decide (val ((b.drop 11).take 1) = 1)) = val ((b.drop 11).take 1) := by
    unfold flagI
    by_cases h : val ((b.drop 11).take 1) = 1
    · rw [if_pos (by simpa using h), h]
    · rw [if_neg (by simpa using h)]; omega
  have hmid : (b.drop 1).take n ++ List.replicate (10 - n) 0 = (b.drop 1).take 10 := by
    rw [← g2]
    have := List.take_append_drop n ((b.drop 1).take 10)
    rwa [List.take_take, Nat.min_eq_left (by omega)] at this
  unfold volD volAt
  simp only [hn, Int.toNat_natCast, hsz, hby, hfl, List.append_assoc]
  rw [d0, dig_at b 11 1 (by omega) hb, dig_at b 12 2 (by omega) hb, dig_at b 14 4 (by omega) hb, ← List.append_assoc ((b.drop 1).take n), hmid, cut_at b 14 4, cut_at b 12 2, cut_at b 11 1, cut_at b 1 10, List.take_append_drop]
theorem volAt_ro (b : List Int) : True := trivial
def volsP (l : List Int) : Nat → List VolS
  | 0 => []
  | d + 1 => volAt l :: volsP (l.drop 18) d
def volsGood (l : List Int) : Nat → Bool
  | 0 => decide (l = List.replicate l.length 0)
  | d + 1 => volGood l && volsGood (l.drop 18) d
def volsN (l : List Int) : Nat → Bool
  | 0 => true
  | d + 1 => decide (val (l.take 1) ≤ 10) && volsN (l.drop 18) d
theorem volsP_length : ∀ (d : Nat) (l : List Int), (volsP l d).length = d
  | 0, _ => rfl
  | d + 1, l => by rw [volsP, List.length_cons, volsP_length d]
theorem volsGood_N : ∀ (d : Nat) (l : List Int), volsGood l d = true → volsN l d = true
  | 0, _, _ => rfl
  | d + 1, l, h => by
    unfold volsGood volGood at h
    unfold volsN
    simp only [Bool.and_eq_true, decide_eq_true_eq] at h ⊢
    exact ⟨h.1.1, volsGood_N d _ h.2⟩
theorem vols_back : ∀ (vs : List VolS) (z : Nat), (∀ v ∈ vs, Small v) → volsP (vs.flatMap volD ++ List.replicate z 0) vs.length = vs ∧ volsGood (vs.flatMap volD ++ List.replicate z 0) vs.length = true
  | [], z, _ => ⟨rfl, by simp [volsGood]⟩
  | v :: vs, z, h => by
    have hv := vol_back v (h v (by simp)) (vs.flatMap volD ++ List.replicate z 0)
    have ih := vols_back vs z (fun u hu => h u (by simp [hu]))
    rw [List.flatMap_cons, List.append_assoc, List.length_cons, volsP, volsGood, hv.1, hv.2.1, hv.2.2, ih.1, ih.2]
    exact ⟨rfl, rfl⟩
theorem vols_form : ∀ (d : Nat) (l : List Int), Bytes l → 18 * d ≤ l.length → volsGood l d = true → (volsP l d).flatMap volD ++ List.replicate (l.length - 18 * d) 0 = l
  | 0, l, hb, hl, h => by
    unfold volsGood at h
    simp only [decide_eq_true_eq] at h
    rw [volsP, List.flatMap_nil, List.nil_append, Nat.mul_zero, Nat.sub_zero]
    exact h.symm
  | d + 1, l, hb, hl, h => by
    unfold volsGood at h
    simp only [Bool.and_eq_true] at h
    have ih := vols_form d (l.drop 18) (hb.drop 18) (by rw [List.length_drop]; omega) h.2
    rw [List.length_drop, show l.length - 18 - 18 * d = l.length - 18 * (d + 1) from by omega] at ih
    rw [volsP, List.flatMap_cons, List.append_assoc, ih]
    exact vol_form l hb (by omega) h.1
/-- What stands in a body. -/
def supP (gen : Int) (l : List Int) : SupS := ⟨gen, val (l.take 2), val ((l.drop 2).take 2), volsP (l.drop 4) 8⟩
def goodP (l : List Int) : Bool := volsGood (l.drop 4) 8
theorem sup_back {s : SupS} (hl : s.vols.length = 8) (h : Fine s) (z : Nat) : supP s.gen (bodyD s ++ List.replicate z 0) = s ∧ goodP (bodyD s ++ List.replicate z 0) = true := by
  have e : bodyD s ++ List.replicate z 0 = digits s.sectors 2 ++ (digits s.log 2 ++ (s.vols.flatMap volD ++ List.replicate z 0)) := by
    unfold bodyD; simp only [List.append_assoc]
  have c1 := cut2 (digits s.sectors 2) (digits s.log 2 ++ (s.vols.flatMap volD ++ List.replicate z 0)) 2 (digits_length _ _)
  rw [← e] at c1
  have c2 := cut2 (digits s.log 2) (s.vols.flatMap volD ++ List.replicate z 0) 2 (digits_length _ _)
  rw [← c1.2, List.drop_drop] at c2
  simp only [Nat.reduceAdd] at c1 c2
  have hv := vols_back s.vols z h.vols
  rw [hl] at hv
  have h1 := h.sectors
  have h2 := h.log
  unfold supP goodP
  rw [c1.1, c2.1, c2.2, hv.1, hv.2, val_dig _ 2 (by omega) (by show _ < (65536 : Int); omega), val_dig _ 2 (by omega) (by show _ < (65536 : Int); omega)]
  exact ⟨rfl, rfl⟩
theorem sup_form (gen : Int) (l : List Int) (hb : Bytes l) (hl : l.length = 236) (hg : goodP l = true) : bodyD (supP gen l) ++ List.replicate 88 0 = l := by
  unfold goodP at hg
  have hv := vols_form 8 (l.drop 4) (hb.drop 4) (by rw [List.length_drop]; omega) hg
  rw [List.length_drop, hl] at hv
  unfold bodyD supP
  simp only [List.append_assoc]
  have d0 := dig_at l 0 2 (by omega) hb
  rw [List.drop_zero] at d0
  rw [hv, d0, dig_at l 2 2 (by omega) hb, cut_at l 2 2, List.take_append_drop]
theorem supP_length (gen : Int) (l : List Int) : (supP gen l).vols.length = 8 := volsP_length 8 _
/-- The kind, the address, the count, the level, the generation, the body of what is opened. -/
def kindOf (b : List Int) : Int := val ((b.drop 4).take 1)
def addrOf (b : List Int) : Int := val ((b.drop 6).take 2)
def countOf (b : List Int) : Int := val ((b.drop 8).take 2)
def levelOf (b : List Int) : Int := val ((b.drop 5).take 1)
def genOf (b : List Int) : Int := val ((b.drop 10).take 5)
def headOk (b : List Int) (slot : Int) : Prop := openOk b ∧ kindOf b = 1 ∧ addrOf b = slot ∧ levelOf b = 0 ∧ countOf b = 0 ∧ slotOk slot
instance (b : List Int) (slot : Int) : Decidable (headOk b slot) := by unfold headOk; infer_instance
/-- What Read answers. -/
def readR (b : List Int) (slot : Int) : Option SupS := if headOk b slot ∧ goodP (b.drop 20) = true ∧ mayR (supP (genOf b) (b.drop 20)) = true then some (supP (genOf b) (b.drop 20)) else none
/-- What the document's Read answers. -/
def refReadR (b : List Int) (slot : Int) : Option SupS := if openOk b ∧ volsN (b.drop 24) 8 = true ∧ writeR (supP (genOf b) (b.drop 20)) slot = (b, 0) then some (supP (genOf b) (b.drop 20)) else none
theorem writeR_ok {s : SupS} {slot : Int} {b : List Int} (h : writeR s slot = (b, 0)) : mayR s = true ∧ slotOk slot ∧ b = block 1 slot 0 0 s.gen (bodyD s) := by
  unfold writeR at h
  split at h
  · rename_i hc
    exact ⟨hc.1, hc.2, (congrArg Prod.fst h).symm⟩
  · exact absurd (show (1 : Int) = 0 from congrArg Prod.snd h) (by decide)
theorem write_opens {s : SupS} (hl : s.vols.length = 8) {slot : Int} {b : List Int} (h : writeR s slot = (b, 0)) :
    Fine s ∧ slotOk slot ∧ b.length = 256 ∧ Bytes b ∧ openOk b ∧ kindOf b = 1 ∧ addrOf b = slot ∧ countOf b = 0 ∧ levelOf b = 0 ∧ genOf b = s.gen ∧ b.drop 20 = bodyD s ++ List.replicate 88 0 := by
  obtain ⟨hm, hs, rfl⟩ := writeR_ok h
  have hf := may_fine hl hm
  have hlen := bodyD_length hl hf
  have ho := seal_open 1 slot 0 0 s.gen (bodyD s) (sealMay_sup hf hs) (by omega)
  refine ⟨hf, hs, block_len _ _ _ _ _ _ (by omega), block_bytes _ _ _ _ _ _ (sealMay_sup hf hs) (bodyD_bytes s), ?_⟩
  rw [hlen] at ho
  generalize block 1 slot 0 0 s.gen (bodyD s) = b at ho
  unfold openR at ho
  split at ho
  · rename_i hoo
    simp only [Prod.mk.injEq] at ho
    exact ⟨hoo, ho.1, ho.2.1, ho.2.2.1, ho.2.2.2.1, ho.2.2.2.2.1, ho.2.2.2.2.2.1⟩
  · simp at ho
theorem read_write {s : SupS} (hl : s.vols.length = 8) {slot : Int} {b : List Int} (h : writeR s slot = (b, 0)) : readR b slot = some s := by
  obtain ⟨hf, hs, h1, h2, h3, h4, h5, h6, h7, h8, h9⟩ := write_opens hl h
  have hb := sup_back hl hf 88
  unfold readR
  rw [h8, h9, hb.1, if_pos ⟨⟨h3, h4, h5, h7, h6, hs⟩, hb.2, (writeR_ok h).1⟩]
/-- Both read the same. -/
theorem read_same (b : List Int) (hb : Bytes b) (slot : Int) : readR b slot = refReadR b slot := by
  unfold readR refReadR
  by_cases h1 : headOk b slot ∧ goodP (b.drop 20) = true ∧ mayR (supP (genOf b) (b.drop 20)) = true
  · rw [if_pos h1]
    obtain ⟨⟨ho, hk, ha, hlv, hc, hs⟩, hg, hm⟩ := h1
    have hlen : (b.drop 20).length = 236 := by rw [List.length_drop, ho.1]
    have hform := sup_form (genOf b) (b.drop 20) (hb.drop 20) hlen hg
    have hfine := may_fine (supP_length _ _) hm
    have hbl := bodyD_length (supP_length _ _) hfine
    have hsm : sealMay 1 slot 0 0 (genOf b) = true := sealMay_sup hfine hs
    have hos := open_seal b hb ho
    change sealR (kindOf b) (addrOf b) (countOf b) (levelOf b) (genOf b) (b.drop 20) = (b, 0) at hos
    rw [hk, ha, hc, hlv] at hos
    rw [sealR_ok _ _ _ _ _ _ hsm (by omega)] at hos
    have hblk : block 1 slot 0 0 (genOf b) (bodyD (supP (genOf b) (b.drop 20))) = b := by
      have e : sealRow 1 slot 0 0 (genOf b) (bodyD (supP (genOf b) (b.drop 20))) = sealRow 1 slot 0 0 (genOf b) (b.drop 20) := by
        rw [row_dig _ _ _ _ _ _ hsm, row_dig _ _ _ _ _ _ hsm, hbl, hlen, hform, Nat.sub_self, List.replicate_zero, List.append_nil]
      unfold block at hos ⊢
      rw [e]
      exact congrArg Prod.fst hos
    have hw : writeR (supP (genOf b) (b.drop 20)) slot = (b, 0) := by
      unfold writeR
      rw [if_pos ⟨hm, hs⟩]
      exact congrArg (fun q => (q, (0 : Int))) hblk
    have hn : volsN (b.drop 24) 8 = true := by
      have := volsGood_N 8 _ hg
      rwa [List.drop_drop] at this
    rw [if_pos ⟨ho, hn, hw⟩]
  · rw [if_neg h1, if_neg]
    rintro ⟨ho, hn, hw⟩
    obtain ⟨hf, hs, g1, g2, g3, g4, g5, g6, g7, g8, g9⟩ := write_opens (supP_length _ _) hw
    have hbk := sup_back (supP_length _ _) hf 88
    rw [← g9] at hbk
    exact h1 ⟨⟨g3, g4, g5, g7, g6, hs⟩, hbk.2, (writeR_ok hw).1⟩
/-- In its slot alone. -/
theorem read_slot {s : SupS} (hl : s.vols.length = 8) {slot : Int} {b : List Int} (h : writeR s slot = (b, 0)) (t : Int) (ht : t ≠ slot) : readR b t = none := by
  obtain ⟨hf, hs, h1, h2, h3, h4, h5, h6, h7, h8, h9⟩ := write_opens hl h
  unfold readR
  rw [if_neg]
  rintro ⟨⟨_, _, ha, _⟩, _⟩
  exact ht (ha.symm.trans h5)
/-- With one byte turned it is none. -/
theorem read_turned {s : SupS} (hl : s.vols.length = 8) {slot : Int} {b : List Int} (h : writeR s slot = (b, 0)) (t : Int) (i : Nat) (hi : i < b.length) (x : Int) (hx : 0 ≤ x ∧ x < 256) (hne : x ≠ b[i]) : readR (b.set i x) t = none := by
  obtain ⟨hf, hs, h1, h2, h3, h4, h5, h6, h7, h8, h9⟩ := write_opens hl h
  unfold readR
  rw [if_neg]
  rintro ⟨⟨ho, _⟩, _⟩
  exact turned_no b h2 h3 i hi x hx hne ho
theorem read_none (t : Int) : readR [] t = none := by
  unfold readR
  rw [if_neg]
  rintro ⟨⟨ho, _⟩, _⟩
  exact absurd ho.1 (by decide)
/-- Which of two superblocks counts. -/
def newerR (a b : Option SupS) : Option (SupS × Int) :=
  match a, b with
  | none, none => none
  | some s, none => some (s, 0)
  | none, some t => some (t, 1)
  | some s, some t => if t.gen > s.gen then some (t, 1) else some (s, 0)
end Go.Proofs.Ytjpebckmjlmkmaa.P
