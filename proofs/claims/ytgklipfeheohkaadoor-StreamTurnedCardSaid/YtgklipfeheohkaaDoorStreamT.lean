/- A record, taken. -/
import Derived.Test.YtgklipfeheohkaaDoorStreamP
import Derived.Test.YtgklipfeheohkaaDoorPx10
namespace Go.Proofs.YtgklipfeheohkaaDoor.P
open Go.RowKit Go.Proofs.YtgklipfeheohkaaDoorW.PrintWords Go.Proofs.YtgklipfeheohkaaDoorW.PrintLast Go.Proofs.YtgklipfeheohkaaDoorW.PrintMore Go.Proofs.YtgklipfeheohkaaDoor.NumLem
set_option linter.unusedVariables false
set_option linter.unusedSimpArgs false
theorem strOf_bytes (s : ByteArray) : strOfNums (bytesOf s) = s := by
  obtain ⟨⟨l⟩⟩ := s
  unfold strOfNums bytesOf
  simp only [List.map_map]
  have : ((fun n : Int => UInt8.ofNat n.toNat) ∘ fun b : UInt8 => (b.toNat : Int)) = id := by
    funext b
    simp
  rw [this]
  simp
theorem bytes_of (l : List Int) (h : Bytes l) : bytesOf (strOfNums l) = l := by
  unfold strOfNums bytesOf
  rw [List.map_map]
  conv => rhs; rw [← List.map_id l]
  apply List.map_congr_left
  intro x hx
  have := h x hx
  simp
  omega
/-- What was laid down, out of what is read. -/
theorem digits_val (l : List Int) (h : Bytes l) : digits (val l) l.length = l := by
  induction l using snoc_ind with
  | h0 => rfl
  | h1 l c ih =>
    have hc := h c (by simp)
    have hl : Bytes l := fun x hx => h x (by simp [hx])
    rw [val_snoc, List.length_append, List.length_singleton, digits, show (256 * val l + c) / 256 = val l by omega, show (256 * val l + c) % 256 = c by omega, ih hl]
theorem takeR_form (l : List Int) (n : Nat) (h1 : 1 ≤ n) (h2 : n ≤ 7) (hb : Bytes l) (h : (takeR l n).2.2 = 0) : l = digits (takeR l n).1 n ++ (takeR l n).2.1 ∧ 0 ≤ (takeR l n).1 ∧ (takeR l n).1 < 256 ^ n := by
  unfold takeR at *
  rw [if_neg (by omega)] at h ⊢
  by_cases hl : (l.length : Int) < n
  · rw [if_pos hl] at h
    exact absurd h (by decide)
  · rw [if_neg hl, Int.toNat_natCast]
    have ht : (l.take n).length = n := by rw [List.length_take]; omega
    have hr := val_range (l.take n) (hb.take n)
    rw [ht] at hr
    refine ⟨?_, hr.1, hr.2⟩
    show l = digits (val (l.take n)) n ++ l.drop n
    have hd := digits_val (l.take n) (hb.take n)
    rw [ht] at hd
    rw [hd, List.take_append_drop]
theorem takeRowR_form (l : List Int) (n : Nat) (h1 : 1 ≤ n) (h2 : n ≤ 7) (hb : Bytes l) (h : (takeRowR l n).2.2 = 0) : l = digits ((takeRowR l n).1.length : Int) n ++ ((takeRowR l n).1 ++ (takeRowR l n).2.1) ∧ ((takeRowR l n).1.length : Int) < 256 ^ n ∧ Bytes (takeRowR l n).1 ∧ Bytes (takeRowR l n).2.1 := by
  unfold takeRowR at *
  by_cases hc : (takeR l n).2.2 ≠ 0 ∨ ((takeR l n).2.1.length : Int) < (takeR l n).1
  · rw [if_pos hc] at h
    exact absurd h (by decide)
  · rw [if_neg hc]
    have he : (takeR l n).2.2 = 0 := by omega
    obtain ⟨hf, h0, hm⟩ := takeR_form l n h1 h2 hb he
    obtain ⟨v, hv⟩ := Int.eq_ofNat_of_zero_le h0
    rw [hv] at hc hf hm ⊢
    rw [Int.toNat_natCast]
    have hlen : ((takeR l n).2.1.take v).length = v := by rw [List.length_take]; omega
    have hbt : Bytes (takeR l n).2.1 := by
      have := hb
      rw [hf] at this
      exact fun x hx => this x (List.mem_append_right _ hx)
    rw [hlen]
    exact ⟨by rw [List.take_append_drop]; exact hf, hm, hbt.take v, hbt.drop v⟩
theorem TakeText_small (l : List Int) (hb : Bytes l) (hl : l.length ≤ 1000000) : num_TakeText.f l = some (strOfNums (takeRowR l 1).1, (takeRowR l 1).2.1, (takeRowR l 1).2.2) := TakeText_is l hb (by omega)
theorem TakeText_back (s : ByteArray) (r : List Int) (hs : s.size ≤ 255) (hr : Bytes r) (hl : r.length ≤ 900000) : num_TakeText.f (digits (s.size : Int) 1 ++ bytesOf s ++ r) = some (s, r, 0) := by
  have hb : Bytes (digits (s.size : Int) 1 ++ bytesOf s ++ r) := ((digits_bytes _ _).append (bytesOf_bytes s)).append hr
  have h := take_back (bytesOf s) r 1 (by decide) (by decide) (by rw [bytesOf_length]; omega)
  rw [bytesOf_length] at h
  have e : takeRowR (digits (s.size : Int) 1 ++ bytesOf s ++ r) 1 = (bytesOf s, r, 0) := by rw [List.append_assoc]; exact h
  rw [TakeText_small _ hb (by simp only [List.length_append, digits_length, bytesOf_length]; omega), e]
  show some (strOfNums (bytesOf s), r, (0 : Int)) = _
  rw [strOf_bytes]
theorem TakeBytes_back (x r : List Int) (hx : Bytes x) (hs : x.length ≤ 65535) (hr : Bytes r) (hl : r.length ≤ 800000) : num_TakeBytes.f (digits (x.length : Int) 2 ++ x ++ r) = some (x, r, 0) := by
  have hb : Bytes (digits (x.length : Int) 2 ++ x ++ r) := ((digits_bytes _ _).append hx).append hr
  have h := take_back x r 2 (by decide) (by decide) (by omega)
  have e : takeRowR (digits (x.length : Int) 2 ++ x ++ r) 2 = (x, r, 0) := by rw [List.append_assoc]; exact h
  rw [TakeBytes_is _ hb (by simp only [List.length_append, digits_length]; omega), e]
theorem Take4_back (v : Int) (r : List Int) (h0 : 0 ≤ v) (h1 : v ≤ 8192) (hr : Bytes r) (hl : r.length ≤ 900000) : num_Take.f (digits v 4 ++ r) 4 = some (v, r, 0) := by
  obtain ⟨m, rfl⟩ := Int.eq_ofNat_of_zero_le h0
  rw [Take_is _ 4 ((digits_bytes _ _).append hr) (by simp only [List.length_append, digits_length]; omega)]
  exact congrArg some (takeR_digits m 4 r (by decide) (by decide) (by omega))
theorem recB_bytes {r : S37} (hb : Bytes r.f4) : Bytes (recB r) := by
  unfold recB
  refine Bytes.append (Bytes.append ?_ ((digits_bytes _ _).append (bytesOf_bytes _))) ?_
  · intro x hx
    obtain rfl := List.mem_singleton.1 hx
    omega
  · split
    · exact (digits_bytes _ _).append (bytesOf_bytes _)
    · split
      · exact digits_bytes _ _
      · split
        · exact (digits_bytes _ _).append ((digits_bytes _ _).append hb)
        · exact Bytes.nil
theorem strOf_nil : strOfNums [] = ⟨#[]⟩ := rfl
/-- A record that was laid down is taken as it was. -/
theorem rec_back (k : Nat) (hk : 3 ≤ k) (r : S37) (G : Good r) (hb : Bytes r.f4) (rest : List Int) (hr : Bytes rest) (hl : rest.length ≤ 100000) :
    stream_record.f k (recB r ++ rest) = some (r.f0, r.f1, r.f2, r.f3, r.f4, rest, true) := by
  obtain ⟨q, rfl⟩ : ∃ q, k = q + 1 := ⟨k - 1, by omega⟩
  have h1 := okP_le G.path
  have hk0 := G.kind
  have hg : ∀ (a : Int) (b c : ByteArray) (d : Int) (l : List Int), (⟨a, b, c, d, l⟩ : S37) = r → stream_Good.f q a b c d l = some true := by
    rintro a b c d l rfl
    rw [good_is q (by omega) ⟨a, b, c, d, l⟩, (goodR_is _).2 G]
  obtain ⟨a, b, c, d, l⟩ := r
  have hg' := hg a b c d l rfl
  simp only at h1 hk0 hb
  have e0 : ∀ X : List Int, rd ([a % 256] ++ X) 0 = a := fun X => by
    show a % 256 = a
    omega
  have ew : wrap64 a = a := by unfold wrap64; omega
  have hd1 : ∀ X : List Int, ([a % 256] ++ X).drop 1 = X := fun X => rfl
  unfold recB stream_record.f
  simp only
  by_cases h3 : a = 3
  · have h2 := okP_le (G.from3 h3)
    have h4 := G.data0 (by show a ≠ 4; omega)
    have h5 := G.off0 (by show ¬ (a = 4 ∨ a = 5); omega)
    simp only at h2 h4 h5
    subst h4 h5
    have eq : [a % 256] ++ (digits (b.size : Int) 1 ++ bytesOf b) ++ (digits (c.size : Int) 1 ++ bytesOf c) ++ rest = [a % 256] ++ (digits (b.size : Int) 1 ++ bytesOf b ++ (digits (c.size : Int) 1 ++ bytesOf c ++ rest)) := by simp only [List.append_assoc]
    rw [if_pos h3, eq, if_pos (by rw [List.length_append]; simp; omega), if_pos (by rw [List.length_append]; simp; omega), hd1, TakeText_back b _ (by omega) (((digits_bytes _ _).append (bytesOf_bytes c)).append hr) (by simp only [List.length_append, digits_length, bytesOf_length]; omega), Option.bind_some, if_pos rfl, e0, ew, if_pos h3, TakeText_back c rest (by omega) hr (by omega), Option.bind_some]
    simp only [stream_record.j0, if_true]
    rw [hg', Option.bind_some]
  · rw [if_neg h3]
    have h6 := G.from0 (by show a ≠ 3; omega)
    simp only at h6
    subst h6
    by_cases h5 : a = 5
    · have h2 := G.off (Or.inr h5)
      have h4 := G.data0 (by show a ≠ 4; omega)
      simp only at h2 h4
      subst h4
      have eq : [a % 256] ++ (digits (b.size : Int) 1 ++ bytesOf b) ++ digits d 4 ++ rest = [a % 256] ++ (digits (b.size : Int) 1 ++ bytesOf b ++ (digits d 4 ++ rest)) := by simp only [List.append_assoc]
      rw [if_pos h5, eq, if_pos (by rw [List.length_append]; simp; omega), if_pos (by rw [List.length_append]; simp; omega), hd1, TakeText_back b _ (by omega) ((digits_bytes _ _).append hr) (by simp only [List.length_append, digits_length]; omega), Option.bind_some, if_pos rfl, e0, ew, if_neg h3, if_pos h5, Take4_back d rest h2.1 h2.2 hr (by omega), Option.bind_some]
      simp only [stream_record.j0, if_true]
      rw [hg', Option.bind_some]
    · rw [if_neg h5]
      by_cases h4 : a = 4
      · have h2 := G.off (Or.inl h4)
        have h7 := G.data h4
        simp only at h2 h7
        have eq : [a % 256] ++ (digits (b.size : Int) 1 ++ bytesOf b) ++ (digits d 4 ++ (digits (l.length : Int) 2 ++ l)) ++ rest = [a % 256] ++ (digits (b.size : Int) 1 ++ bytesOf b ++ (digits d 4 ++ (digits (l.length : Int) 2 ++ l ++ rest))) := by simp only [List.append_assoc]
        have hbl : Bytes (digits (l.length : Int) 2 ++ l ++ rest) := ((digits_bytes _ _).append hb).append hr
        rw [if_pos h4, eq, if_pos (by rw [List.length_append]; simp; omega), if_pos (by rw [List.length_append]; simp; omega), hd1, TakeText_back b _ (by omega) ((digits_bytes _ _).append hbl) (by simp only [List.length_append, digits_length]; omega), Option.bind_some, if_pos rfl, e0, ew, if_neg h3, if_neg h5, if_pos h4, Take4_back d _ h2.1 h2.2 hbl (by simp only [List.length_append, digits_length]; omega), Option.bind_some, if_pos rfl, TakeBytes_back l rest hb (by omega) hr (by omega), Option.bind_some]
        simp only [stream_record.j0, if_true]
        rw [hg', Option.bind_some]
      · have h2 := G.off0 (by show ¬ (a = 4 ∨ a = 5); omega)
        have h7 := G.data0 h4
        simp only at h2 h7
        subst h2 h7
        have eq : [a % 256] ++ (digits (b.size : Int) 1 ++ bytesOf b) ++ [] ++ rest = [a % 256] ++ (digits (b.size : Int) 1 ++ bytesOf b ++ rest) := by simp only [List.append_assoc, List.nil_append]
        rw [if_neg h4, eq, if_pos (by rw [List.length_append]; simp; omega), if_pos (by rw [List.length_append]; simp; omega), hd1, TakeText_back b rest (by omega) hr (by omega), Option.bind_some, if_pos rfl, e0, ew, if_neg h3, if_neg h5, if_neg h4]
        simp only [stream_record.j0, if_true]
        rw [hg', Option.bind_some]
theorem j0_is (q : Nat) (hq : 1 ≤ q) (rest : List Int) (e f a : Int) (b c : ByteArray) (d : Int) (l : List Int) :
    stream_record.j0 (q + 1) rest e f a b c d l = some (a, b, c, d, l, rest, if e = 0 ∧ f = 0 then goodR ⟨a, b, c, d, l⟩ else false) := by
  simp only [stream_record.j0, good_is q hq ⟨a, b, c, d, l⟩, Option.bind_some]
  by_cases he : e = 0
  · by_cases hf : f = 0
    · rw [if_pos he, if_pos hf, if_pos ⟨he, hf⟩]
    · rw [if_pos he, if_neg hf, if_neg (fun h => hf h.2)]
  · rw [if_neg he, if_neg (fun h => he h.1)]
def recO (t : Int × ByteArray × ByteArray × Int × List Int × List Int × Bool) : S37 := ⟨t.1, t.2.1, t.2.2.1, t.2.2.2.1, t.2.2.2.2.1⟩
def recRest (t : Int × ByteArray × ByteArray × Int × List Int × List Int × Bool) : List Int := t.2.2.2.2.2.1
def recFlag (t : Int × ByteArray × ByteArray × Int × List Int × List Int × Bool) : Bool := t.2.2.2.2.2.2
theorem str_size (x : List Int) (h : Bytes x) : (strOfNums x).size = x.length := by
  have := congrArg List.length (bytes_of x h)
  rwa [bytesOf_length] at this
theorem takeRowR_bad (l : List Int) (n : Int) (h : (takeRowR l n).2.2 ≠ 0) : (takeRowR l n).2.1 = [] := by rw [takeRowR_err l n h]
theorem takeR_bad (l : List Int) (n : Int) (h : (takeR l n).2.2 ≠ 0) : (takeR l n).2.1 = [] := by
  unfold takeR at *
  split
  · rfl
  · rename_i h1
    rw [if_neg h1] at h
    split
    · rfl
    · rename_i h2
      rw [if_neg h2] at h
      exact absurd rfl h
/-- What is taken as a record: it may be, and is laid down as the same bytes. -/
theorem rec_form (k : Nat) (hk : 3 ≤ k) (L : List Int) (hb : Bytes L) (h0 : 0 < L.length) (hl : L.length ≤ 100000) :
    ∃ t, stream_record.f k L = some t ∧ (recRest t).length < L.length ∧ Bytes (recRest t) ∧ (recFlag t = true → Good (recO t) ∧ Bytes (recO t).f4 ∧ L = recB (recO t) ++ recRest t) := by
  obtain ⟨q, rfl⟩ : ∃ q, k = q + 1 := ⟨k - 1, by omega⟩
  obtain ⟨c, M, rfl⟩ : ∃ c M, L = c :: M := by
    cases L with
    | nil => exact absurd h0 (Nat.lt_irrefl 0)
    | cons c M => exact ⟨c, M, rfl⟩
  have hc := hb c (by simp)
  have hbM : Bytes M := fun x hx => hb x (List.mem_cons_of_mem _ hx)
  rw [List.length_cons] at hl
  have ew : wrap64 (rd (c :: M) 0) = c := by
    show wrap64 c = c
    unfold wrap64; omega
  have cm : c % 256 = c := by omega
  unfold stream_record.f
  rw [if_pos (by rw [List.length_cons]; omega), if_pos (by rw [List.length_cons]; omega), show (c :: M).drop 1 = M from rfl, TakeText_small M hbM (by omega), Option.bind_some, ew]
  obtain ⟨⟨x, r, e⟩, hT⟩ : ∃ T, takeRowR M 1 = T := ⟨_, rfl⟩
  have hbad := takeRowR_bad M 1
  have hform := takeRowR_form M 1 (by decide) (by decide) hbM
  rw [show ((1 : Nat) : Int) = 1 from rfl] at hform
  rw [hT] at hbad hform
  rw [hT]
  simp only at hbad hform ⊢
  by_cases he : e = 0
  · obtain ⟨hM, hx, hbx, hbr⟩ := hform he
    have hs := str_size x hbx
    have hbs := bytes_of x hbx
    have hML : M.length = 1 + (x.length + r.length) := by rw [hM]; simp only [List.length_append, digits_length]
    rw [if_pos he]
    obtain ⟨s, hse⟩ : ∃ s, strOfNums x = s := ⟨_, rfl⟩
    rw [hse] at hs hbs
    rw [hse]
    have fin : ∀ (f2 : Int) (cc : ByteArray) (d : Int) (l r2 : List Int), (r2.length ≤ r.length) → Bytes r2 → ((f2 = 0 ∧ goodR ⟨c, s, cc, d, l⟩ = true) → Bytes l ∧ r = (if c = 3 then digits (cc.size : Int) 1 ++ bytesOf cc else if c = 5 then digits d 4 else if c = 4 then digits d 4 ++ (digits (l.length : Int) 2 ++ l) else []) ++ r2) →
        ∀ t, t = (c, s, cc, d, l, r2, if f2 = 0 then goodR ⟨c, s, cc, d, l⟩ else false) → (recRest t).length < (c :: M).length ∧ Bytes (recRest t) ∧ (recFlag t = true → Good (recO t) ∧ Bytes (recO t).f4 ∧ c :: M = recB (recO t) ++ recRest t) := by
      rintro f2 cc d l r2 h1 h2 h3 t rfl
      refine ⟨by show r2.length < _; rw [List.length_cons]; omega, h2, fun hf => ?_⟩
      have hf2 : f2 = 0 := by
        by_cases q : f2 = 0
        · exact q
        · have : (if f2 = 0 then goodR ⟨c, s, cc, d, l⟩ else false) = true := hf
          rw [if_neg q] at this
          cases this
      have hg : goodR ⟨c, s, cc, d, l⟩ = true := by
        have : (if f2 = 0 then goodR ⟨c, s, cc, d, l⟩ else false) = true := hf
        rwa [if_pos hf2] at this
      obtain ⟨h4, h5⟩ := h3 ⟨hf2, hg⟩
      refine ⟨(goodR_is _).1 hg, h4, ?_⟩
      show c :: M = recB ⟨c, s, cc, d, l⟩ ++ r2
      unfold recB
      simp only
      rw [hM, hs, hbs, cm, h5]
      simp only [List.append_assoc, List.singleton_append, List.cons_append, List.nil_append]
    by_cases h3 : c = 3
    · rw [if_pos h3, TakeText_small r hbr (by omega), Option.bind_some]
      obtain ⟨⟨y, r2, e2⟩, hT2⟩ : ∃ T, takeRowR r 1 = T := ⟨_, rfl⟩
      have hbad2 := takeRowR_bad r 1
      have hform2 := takeRowR_form r 1 (by decide) (by decide) hbr
      rw [show ((1 : Nat) : Int) = 1 from rfl] at hform2
      rw [hT2] at hbad2 hform2
      rw [hT2]
      simp only at hbad2 hform2 ⊢
      rw [j0_is q (by omega)]
      refine ⟨_, rfl, fin e2 (strOfNums y) 0 [] r2 ?_ ?_ ?_ _ ?_⟩
      · by_cases q2 : e2 = 0
        · have := (hform2 q2).1
          rw [this]
          simp only [List.length_append]
          omega
        · rw [hbad2 q2]; exact Nat.zero_le _
      · by_cases q2 : e2 = 0
        · exact (hform2 q2).2.2.2
        · rw [hbad2 q2]; exact Bytes.nil
      · rintro ⟨q2, _⟩
        obtain ⟨hr, _, hby, _⟩ := hform2 q2
        refine ⟨Bytes.nil, ?_⟩
        rw [if_pos h3, str_size y hby, bytes_of y hby, List.append_assoc]
        exact hr
      · simp
    · rw [if_neg h3]
      by_cases h5 : c = 5
      · rw [if_pos h5, Take_is r 4 hbr (by omega), Option.bind_some]
        obtain ⟨⟨v, r2, e2⟩, hT2⟩ : ∃ T, takeR r 4 = T := ⟨_, rfl⟩
        have hbad2 := takeR_bad r 4
        have hform2 := takeR_form r 4 (by decide) (by decide) hbr
        rw [show ((4 : Nat) : Int) = 4 from rfl] at hform2
        rw [hT2] at hbad2 hform2
        rw [hT2]
        simp only at hbad2 hform2 ⊢
        rw [j0_is q (by omega)]
        refine ⟨_, rfl, fin e2 ⟨#[]⟩ v [] r2 ?_ ?_ ?_ _ ?_⟩
        · by_cases q2 : e2 = 0
          · have := (hform2 q2).1
            rw [this]
            simp only [List.length_append]
            omega
          · rw [hbad2 q2]; exact Nat.zero_le _
        · by_cases q2 : e2 = 0
          · have := (hform2 q2).1
            rw [this] at hbr
            exact fun z hz => hbr z (List.mem_append_right _ hz)
          · rw [hbad2 q2]; exact Bytes.nil
        · rintro ⟨q2, _⟩
          refine ⟨Bytes.nil, ?_⟩
          rw [if_neg h3, if_pos h5]
          exact (hform2 q2).1
        · simp
      · rw [if_neg h5]
        by_cases h4 : c = 4
        · rw [if_pos h4, Take_is r 4 hbr (by omega), Option.bind_some]
          obtain ⟨⟨v, r2, e2⟩, hT2⟩ : ∃ T, takeR r 4 = T := ⟨_, rfl⟩
          have hbad2 := takeR_bad r 4
          have hform2 := takeR_form r 4 (by decide) (by decide) hbr
          rw [show ((4 : Nat) : Int) = 4 from rfl] at hform2
          rw [hT2] at hbad2 hform2
          rw [hT2]
          simp only at hbad2 hform2 ⊢
          by_cases q2 : e2 = 0
          · have hr := (hform2 q2).1
            have hbr2 : Bytes r2 := by
              rw [hr] at hbr
              exact fun z hz => hbr z (List.mem_append_right _ hz)
            have hrl : r.length = 4 + r2.length := by rw [hr]; simp only [List.length_append, digits_length]
            rw [if_pos q2, TakeBytes_is r2 hbr2 (by omega), Option.bind_some]
            obtain ⟨⟨y, r3, e3⟩, hT3⟩ : ∃ T, takeRowR r2 2 = T := ⟨_, rfl⟩
            have hbad3 := takeRowR_bad r2 2
            have hform3 := takeRowR_form r2 2 (by decide) (by decide) hbr2
            rw [show ((2 : Nat) : Int) = 2 from rfl] at hform3
            rw [hT3] at hbad3 hform3
            rw [hT3]
            simp only at hbad3 hform3 ⊢
            rw [j0_is q (by omega)]
            refine ⟨_, rfl, fin e3 ⟨#[]⟩ v y r3 ?_ ?_ ?_ _ ?_⟩
            · by_cases q3 : e3 = 0
              · have := (hform3 q3).1
                rw [hrl, this]
                simp only [List.length_append]
                omega
              · rw [hbad3 q3]; exact Nat.zero_le _
            · by_cases q3 : e3 = 0
              · exact (hform3 q3).2.2.2
              · rw [hbad3 q3]; exact Bytes.nil
            · rintro ⟨q3, _⟩
              obtain ⟨hr3, _, hby, _⟩ := hform3 q3
              refine ⟨hby, ?_⟩
              rw [if_neg h3, if_neg h5, if_pos h4, hr]
              conv => lhs; rw [hr3]
              simp only [List.append_assoc]
            · simp [q2]
          · rw [if_neg q2, j0_is q (by omega)]
            refine ⟨_, rfl, fin e2 ⟨#[]⟩ v [] r2 ?_ ?_ ?_ _ ?_⟩
            · rw [hbad2 q2]; exact Nat.zero_le _
            · rw [hbad2 q2]; exact Bytes.nil
            · rintro ⟨q3, _⟩
              exact absurd q3 q2
            · simp
        · rw [if_neg h4, j0_is q (by omega)]
          refine ⟨_, rfl, fin 0 ⟨#[]⟩ 0 [] r (Nat.le_refl _) hbr ?_ _ ?_⟩
          · intro _
            refine ⟨Bytes.nil, ?_⟩
            rw [if_neg h3, if_neg h5, if_neg h4, List.nil_append]
          · simp
  · rw [if_neg he]
    refine ⟨_, rfl, ?_, ?_, ?_⟩
    · show (0 : Nat) < _
      rw [List.length_cons]; omega
    · exact Bytes.nil
    · intro h
      exact absurd h (by show ¬ false = true; decide)
end Go.Proofs.YtgklipfeheohkaaDoor.P
