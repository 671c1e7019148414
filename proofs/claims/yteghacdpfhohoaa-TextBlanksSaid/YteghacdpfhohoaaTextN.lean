/-
  Texts that can be read back rune by rune: where they end another begins. Sums of widths.
-/
import Derived.Test.YteghacdpfhohoaaTextA
import Derived.Lib.DecodeN
import Derived.Laws.Cover4
namespace Go.Proofs.Yteghacdpfhohoaa
open Go.RowKit Num Mem Opn Go.Lib
set_option linter.unusedVariables false
set_option linter.unusedSimpArgs false
namespace Num
/-! ### bytes -/
theorem get_left {s t : ByteArray} {k : Nat} (h : k < s.size) : (s ++ t).get! k = s.get! k := by
  obtain ⟨a⟩ := s
  obtain ⟨b⟩ := t
  have h' : k < a.size := h
  show (((⟨a⟩ : ByteArray) ++ ⟨b⟩).data)[k]! = a[k]!
  rw [ByteArray.data_append]
  simp [getElem!_def, Array.getElem?_append, h']
theorem get_right {s t : ByteArray} (k : Nat) : (s ++ t).get! (s.size + k) = t.get! k := by
  obtain ⟨a⟩ := s
  obtain ⟨b⟩ := t
  show (((⟨a⟩ : ByteArray) ++ ⟨b⟩).data)[a.size + k]! = b[k]!
  rw [ByteArray.data_append]
  simp [getElem!_def, Array.getElem?_append, show ¬ (a.size + k < a.size) by omega]
theorem decode_shift (s t : ByteArray) (i : Nat) : Utf8.decode (s ++ t) (s.size + i) = Utf8.decode t i := by
  have hs : (s ++ t).size - (s.size + i) = t.size - i := by rw [ByteArray.size_append]; omega
  rw [decode_at, decode_at, hs, get_right, show s.size + i + 1 = s.size + (i + 1) by omega, show s.size + i + 2 = s.size + (i + 2) by omega, show s.size + i + 3 = s.size + (i + 3) by omega, get_right, get_right, get_right]
/-! ### one rune -/
theorem decodeN_cases (n b0 b1 b2 b3 : Nat) (hn : 1 ≤ n) :
    (decodeN n b0 b1 b2 b3 = (65533, 1) ∧ 128 ≤ b0) ∨ (b0 < 128) ∨
    (∃ c, decodeN n b0 b1 b2 b3 = (c, 2) ∧ c = b0 % 32 * 64 + b1 % 64 ∧ 128 ≤ b0 ∧ 128 ≤ c ∧ b0 / 32 = 6 ∧ b1 / 64 = 2 ∧ 1 < n) ∨
    (∃ c, decodeN n b0 b1 b2 b3 = (c, 3) ∧ c = b0 % 16 * 4096 + b1 % 64 * 64 + b2 % 64 ∧ 128 ≤ b0 ∧ 2048 ≤ c ∧ (c < 55296 ∨ (57344 ≤ c ∧ c ≤ 1114111)) ∧ b0 / 16 = 14 ∧ b1 / 64 = 2 ∧ b2 / 64 = 2 ∧ 2 < n) ∨
    (∃ c, decodeN n b0 b1 b2 b3 = (c, 4) ∧ c = b0 % 8 * 262144 + b1 % 64 * 4096 + b2 % 64 * 64 + b3 % 64 ∧ 128 ≤ b0 ∧ 65536 ≤ c ∧ (c < 55296 ∨ (57344 ≤ c ∧ c ≤ 1114111)) ∧ b0 / 8 = 30 ∧ b1 / 64 = 2 ∧ b2 / 64 = 2 ∧ b3 / 64 = 2 ∧ 3 < n) := by
  unfold decodeN
  split
  · exact .inr (.inl ‹_›)
  · split
    · split
      · exact .inr (.inr (.inl ⟨_, rfl, rfl, by omega, by omega, by omega, by omega, by omega⟩))
      · exact .inl ⟨rfl, by omega⟩
    · split
      · split
        · exact .inr (.inr (.inr (.inl ⟨_, rfl, rfl, by omega, by omega, by omega, by omega, by omega, by omega, by omega⟩)))
        · exact .inl ⟨rfl, by omega⟩
      · split
        · split
          · exact .inr (.inr (.inr (.inr ⟨_, rfl, rfl, by omega, by omega, by omega, by omega, by omega, by omega, by omega, by omega⟩)))
          · exact .inl ⟨rfl, by omega⟩
        · exact .inl ⟨rfl, by omega⟩
theorem get1 (a : UInt8) : (⟨#[a]⟩ : ByteArray).get! 0 = a := rfl
/-- what stands at a place can be read back. -/
structure Good (s : ByteArray) (i : Nat) : Prop where
  fits : i + (Utf8.decode s i).2 ≤ s.size
  enc : (Utf8.encode ((Utf8.decode s i).1 : Int)).size = (Utf8.decode s i).2
  bytes : ∀ k, k < (Utf8.decode s i).2 → (Utf8.encode ((Utf8.decode s i).1 : Int)).get! k = s.get! (i + k)
  here : ∀ s' i', i' + (Utf8.decode s i).2 ≤ s'.size → (∀ k, k < (Utf8.decode s i).2 → s'.get! (i' + k) = s.get! (i + k)) → Utf8.decode s' i' = Utf8.decode s i
theorem byte_of {n : Nat} {b : UInt8} (h : n = b.toNat) : UInt8.ofNat n = b := by subst h; simp
theorem encode_one {c : Nat} (h : c < 128) : Utf8.encode (c : Int) = ⟨#[UInt8.ofNat c]⟩ := by
  have hv : Utf8.valid (c : Int) = true := by simp [Utf8.valid]; omega
  simp only [Utf8.encode, hv, if_true, Int.toNat_natCast]
  rw [if_pos (by omega)]
theorem encode_two {c : Nat} (h : 128 ≤ c) (h2 : c < 2048) : Utf8.encode (c : Int) = ⟨#[UInt8.ofNat (0xC0 + c / 64), UInt8.ofNat (0x80 + c % 64)]⟩ := by
  have hv : Utf8.valid (c : Int) = true := by simp [Utf8.valid]; omega
  simp only [Utf8.encode, hv, if_true, Int.toNat_natCast]
  rw [if_neg (by omega), if_pos (by omega)]
theorem encode_three {c : Nat} (h : 2048 ≤ c) (h2 : c < 65536) (h3 : c < 55296 ∨ (57344 ≤ c ∧ c ≤ 1114111)) : Utf8.encode (c : Int) = ⟨#[UInt8.ofNat (0xE0 + c / 4096), UInt8.ofNat (0x80 + c / 64 % 64), UInt8.ofNat (0x80 + c % 64)]⟩ := by
  have hv : Utf8.valid (c : Int) = true := by simp [Utf8.valid]; omega
  simp only [Utf8.encode, hv, if_true, Int.toNat_natCast]
  rw [if_neg (by omega), if_neg (by omega), if_pos (by omega)]
theorem encode_four {c : Nat} (h : 65536 ≤ c) (h3 : c < 55296 ∨ (57344 ≤ c ∧ c ≤ 1114111)) : Utf8.encode (c : Int) = ⟨#[UInt8.ofNat (0xF0 + c / 262144), UInt8.ofNat (0x80 + c / 4096 % 64), UInt8.ofNat (0x80 + c / 64 % 64), UInt8.ofNat (0x80 + c % 64)]⟩ := by
  have hv : Utf8.valid (c : Int) = true := by simp [Utf8.valid]; omega
  simp only [Utf8.encode, hv, if_true, Int.toNat_natCast]
  rw [if_neg (by omega), if_neg (by omega), if_neg (by omega)]
theorem decode_good (s : ByteArray) (i : Nat) (h : i < s.size) : Utf8.decode s i = (65533, 1) ∨ Good s i := by
  obtain ⟨n, hn⟩ : ∃ n, s.size - i = n := ⟨_, rfl⟩
  obtain ⟨x0, hx0⟩ : ∃ x, s.get! i = x := ⟨_, rfl⟩
  obtain ⟨x1, hx1⟩ : ∃ x, s.get! (i + 1) = x := ⟨_, rfl⟩
  obtain ⟨x2, hx2⟩ : ∃ x, s.get! (i + 2) = x := ⟨_, rfl⟩
  obtain ⟨x3, hx3⟩ : ∃ x, s.get! (i + 3) = x := ⟨_, rfl⟩
  have hd : Utf8.decode s i = decodeN n x0.toNat x1.toNat x2.toNat x3.toNat := by rw [decode_at, hn, hx0, hx1, hx2, hx3]
  have l0 : x0.toNat < 256 := x0.toNat_lt
  have l1 : x1.toNat < 256 := x1.toNat_lt
  have l2 : x2.toNat < 256 := x2.toNat_lt
  have l3 : x3.toNat < 256 := x3.toNat_lt
  rcases decodeN_cases n x0.toNat x1.toNat x2.toNat x3.toNat (by omega) with ⟨e, -⟩ | e | ⟨c, e, hc, h0, h1, h2, h3, h4⟩ | ⟨c, e, hc, h0, h1, h2, h3, h4, h5, h6⟩ | ⟨c, e, hc, h0, h1, h2, h3, h4, h5, h6, h7⟩
  · exact .inl (hd.trans e)
  · right
    have e' : Utf8.decode s i = (x0.toNat, 1) := by rw [hd]; unfold decodeN; rw [if_pos e]
    refine ⟨by rw [e']; simp only; omega, by rw [e', encode_one e]; rfl, ?_, ?_⟩
    · rw [e']
      intro k hk
      obtain rfl : k = 0 := by simp only at hk; omega
      rw [encode_one e, Nat.add_zero, hx0]
      exact byte_of rfl
    · rw [e']
      intro s' i' hs' hk
      have q0 := hk 0 (by simp)
      rw [Nat.add_zero, Nat.add_zero, hx0] at q0
      rw [decode_at, q0]
      unfold decodeN
      rw [if_pos e]
  · right
    have e' : Utf8.decode s i = (c, 2) := hd.trans e
    refine ⟨by rw [e']; simp only; omega, by rw [e', encode_two h1 (by omega)]; rfl, ?_, ?_⟩
    · rw [e']
      intro k hk
      have hk' : k = 0 ∨ k = 1 := by simp only at hk; omega
      rw [encode_two h1 (by omega)]
      rcases hk' with rfl | rfl
      · rw [Nat.add_zero, hx0]; exact byte_of (by omega)
      · rw [hx1]; exact byte_of (by omega)
    · rw [e']
      intro s' i' hs' hk
      have q0 := hk 0 (by simp)
      have q1 := hk 1 (by simp)
      rw [Nat.add_zero, Nat.add_zero, hx0] at q0
      rw [hx1] at q1
      simp only at hs'
      rw [decode_at, q0, q1]
      unfold decodeN
      rw [if_neg (by omega), if_pos ⟨h2, by omega, h3⟩, if_pos (by omega), hc]
  · right
    have e' : Utf8.decode s i = (c, 3) := hd.trans e
    refine ⟨by rw [e']; simp only; omega, by rw [e', encode_three h1 (by omega) h2]; rfl, ?_, ?_⟩
    · rw [e']
      intro k hk
      have hk' : k = 0 ∨ k = 1 ∨ k = 2 := by simp only at hk; omega
      rw [encode_three h1 (by omega) h2]
      rcases hk' with rfl | rfl | rfl
      · rw [Nat.add_zero, hx0]; exact byte_of (by omega)
      · rw [hx1]; exact byte_of (by omega)
      · rw [hx2]; exact byte_of (by omega)
    · rw [e']
      intro s' i' hs' hk
      have q0 := hk 0 (by simp)
      have q1 := hk 1 (by simp)
      have q2 := hk 2 (by simp)
      rw [Nat.add_zero, Nat.add_zero, hx0] at q0
      rw [hx1] at q1
      rw [hx2] at q2
      simp only at hs'
      rw [decode_at, q0, q1, q2]
      unfold decodeN
      rw [if_neg (by omega), if_neg (by omega), if_pos ⟨h3, ⟨by omega, h4⟩, by omega, h5⟩, if_pos (by omega), hc]
  · right
    have e' : Utf8.decode s i = (c, 4) := hd.trans e
    refine ⟨by rw [e']; simp only; omega, by rw [e', encode_four h1 h2]; rfl, ?_, ?_⟩
    · rw [e']
      intro k hk
      have hk' : k = 0 ∨ k = 1 ∨ k = 2 ∨ k = 3 := by simp only at hk; omega
      rw [encode_four h1 h2]
      rcases hk' with rfl | rfl | rfl | rfl
      · rw [Nat.add_zero, hx0]; exact byte_of (by omega)
      · rw [hx1]; exact byte_of (by omega)
      · rw [hx2]; exact byte_of (by omega)
      · rw [hx3]; exact byte_of (by omega)
    · rw [e']
      intro s' i' hs' hk
      have q0 := hk 0 (by simp)
      have q1 := hk 1 (by simp)
      have q2 := hk 2 (by simp)
      have q3 := hk 3 (by simp)
      rw [Nat.add_zero, Nat.add_zero, hx0] at q0
      rw [hx1] at q1
      rw [hx2] at q2
      rw [hx3] at q3
      simp only at hs'
      rw [decode_at, q0, q1, q2, q3]
      unfold decodeN
      rw [if_neg (by omega), if_neg (by omega), if_neg (by omega), if_pos ⟨h3, ⟨by omega, h4⟩, ⟨by omega, h5⟩, by omega, h6⟩, if_pos (by omega), hc]
/-! ### whole texts -/
theorem rb_foldl (l : List Int) : ∀ s : ByteArray, l.foldl (fun r n => r ++ Utf8.encode n) s = s ++ runesBytes l := by
  induction l with
  | nil => intro s; simp [runesBytes]
  | cons r l ih => intro s; unfold runesBytes; rw [List.foldl_cons, List.foldl_cons, ih, ih, ByteArray.append_assoc, ByteArray.empty_append]
theorem rb_cons (r : Int) (l : List Int) : runesBytes (r :: l) = Utf8.encode r ++ runesBytes l := by
  have := rb_foldl l (ByteArray.empty ++ Utf8.encode r)
  rw [ByteArray.empty_append] at this
  rw [← this]
  unfold runesBytes
  rw [List.foldl_cons, ByteArray.empty_append]
/-- from a place on, every rune can be read back. -/
def Reads (s : ByteArray) : Nat → Nat → Prop
  | 0, _ => True
  | k + 1, pos => pos < s.size → Good s pos ∧ Reads s k (pos + (Utf8.decode s pos).2)
theorem encode_bad : (Utf8.encode ((65533 : Nat) : Int)).size = 3 := by decide
theorem reads_of (s : ByteArray) : ∀ k pos, s.size ≤ pos + k → pos ≤ s.size → s.size ≤ pos + (runesBytes (rns s k pos)).size ∧ (pos + (runesBytes (rns s k pos)).size ≤ s.size → Reads s k pos) := by
  intro k
  induction k with
  | zero => intro pos h h'; exact ⟨by omega, fun _ => trivial⟩
  | succ k ih =>
    intro pos h h'
    by_cases hp : pos < s.size
    · have hw := width_pos s pos hp
      rcases decode_good s pos hp with e | g
      · have hr : rns s (k + 1) pos = ((65533 : Nat) : Int) :: rns s k (pos + 1) := by simp only [rns]; rw [if_pos hp, e]
        obtain ⟨i1, i2⟩ := ih (pos + 1) (by omega) (by omega)
        rw [hr, rb_cons, ByteArray.size_append, encode_bad]
        exact ⟨by omega, fun hh => absurd hh (by omega)⟩
      · have hr : rns s (k + 1) pos = ((Utf8.decode s pos).1 : Int) :: rns s k (pos + (Utf8.decode s pos).2) := by simp only [rns]; rw [if_pos hp]
        obtain ⟨i1, i2⟩ := ih (pos + (Utf8.decode s pos).2) (by omega) g.fits
        rw [hr, rb_cons, ByteArray.size_append, g.enc]
        exact ⟨by omega, fun hh _ => ⟨g, i2 (by omega)⟩⟩
    · exact ⟨by omega, fun _ hh => absurd hh hp⟩
theorem reads_all {s : ByteArray} (h : runesBytes (runesOf s) = s) : Reads s s.size 0 :=
  (reads_of s s.size 0 (by omega) (by omega)).2 (by unfold runesOf at h; rw [h]; omega)
theorem rns_shift (s t : ByteArray) : ∀ m i, rns (s ++ t) m (s.size + i) = rns t m i := by
  intro m
  induction m with
  | zero => intro i; rfl
  | succ m ih =>
    intro i
    simp only [rns]
    by_cases hi : i < t.size
    · rw [if_pos hi, if_pos (by rw [ByteArray.size_append]; omega), decode_shift, Nat.add_assoc, ih]
    · rw [if_neg hi, if_neg (by rw [ByteArray.size_append]; omega)]
theorem rns_app (s t : ByteArray) : ∀ k pos m, Reads s k pos → s.size ≤ pos + k → pos ≤ s.size → (s ++ t).size ≤ pos + m → rns (s ++ t) m pos = rns s k pos ++ runesOf t := by
  intro k
  induction k with
  | zero =>
    intro pos m _ h h' hm
    obtain rfl : pos = s.size + 0 := by omega
    rw [ByteArray.size_append] at hm
    rw [rns_shift]
    simp only [rns, List.nil_append, runesOf]
    exact rns_fuel t (by omega) (by omega)
  | succ k ih =>
    intro pos m hr h h' hm
    have hz := ByteArray.size_append (a := s) (b := t)
    by_cases hp : pos < s.size
    · obtain ⟨g, hr'⟩ := hr hp
      have hw := width_pos s pos hp
      have hf := g.fits
      have hd : Utf8.decode (s ++ t) pos = Utf8.decode s pos := g.here _ _ (by omega) (fun k hk => get_left (by omega))
      cases m with
      | zero => omega
      | succ m =>
        have h1 : rns (s ++ t) (m + 1) pos = ((Utf8.decode s pos).1 : Int) :: rns (s ++ t) m (pos + (Utf8.decode s pos).2) := by simp only [rns]; rw [if_pos (by omega), hd]
        have h2 : rns s (k + 1) pos = ((Utf8.decode s pos).1 : Int) :: rns s k (pos + (Utf8.decode s pos).2) := by simp only [rns]; rw [if_pos hp]
        rw [h1, h2, ih _ m hr' (by omega) g.fits (by omega), List.cons_append]
    · obtain rfl : pos = s.size + 0 := by omega
      have h2 : rns s (k + 1) (s.size + 0) = [] := by simp only [rns]; rw [if_neg hp]
      rw [rns_shift, h2, List.nil_append]
      exact rns_fuel t (by omega) (by omega)
theorem runes_app (s t : ByteArray) (h : runesBytes (runesOf s) = s) : runesOf (s ++ t) = runesOf s ++ runesOf t :=
  rns_app s t s.size 0 _ (reads_all h) (by omega) (by omega) (by omega)
theorem rns_len (s : ByteArray) : ∀ k pos, (rns s k pos).length ≤ k := by
  intro k
  induction k with
  | zero => intro pos; simp [rns]
  | succ k ih =>
    intro pos
    simp only [rns]
    split
    · have := ih (pos + (Utf8.decode s pos).2); simp; omega
    · simp
theorem runes_len (s : ByteArray) : (runesOf s).length ≤ s.size := rns_len s _ _
/-! ### widths -/
theorem adv_eq (l : List Int) (r size : Int) (h0 : 0 ≤ size) (h1 : size ≤ 65536) : adv l r size = (min (max (advN l r) 0) 65536) * size / 1024 := by
  obtain ⟨a, ha⟩ : ∃ a, min (max (advN l r) 0) 65536 = a := ⟨_, rfl⟩
  have h2 : 0 ≤ a ∧ a ≤ 65536 := by omega
  have h3 : min (max size 0) 65536 = size := by omega
  have h4 : 0 ≤ a * size := Int.mul_nonneg h2.1 h0
  have h5 : a * size ≤ 65536 * 65536 := Int.mul_le_mul h2.2 h1 h0 (by omega)
  unfold adv
  rw [ha, h3]
  unfold prt
  have e1 : sat a = a := by unfold sat; omega
  have e2 : clip size 0 65536 = size := by unfold clip; omega
  have e3 : clip 1024 1 65536 = 1024 := by decide
  rw [e1, e2, e3]
  generalize a * size = X at *
  unfold sat
  omega
theorem adv_lim (l : List Int) (r size : Int) (h0 : 0 ≤ size) (h1 : size ≤ 65536) : 0 ≤ adv l r size ∧ adv l r size ≤ 4194304 := by
  rw [adv_eq l r size h0 h1]
  obtain ⟨a, ha⟩ : ∃ a, min (max (advN l r) 0) 65536 = a := ⟨_, rfl⟩
  have h2 : 0 ≤ a ∧ a ≤ 65536 := by omega
  have h4 : 0 ≤ a * size := Int.mul_nonneg h2.1 h0
  have h5 : a * size ≤ 65536 * 65536 := Int.mul_le_mul h2.2 h1 h0 (by omega)
  rw [ha]
  generalize a * size = X at *
  omega
theorem adv_twice (l : List Int) (r size : Int) (h0 : 0 ≤ size) (h1 : size ≤ 30000) : 2 * adv l r size ≤ adv l r (2 * size) ∧ adv l r (2 * size) ≤ 2 * adv l r size + 1 := by
  rw [adv_eq l r size h0 (by omega), adv_eq l r (2 * size) (by omega) (by omega)]
  obtain ⟨a, ha⟩ : ∃ a, min (max (advN l r) 0) 65536 = a := ⟨_, rfl⟩
  have h2 : 0 ≤ a ∧ a ≤ 65536 := by omega
  have h4 : 0 ≤ a * size := Int.mul_nonneg h2.1 h0
  rw [ha, show a * (2 * size) = 2 * (a * size) by rw [← Int.mul_assoc, Int.mul_comm a 2, Int.mul_assoc]]
  generalize a * size = X at *
  omega
def asums (l : List Int) (size : Int) (R : List Int) : Int := (R.map (adv l · size)).sum
theorem sums_lim (l : List Int) (size : Int) (h0 : 0 ≤ size) (h1 : size ≤ 65536) (R : List Int) : 0 ≤ asums l size R ∧ asums l size R ≤ 4194304 * (R.length : Int) := by
  induction R with
  | nil => simp [asums]
  | cons r R ih =>
    have := adv_lim l r size h0 h1
    simp only [asums, List.map_cons, List.sum_cons, List.length_cons] at *
    omega
theorem wid_sums (l : List Int) (size : Int) (h0 : 0 ≤ size) (h1 : size ≤ 65536) (R : List Int) : ∀ n, 0 ≤ n → n + 4194304 * (R.length : Int) ≤ 70368744177664 → wid l size n R = n + asums l size R := by
  induction R with
  | nil => intro n _ _; simp [wid, asums]
  | cons r R ih =>
    intro n h2 h3
    have h4 := adv_lim l r size h0 h1
    simp only [List.length_cons] at h3
    have h5 : add n (adv l r size) = n + adv l r size := by unfold add sat; omega
    simp only [wid]
    rw [h5, ih _ (by omega) (by omega)]
    simp only [asums, List.map_cons, List.sum_cons]
    omega
theorem sums_twice (l : List Int) (size : Int) (h0 : 0 ≤ size) (h1 : size ≤ 30000) (R : List Int) : 2 * asums l size R ≤ asums l (2 * size) R ∧ asums l (2 * size) R ≤ 2 * asums l size R + R.length := by
  induction R with
  | nil => simp [asums]
  | cons r R ih =>
    have := adv_twice l r size h0 h1
    simp only [asums, List.map_cons, List.sum_cons, List.length_cons] at *
    omega
theorem width_sums (l : List Int) (s : ByteArray) (size : Int) (h0 : 0 ≤ size) (h1 : size ≤ 65536) (h : s.size ≤ 4000) : width l s size = asums l size (runesOf s) := by
  have := runes_len s
  unfold width
  rw [wid_sums l size h0 h1 _ 0 (by omega) (by omega)]
  omega
/-- chapter 14's asums. -/
theorem width_law (l : List Int) (s t : ByteArray) (size : Int) (h0 : 0 ≤ size) (h1 : size ≤ 30000) (hs : s.size ≤ 200) (ht : t.size ≤ 200) (h : runesBytes (runesOf s) = s) :
    width l (s ++ t) size = width l s size + width l t size ∧ 2 * width l s size ≤ width l s (2 * size) ∧ width l s (2 * size) ≤ 2 * width l s size + (runesOf s).length ∧
    0 ≤ width l s size ∧ width l s size ≤ 1000000000 ∧ 0 ≤ width l t size ∧ width l t size ≤ 1000000000 ∧ (runesOf s).length ≤ 200 := by
  have hst := ByteArray.size_append (a := s) (b := t)
  have n1 := runes_len s
  have n2 := runes_len t
  rw [width_sums l (s ++ t) size h0 (by omega) (by omega), width_sums l s size h0 (by omega) (by omega), width_sums l t size h0 (by omega) (by omega), width_sums l s (2 * size) (by omega) (by omega) (by omega), runes_app s t h]
  have h3 := sums_twice l size h0 h1 (runesOf s)
  have h4 := sums_lim l size h0 (by omega) (runesOf s)
  have h5 := sums_lim l size h0 (by omega) (runesOf t)
  refine ⟨by simp [asums], h3.1, h3.2, h4.1, by omega, h5.1, by omega, by omega⟩
end Num
end Go.Proofs.Yteghacdpfhohoaa
