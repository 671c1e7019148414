/-
  What pieces of one text are; least is at most most; which blanks stand does not matter.
-/
import Derived.Test.YteghacdpfhohoaaTextF
import Derived.Test.YteghacdpfhohoaaTextK
import Derived.Test.YteghacdpfhohoaaTextN
namespace Go.Proofs.Yteghacdpfhohoaa
open Go.RowKit Num Mem Opn Go.Lib
set_option linter.unusedVariables false
set_option linter.unusedSimpArgs false
namespace Num
/-! ### what pieces are -/
def PieceOf (l : List Int) (x : Bx) (p : Pz) : Prop := ∃ k s, 1 ≤ k ∧ k ≤ 3 ∧ s.size ≤ x.text.size + 1 ∧ p = pieceF l x k s
theorem trimF_mem {out : List Pz} {p : Pz} (h : p ∈ trimF out) : p ∈ out := by
  unfold trimF at h
  split at h
  · exact h
  · split at h
    · exact List.dropLast_subset _ h
    · exact h
theorem putF_mem {l : List Int} {x : Bx} {k : Int} {s : ByteArray} {out : List Pz} (h1 : 1 ≤ k) (h3 : k ≤ 3) (hs : s.size ≤ x.text.size + 1) (ho : ∀ p ∈ out, PieceOf l x p) : ∀ p ∈ putF l x k s out, PieceOf l x p := by
  intro p hp
  unfold putF at hp
  have hn : PieceOf l x (pieceF l x k s) := ⟨k, s, h1, h3, hs, rfl⟩
  split at hp
  · rcases List.mem_append.1 hp with h | h
    · exact ho p (trimF_mem h)
    · rw [List.mem_singleton.1 h]; exact hn
  · split at hp
    · exact ho p hp
    · rcases List.mem_append.1 hp with h | h
      · exact ho p h
      · rw [List.mem_singleton.1 h]; exact hn
theorem wordF_mem {l : List Int} {x : Bx} {f : Int} {till : Nat} {out : List Pz} (ho : ∀ p ∈ out, PieceOf l x p) : ∀ p ∈ wordF l x f till out, PieceOf l x p := by
  unfold wordF
  split
  · exact putF_mem (by omega) (by omega) (by rw [ByteArray.size_extract]; omega) ho
  · exact ho
theorem midF_mem {l : List Int} {x : Bx} {bl : Bool} {r : Nat} {out : List Pz} (ho : ∀ p ∈ out, PieceOf l x p) : ∀ p ∈ midF l x bl r out, PieceOf l x p := by
  unfold midF
  split
  · exact putF_mem (by omega) (by omega) (by show 0 ≤ _; omega) ho
  · split
    · exact putF_mem (by omega) (by omega) (by show 1 ≤ _; omega) ho
    · exact ho
theorem cutF_mem (l : List Int) (x : Bx) : ∀ k pos f bl out, (∀ p ∈ out, PieceOf l x p) → ∀ p ∈ cutF l x k pos f bl out, PieceOf l x p := by
  intro k
  induction k with
  | zero => intro pos f bl out ho; exact wordF_mem ho
  | succ k ih =>
    intro pos f bl out ho
    rw [cutF]
    split
    · split
      · exact ih _ _ _ _ ho
      · exact ih _ _ _ _ (midF_mem (wordF_mem ho))
    · exact wordF_mem ho
theorem piecesF_mem (l : List Int) (x : Bx) (hk : x.kind = 7) : ∀ p ∈ piecesF l [x], PieceOf l x p := by
  intro p hp
  unfold piecesF at hp
  have h := trimF_mem hp
  simp only [allF, boxF, hk, if_true] at h
  exact cutF_mem l x _ _ _ _ _ (fun _ h => by cases h) p h
theorem wid_lim (l : List Int) (size : Int) (h0 : 0 ≤ size) (h1 : size ≤ 65536) (R : List Int) : ∀ n, 0 ≤ n → n ≤ 70368744177664 → 0 ≤ wid l size n R ∧ wid l size n R ≤ 70368744177664 := by
  induction R with
  | nil => intro n h2 h3; exact ⟨h2, h3⟩
  | cons r R ih =>
    intro n h2 h3
    have h4 := adv_lim l r size h0 h1
    have h5 : 0 ≤ add n (adv l r size) ∧ add n (adv l r size) ≤ 70368744177664 := by unfold add sat; omega
    exact ih _ h5.1 h5.2
theorem width_lim (l : List Int) (s : ByteArray) : 0 ≤ width l s 1024 ∧ width l s 1024 ≤ 70368744177664 := wid_lim l 1024 (by omega) (by omega) _ 0 (by omega) (by omega)
theorem least_most : ∀ (P : List Pz) (n m s : Int), (∀ p ∈ P, 0 ≤ p.width ∧ p.width ≤ 70368744177664) → 0 ≤ s → s ≤ 70368744177664 → n ≤ m → leastF P n ≤ mostF P m s := by
  intro P
  induction P with
  | nil => intro n m s _ _ _ h; exact h
  | cons p P ih =>
    intro n m s hP h0 h1 h
    have hp := hP p (List.mem_cons_self ..)
    have hP' : ∀ q ∈ P, 0 ≤ q.width ∧ q.width ≤ 70368744177664 := fun q hq => hP q (List.mem_cons_of_mem _ hq)
    have ha : 0 ≤ add s p.width ∧ add s p.width ≤ 70368744177664 ∧ p.width ≤ add s p.width := by unfold add sat; omega
    unfold leastF mostF
    by_cases h3 : p.kind = 3
    · rw [if_pos h3, if_neg (by omega)]
      exact ih _ _ _ hP' (by omega) (by omega) h
    · rw [if_neg h3]
      split
      · exact ih _ _ _ hP' ha.1 ha.2.1 (by omega)
      · exact ih _ _ _ hP' ha.1 ha.2.1 (by omega)
/-! ### runes that can be read back -/
structure Sound (r : Int) : Prop where
  pos : 1 ≤ (Utf8.encode r).size
  nat : 0 ≤ r
  read : ∀ t, Utf8.decode (Utf8.encode r ++ t) 0 = (r.toNat, (Utf8.encode r).size)
theorem Good.sound {s : ByteArray} {i : Nat} (h : Good s i) (hi : i < s.size) : Sound ((Utf8.decode s i).1 : Int) := by
  have hw := width_pos s i hi
  refine ⟨by rw [h.enc]; exact hw, by omega, fun t => ?_⟩
  rw [h.here (Utf8.encode ((Utf8.decode s i).1 : Int) ++ t) 0 (by rw [ByteArray.size_append, h.enc]; omega) (fun k hk => by
    rw [Nat.zero_add, get_left (by rw [h.enc]; exact hk)]
    exact h.bytes k hk), h.enc]
  simp
theorem sound_ascii {c : Nat} (h : c < 128) : Sound (c : Int) := by
  have e : Utf8.encode (c : Int) = ⟨#[UInt8.ofNat c]⟩ := encode_one h
  have hs : (Utf8.encode (c : Int)).size = 1 := by rw [e]; rfl
  refine ⟨by omega, by omega, fun t => ?_⟩
  have h0 : ((Utf8.encode (c : Int) ++ t).get! 0).toNat = c := by
    rw [get_left (by omega), e]
    show (UInt8.ofNat c).toNat = c
    simp
    omega
  rw [decode_at, h0, hs]
  unfold decodeN
  rw [if_pos h]
  simp
theorem rns_sound (s : ByteArray) : ∀ k pos, Reads s k pos → ∀ r ∈ rns s k pos, Sound r := by
  intro k
  induction k with
  | zero => intro pos _ r hr; simp [rns] at hr
  | succ k ih =>
    intro pos h r hr
    simp only [rns] at hr
    by_cases hp : pos < s.size
    · rw [if_pos hp] at hr
      obtain ⟨g, h'⟩ := h hp
      rcases List.mem_cons.1 hr with rfl | hr
      · exact g.sound hp
      · exact ih _ h' r hr
    · rw [if_neg hp] at hr
      cases hr
theorem rb_append (a b : List Int) : runesBytes (a ++ b) = runesBytes a ++ runesBytes b := by
  induction a with
  | nil => rw [List.nil_append, show runesBytes [] = ByteArray.empty from rfl, ByteArray.empty_append]
  | cons r a ih => rw [List.cons_append, rb_cons, rb_cons, ih, ByteArray.append_assoc]
/-! ### cutting by runes -/
def cutR (l : List Int) (x : Bx) : List Int → Option ByteArray → Bool → List Pz → List Pz
  | [], cur, _, out => match cur with
    | none => out
    | some s => putF l x 1 s out
  | r :: R, cur, bl, out =>
    if blankR r.toNat = false then cutR l x R (some (cur.getD ByteArray.empty ++ Utf8.encode r)) false out
    else cutR l x R none true (midF l x bl r.toNat (match cur with
      | none => out
      | some s => putF l x 1 s out))
theorem cutR_cons (l : List Int) (x : Bx) (r : Int) (R : List Int) (cur : Option ByteArray) (bl : Bool) (out : List Pz) : cutR l x (r :: R) cur bl out =
    if blankR r.toNat = false then cutR l x R (some (cur.getD ByteArray.empty ++ Utf8.encode r)) false out
    else cutR l x R none true (midF l x bl r.toNat (match cur with
      | none => out
      | some s => putF l x 1 s out)) := rfl
def spreadR (R : List Int) : List Int := R.flatMap fun r => if blankR r.toNat = true then [10, 32, 9] else [r]
theorem cutR_text (l : List Int) (x : Bx) (t : ByteArray) : ∀ R cur bl out, cutR l { x with text := t } R cur bl out = cutR l x R cur bl out := by
  have hp : ∀ k s out, putF l { x with text := t } k s out = putF l x k s out := fun k s out => rfl
  have hm : ∀ bl r out, midF l { x with text := t } bl r out = midF l x bl r out := fun bl r out => rfl
  intro R
  induction R with
  | nil => intro cur bl out; rfl
  | cons r R ih =>
    intro cur bl out
    simp only [cutR, ih, hm, hp]
theorem mid_plain {l : List Int} {x : Bx} (hx : x.pre = false) (bl : Bool) (r r' : Nat) (out : List Pz) : midF l x bl r out = midF l x bl r' out := by
  unfold midF
  simp [hx]
theorem mid_again {l : List Int} {x : Bx} (hx : x.pre = false) (r : Nat) (out : List Pz) : midF l x true r out = out := by
  unfold midF
  simp [hx]
theorem cutR_spread (l : List Int) (x : Bx) (hx : x.pre = false) : ∀ R cur bl out, cutR l x (spreadR R) cur bl out = cutR l x R cur bl out := by
  intro R
  induction R with
  | nil => intro cur bl out; rfl
  | cons r R ih =>
    intro cur bl out
    unfold spreadR
    rw [List.flatMap_cons]
    have hR : (R.flatMap fun r => if blankR r.toNat = true then [10, 32, 9] else [r]) = spreadR R := rfl
    rw [hR]
    cases hb : blankR r.toNat with
    | false =>
      simp only [Bool.false_eq_true, if_false, List.cons_append, List.nil_append, cutR, hb, if_true]
      exact ih _ _ _
    | true =>
      have b1 : blankR (10 : Int).toNat = true := by decide
      have b2 : blankR (32 : Int).toNat = true := by decide
      have b3 : blankR (9 : Int).toNat = true := by decide
      simp only [if_true, List.cons_append, List.nil_append, cutR, hb, b1, b2, b3, Bool.true_eq_false, if_false]
      rw [mid_again hx, mid_again hx, ih, mid_plain hx bl (10 : Int).toNat r.toNat]
theorem extract_more (a e b : ByteArray) (f : Nat) (hf : f ≤ a.size) : (a ++ (e ++ b)).extract f (a.size + e.size) = (a ++ (e ++ b)).extract f a.size ++ e := by
  apply ByteArray.ext
  apply Array.toList_inj.1
  obtain ⟨⟨a⟩⟩ := a
  obtain ⟨⟨e⟩⟩ := e
  obtain ⟨⟨b⟩⟩ := b
  have hf' : f ≤ a.length := hf
  rw [ByteArray.data_append, ByteArray.data_extract, ByteArray.data_extract, ByteArray.data_append, ByteArray.data_append]
  have hsa : (ByteArray.mk ⟨a⟩).size = a.length := rfl
  have hse : (ByteArray.mk ⟨e⟩).size = e.length := rfl
  simp only [hsa, hse, Array.toList_append, Array.toList_extract, List.extract_eq_take_drop]
  rw [List.drop_append_of_le_length hf']
  have L1 : (a.drop f ++ (e ++ b)).take (a.length + e.length - f) = a.drop f ++ e := by rw [← List.append_assoc, List.take_append_of_le_length (by simp; omega), List.take_of_length_le (by simp; omega)]
  have L2 : (a.drop f ++ (e ++ b)).take (a.length - f) = a.drop f := by rw [List.take_append_of_le_length (by simp), List.take_of_length_le (by simp)]
  rw [L1, L2]
theorem cut_runes (l : List Int) (x : Bx) : ∀ R k P f cur bl out, x.text = runesBytes P ++ runesBytes R → (∀ r ∈ R, Sound r) → (runesBytes R).size ≤ k →
    ((f < 0 ∧ cur = none) ∨ (0 ≤ f ∧ f.toNat ≤ (runesBytes P).size ∧ cur = some (x.text.extract f.toNat (runesBytes P).size))) → cutF l x k (runesBytes P).size f bl out = cutR l x R cur bl out := by
  intro R
  induction R with
  | nil =>
    intro k P f cur bl out hx hs hk hc
    have hz : x.text.size = (runesBytes P).size := by rw [hx, ByteArray.size_append]; rfl
    have h1 : cutF l x k (runesBytes P).size f bl out = wordF l x f x.text.size out := by
      cases k with
      | zero => rfl
      | succ k => rw [cutF, if_neg (by omega)]
    rw [h1]
    unfold wordF
    rcases hc with ⟨h, rfl⟩ | ⟨h, h2, rfl⟩
    · rw [if_neg (by omega)]; rfl
    · rw [if_pos h, hz]; rfl
  | cons r R ih =>
    intro k P f cur bl out hx hs hk hc
    have hr := hs r (List.mem_cons_self ..)
    have hs' : ∀ q ∈ R, Sound q := fun q hq => hs q (List.mem_cons_of_mem _ hq)
    have hp := hr.pos
    rw [rb_cons] at hx hk
    rw [ByteArray.size_append] at hk
    have hz : x.text.size = (runesBytes P).size + ((Utf8.encode r).size + (runesBytes R).size) := by rw [hx, ByteArray.size_append, ByteArray.size_append]
    have hP : runesBytes (P ++ [r]) = runesBytes P ++ Utf8.encode r := by
      rw [rb_append, rb_cons, show runesBytes [] = ByteArray.empty from rfl, ByteArray.append_empty]
    have hx' : x.text = runesBytes (P ++ [r]) ++ runesBytes R := by rw [hP, hx, ByteArray.append_assoc]
    have hsz : (runesBytes (P ++ [r])).size = (runesBytes P).size + (Utf8.encode r).size := by rw [hP, ByteArray.size_append]
    have hd : Utf8.decode x.text (runesBytes P).size = (r.toNat, (Utf8.encode r).size) := by
      rw [hx]
      have := decode_shift (runesBytes P) (Utf8.encode r ++ runesBytes R) 0
      rw [Nat.add_zero] at this
      rw [this, hr.read]
    cases k with
    | zero => omega
    | succ k =>
      rw [cutF, if_pos (by omega), hd]
      simp only
      rw [cutR_cons, ← hsz]
      by_cases hb : blankR r.toNat = false
      · rw [if_pos hb, if_pos hb]
        refine ih k (P ++ [r]) _ _ _ _ hx' hs' (by omega) (.inr ?_)
        rcases hc with ⟨h, rfl⟩ | ⟨h, h2, rfl⟩
        · rw [if_pos h]
          refine ⟨by omega, by rw [hsz]; simp, ?_⟩
          have := extract_more (runesBytes P) (Utf8.encode r) (runesBytes R) (runesBytes P).size (Nat.le_refl _)
          rw [hsz, hx, Int.toNat_natCast, this]
          congr 2
          apply ByteArray.ext
          simp [ByteArray.data_extract]
        · rw [if_neg (by omega)]
          refine ⟨h, by omega, ?_⟩
          have := extract_more (runesBytes P) (Utf8.encode r) (runesBytes R) f.toNat h2
          rw [hsz, hx, this]
          rfl
      · rw [if_neg hb, if_neg hb]
        have h0 := ih k (P ++ [r]) (-1) none true (midF l x bl r.toNat (wordF l x f (runesBytes P).size out)) hx' hs' (by omega) (.inl ⟨by omega, rfl⟩)
        rw [h0]
        congr 1
        congr 1
        unfold wordF
        rcases hc with ⟨h, rfl⟩ | ⟨h, h2, rfl⟩
        · rw [if_neg (by omega)]
        · rw [if_pos h]
theorem pieces_runes (l : List Int) (x : Bx) (hk : x.kind = 7) (R : List Int) (hx : x.text = runesBytes R) (hs : ∀ r ∈ R, Sound r) : piecesF l [x] = trimF (cutR l x R none false []) := by
  unfold piecesF
  simp only [allF, boxF, hk, if_true]
  have := cut_runes l x R x.text.size [] (-1) none false [] (by rw [hx, show runesBytes [] = ByteArray.empty from rfl, ByteArray.empty_append]) hs (by rw [hx]; omega) (.inl ⟨by omega, rfl⟩)
  rw [show (runesBytes ([] : List Int)).size = 0 from rfl] at this
  rw [this]
theorem spread_sound {R : List Int} (h : ∀ r ∈ R, Sound r) : ∀ r ∈ spreadR R, Sound r := by
  intro r hr
  obtain ⟨q, hq, hr⟩ := List.mem_flatMap.1 hr
  split at hr
  · simp only [List.mem_cons, List.not_mem_nil, or_false] at hr
    rcases hr with rfl | rfl | rfl
    · exact sound_ascii (c := 10) (by decide)
    · exact sound_ascii (c := 32) (by decide)
    · exact sound_ascii (c := 9) (by decide)
  · rw [List.mem_singleton.1 hr]
    exact h q hq
def bl3 : ByteArray := { data := #[10, 32, 9] }
theorem spread_blank {r : Int} (R : List Int) (h : blankR r.toNat = true) : runesBytes (spreadR (r :: R)) = bl3 ++ runesBytes (spreadR R) := by
  unfold spreadR
  rw [List.flatMap_cons, if_pos h, rb_append]
  rfl
theorem spread_word {r : Int} (R : List Int) (h : blankR r.toNat = false) : runesBytes (spreadR (r :: R)) = Utf8.encode r ++ runesBytes (spreadR R) := by
  unfold spreadR
  rw [List.flatMap_cons, if_neg (by rw [h]; simp), List.cons_append, List.nil_append, rb_cons]
theorem spread_size (R : List Int) : (runesBytes (spreadR R)).size ≤ 4 * R.length := by
  induction R with
  | nil => exact Nat.zero_le _
  | cons r R ih =>
    rw [List.length_cons]
    cases h : blankR r.toNat with
    | true => rw [spread_blank R h, ByteArray.size_append]; have : bl3.size = 3 := rfl; omega
    | false => rw [spread_word R h, ByteArray.size_append]; have := encode_size_le r; omega
/-- chapter 14's blanks. -/
theorem blanks_law (l : List Int) (n : Int) (s : ByteArray) (h : runesBytes (runesOf s) = s) : piecesF l [⟨7, n, false, runesBytes (spreadR (runesOf s))⟩] = piecesF l [⟨7, n, false, s⟩] := by
  have hs := rns_sound s s.size 0 (reads_all h)
  rw [pieces_runes l ⟨7, n, false, s⟩ rfl (runesOf s) h.symm hs, pieces_runes l ⟨7, n, false, runesBytes (spreadR (runesOf s))⟩ rfl (spreadR (runesOf s)) rfl (spread_sound hs)]
  rw [cutR_spread l _ rfl]
  have := cutR_text l ⟨7, n, false, s⟩ (runesBytes (spreadR (runesOf s))) (runesOf s) none false []
  rw [← this]
end Num
end Go.Proofs.Yteghacdpfhohoaa
