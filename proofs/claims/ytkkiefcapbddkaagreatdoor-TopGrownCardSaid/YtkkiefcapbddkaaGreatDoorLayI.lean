/-
  the law in plain words, the letters.
-/
import Derived.Test.YtkkiefcapbddkaaGreatDoorLayH
set_option linter.all false
namespace Go.Abs
open Go.RowKit Go.Proofs Go.Proofs.YtkkiefcapbddkaaGreatDoor
set_option linter.unusedVariables false
set_option linter.unusedSectionVars false
set_option maxRecDepth 100000
/-! The law itself, with no program in sight: the texts that it makes, the letters, the sums. -/
def gi (gs : List Int) (i : Nat) : Int := gs.getD i 0 % 10
def wd (n : Int) : Int := 100 + n % 801
def nxt (o : ByteArray) (g : Int) : ByteArray := ((o ++ ⟨#[60, 112, 32, 115, 116, 121, 108, 101, 61, 34, 102, 108, 101, 120, 45, 103, 114, 111, 119, 58]⟩) ++ dig g) ++ ⟨#[34, 62, 60, 47, 112, 62]⟩
def htmlA (gs : List Int) : Nat → ByteArray
  | 0 => ⟨#[]⟩
  | k + 1 => nxt (htmlA gs k) (gi gs k)
def htmlS (gs : List Int) (k : Nat) : ByteArray := (⟨#[60, 100, 105, 118, 62]⟩ ++ htmlA gs k) ++ ⟨#[60, 47, 100, 105, 118, 62]⟩
def cssS (W : Int) : ByteArray := (⟨#[100, 105, 118, 32, 123, 32, 100, 105, 115, 112, 108, 97, 121, 58, 32, 102, 108, 101, 120, 59, 32, 119, 105, 100, 116, 104, 58, 32]⟩ ++ digs W) ++ ⟨#[112, 120, 32, 125, 32, 112, 32, 123, 32, 109, 97, 114, 103, 105, 110, 58, 32, 48, 59, 32, 119, 105, 100, 116, 104, 58, 32, 50, 112, 120, 59, 32, 104, 101, 105, 103, 104, 116, 58, 32, 51, 112, 120, 59, 32, 98, 97, 99, 107, 103, 114, 111, 117, 110, 100, 58, 32, 114, 101, 100, 32, 125]⟩
def sumG (gs : List Int) : Nat → Int
  | 0 => 0
  | k + 1 => sumG gs k + gi gs k
theorem nxt_size (o : ByteArray) (g : Int) : (nxt o g).size = o.size + 27 := by
  unfold nxt
  rw [ByteArray.size_append, ByteArray.size_append, ByteArray.size_append]
  show o.size + 20 + 1 + 6 = _
  omega
theorem htmlA_size (gs : List Int) : ∀ k, (htmlA gs k).size = 27 * k
  | 0 => rfl
  | k + 1 => by show (nxt _ _).size = _; rw [nxt_size, htmlA_size gs k]; omega
theorem gi_in (gs : List Int) (i : Nat) : 0 ≤ gi gs i ∧ gi gs i ≤ 9 := by unfold gi; omega
theorem wd_in (n : Int) : 100 ≤ wd n ∧ wd n ≤ 900 := by unfold wd; omega
theorem sumG_in (gs : List Int) : ∀ k : Nat, 0 ≤ sumG gs k ∧ sumG gs k ≤ 9 * k
  | 0 => by simp [sumG]
  | k + 1 => by
    have h1 := sumG_in gs k
    have h2 := gi_in gs k
    show 0 ≤ sumG gs k + gi gs k ∧ sumG gs k + gi gs k ≤ 9 * ((k + 1 : Nat) : Int)
    omega
/-- how much each box gets, how wide it is, where it stands. -/
def shG (gs : List Int) (W : Int) (k : Nat) : List Int := Num.share (64 * W - 128 * k) ((List.range k).map (gi gs))
def wsG (gs : List Int) (W : Int) (k i : Nat) : Int := 128 + (shG gs W k).getD i 0
def xsG (gs : List Int) (W : Int) (k : Nat) : Nat → Int
  | 0 => 0
  | i + 1 => xsG gs W k i + wsG gs W k i
theorem gis_get (gs : List Int) {k i : Nat} (h : i < k) : ((List.range k).map (gi gs)).getD i 0 = gi gs i := by
  simp [List.getD, h]
theorem shG_in (gs : List Int) {W : Int} (h0 : 100 ≤ W) (h1 : W ≤ 900) {k : Nat} (hk : k ≤ 12) {i : Nat} (hi : i < k) : 0 ≤ (shG gs W k).getD i 0 ∧ (shG gs W k).getD i 0 ≤ 63936 := by
  have := share_in (64 * W - 128 * k) ((List.range k).map (gi gs)) (by simp; omega) (by omega) (by omega) (i := i) (by simpa using hi)
  unfold shG
  omega
theorem wsG_in (gs : List Int) {W : Int} (h0 : 100 ≤ W) (h1 : W ≤ 900) {k : Nat} (hk : k ≤ 12) {i : Nat} (hi : i < k) : 128 ≤ wsG gs W k i ∧ wsG gs W k i ≤ 64064 := by
  have := shG_in gs h0 h1 hk hi
  unfold wsG
  omega
theorem xsG_in (gs : List Int) {W : Int} (h0 : 100 ≤ W) (h1 : W ≤ 900) {k : Nat} (hk : k ≤ 12) : ∀ i : Nat, i ≤ k → 0 ≤ xsG gs W k i ∧ xsG gs W k i ≤ 64064 * i
  | 0, _ => by simp [xsG]
  | i + 1, hi => by
    have h2 := xsG_in gs h0 h1 hk i (by omega)
    have h3 := wsG_in gs h0 h1 hk (i := i) (by omega)
    show 0 ≤ xsG gs W k i + wsG gs W k i ∧ xsG gs W k i + wsG gs W k i ≤ 64064 * ((i + 1 : Nat) : Int)
    omega
theorem xsG_sum (gs : List Int) (W : Int) (k : Nat) : ∀ i : Nat, xsG gs W k i = 128 * i + Num.psum (shG gs W k) i
  | 0 => by simp [xsG, Num.psum]
  | i + 1 => by
    show xsG gs W k i + wsG gs W k i = _
    rw [xsG_sum gs W k i, psum_step]
    unfold wsG
    omega
theorem sumG_pos (gs : List Int) : ∀ k : Nat, 0 < sumG gs k ↔ ∃ i, i < k ∧ 0 < gi gs i
  | 0 => by simp [sumG]
  | k + 1 => by
    have h1 := sumG_in gs k
    have h2 := gi_in gs k
    have ih := sumG_pos gs k
    show 0 < sumG gs k + gi gs k ↔ _
    constructor
    · intro h
      by_cases e : 0 < gi gs k
      · exact ⟨k, by omega, e⟩
      · obtain ⟨i, a, b⟩ := ih.1 (by omega)
        exact ⟨i, by omega, b⟩
    · rintro ⟨i, a, b⟩
      by_cases e : i = k
      · subst e; omega
      · have := ih.2 ⟨i, by omega, b⟩
        omega
theorem anyp_iff (l : List Int) : ∀ k : Nat, k ≤ l.length → (Num.anyp l k = true ↔ ∃ i, i < k ∧ 0 < l.getD i 0)
  | 0, _ => by simp [Num.anyp]
  | k + 1, hk => by
    have ih := anyp_iff l k (by omega)
    simp only [Num.anyp, Bool.or_eq_true, decide_eq_true_eq, ih]
    constructor
    · rintro (⟨i, a, b⟩ | h)
      · exact ⟨i, by omega, b⟩
      · exact ⟨k, by omega, h⟩
    · rintro ⟨i, a, b⟩
      by_cases e : i = k
      · subst e; exact .inr b
      · exact .inl ⟨i, by omega, b⟩
/-- what is shared out fills the row. -/
theorem xsG_all (gs : List Int) {W : Int} (h0 : 100 ≤ W) (h1 : W ≤ 900) {k : Nat} (hk : k ≤ 12) : (sumG gs k = 0 ∧ xsG gs W k k = 128 * k) ∨ (0 < sumG gs k ∧ xsG gs W k k = 64 * W) := by
  have hl : ((List.range k).map (gi gs)).length = k := by simp
  have ht : Num.tot (64 * W - 128 * k) = 64 * W - 128 * k := by unfold Num.tot Num.clip; omega
  have hs := sumG_in gs k
  have ha := anyp_iff ((List.range k).map (gi gs)) k (by rw [hl]; exact Nat.le_refl _)
  have hp := sumG_pos gs k
  have he : (∃ i, i < k ∧ 0 < ((List.range k).map (gi gs)).getD i 0) ↔ ∃ i, i < k ∧ 0 < gi gs i :=
    ⟨fun ⟨i, a, b⟩ => ⟨i, a, by rwa [gis_get gs a] at b⟩, fun ⟨i, a, b⟩ => ⟨i, a, by rwa [gis_get gs a]⟩⟩
  have hx := xsG_sum gs W k k
  have := Num.share_total (64 * W - 128 * k) ((List.range k).map (gi gs))
  rw [hl] at this
  rcases this with ⟨a, b⟩ | ⟨a, b⟩
  · right
    have : 0 < sumG gs k := hp.2 (he.1 (ha.1 a))
    refine ⟨this, ?_⟩
    rw [hx]
    unfold shG
    rw [b, ht]
    omega
  · left
    have : ¬ 0 < sumG gs k := fun h => by
      have := ha.2 (he.2 (hp.1 h))
      rw [a] at this
      cases this
    refine ⟨by omega, ?_⟩
    rw [hx]
    unfold shG
    rw [b]
    omega
end Go.Abs
namespace Go.Abs
open Go.RowKit Go.Proofs Go.Proofs.YtkkiefcapbddkaaGreatDoor
set_option linter.unusedVariables false
set_option linter.unusedSectionVars false
set_option maxRecDepth 100000
/-! What the letters stand for. -/
@[reducible] noncomputable def valT (gs : List Int) (W : Int) (k : Nat) : Val where
  v := fun i => if i < 100 then 48 + gi gs i else if i = 100 then 48 + W / 10 / 10 else if i = 101 then 48 + W / 10 % 10 else 48 + W % 10
  f := fun _ i _ => (shG gs W k).getD i 0
  G := gS
section
variable (gs : List Int) (W : Int) (k : Nat)
theorem v_gi {i : Nat} (hi : i < 100) : (valT gs W k).v i = 48 + gi gs i := by
  show (if i < 100 then _ else _) = _
  rw [if_pos hi]
theorem gE_val {i : Nat} (hi : i < 100) : @Ex.val (valT gs W k) (gE i) = gi gs i := by
  letI := valT gs W k
  show (((0 + (Val.v i - 48)) * 64 + 0).tdiv 64 : Int) = gi gs i
  rw [show (Val.v i : Int) = 48 + gi gs i from v_gi gs W k hi]
  rw [show ((0 + (48 + gi gs i - 48)) * 64 + 0 : Int) = gi gs i * 64 by omega]
  exact Int.mul_tdiv_cancel _ (by decide)
theorem wX_val : @Ex.val (valT gs W k) wX = 64 * W := by
  letI := valT gs W k
  have h0 : (Val.v 100 : Int) = 48 + W / 10 / 10 := rfl
  have h1 : (Val.v 101 : Int) = 48 + W / 10 % 10 := rfl
  have h2 : (Val.v 102 : Int) = 48 + W % 10 := rfl
  show (((((((0 + (Val.v 100 - 48)) * 10) + (Val.v 101 - 48)) * 10) + (Val.v 102 - 48)) * 64) + 0 : Int) = 64 * W
  rw [h0, h1, h2]
  omega
theorem totE_val : ∀ n : Nat, @Ex.val (valT gs W k) (totE n) = 64 * W - 128 * n
  | 0 => by rw [show totE 0 = wX from rfl, wX_val]; simp
  | n + 1 => by
    letI := valT gs W k
    have ih := totE_val n
    show (totE n).val - 128 - 0 = _
    rw [ih]
    omega
theorem shOk (hk : k ≤ 12) : @ShOk (valT gs W k) k := by
  letI := valT gs W k
  intro i hi
  show (shG gs W k).getD i 0 = _
  rw [totE_val]
  have : grows k = (List.range k).map (gi gs) := by
    unfold grows
    refine List.map_congr_left fun i hi => ?_
    rw [List.mem_range] at hi
    exact gE_val gs W k (by omega)
  rw [this]
  rfl
theorem szE_val (i : Nat) : @Ex.val (valT gs W k) (szE i) = wsG gs W k i := rfl
theorem wE_val (i : Nat) : @Ex.val (valT gs W k) (wE i) = wsG gs W k i := by
  letI := valT gs W k
  show (szE i).val + 0 = _
  rw [szE_val]; omega
theorem atE_val : ∀ i : Nat, @Ex.val (valT gs W k) (atE i) = xsG gs W k i
  | 0 => rfl
  | i + 1 => by
    letI := valT gs W k
    show (atE i).val + (szE i).val + 0 + 0 = xsG gs W k i + wsG gs W k i
    rw [atE_val i, szE_val]
    omega
theorem xE_val (i : Nat) : @Ex.val (valT gs W k) (xE i) = xsG gs W k i := by
  letI := valT gs W k
  show 0 + (atE i).val + 0 = _
  rw [atE_val]; omega
theorem sr_k (l : List Nat) (h : ∀ n ∈ l, n < 256) : @SR (valT gs W k) (kB l) (l.map UInt8.ofNat) := @sr_nat (valT gs W k) l h
theorem sr_dig {v : Nat} {g : Int} {lo : Nat} (hv : (valT gs W k).v v = 48 + g) (h0 : (lo : Int) ≤ 48 + g) (h1 : g ≤ 9) (h2 : 0 ≤ g) : @Sb.ok (valT gs W k) (.x (.v v) lo 57) (UInt8.ofNat (48 + g.toNat)) := by
  letI := valT gs W k
  have hu : (UInt8.ofNat (48 + g.toNat)).toNat = 48 + g.toNat := by simp only [UInt8.toNat_ofNat']; omega
  show ((UInt8.ofNat (48 + g.toNat)).toNat : Int) = Val.v v ∧ _ ∧ _
  rw [hu, show (Val.v v : Int) = 48 + g from hv]
  refine ⟨by omega, by omega, by omega⟩
theorem SR.cons1 [Val] {x : Sb} {u : UInt8} {l : List Sb} {b : List UInt8} (h1 : x.ok u) (h2 : SR l b) : SR (x :: l) (u :: b) :=
  ⟨by simp [h2.len], fun i y v a c => by
    cases i with
    | zero => cases a; cases c; exact h1
    | succ i => exact h2.at_ i y v a c⟩
theorem SR.nil [Val] : SR [] [] := ⟨rfl, fun i y v a c => by simp at a⟩
theorem psB_snoc : ∀ (n i : Nat), psB (n + 1) i = psB n i ++ pB (i + n)
  | 0, i => by show List.append (pB i) [] = [] ++ pB (i + 0); simp
  | n + 1, i => by
    show List.append (pB i) (psB (n + 1) (i + 1)) = List.append (pB i) (psB n (i + 1)) ++ pB (i + (n + 1))
    rw [psB_snoc n (i + 1)]
    show pB i ++ (psB n (i + 1) ++ pB (i + 1 + n)) = (pB i ++ psB n (i + 1)) ++ pB (i + (n + 1))
    rw [List.append_assoc, show i + 1 + n = i + (n + 1) by omega]
theorem data_append (a b : ByteArray) : (a ++ b).data.toList = a.data.toList ++ b.data.toList := by
  rw [ByteArray.data_append, Array.toList_append]
theorem sr_html : ∀ n : Nat, n < 100 → @SR (valT gs W k) (psB n 0) (htmlA gs n).data.toList
  | 0, _ => @SR.nil (valT gs W k)
  | n + 1, hn => by
    letI := valT gs W k
    have ih := sr_html n (by omega)
    rw [psB_snoc]
    show SR (psB n 0 ++ pB (0 + n)) (nxt (htmlA gs n) (gi gs n)).data.toList
    unfold nxt
    rw [data_append, data_append, data_append, List.append_assoc, List.append_assoc, Nat.zero_add]
    refine ih.append ?_
    show SR (kB [60, 112, 32, 115, 116, 121, 108, 101, 61, 34, 102, 108, 101, 120, 45, 103, 114, 111, 119, 58] ++ (gB n :: kB [34, 62, 60, 47, 112, 62])) _
    refine SR.append (sr_k gs W k _ (by decide)) ?_
    have hg := gi_in gs n
    exact SR.cons1 (sr_dig gs W k (v_gi gs W k (by omega)) (by omega) hg.2 hg.1) (sr_k gs W k _ (by decide))
theorem sr_htmlB {n : Nat} (hn : n < 100) : @SR (valT gs W k) (htmlB n) (htmlS gs n).data.toList := by
  letI := valT gs W k
  unfold htmlS
  rw [data_append, data_append, List.append_assoc]
  show SR (kB [60, 100, 105, 118, 62] ++ (psB n 0 ++ kB [60, 47, 100, 105, 118, 62])) _
  exact SR.append (sr_k gs W k _ (by decide)) (SR.append (sr_html gs W k n hn) (sr_k gs W k _ (by decide)))
theorem sr_cssB (h0 : 100 ≤ W) (h1 : W ≤ 900) : @SR (valT gs W k) cssB (cssS W).data.toList := by
  letI := valT gs W k
  unfold cssS digs
  rw [data_append, data_append, data_append, data_append, List.append_assoc]
  show SR (kB [100, 105, 118, 32, 123, 32, 100, 105, 115, 112, 108, 97, 121, 58, 32, 102, 108, 101, 120, 59, 32, 119, 105, 100, 116, 104, 58, 32] ++ (wB ++ kB [112, 120, 32, 125, 32, 112, 32, 123, 32, 109, 97, 114, 103, 105, 110, 58, 32, 48, 59, 32, 119, 105, 100, 116, 104, 58, 32, 50, 112, 120, 59, 32, 104, 101, 105, 103, 104, 116, 58, 32, 51, 112, 120, 59, 32, 98, 97, 99, 107, 103, 114, 111, 117, 110, 100, 58, 32, 114, 101, 100, 32, 125])) _
  refine SR.append (sr_k gs W k _ (by decide)) (SR.append ?_ (sr_k gs W k _ (by decide)))
  exact SR.cons1 (sr_dig gs W k rfl (by omega) (by omega) (by omega)) (SR.cons1 (sr_dig gs W k rfl (by omega) (by omega) (by omega)) (SR.cons1 (sr_dig gs W k rfl (by omega) (by omega) (by omega)) SR.nil))
end
end Go.Abs
namespace Go.Abs
open Go.RowKit Go.Proofs Go.Proofs.YtkkiefcapbddkaaGreatDoor
set_option linter.unusedVariables false
set_option linter.unusedSectionVars false
set_option maxRecDepth 100000
/-- the list that Render answers: where each item stands, how wide it is, whose it is. -/
def ItemsAt (w : World) (a : Value) (gs : List Int) (W : Int) (k : Nat) : Prop :=
  ∃ A cap, a = .slice A k cap ∧ ∀ i, i < k → ∃ b off, A = some ⟨b, off, none⟩ ∧ w.cell? ⟨b, off + i * 14 + 1, none⟩ = some (.int .i64 ((i : Int) + 2)) ∧ w.cell? ⟨b, off + i * 14 + 2, none⟩ = some (.int .i64 (xsG gs W k i)) ∧ w.cell? ⟨b, off + i * 14 + 4, none⟩ = some (.int .i64 (wsG gs W k i))
theorem items_of (gs : List Int) (W : Int) (k : Nat) {F : Nat → Nat} {w : World} {a : Value} {d : D} (hd : lstN k = .d d) (h : @RD (valT gs W k) F w d a) : ItemsAt w a gs W k := by
  letI := valT gs W k
  cases k with
  | zero =>
    have : d = .z := by
      have : lstN 0 = .d .z := rfl
      rw [this] at hd; cases hd; rfl
    subst this
    cases h
    exact ⟨none, 0, rfl, fun i hi => by omega⟩
  | succ n =>
    have : d = .l 14 (upN (fun i => [itemN i]) (n + 1) 0) := by
      have : lstN (n + 1) = .d (.l 14 (upN (fun i => [itemN i]) (n + 1) 0)) := rfl
      rw [this] at hd; cases hd; rfl
    subst this
    obtain ⟨b, off, cap, rfl, h1, h2⟩ := rows_at h (by intro e; have := congrArg List.length e; rw [upN_len] at this; simp at this)
    refine ⟨some ⟨b, off, none⟩, cap, by rw [upN_len], fun i hi => ⟨b, off, rfl, ?_⟩⟩
    have hrow : (upN (fun i => [itemN i]) (n + 1) 0)[i]? = some (itemN i) := by
      rw [upN_one, List.getElem?_map, List.getElem?_range' hi]
      simp
    obtain ⟨v1, c1, d1⟩ := h2 i _ 1 _ hrow rfl
    obtain ⟨v2, c2, d2⟩ := h2 i _ 2 _ hrow rfl
    obtain ⟨v4, c4, d4⟩ := h2 i _ 4 _ hrow rfl
    refine ⟨?_, ?_, ?_⟩
    · rw [c1]
      cases d1
      rfl
    · rw [c2]
      cases i with
      | zero => cases d2; rfl
      | succ i =>
        have e := xE_val gs W (n + 1) (i + 1)
        have d2 : RD _ w (.x .i64 (xE (i + 1)) (128 * ((i + 1 : Nat) : Int)) (64064 * ((i + 1 : Nat) : Int))) v2 := d2
        cases d2
        rw [e]
    · rw [c4]
      have e := wE_val gs W (n + 1) i
      have d4 : RD _ w (.x .i64 (wE i) 128 64064) v4 := d4
      cases d4
      rw [e]
theorem bytes_cells (w : World) (s : ByteArray) : (Lib.bytesCells w 5 s).toList = s.data.toList.map (fun u => Value.int .u8 u.toNat) ++ List.replicate (grownCap w s.size 0 5 - s.size) (.int .u8 0) := by
  unfold Lib.bytesCells
  simp
theorem bytesWorld_below (w : World) (s : ByteArray) : Below w.heap.size w (Lib.bytesWorld w 5 s) :=
  ⟨rfl, rfl, rfl, by rw [Lib.bytesWorld_size]; omega, fun k hk => Lib.bytesWorld_at_old w 5 s k hk⟩
theorem cap_ge (w : World) (n : Nat) : n ≤ grownCap w n 0 5 := by
  exact grownCap_ge w n 0 5
theorem grown_render {gs : List Int} {W : Int} {k : Nat} (hk : k ≤ 12) (h0 : 100 ≤ W) (h1 : W ≤ 900) {w : World} (hs : SpAt w) {sH sC : ByteArray} (hH : htmlS gs k = sH) (hC : cssS W = sC) :
    Calls Tryz.prog 9 #[.slice (some ⟨w.heap.size, 0, none⟩) sH.size (grownCap w sH.size 0 5), .slice (some ⟨(Lib.bytesWorld w 5 sH).heap.size, 0, none⟩) sC.size (grownCap (Lib.bytesWorld w 5 sH) sC.size 0 5), .agg #[.int .i64 6400, .int .i64 6400, .slice none 0 0]]
      (Lib.bytesWorld (Lib.bytesWorld w 5 sH) 5 sC) fun e w' => ∃ a, e = .returned (.tuple #[a, .int .i64 0]) ∧ Below w.heap.size w w' ∧ ItemsAt w' a gs W k := by
  letI := valT gs W k
  subst hH hC
  have hlt := hs.lt
  have b1 := bytesWorld_below w (htmlS gs k)
  have b2 := bytesWorld_below (Lib.bytesWorld w 5 (htmlS gs k)) (cssS W)
  have hsz := Lib.bytesWorld_size w 5 (htmlS gs k)
  have b3 := b1.trans (b2.mono (by rw [hsz]; omega))
  obtain ⟨d, hd⟩ : ∃ d, lstN k = .d d := ⟨_, rfl⟩
  have hp := render_pc (by rfl) hk (shOk gs W k hk)
  rw [hd] at hp
  have e1 : (htmlS gs k).size = (htmlS gs k).data.toList.length := rfl
  have e2 : (cssS W).size = (cssS W).data.toList.length := rfl
  have hb1 : (Lib.bytesWorld (Lib.bytesWorld w 5 (htmlS gs k)) 5 (cssS W)).heap[w.heap.size]? = some (.cells (Lib.bytesCells w 5 (htmlS gs k)) 5 ((Lib.bytesCells w 5 (htmlS gs k)).size, (Lib.bytesCells w 5 (htmlS gs k)).size + 1)) :=
    (Lib.bytesWorld_at_old _ _ _ _ (by rw [hsz]; omega)).trans (Lib.bytesWorld_at_new w 5 _)
  have hb2 := Lib.bytesWorld_at_new (Lib.bytesWorld w 5 (htmlS gs k)) 5 (cssS W)
  have l1 := congrArg List.length (bytes_cells w (htmlS gs k))
  have l2 := congrArg List.length (bytes_cells (Lib.bytesWorld w 5 (htmlS gs k)) (cssS W))
  simp only [Array.length_toList, List.length_append, List.length_map, List.length_replicate, ← e1, ← e2] at l1 l2
  have g1 := cap_ge w (htmlS gs k).size
  have g2 := cap_ge (Lib.bytesWorld w 5 (htmlS gs k)) (cssS W).size
  have := render_at (cap1 := grownCap w (htmlS gs k).size 0 5) (cap2 := grownCap (Lib.bytesWorld w 5 (htmlS gs k)) (cssS W).size 0 5) (by rfl) hp (sr_htmlB gs W k (by omega)) (sr_cssB gs W k h0 h1) (hs.below b3 hlt) hb1 hb2
    (by rw [hsz]; omega) (by omega) (by rw [hsz]; omega) (by rw [← e1]; exact g1) (by rw [← e2]; exact g2) (by rw [l1]; omega) (by rw [l2]; omega) (cells_of (bytes_cells _ _)) (cells_of (bytes_cells _ _))
  rw [← e1, ← e2] at this
  refine this.mono fun e w' ⟨a, F', r1, r2, r3⟩ => ⟨a, r1, b3.trans (r3.mono (by have := b3.size; omega)), items_of gs W k hd r2⟩
end Go.Abs
