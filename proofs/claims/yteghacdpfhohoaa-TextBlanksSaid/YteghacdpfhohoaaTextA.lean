/-
  How far runes go, how wide texts are: the program's and the document's.
-/
import Derived.Test.YteghacdpfhohoaaFlexC
import Derived.Test.YteghacdpfhohoaaOpen
import Derived.Deep.DeepCutAuto
import Derived.Deep.CutBlock
import Derived.Outline
import Derived.Laws.RangeAny
namespace Go.Proofs.Yteghacdpfhohoaa
open Go.RowKit Num Mem Opn
set_option linter.unusedVariables false
set_option linter.unusedSimpArgs false
set_option linter.unusedSimpArgs false
theorem width_pos (s : ByteArray) (pos : Nat) (h : pos < s.size) : 1 ≤ (Utf8.decode s pos).2 := by
  by_cases ha : (s[pos]'h).toNat < 128
  · rw [decode_ascii s pos h ha]
    exact Nat.le_refl _
  · exact (decode_high s pos h (by omega)).2
namespace Num
/-- what a table says of a rune. -/
def advN (l : List Int) (r : Int) : Int := if 0 ≤ r ∧ r < l.length then l.getD r.toNat 0 else if l.length = 0 then 512 else l.getD (l.length - 1) 0
def adv (l : List Int) (r size : Int) : Int := prt (min (max (advN l r) 0) 65536) (min (max size 0) 65536) 1024
/-- the runes of a text from a place on, k at most. -/
def rns (s : ByteArray) : Nat → Nat → List Int
  | 0, _ => []
  | k + 1, pos => if pos < s.size then ((Utf8.decode s pos).1 : Int) :: rns s k (pos + (Utf8.decode s pos).2) else []
def runesOf (s : ByteArray) : List Int := rns s s.size 0
def wid (l : List Int) (size : Int) (n : Int) : List Int → Int
  | [] => n
  | r :: t => wid l size (add n (adv l r size)) t
def width (l : List Int) (s : ByteArray) (size : Int) : Int := wid l size 0 (runesOf s)
theorem prt_clip (a s : Int) : prt a (min (max s 0) 65536) 1024 = prt a s 1024 := by
  unfold prt
  have : clip (min (max s 0) 65536) 0 65536 = clip s 0 65536 := by unfold clip; omega
  rw [this]
theorem rns_fuel (s : ByteArray) : ∀ {k k' pos : Nat}, s.size ≤ pos + k → s.size ≤ pos + k' → rns s k pos = rns s k' pos := by
  intro k
  induction k with
  | zero =>
    intro k' pos h h'
    cases k' with
    | zero => rfl
    | succ k' => simp only [rns]; rw [if_neg (by omega)]
  | succ k ih =>
    intro k' pos h h'
    cases k' with
    | zero => simp only [rns]; rw [if_neg (by omega)]
    | succ k' =>
      simp only [rns]
      by_cases hp : pos < s.size
      · have hw := width_pos s pos hp
        rw [if_pos hp, if_pos hp, ih (k' := k') (by omega) (by omega)]
      · rw [if_neg hp, if_neg hp]
end Num
namespace Mem
/-- an iterator over a text stands here. -/
def IterAt (w : World) (b : Nat) (s : ByteArray) (pos : Nat) : Prop := w.heap[b]? = some (.stringIter s pos)
theorem IterAt.below {w w' : World} {b pos : Nat} {s : ByteArray} (h : IterAt w b s pos) (hb : Below w.heap.size w w') : IterAt w' b s pos := by
  unfold IterAt at *
  rw [hb.block b (Array.getElem?_eq_some_iff.1 h).1]
  exact h
end Mem
/-- the iterator stands elsewhere. -/
def _root_.Go.World.bump (w : World) (b : Nat) (s : ByteArray) (pos : Nat) : World := { w with heap := w.heap.setIfInBounds b (.stringIter s pos) }
theorem bump_chg (w : World) (b : Nat) (s : ByteArray) (p : Nat) : Chg b w (w.bump b s p) :=
  ⟨rfl, rfl, rfl, by simp [World.bump], fun g hg => by simp [World.bump, Array.getElem?_setIfInBounds, Ne.symm hg]⟩
theorem bump_iter {w : World} {b pos p' : Nat} {s : ByteArray} (h : IterAt w b s pos) : IterAt (w.bump b s p') b s p' := by
  have hlt := (Array.getElem?_eq_some_iff.1 h).1
  simp [IterAt, World.bump, Array.getElem?_setIfInBounds, hlt]
theorem run_next_at {P : Program} {w : World} {b pos : Nat} {s : ByteArray} (hI : IterAt w b s pos) (h : pos < s.size) (ty : TypeId) :
    (Instr.next (.pointer (some ⟨b, 0, none⟩)) true ty).run P w = .ok (.tuple #[.bool true, .int .i64 pos, .int .i32 (Utf8.decode s pos).1]) (w.bump b s (pos + (Utf8.decode s pos).2)) := by
  unfold IterAt at hI
  simp only [Instr.next, getObj, setObj, Sem.run_bind, Sem.run, hI, Result.andThen, h, if_true]
  simp [goInt, World.bump, Sem.run]
theorem run_next_none {P : Program} {w : World} {b pos : Nat} {s : ByteArray} (hI : IterAt w b s pos) (h : ¬ pos < s.size) (ty : TypeId) :
    (Instr.next (.pointer (some ⟨b, 0, none⟩)) true ty).run P w = .ok (.tuple #[.bool false]) w := by
  unfold IterAt at hI
  simp [Instr.next, getObj, Sem.run, hI, h]
set_option maxRecDepth 100000 in
set_option maxHeartbeats 2000000 in
theorem text_Advance (ew eh : Int) (l : List Int) (A : Option Addr) (c : Nat) (r size : Int) (w : World) (hl : l.length ≤ 1000000) (hr1 : -2147483648 ≤ r) (hr2 : r ≤ 2147483647) (hA : Ints w w.heap.size A l) :
    Calls Try.prog 21 #[.agg #[.int .i64 ew, .int .i64 eh, .slice A l.length c], .int .i32 r, .int .i64 size] w fun e w' => e = .returned (.int .i64 (adv l r size)) ∧ Below w.heap.size w w' := by
  have hX : Blk (w.alloc (.cells #[.int .i64 ew, .int .i64 eh, .slice A l.length c] 36)) w.heap.size 36 #[.int .i64 ew, .int .i64 eh, .slice A l.length c] := Blk.new _ _ _
  have hB : Below w.heap.size w (w.alloc (.cells #[.int .i64 ew, .int .i64 eh, .slice A l.length c] 36)) := (Below.refl _ _).alloc (Nat.le_refl _) _
  obtain ⟨N, hN⟩ : ∃ N, advN l r = N := ⟨_, rfl⟩
  obtain ⟨M, hM⟩ : ∃ M, (if l.length = 0 then 512 else l.getD (l.length - 1) 0) = M := ⟨_, rfl⟩
  have HM := hid hM
  have HN : Hid ((if 0 ≤ r ∧ r < l.length then l.getD r.toNat 0 else M) = N) := hid (by rw [← hN, ← hM]; rfl)
  obtain ⟨R, hR⟩ : ∃ R, adv l r size = R := ⟨_, rfl⟩
  have HR : Hid (prt (min (max N 0) 65536) (min (max size 0) 65536) 1024 = R) := hid (by rw [← hR, ← hN]; rfl)
  rw [hR]
  clear hN hM hR
  have wr : IntKind.i64.wrap r = r := IntWalk.i64_in _ (by omega)
  go_enter Try.func21, Try.ntmps21
  go_upto_region 1 with fail
  refine wp_forget (fun Z => Blk Z w.heap.size 36 #[.int .i64 ew, .int .i64 eh, .slice A l.length c] ∧ Below w.heap.size w Z) ⟨hX, hB⟩ ?_
  clear hX hB
  rintro w1 ⟨hX, hB⟩
  have hA1 := hA.below hB
  have c2 : w1.cell? ⟨w.heap.size, 2, none⟩ = some (.slice A l.length c) := hX.cell 2
  go_upto_if 13 with fail
  clear c2
  go_cut [7] (fun s7 wx => s7 = .int .i64 N ∧ w1 = wx)
  case first =>
    rcases Nat.eq_zero_or_pos l.length with h0 | h0
    · have HZ : Hid (512 = N) := hid (by rw [← HN.out, if_neg (by omega), ← HM.out, if_pos h0])
      have g1 : decide (0 < l.length) = false := decide_eq_false (by omega)
      have g2 : decide ((0 : Int) < (l.length : Int)) = false := decide_eq_false (by omega)
      have hn : ¬ 0 < l.length := by omega
      clear h0
      go_wp2_with fail
      go_meet
      exact ⟨by rw [← HZ.out], rfl⟩
    · obtain ⟨k, hk⟩ : ∃ k, l.length = k + 1 := ⟨l.length - 1, by omega⟩
      obtain ⟨b, off, x, rfl, hb, hc, hx⟩ := hA1.at_ (k := k) (by omega)
      have HZ : Hid (x = M) := hid (by rw [← HM.out, if_neg (by omega), ← hx.out, hk]; rfl)
      have g1 : decide (0 < l.length) = true := decide_eq_true h0
      have g2 : decide ((0 : Int) < (l.length : Int)) = true := decide_eq_true (by omega)
      have e1 : (l.length : Int) - 1 = (k : Int) := by omega
      have e3 : IntKind.i64.wrap ((l.length : Int) - 1) = (k : Int) := by rw [e1]; exact IntWalk.i64_in _ (by omega)
      have e2 : decide ((k : Int) < (l.length : Int)) = true := decide_eq_true (by omega)
      have e4 : IntKind.i64.wrap (k : Int) = (k : Int) := IntWalk.i64_in _ (by omega)
      have e5 : ¬ (k : Int) < 0 := by omega
      have e6 : k < l.length := by omega
      clear hk
      by_cases h1 : 0 ≤ r
      · obtain ⟨p, rfl⟩ : ∃ p : Nat, r = p := ⟨r.toNat, by omega⟩
        have g3 : decide ((0 : Int) ≤ (p : Int)) = true := by simp
        by_cases h2 : p < l.length
        · have g4 : decide ((p : Int) < (l.length : Int)) = true := decide_eq_true (by omega)
          obtain ⟨b', off', x', e', hb', hc', hx'⟩ := hA1.at_ (k := p) h2
          injection e' with e'
          injection e' with e1' e2' e3'
          subst e1' e2'
          have HY : Hid (x' = N) := hid (by
            have h3 := HN.out
            rw [if_pos ⟨h1, by omega⟩] at h3
            rw [← h3, ← hx'.out]
            rfl)
          clear HN HM HZ HR
          go_wp2_with fail
          go_meet
          exact ⟨by rw [HY.out], rfl⟩
        · have g4 : decide ((p : Int) < (l.length : Int)) = false := decide_eq_false (by omega)
          have HY : Hid (x = N) := hid (by
            have h3 := HN.out
            rw [if_neg (by omega)] at h3
            rw [← h3, HZ.out])
          clear HN HM HZ HR
          go_wp2_with fail
          go_meet
          exact ⟨by rw [HY.out], rfl⟩
      · have g3 : decide (0 ≤ r) = false := by simpa using h1
        have HY : Hid (x = N) := hid (by
          have h3 := HN.out
          rw [if_neg (by omega)] at h3
          rw [← h3, HZ.out])
        clear HN HM HZ HR
        go_wp2_with fail
        go_meet
        exact ⟨by rw [HY.out], rfl⟩
  case rest =>
  obtain ⟨rfl, rfl⟩ := hcut
  clear HN HM hA1
  go_wp2_with (go_at_call 55; refine (fixed_Part _ _ _ _).mono ?_; rintro e w' ⟨rfl, rfl⟩)
  go_ret
  exact ⟨by rw [← HR.out]; rfl, hB⟩
set_option maxRecDepth 100000 in
set_option maxHeartbeats 2000000 in
theorem ref14_Advance (ew eh : Int) (l : List Int) (A : Option Addr) (c : Nat) (r size : Int) (w : World) (hl : l.length ≤ 1000000) (hr1 : -2147483648 ≤ r) (hr2 : r ≤ 2147483647) (hA : Ints w w.heap.size A l) :
    Calls Try.prog 22 #[.agg #[.int .i64 ew, .int .i64 eh, .slice A l.length c], .int .i32 r, .int .i64 size] w fun e w' => e = .returned (.int .i64 (adv l r size)) ∧ Below w.heap.size w w' := by
  have hX : Blk (w.alloc (.cells #[.int .i64 ew, .int .i64 eh, .slice A l.length c] 36)) w.heap.size 36 #[.int .i64 ew, .int .i64 eh, .slice A l.length c] := Blk.new _ _ _
  have hB : Below w.heap.size w (w.alloc (.cells #[.int .i64 ew, .int .i64 eh, .slice A l.length c] 36)) := (Below.refl _ _).alloc (Nat.le_refl _) _
  obtain ⟨N, hN⟩ : ∃ N, advN l r = N := ⟨_, rfl⟩
  obtain ⟨M, hM⟩ : ∃ M, (if l.length = 0 then 512 else l.getD (l.length - 1) 0) = M := ⟨_, rfl⟩
  have HM := hid hM
  have HN : Hid ((if 0 ≤ r ∧ r < l.length then l.getD r.toNat 0 else M) = N) := hid (by rw [← hN, ← hM]; rfl)
  obtain ⟨R, hR⟩ : ∃ R, adv l r size = R := ⟨_, rfl⟩
  have HR : Hid (prt (min (max N 0) 65536) (min (max size 0) 65536) 1024 = R) := hid (by rw [← hR, ← hN]; rfl)
  rw [hR]
  clear hN hM hR
  have wr : IntKind.i64.wrap r = r := IntWalk.i64_in _ (by omega)
  go_enter Try.func22, Try.ntmps22
  go_upto_region 1 with fail
  refine wp_forget (fun Z => Blk Z w.heap.size 36 #[.int .i64 ew, .int .i64 eh, .slice A l.length c] ∧ Below w.heap.size w Z) ⟨hX, hB⟩ ?_
  clear hX hB
  rintro w1 ⟨hX, hB⟩
  have hA1 := hA.below hB
  have c2 : w1.cell? ⟨w.heap.size, 2, none⟩ = some (.slice A l.length c) := hX.cell 2
  go_upto_if 13 with fail
  clear c2
  go_cut [7] (fun s7 wx => s7 = .int .i64 M ∧ w1 = wx)
  case first =>
    rcases Nat.eq_zero_or_pos l.length with h0 | h0
    · have HZ : Hid (512 = M) := hid (by rw [← HM.out, if_pos h0])
      have g1 : decide (0 < l.length) = false := decide_eq_false (by omega)
      have g2 : decide ((0 : Int) < (l.length : Int)) = false := decide_eq_false (by omega)
      have hn : ¬ 0 < l.length := by omega
      clear h0
      go_wp2_with fail
      go_meet
      exact ⟨by rw [← HZ.out], rfl⟩
    · obtain ⟨k, hk⟩ : ∃ k, l.length = k + 1 := ⟨l.length - 1, by omega⟩
      obtain ⟨b, off, x, rfl, hb, hc, hx⟩ := hA1.at_ (k := k) (by omega)
      have HZ : Hid (x = M) := hid (by rw [← HM.out, if_neg (by omega), ← hx.out, hk]; rfl)
      have g1 : decide (0 < l.length) = true := decide_eq_true h0
      have g2 : decide ((0 : Int) < (l.length : Int)) = true := decide_eq_true (by omega)
      have e1 : (l.length : Int) - 1 = (k : Int) := by omega
      have e3 : IntKind.i64.wrap ((l.length : Int) - 1) = (k : Int) := by rw [e1]; exact IntWalk.i64_in _ (by omega)
      have e2 : decide ((k : Int) < (l.length : Int)) = true := decide_eq_true (by omega)
      have e4 : IntKind.i64.wrap (k : Int) = (k : Int) := IntWalk.i64_in _ (by omega)
      have e5 : ¬ (k : Int) < 0 := by omega
      have e6 : k < l.length := by omega
      clear hk
      go_wp2_with fail
      go_meet
      exact ⟨by rw [HZ.out], rfl⟩
  case rest =>
  obtain ⟨rfl, rfl⟩ := hcut
  obtain ⟨q, hq⟩ : ∃ q, (decide (0 ≤ r) && decide (r < (l.length : Int))) = q := ⟨_, rfl⟩
  have HQ := hid hq
  clear hq HM
  go_upto_region 5 with fail
  go_cut [28] (fun s wx => s = .bool q ∧ w1 = wx)
  case first =>
    by_cases h1 : 0 ≤ r
    · have g1 : decide (0 ≤ r) = true := by simpa using h1
      have HZ : Hid (decide (r < (l.length : Int)) = q) := hid (by rw [← HQ.out, g1]; rfl)
      go_wp2_with fail
      go_meet
      exact ⟨by rw [HZ.out], rfl⟩
    · have g1 : decide (0 ≤ r) = false := by simpa using h1
      have HZ : Hid (q = false) := hid (by rw [← HQ.out, g1]; rfl)
      go_wp2_with fail
      go_meet
      exact ⟨by rw [HZ.out], rfl⟩
  case rest =>
  obtain ⟨rfl, rfl⟩ := hcut
  go_upto_if 28 with fail
  go_cut [7] (fun s7 wx => s7 = .int .i64 N ∧ w1 = wx)
  case first =>
    cases q
    · have HZ : Hid (M = N) := hid (by
        have h1 := HQ.out
        have h2 := HN.out
        rw [if_neg (by rintro ⟨h3, h4⟩; simp [h3, h4] at h1)] at h2
        exact h2)
      go_wp2_with fail
      go_meet
      exact ⟨by rw [HZ.out], rfl⟩
    · have hr0 : 0 ≤ r := by have := HQ.out; simp at this; exact this.1
      have hrl : r < (l.length : Int) := by have := HQ.out; simp at this; exact this.2
      have HN2 : Hid (l.getD r.toNat 0 = N) := hid (by have := HN.out; rwa [if_pos ⟨hr0, hrl⟩] at this)
      obtain ⟨p, rfl⟩ : ∃ p : Nat, r = p := ⟨r.toNat, by omega⟩
      obtain ⟨b, off, x, rfl, hb, hc, hx⟩ := hA1.at_ (k := p) (by omega)
      have HZ : Hid (x = N) := hid (by rw [← HN2.out, ← hx.out]; rfl)
      have e6 : p < l.length := by omega
      clear HN HN2 HQ HR
      go_wp2_with fail
      go_meet
      exact ⟨by rw [HZ.out], rfl⟩
  case rest =>
  obtain ⟨rfl, rfl⟩ := hcut
  clear HN HQ hA1
  have HR2 : Hid (prt (min (max N 0) 65536) size 1024 = R) := hid (by rw [← prt_clip]; exact HR.out)
  clear HR
  by_cases h1 : N < 0
  · have g1 : decide (N < 0) = true := by simpa using h1
    have e1 : min (max N 0) 65536 = 0 := by omega
    have g2 : decide ((65536 : Int) < 0) = false := rfl
    go_wp2_with (go_at_call 56; refine (ref_Part _ _ _ _).mono ?_; rintro e w' ⟨rfl, rfl⟩)
    go_ret
    exact ⟨by rw [← HR2.out, e1]; rfl, hB⟩
  · have g1 : decide (N < 0) = false := by simpa using h1
    by_cases h2 : 65536 < N
    · have g2 : decide (65536 < N) = true := by simpa using h2
      have e1 : min (max N 0) 65536 = 65536 := by omega
      go_wp2_with (go_at_call 56; refine (ref_Part _ _ _ _).mono ?_; rintro e w' ⟨rfl, rfl⟩)
      go_ret
      exact ⟨by rw [← HR2.out, e1]; rfl, hB⟩
    · have g2 : decide (65536 < N) = false := by simpa using h2
      have e1 : min (max N 0) 65536 = N := by omega
      go_wp2_with (go_at_call 56; refine (ref_Part _ _ _ _).mono ?_; rintro e w' ⟨rfl, rfl⟩)
      go_ret
      exact ⟨by rw [← HR2.out, e1]; rfl, hB⟩
set_option maxRecDepth 100000 in
set_option maxHeartbeats 2000000 in
theorem text_Width (ew eh : Int) (l : List Int) (A : Option Addr) (c : Nat) (s : ByteArray) (size : Int) (w : World) (hl : l.length ≤ 1000000) (hA : Ints w w.heap.size A l) :
    Calls Try.prog 23 #[.agg #[.int .i64 ew, .int .i64 eh, .slice A l.length c], .string s, .int .i64 size] w fun e w' => e = .returned (.int .i64 (width l s size)) ∧ Below w.heap.size w w' := by
  have hX : Blk ((w.alloc (.cells #[.int .i64 ew, .int .i64 eh, .slice A l.length c] 36)).iter s 0) w.heap.size 36 #[.int .i64 ew, .int .i64 eh, .slice A l.length c] := (Blk.new _ _ _).alloc _
  have hI : IterAt ((w.alloc (.cells #[.int .i64 ew, .int .i64 eh, .slice A l.length c] 36)).iter s 0) (w.heap.size + 1) s 0 := by
    have := World.iter_heap (w.alloc (.cells #[.int .i64 ew, .int .i64 eh, .slice A l.length c] 36)) s 0
    simpa [IterAt] using this
  have hB : Below w.heap.size w ((w.alloc (.cells #[.int .i64 ew, .int .i64 eh, .slice A l.length c] 36)).iter s 0) := ((Below.refl _ _).alloc (Nat.le_refl _) _).alloc (by simp) _
  obtain ⟨R, hR⟩ : ∃ R, width l s size = R := ⟨_, rfl⟩
  have HR : Hid (wid l size 0 (rns s (s.size - 0) 0) = R) := hid hR
  rw [hR]
  clear hR
  go_enter Try.func23, Try.ntmps23
  go_upto_region 2 with fail
  have hrange := run_range_string (P := Try.prog) (w.alloc (.cells #[.int .i64 ew, .int .i64 eh, .slice A l.length c] 36)) 9 s Try.underlying9
  go_wp2_with fail
  clear hrange
  generalize (w.alloc (.cells #[.int .i64 ew, .int .i64 eh, .slice A l.length c] 36)).iter s 0 = w1 at *
  go_loopg [7] (s.size - 0) (fun g' s7 wr => ∃ (pos : Nat) (n : Int), g' = s.size - pos ∧ s7 = .int .i64 n ∧ IterAt wr (w.heap.size + 1) s pos ∧ Blk wr w.heap.size 36 #[.int .i64 ew, .int .i64 eh, .slice A l.length c] ∧ Below w.heap.size w wr ∧ Hid (wid l size n (rns s (s.size - pos) pos) = R))
  case atStart => exact ⟨0, 0, rfl, rfl, hI, hX, hB, HR⟩
  case round =>
    clear hI hX hB HR
    obtain ⟨pos, n, rfl, rfl, hI, hX, hB, HR⟩ := hrel
    by_cases hp : pos < s.size
    · have hw := width_pos s pos hp
      have hdl := decode_le s pos
      have hnx : ∀ ty, (Instr.next (.pointer (some ⟨w.heap.size + 1, 0, none⟩)) true ty).run Try.prog wr = _ := fun ty => run_next_at hI hp ty
      have hc := bump_chg wr (w.heap.size + 1) s (pos + (Utf8.decode s pos).2)
      have hI2 := bump_iter (p' := pos + (Utf8.decode s pos).2) hI
      have hX2 : Blk (wr.bump (w.heap.size + 1) s (pos + (Utf8.decode s pos).2)) w.heap.size 36 #[.int .i64 ew, .int .i64 eh, .slice A l.length c] := hX.chg hc (by omega)
      have hB2 : Below w.heap.size w (wr.bump (w.heap.size + 1) s (pos + (Utf8.decode s pos).2)) := hB.trans (hc.below (by omega))
      have HR2 : Hid (wid l size (add n (adv l ((Utf8.decode s pos).1 : Int) size)) (rns s (s.size - (pos + (Utf8.decode s pos).2)) (pos + (Utf8.decode s pos).2)) = R) := hid (by
        have h1 := HR.out
        obtain ⟨k, hk⟩ : ∃ k, s.size - pos = k + 1 := ⟨s.size - pos - 1, by omega⟩
        rw [hk, rns, if_pos hp, wid] at h1
        rw [← h1]
        congr 1
        exact rns_fuel s (by omega) (by omega))
      clear hI hX hB HR hc
      have hsd : s.size - (pos + (Utf8.decode s pos).2) < s.size - pos := by omega
      replace hsd := hid hsd
      obtain ⟨p', hp'⟩ : ∃ p', pos + (Utf8.decode s pos).2 = p' := ⟨_, rfl⟩
      obtain ⟨rv, hrv⟩ : ∃ rv, (Utf8.decode s pos).1 = rv := ⟨_, rfl⟩
      rw [hp'] at hnx hI2 hX2 hB2 HR2 hsd
      rw [hrv] at hnx HR2 hdl
      clear hp' hrv hw
      have c0 : (wr.bump (w.heap.size + 1) s p').cell? ⟨w.heap.size, 0, none⟩ = some (.int .i64 ew) := hX2.cell 0
      have c1 : (wr.bump (w.heap.size + 1) s p').cell? ⟨w.heap.size, 1, none⟩ = some (.int .i64 eh) := hX2.cell 1
      have c2 : (wr.bump (w.heap.size + 1) s p').cell? ⟨w.heap.size, 2, none⟩ = some (.slice A l.length c) := hX2.cell 2
      go_wp2_with fail
      refine (text_Advance ew eh l A c rv size _ hl (by omega) (by omega) ((hA.below hB2).more (by have := hB2.size; omega))).mono ?_
      rintro e w2 ⟨rfl, hb⟩
      have hI3 := hI2.below hb
      have hX3 := hX2.below hb hX2.lt
      have hB3 := hB2.trans (hb.mono (by have := hX2.lt; omega))
      clear hI2 hX2 hB2 hb c0 c1 c2 hnx
      go_wp2_with (go_at_call 53; refine (fixed_Add _ _ _).mono ?_; rintro e w' ⟨rfl, rfl⟩)
      go_roundg (s.size - p')
      case rel => exact ⟨p', _, rfl, rfl, hI3, hX3, hB3, HR2⟩
      case measure => exact hsd.out
    · have hnx : ∀ ty, (Instr.next (.pointer (some ⟨w.heap.size + 1, 0, none⟩)) true ty).run Try.prog wr = _ := fun ty => run_next_none hI hp ty
      have HZ : Hid (n = R) := hid (by
        have h1 := HR.out
        rw [show s.size - pos = 0 by omega, rns, wid] at h1
        exact h1)
      go_wp2_with fail
      go_ret
      exact ⟨by rw [← HZ.out]; rfl, hB⟩
set_option maxRecDepth 100000 in
set_option maxHeartbeats 2000000 in
theorem ref14_Width (ew eh : Int) (l : List Int) (A : Option Addr) (c : Nat) (s : ByteArray) (size : Int) (w : World) (hl : l.length ≤ 1000000) (hA : Ints w w.heap.size A l) :
    Calls Try.prog 24 #[.agg #[.int .i64 ew, .int .i64 eh, .slice A l.length c], .string s, .int .i64 size] w fun e w' => e = .returned (.int .i64 (width l s size)) ∧ Below w.heap.size w w' := by
  have hX : Blk ((w.alloc (.cells #[.int .i64 ew, .int .i64 eh, .slice A l.length c] 36)).iter s 0) w.heap.size 36 #[.int .i64 ew, .int .i64 eh, .slice A l.length c] := (Blk.new _ _ _).alloc _
  have hI : IterAt ((w.alloc (.cells #[.int .i64 ew, .int .i64 eh, .slice A l.length c] 36)).iter s 0) (w.heap.size + 1) s 0 := by
    have := World.iter_heap (w.alloc (.cells #[.int .i64 ew, .int .i64 eh, .slice A l.length c] 36)) s 0
    simpa [IterAt] using this
  have hB : Below w.heap.size w ((w.alloc (.cells #[.int .i64 ew, .int .i64 eh, .slice A l.length c] 36)).iter s 0) := ((Below.refl _ _).alloc (Nat.le_refl _) _).alloc (by simp) _
  obtain ⟨R, hR⟩ : ∃ R, width l s size = R := ⟨_, rfl⟩
  have HR : Hid (wid l size 0 (rns s (s.size - 0) 0) = R) := hid hR
  rw [hR]
  clear hR
  go_enter Try.func24, Try.ntmps24
  go_upto_region 2 with fail
  have hrange := run_range_string (P := Try.prog) (w.alloc (.cells #[.int .i64 ew, .int .i64 eh, .slice A l.length c] 36)) 9 s Try.underlying9
  go_wp2_with fail
  clear hrange
  generalize (w.alloc (.cells #[.int .i64 ew, .int .i64 eh, .slice A l.length c] 36)).iter s 0 = w1 at *
  go_loopg [7] (s.size - 0) (fun g' s7 wr => ∃ (pos : Nat) (n : Int), g' = s.size - pos ∧ s7 = .int .i64 n ∧ IterAt wr (w.heap.size + 1) s pos ∧ Blk wr w.heap.size 36 #[.int .i64 ew, .int .i64 eh, .slice A l.length c] ∧ Below w.heap.size w wr ∧ Hid (wid l size n (rns s (s.size - pos) pos) = R))
  case atStart => exact ⟨0, 0, rfl, rfl, hI, hX, hB, HR⟩
  case round =>
    clear hI hX hB HR
    obtain ⟨pos, n, rfl, rfl, hI, hX, hB, HR⟩ := hrel
    by_cases hp : pos < s.size
    · have hw := width_pos s pos hp
      have hdl := decode_le s pos
      have hnx : ∀ ty, (Instr.next (.pointer (some ⟨w.heap.size + 1, 0, none⟩)) true ty).run Try.prog wr = _ := fun ty => run_next_at hI hp ty
      have hc := bump_chg wr (w.heap.size + 1) s (pos + (Utf8.decode s pos).2)
      have hI2 := bump_iter (p' := pos + (Utf8.decode s pos).2) hI
      have hX2 : Blk (wr.bump (w.heap.size + 1) s (pos + (Utf8.decode s pos).2)) w.heap.size 36 #[.int .i64 ew, .int .i64 eh, .slice A l.length c] := hX.chg hc (by omega)
      have hB2 : Below w.heap.size w (wr.bump (w.heap.size + 1) s (pos + (Utf8.decode s pos).2)) := hB.trans (hc.below (by omega))
      have HR2 : Hid (wid l size (add n (adv l ((Utf8.decode s pos).1 : Int) size)) (rns s (s.size - (pos + (Utf8.decode s pos).2)) (pos + (Utf8.decode s pos).2)) = R) := hid (by
        have h1 := HR.out
        obtain ⟨k, hk⟩ : ∃ k, s.size - pos = k + 1 := ⟨s.size - pos - 1, by omega⟩
        rw [hk, rns, if_pos hp, wid] at h1
        rw [← h1]
        congr 1
        exact rns_fuel s (by omega) (by omega))
      clear hI hX hB HR hc
      have hsd : s.size - (pos + (Utf8.decode s pos).2) < s.size - pos := by omega
      replace hsd := hid hsd
      obtain ⟨p', hp'⟩ : ∃ p', pos + (Utf8.decode s pos).2 = p' := ⟨_, rfl⟩
      obtain ⟨rv, hrv⟩ : ∃ rv, (Utf8.decode s pos).1 = rv := ⟨_, rfl⟩
      rw [hp'] at hnx hI2 hX2 hB2 HR2 hsd
      rw [hrv] at hnx HR2 hdl
      clear hp' hrv hw
      have c0 : (wr.bump (w.heap.size + 1) s p').cell? ⟨w.heap.size, 0, none⟩ = some (.int .i64 ew) := hX2.cell 0
      have c1 : (wr.bump (w.heap.size + 1) s p').cell? ⟨w.heap.size, 1, none⟩ = some (.int .i64 eh) := hX2.cell 1
      have c2 : (wr.bump (w.heap.size + 1) s p').cell? ⟨w.heap.size, 2, none⟩ = some (.slice A l.length c) := hX2.cell 2
      go_wp2_with fail
      refine (ref14_Advance ew eh l A c rv size _ hl (by omega) (by omega) ((hA.below hB2).more (by have := hB2.size; omega))).mono ?_
      rintro e w2 ⟨rfl, hb⟩
      have hI3 := hI2.below hb
      have hX3 := hX2.below hb hX2.lt
      have hB3 := hB2.trans (hb.mono (by have := hX2.lt; omega))
      clear hI2 hX2 hB2 hb c0 c1 c2 hnx
      go_wp2_with (go_at_call 57; refine (ref_Add _ _ _).mono ?_; rintro e w' ⟨rfl, rfl⟩)
      go_roundg (s.size - p')
      case rel => exact ⟨p', _, rfl, rfl, hI3, hX3, hB3, HR2⟩
      case measure => exact hsd.out
    · have hnx : ∀ ty, (Instr.next (.pointer (some ⟨w.heap.size + 1, 0, none⟩)) true ty).run Try.prog wr = _ := fun ty => run_next_none hI hp ty
      have HZ : Hid (n = R) := hid (by
        have h1 := HR.out
        rw [show s.size - pos = 0 by omega, rns, wid] at h1
        exact h1)
      go_wp2_with fail
      go_ret
      exact ⟨by rw [← HZ.out]; rfl, hB⟩
end Go.Proofs.Yteghacdpfhohoaa
