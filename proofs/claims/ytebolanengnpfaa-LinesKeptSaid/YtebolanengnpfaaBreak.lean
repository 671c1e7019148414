/-
  The walks of Break, the program's and the reference's.
-/
import Derived.Test.YtebolanengnpfaaFirstRef
import Derived.OwnWalk
import Derived.Test.YtebolanengnpfaaGrow
namespace Go.Proofs.Ytebolanengnpfaa
open Go.RowKit Num Mem
set_option linter.unusedVariables false
set_option linter.unusedSimpArgs false
namespace Num
def Ln.cells (x : Ln) : List Value := x.arr.toList
end Num
theorem info_line4 : (Try.prog.info? 43).map (fun i => (i.zero, i.size, i.bytes)) = some (some (.agg #[.int .i64 0, .int .i64 0, .int .i64 0, .int .i64 0]), 4, 32) := by kernel_rfl
theorem info_rline4 : (Try.prog.info? 45).map (fun i => (i.zero, i.size, i.bytes)) = some (some (.agg #[.int .i64 0, .int .i64 0, .int .i64 0, .int .i64 0]), 4, 32) := by kernel_rfl
theorem news_at {w : World} {g : Nat} {t : TypeId} {cs : Array Value} {news : List Value} (hb : Blk w g t cs) (hn : cs.toList = news) : ∀ j u, news[j]? = some u → w.cell? ((⟨g, 0, none⟩ : Addr).add j) = some u := by
  intro j u hu
  rw [Addr.add_mid, Nat.zero_add, hb.cell]
  subst hn
  simpa using hu
set_option maxRecDepth 100000 in
set_option maxHeartbeats 2000000 in
theorem lines_Break (l : List Pc) (A : Option Addr) (c : Nat) (room strut : Int) (w : World) (hl : l.length ≤ 1000) (hc : l.length ≤ c) (hA : Pcs w w.heap.size A l) :
    Calls Try.prog 13 #[.slice A l.length c, .int .i64 room, .int .i64 strut] w fun e w' =>
      ∃ v, e = .returned v ∧ w'.ownsRow w.heap.size 43 4 v (lns room strut l).length ((lns room strut l).flatMap Ln.cells) ∧ Below w.heap.size w w' := by
  obtain ⟨i0, hi, hz0, hz1, hz2⟩ := info_parts info_line4
  obtain ⟨L, hL⟩ : ∃ L, lns room strut l = L := ⟨_, rfl⟩
  have HL : Hid (brk room strut l l.length 0 = L) := hid hL
  rw [hL]
  clear hL
  go_enter Try.func13, Try.ntmps13
  go_wp2_with fail
  go_loopg [7, 8] l.length (fun g v s wr => ∃ (i : Nat) (D : List Ln), g = l.length - i ∧ i ≤ l.length ∧ s = .int .i64 i ∧ D.length ≤ i ∧ Hid (D ++ brk room strut l (l.length - i) i = L) ∧ wr.ownsRow w.heap.size 43 4 v D.length (D.flatMap Ln.cells) ∧ Below w.heap.size w wr)
  case atStart => exact ⟨0, [], rfl, Nat.zero_le _, rfl, Nat.le_refl _, HL, own_nil _ _ _ _, Below.refl _ _⟩
  case round =>
    obtain ⟨i, D, rfl, hi1, rfl, hD, HD, hown, hB⟩ := hrel
    have hsz := hB.size
    by_cases hlt : i < l.length
    · have hs1 := stop_gt room l hlt
      have hs2 := stop_le room l hi1
      have HD2 : Hid ((D ++ [first room strut l i]) ++ brk room strut l (l.length - stop room l i) (stop room l i) = L) := hid (by
        have := HD.out
        rw [brk_fuel room strut l (f := l.length - i) (f' := l.length - i - 1 + 1) (by omega) (by omega), brk_cons _ _ _ _ hlt, brk_fuel room strut l (f' := l.length - stop room l i) (by omega) (by omega)] at this
        simpa using this)
      go_wp2_with fail
      refine (lines_First l A c i room strut _ hlt hl hc ((hA.below hB).more hsz)).mono ?_
      rintro e w1 ⟨rfl, hb1⟩
      replace hown := own_below hown hb1
      replace hB := hB.trans (hb1.mono hsz)
      have hsz1 := hb1.size
      have HT : Hid ((first room strut l i).to = (stop room l i : Nat)) := rfl
      clear hb1 HD
      obtain ⟨x, hx⟩ : ∃ x, first room strut l i = x := ⟨_, rfl⟩
      rw [hx] at HD2 HT ⊢
      clear hx
      obtain ⟨f, t, wd, ht⟩ := x
      obtain ⟨q, hq⟩ : ∃ q, stop room l i = q := ⟨_, rfl⟩
      rw [hq] at HD2 HT hs1 hs2
      clear hq
      obtain rfl : t = (q : Int) := HT.out
      clear HT
      simp only [Ln.arr]
      have hown' := (hown.alloc (.cells #[.int .i64 f, .int .i64 q, .int .i64 wd, .int .i64 ht] 43)).alloc (.cells #[.int .i64 f, .int .i64 q, .int .i64 wd, .int .i64 ht] 43)
      have hBx : Blk ((w1.alloc (.cells #[.int .i64 f, .int .i64 q, .int .i64 wd, .int .i64 ht] 43)).alloc (.cells #[.int .i64 f, .int .i64 q, .int .i64 wd, .int .i64 ht] 43)) (w1.heap.size + 1) 43 #[.int .i64 f, .int .i64 q, .int .i64 wd, .int .i64 ht] := Blk.newAt _ _ _ (by simp)
      have hBy : Blk ((w1.alloc (.cells #[.int .i64 f, .int .i64 q, .int .i64 wd, .int .i64 ht] 43)).alloc (.cells #[.int .i64 f, .int .i64 q, .int .i64 wd, .int .i64 ht] 43)) w1.heap.size 43 #[.int .i64 f, .int .i64 q, .int .i64 wd, .int .i64 ht] := (Blk.new _ _ _).alloc _
      have hlen := hown.1
      go_wp2_with (first | (at_builtin; refine wpList_append_own _ rfl (.tmp 19) (.tmp 21) 37 rfl w.heap.size 43 i0 (.agg #[.int .i64 0, .int .i64 0, .int .i64 0, .int .i64 0]) 4 32 Try.underlying37 hi hz0 hz1 hz2 rfl (by decide) _ _ _ rfl hown' ⟨w1.heap.size + 1, 0, none⟩ 1 1 [.int .i64 f, .int .i64 q, .int .i64 wd, .int .i64 ht] rfl rfl (news_at hBx rfl) (by simp [Value.oneCell']) (by unfold maxLen; omega) (by omega) (by simp; omega) ?_))
      intro v' w2 ho2 hg2 _
      have hB2 : Below w.heap.size w w2 := below_grown ((hB.alloc (by omega) _).alloc (by simp; omega) _) hown' hg2 (Nat.le_refl _) (by simp; omega)
      have hY := blk_grown hown hBy hg2 (Nat.le_refl _)
      have c1 : w2.cell? ⟨w1.heap.size, 1, none⟩ = some (.int .i64 q) := hY.cell 1
      have ho3 : w2.ownsRow w.heap.size 43 4 v' (D ++ [(⟨f, q, wd, ht⟩ : Ln)]).length ((D ++ [(⟨f, q, wd, ht⟩ : Ln)]).flatMap Ln.cells) := by
        simpa [Ln.cells, Ln.arr] using ho2
      clear hown hown' hBx hBy hg2 hY hB hlen ho2
      (try simp only [Act.put, List.setIfInBounds_toArray, List.set_cons_zero, List.set_cons_succ])
      go_wp2_with fail
      go_roundg (l.length - q)
      case rel => exact ⟨q, _, rfl, hs2, by go_num, by simp; omega, HD2, ho3, hB2⟩
      case measure => omega
    · obtain rfl : i = l.length := by omega
      have HZ : Hid (D = L) := hid (by have := HD.out; rw [brk_nil _ _ _ _ (Nat.le_refl _)] at this; simpa using this)
      go_wp2_with fail
      go_ret
      rw [← HZ.out]
      exact ⟨_, rfl, hown, hB⟩
set_option maxRecDepth 100000 in
set_option maxHeartbeats 2000000 in
theorem ref_Break (l : List Pc) (A : Option Addr) (c : Nat) (room strut : Int) (w : World) (hl : l.length ≤ 1000) (hc : l.length ≤ c) (hA : Pcs w w.heap.size A l) :
    Calls Try.prog 14 #[.slice A l.length c, .int .i64 room, .int .i64 strut] w fun e w' =>
      ∃ v, e = .returned v ∧ w'.ownsRow w.heap.size 45 4 v (lns room strut l).length ((lns room strut l).flatMap Ln.cells) ∧ Below w.heap.size w w' := by
  obtain ⟨i0, hi, hz0, hz1, hz2⟩ := info_parts info_rline4
  obtain ⟨L, hL⟩ : ∃ L, lns room strut l = L := ⟨_, rfl⟩
  have HL : Hid (brk room strut l l.length 0 = L) := hid hL
  rw [hL]
  clear hL
  go_enter Try.func14, Try.ntmps14
  go_wp2_with fail
  go_loopg [7, 8] l.length (fun g v s wr => ∃ (i : Nat) (D : List Ln), g = l.length - i ∧ i ≤ l.length ∧ s = .int .i64 i ∧ D.length ≤ i ∧ Hid (D ++ brk room strut l (l.length - i) i = L) ∧ wr.ownsRow w.heap.size 45 4 v D.length (D.flatMap Ln.cells) ∧ Below w.heap.size w wr)
  case atStart => exact ⟨0, [], rfl, Nat.zero_le _, rfl, Nat.le_refl _, HL, own_nil _ _ _ _, Below.refl _ _⟩
  case round =>
    obtain ⟨i, D, rfl, hi1, rfl, hD, HD, hown, hB⟩ := hrel
    have hsz := hB.size
    by_cases hlt : i < l.length
    · have hs1 := stop_gt room l hlt
      have hs2 := stop_le room l hi1
      have HD2 : Hid ((D ++ [first room strut l i]) ++ brk room strut l (l.length - stop room l i) (stop room l i) = L) := hid (by
        have := HD.out
        rw [brk_fuel room strut l (f := l.length - i) (f' := l.length - i - 1 + 1) (by omega) (by omega), brk_cons _ _ _ _ hlt, brk_fuel room strut l (f' := l.length - stop room l i) (by omega) (by omega)] at this
        simpa using this)
      go_wp2_with fail
      refine (ref_First l A c i room strut _ hlt hl hc ((hA.below hB).more hsz)).mono ?_
      rintro e w1 ⟨rfl, hb1⟩
      replace hown := own_below hown hb1
      replace hB := hB.trans (hb1.mono hsz)
      have hsz1 := hb1.size
      have HT : Hid ((first room strut l i).to = (stop room l i : Nat)) := rfl
      clear hb1 HD
      obtain ⟨x, hx⟩ : ∃ x, first room strut l i = x := ⟨_, rfl⟩
      rw [hx] at HD2 HT ⊢
      clear hx
      obtain ⟨f, t, wd, ht⟩ := x
      obtain ⟨q, hq⟩ : ∃ q, stop room l i = q := ⟨_, rfl⟩
      rw [hq] at HD2 HT hs1 hs2
      clear hq
      obtain rfl : t = (q : Int) := HT.out
      clear HT
      simp only [Ln.arr]
      have hown' := (hown.alloc (.cells #[.int .i64 f, .int .i64 q, .int .i64 wd, .int .i64 ht] 45)).alloc (.cells #[.int .i64 f, .int .i64 q, .int .i64 wd, .int .i64 ht] 45)
      have hBx : Blk ((w1.alloc (.cells #[.int .i64 f, .int .i64 q, .int .i64 wd, .int .i64 ht] 45)).alloc (.cells #[.int .i64 f, .int .i64 q, .int .i64 wd, .int .i64 ht] 45)) (w1.heap.size + 1) 45 #[.int .i64 f, .int .i64 q, .int .i64 wd, .int .i64 ht] := Blk.newAt _ _ _ (by simp)
      have hBy : Blk ((w1.alloc (.cells #[.int .i64 f, .int .i64 q, .int .i64 wd, .int .i64 ht] 45)).alloc (.cells #[.int .i64 f, .int .i64 q, .int .i64 wd, .int .i64 ht] 45)) w1.heap.size 45 #[.int .i64 f, .int .i64 q, .int .i64 wd, .int .i64 ht] := (Blk.new _ _ _).alloc _
      have hlen := hown.1
      go_wp2_with (first | (at_builtin; refine wpList_append_own _ rfl (.tmp 19) (.tmp 21) 39 rfl w.heap.size 45 i0 (.agg #[.int .i64 0, .int .i64 0, .int .i64 0, .int .i64 0]) 4 32 Try.underlying39 hi hz0 hz1 hz2 rfl (by decide) _ _ _ rfl hown' ⟨w1.heap.size + 1, 0, none⟩ 1 1 [.int .i64 f, .int .i64 q, .int .i64 wd, .int .i64 ht] rfl rfl (news_at hBx rfl) (by simp [Value.oneCell']) (by unfold maxLen; omega) (by omega) (by simp; omega) ?_))
      intro v' w2 ho2 hg2 _
      have hB2 : Below w.heap.size w w2 := below_grown ((hB.alloc (by omega) _).alloc (by simp; omega) _) hown' hg2 (Nat.le_refl _) (by simp; omega)
      have hY := blk_grown hown hBy hg2 (Nat.le_refl _)
      have c1 : w2.cell? ⟨w1.heap.size, 1, none⟩ = some (.int .i64 q) := hY.cell 1
      have ho3 : w2.ownsRow w.heap.size 45 4 v' (D ++ [(⟨f, q, wd, ht⟩ : Ln)]).length ((D ++ [(⟨f, q, wd, ht⟩ : Ln)]).flatMap Ln.cells) := by
        simpa [Ln.cells, Ln.arr] using ho2
      clear hown hown' hBx hBy hg2 hY hB hlen ho2
      (try simp only [Act.put, List.setIfInBounds_toArray, List.set_cons_zero, List.set_cons_succ])
      go_wp2_with fail
      go_roundg (l.length - q)
      case rel => exact ⟨q, _, rfl, hs2, by go_num, by simp; omega, HD2, ho3, hB2⟩
      case measure => omega
    · obtain rfl : i = l.length := by omega
      have HZ : Hid (D = L) := hid (by have := HD.out; rw [brk_nil _ _ _ _ (Nat.le_refl _)] at this; simpa using this)
      go_wp2_with fail
      go_ret
      rw [← HZ.out]
      exact ⟨_, rfl, hown, hB⟩
end Go.Proofs.Ytebolanengnpfaa
