/-
  The walks of casementlaw15's words and known.
-/
import Derived.Test.YtebolanengnpfaaSomeB
namespace Go.Proofs.Ytebolanengnpfaa
open Go.RowKit Num Mem Opn
set_option linter.unusedVariables false
namespace Mem
theorem Recs.ofBlk {α : Type} {w : World} {g : Nat} {t : TypeId} {cs : Array Value} {sz : Nat} {fl : α → List Value} {l : List α} (hfl : ∀ x, (fl x).length = sz) (h : Blk w g t cs) (hcs : cs.toList = l.flatMap fl) {B : Nat} (hB : g < B) : Recs w B (some ⟨g, 0, none⟩) sz fl l := fun _ => by
  refine ⟨g, 0, rfl, hB, fun i x hx j v hv => ?_⟩
  have := flat_get hfl hx hv
  rw [← hcs] at this
  rw [Nat.zero_add, h.cell]
  simpa using this
theorem own_less {w : World} {B B' : Nat} {e : TypeId} {sz n : Nat} {v : Value} {xs : List Value} (h : w.ownsRow B e sz v n xs) (hb : B' ≤ B) : w.ownsRow B' e sz v n xs := by
  refine ⟨h.1, ?_⟩
  rcases h.2 with h2 | ⟨g, cap, cur, hv, hg, h3⟩
  · exact .inl h2
  · exact .inr ⟨g, cap, cur, hv, by omega, h3⟩
end Mem
theorem bt_length (b : Bt) : b.cells.length = 4 := rfl
theorem ln_length (x : Ln) : x.cells.length = 4 := rfl
/-- bits that came in. -/
def RowB (w : World) (A : Option Addr) (l : List Bt) (c : Nat) : Prop := Recs w w.heap.size A 4 Bt.cells l ∧ l.length ≤ c ∧ c ≤ 17592186043904 ∧ ∀ x ∈ l, I64 x.kind ∧ I64 x.width ∧ I64 x.height
abbrev Lns (w : World) (B : Nat) (A : Option Addr) (l : List Ln) : Prop := Recs w B A 4 Ln.cells l
theorem own_pcs {w : World} {base : Nat} {T : TypeId} {v : Value} {n : Nat} {ps : List Pc} (h : w.ownsRow base T 57 v n (ps.flatMap Pc.cells)) : ∃ A c, v = .slice A n c ∧ n ≤ c ∧ Pcs w w.heap.size A ps := by
  obtain ⟨A, c, rfl, hc⟩ := own_some h
  exact ⟨A, c, rfl, hc, Recs.of_own Pc.cells_length (by decide) h⟩
theorem own_lns {w : World} {base : Nat} {T : TypeId} {v : Value} {n : Nat} {L : List Ln} (h : w.ownsRow base T 4 v n (L.flatMap Ln.cells)) : ∃ A c, v = .slice A n c ∧ n ≤ c ∧ Lns w w.heap.size A L := by
  obtain ⟨A, c, rfl, hc⟩ := own_some h
  exact ⟨A, c, rfl, hc, Recs.of_own ln_length (by decide) h⟩
theorem lines_at {w : World} {B b off : Nat} {l : List Ln} (h : Lns w B (some ⟨b, off, none⟩) l) {k : Nat} {x : Ln} (hx : l[k]? = some x) :
    w.cell? ⟨b, off + k * 4, none⟩ = some (.int .i64 x.from_) ∧ w.cell? ⟨b, off + k * 4 + 1, none⟩ = some (.int .i64 x.to) ∧ w.cell? ⟨b, off + k * 4 + 2, none⟩ = some (.int .i64 x.width) ∧ w.cell? ⟨b, off + k * 4 + 3, none⟩ = some (.int .i64 x.height) := by
  obtain ⟨b', off', e, _, hc⟩ := h (by rintro rfl; simp at hx)
  injection e with e
  injection e with e1 e2 e3
  subst e1 e2
  exact ⟨hc k x hx 0 _ rfl, hc k x hx 1 _ rfl, hc k x hx 2 _ rfl, hc k x hx 3 _ rfl⟩
theorem break_n (l : List Pc) (n : Nat) (A : Option Addr) (c : Nat) (room strut : Int) (w : World) (hn : l.length = n) (hl : n ≤ 1000) (hc : n ≤ c) (hA : Pcs w w.heap.size A l) :
    Calls Try.prog 13 #[.slice A n c, .int .i64 room, .int .i64 strut] w fun e w' =>
      ∃ v, e = .returned v ∧ w'.ownsRow w.heap.size 43 4 v (lns room strut l).length ((lns room strut l).flatMap Ln.cells) ∧ Below w.heap.size w w' := by
  subst hn
  exact lines_Break l A c room strut w hl hc hA
theorem some_n (l : List Bt) (n : Nat) (A : Option Addr) (c : Nat) (w : World) (hln : l.length = n) (hA : Recs w w.heap.size A 4 Bt.cells l) (hn : n ≤ 17592186043904) (hx : ∀ x ∈ l, I64 x.kind ∧ I64 x.width ∧ I64 x.height) :
    Calls Try.prog 11 #[.slice A n c] w fun e w' => ∃ v v', e = .returned (.tuple #[v, v']) ∧ Below w.heap.size w w' ∧
      w'.ownsRow w.heap.size 36 57 v (pcs 0 (l.take 80)).length ((pcs 0 (l.take 80)).flatMap Pc.cells) ∧ w'.ownsRow w.heap.size 80 57 v' (pcs 0 (l.take 80)).length ((pcs 0 (l.take 80)).flatMap Pc.cells) := by
  subst hln
  rw [pcs_length]
  exact law_some l A c w hA hn hx
namespace Num
def wordsB : List Bt := [⟨1, 512, 1280, false⟩, ⟨2, 512, 1280, false⟩, ⟨1, 1024, 1280, false⟩]
def wordsP : List Pc := [⟨1, 0, 512, 1280, false⟩, ⟨2, 1, 512, 1280, false⟩, ⟨1, 2, 1024, 1280, false⟩]
theorem kindOf1 : kindOf 1 = 1 := by unfold kindOf RowKit.wrap64; omega
theorem kindOf2 : kindOf 2 = 2 := by unfold kindOf RowKit.wrap64; omega
theorem kindOf3 : kindOf 3 = 3 := by unfold kindOf RowKit.wrap64; omega
theorem words_eq : pcs 0 (wordsB.take 80) = wordsP := by simp [pcs, pcOf, wordsB, wordsP, kindOf1, kindOf2, lit24]
theorem words_one : lns 2048 0 wordsP = [⟨0, 3, 2048, 1280⟩] := by decide
theorem words_two : lns 2047 0 wordsP = [⟨0, 2, 512, 1280⟩, ⟨2, 3, 1024, 1280⟩] := by decide
end Num
set_option maxRecDepth 100000 in
theorem law_words (w : World) : Calls Try.prog 37 #[] w fun e w' => ∃ v, e = .returned v ∧ Below w.heap.size w w' ∧ w'.ownsRow w.heap.size 36 57 v 3 (wordsP.flatMap Pc.cells) := by
  go_enter Try.func37, Try.ntmps37
  go_wp2_with fail
  refine (some_n wordsB 3 _ _ _ rfl (Recs.ofBlk bt_length (Blk.new w _ _) rfl (by simp)) (by omega) (by simp [wordsB, I64])).mono ?_
  rintro e w1 ⟨v, v', rfl, hb, ho, ho'⟩
  rw [words_eq] at ho ho'
  have hB : Below w.heap.size w w1 := ((Below.refl _ _).alloc (Nat.le_refl _) _).trans (hb.mono (by simp))
  have hO : w1.ownsRow w.heap.size 36 57 v 3 (wordsP.flatMap Pc.cells) := own_less ho (by simp)
  go_wp2_with fail
  go_ret
  exact ⟨_, rfl, hB, hO⟩
set_option maxRecDepth 100000 in
set_option maxHeartbeats 1000000 in
theorem known15 (w : World) : Calls Try.prog 19 #[] w fun e w' => e = .returned (.bool true) ∧ Below w.heap.size w w' := by
  go_enter Try.func19, Try.ntmps19
  go_wp2_with fail
  refine (law_words _).mono ?_
  rintro e w1 ⟨v, rfl, hB, ho⟩
  obtain ⟨A, c, rfl, hc, hA⟩ := own_pcs (ps := wordsP) ho
  go_wp2_with fail
  refine (break_n wordsP 3 A c 2048 0 _ rfl (by omega) hc hA).mono ?_
  rintro e w2 ⟨v, rfl, ho2, hb⟩
  rw [words_one] at ho2
  replace hB := hB.trans (hb.mono hB.size)
  clear ho hA hb hc
  obtain ⟨A1, c1, rfl, hc1, hL1⟩ := own_lns ho2
  obtain ⟨b1, o1, x1, rfl, hb1, -, -⟩ := hL1.at_ (k := 0) (by simp)
  clear x1
  go_wp2_with fail
  refine (law_words _).mono ?_
  rintro e w3 ⟨v, rfl, hb, ho⟩
  replace hL1 := (hL1.below hb).more hb.size
  replace hB := hB.trans (hb.mono hB.size)
  obtain ⟨A2, c2, rfl, hc, hA⟩ := own_pcs (ps := wordsP) ho
  clear hb
  go_wp2_with fail
  refine (break_n wordsP 3 A2 c2 2047 0 _ rfl (by omega) hc hA).mono ?_
  rintro e w4 ⟨v, rfl, ho3, hb⟩
  rw [words_two] at ho3
  replace hL1 := (hL1.below hb).more hb.size
  replace hB := hB.trans (hb.mono hB.size)
  clear ho hA hb hc
  obtain ⟨A3, c3, rfl, hc3, hL2⟩ := own_lns ho3
  obtain ⟨b2, o2, x2, rfl, hb2, -, -⟩ := hL2.at_ (k := 0) (by simp)
  obtain ⟨p0, p1, p2, p3⟩ := lines_at hL1 (k := 0) rfl
  obtain ⟨q0, q1, q2, q3⟩ := lines_at hL2 (k := 0) rfl
  obtain ⟨r0, r1, r2, r3⟩ := lines_at hL2 (k := 1) rfl
  simp only [Nat.zero_mul, Nat.one_mul, Nat.add_zero] at p0 p1 p2 p3 q0 q1 q2 q3 r0 r1 r2 r3
  clear ho2 ho3 hL1 hL2 x2
  go_wp2_with fail
  go_ret
  exact ⟨rfl, hB⟩
end Go.Proofs.Ytebolanengnpfaa
