/-
  The walks of casementlaw18's helpers: small, some.
-/
import Derived.Test.YteghacdpfhohoaaRect0
import Derived.Test.YteghacdpfhohoaaRecs
import Derived.Test.YteghacdpfhohoaaOpen
import Derived.Test.YteghacdpfhohoaaOrdQ
import Derived.Test.YteghacdpfhohoaaMid
import Derived.Test.YteghacdpfhohoaaGrow
import Derived.Deep.DeepMust
namespace Go.Proofs.Yteghacdpfhohoaa
open Go.RowKit Num Mem Opn
set_option linter.unusedVariables false
set_option linter.unusedSimpArgs false
namespace Num
/-- a number brought into 2^24, its sign kept. -/
def few (n : Int) : Int := if n < 0 then -((-(n + 1)) % 16777216) else n % 16777216
theorem few_lo (n : Int) : -16777215 ≤ few n := by unfold few; split <;> omega
theorem few_hi (n : Int) : few n ≤ 16777215 := by unfold few; split <;> omega
/-- something that gives way. -/
structure It where
  base : Int
  outer : Int
  grow : Int
  shrink : Int
def It.cells (x : It) : List Value := [.int .i64 x.base, .int .i64 x.outer, .int .i64 x.grow, .int .i64 x.shrink]
/-- what the statements make of what came in. -/
def it (x : It) : It := ⟨few x.base, few x.outer, x.grow, x.shrink⟩
end Num
theorem it_length (x : It) : x.cells.length = 4 := rfl
theorem small_pos (n : Int) (w : World) (h : 0 ≤ n) (h2 : n ≤ 9223372036854775807) : Calls Try.prog 15 #[.int .i64 n] w fun e w' => e = .returned (.int .i64 (n % 16777216)) ∧ w = w' := by
  go_enter Try.func15, Try.ntmps15
  go_wp2_with fail
  go_ret
  exact ⟨rfl, rfl⟩
theorem small_any (n : Int) (w : World) (h : I64 n) : Calls Try.prog 15 #[.int .i64 n] w fun e w' => e = .returned (.int .i64 (few n)) ∧ w = w' := by
  obtain ⟨h1, h2⟩ := h
  rcases Int.lt_or_le n 0 with h3 | h3
  · have HF : Hid (few n = -((-(n + 1)) % 16777216)) := by show _ = _; unfold few; rw [if_pos h3]
    have h4 : 0 ≤ -(n + 1) := by omega
    have h5 : -(n + 1) ≤ 9223372036854775807 := by omega
    have h6 := Int.emod_nonneg (-(n + 1)) (by omega : (16777216 : Int) ≠ 0)
    have h7 := Int.emod_lt_of_pos (-(n + 1)) (by omega : (0 : Int) < 16777216)
    go_enter Try.func15, Try.ntmps15
    go_wp2_with fail
    refine (small_pos _ _ (by omega) (by omega)).mono ?_
    rintro e w' ⟨rfl, rfl⟩
    go_wp2_with fail
    go_ret
    exact ⟨ret_int (by rw [HF.out]), rfl⟩
  · have HF : Hid (few n = n % 16777216) := by show _ = _; unfold few; rw [if_neg (by omega)]
    refine (small_pos n w h3 h2).mono ?_
    rintro e w' ⟨rfl, rfl⟩
    exact ⟨ret_int (by rw [HF.out]), rfl⟩
def it4 (a b c d : Int) : Array Value := #[.int .i64 a, .int .i64 b, .int .i64 c, .int .i64 d]
theorem info_item : (Try.prog.info? 30).map (fun i => (i.zero, i.size, i.bytes)) = some (some (.agg #[.int .i64 0, .int .i64 0, .int .i64 0, .int .i64 0]), 4, 32) := by kernel_rfl
theorem info_ref : (Try.prog.info? 94).map (fun i => (i.zero, i.size, i.bytes)) = some (some (.agg #[.int .i64 0, .int .i64 0, .int .i64 0, .int .i64 0]), 4, 32) := by kernel_rfl
theorem info_it4 (a b c d : Int) : (Try.prog.info? 30).map (·.size) = some (it4 a b c d).size := by kernel_rfl
theorem it_one (a b c d : Int) : (it4 a b c d).all (·.oneCell') = true := by simp [it4, Value.oneCell']
/-- the elements of a new row, for append. -/
theorem news_at {w : World} {g : Nat} {t : TypeId} {cs : Array Value} {news : List Value} (hb : Blk w g t cs) (hn : cs.toList = news) : ∀ j u, news[j]? = some u → w.cell? ((⟨g, 0, none⟩ : Addr).add j) = some u := by
  intro j u hu
  rw [Addr.add_mid, hb.cell, Nat.zero_add, ← Array.getElem?_toList, hn, hu]
theorem items_at {w : World} {B b off : Nat} {l : List It} (h : Recs w B (some ⟨b, off, none⟩) 4 It.cells l) {k : Nat} {x : It} (hx : l[k]? = some x) :
    w.cell? ⟨b, off + k * 4, none⟩ = some (.int .i64 x.base) ∧ w.cell? ⟨b, off + k * 4 + 1, none⟩ = some (.int .i64 x.outer) ∧ w.cell? ⟨b, off + k * 4 + 2, none⟩ = some (.int .i64 x.grow) ∧ w.cell? ⟨b, off + k * 4 + 3, none⟩ = some (.int .i64 x.shrink) := by
  obtain ⟨b', off', e, _, hc⟩ := h (by rintro rfl; simp at hx)
  injection e with e
  injection e with e1 e2 e3
  subst e1 e2
  exact ⟨hc k x hx 0 _ rfl, hc k x hx 1 _ rfl, hc k x hx 2 _ rfl, hc k x hx 3 _ rfl⟩
theorem wp_store_row {P : Program} {op : Oper} {a : Act} {w : World} {K : Act → World → Prop} {Q : Exit → Act → World → Prop} (ty : TypeId) (x y : Operand) (ho : op.op = .store ty x y)
    (b : Nat) (cells : Array Value) (hx : a.eval x = .pointer (some ⟨b, 0, none⟩)) (hy : a.eval y = .agg cells)
    (t : TypeId) (old : Array Value) (hb : Blk w b t old) (hs : old.size = cells.size) (hi : (P.info? ty).map (·.size) = some cells.size) (h1 : cells.all (·.oneCell') = true)
    (h : ∀ w', Blk w' b t cells → Chg b w w' → K (a.put op.dst undef) w') : op.wp P a w K Q := by
  have hk := setCells_blk b t cells.toList old.toList [] w (by simpa using hb) (by simpa using hs)
  refine wp_store_mid ty x y ho b 0 cells hx hy ?_ hi h1 (h _ (by simpa using hk.1) (by simpa using hk.2))
  intro j hj
  rw [Nat.zero_add, hb.cell]
  exact ⟨by rw [Array.getElem?_eq_getElem (by omega)]; rfl, hb.free j⟩
theorem take_snoc' {α : Type} {l : List α} {k : Nat} {x : α} (h : l[k]? = some x) : l.take (k + 1) = l.take k ++ [x] := by
  have hlt := (List.getElem?_eq_some_iff.1 h).1
  have h2 : l[k] = x := (List.getElem?_eq_some_iff.1 h).2
  rw [List.take_succ_eq_append_getElem hlt, h2]
set_option maxRecDepth 100000 in
set_option maxHeartbeats 2000000 in
/-- items of what came in, twice. -/
theorem some_items (l : List It) (A : Option Addr) (c : Nat) (w : World) (hl : l.length ≤ 4611686018427387904) (hA : Recs w w.heap.size A 4 It.cells l) (hw : ∀ x ∈ l, I64 x.base ∧ I64 x.outer) :
    Calls Try.prog 14 #[.slice A l.length c] w fun e w' => ∃ v v', e = .returned (.tuple #[v, v']) ∧ Below w.heap.size w w' ∧
      w'.ownsRow w.heap.size 30 4 v ((l.take 40).map it).length (((l.take 40).map it).flatMap It.cells) := by
  obtain ⟨i1, hi1, hz1, hs1, hb1⟩ := info_parts info_item
  obtain ⟨i2, hi2, hz2, hs2, hb2⟩ := info_parts info_ref
  go_enter Try.func14, Try.ntmps14
  go_wp2_with fail
  go_loopw [4, 5, 6] (fun v v' i wr => ∃ (k : Nat) (D : List It), k ≤ l.length ∧ k ≤ 40 ∧ i = .int .i64 k ∧ D.length = k ∧ Hid (D = (l.take k).map it) ∧ wr.ownsRow w.heap.size 30 4 v k (D.flatMap It.cells) ∧ wr.ownsRow w.heap.size 94 4 v' k (D.flatMap It.cells) ∧ Below w.heap.size w wr) (fun _ _ i _ => 40 - (intOf i).toNat)
  case atStart => exact ⟨0, [], by omega, by omega, rfl, rfl, rfl, own_nil _ _ _ _, own_nil _ _ _ _, Below.refl _ _⟩
  case round =>
    obtain ⟨k, D, hk, hk2, rfl, hD, HD, ho, ho', hB⟩ := hrel
    replace hD := hid hD
    have hz := hB.size
    by_cases hlt : k < l.length
    · by_cases hlt2 : k < 40
      · obtain ⟨b, off, x, rfl, hb, HX, -⟩ := (hA.below hB).at_ hlt
        obtain ⟨w1, w2⟩ := hw x (List.mem_of_getElem? HX.out)
        have HD2 : Hid (D ++ [it x] = (l.take (k + 1)).map it) := hid (by rw [take_snoc' HX.out, List.map_append, ← HD.out]; rfl)
        have hSQ : ∀ Z, Below w.heap.size w Z → (fun Z => Z.cell? ⟨b, off + k * 4, none⟩ = some (.int .i64 x.base) ∧ Z.cell? ⟨b, off + k * 4 + 1, none⟩ = some (.int .i64 x.outer) ∧ Z.cell? ⟨b, off + k * 4 + 2, none⟩ = some (.int .i64 x.grow) ∧ Z.cell? ⟨b, off + k * 4 + 3, none⟩ = some (.int .i64 x.shrink)) Z := fun Z h => items_at (hA.below h) HX.out
        have hdb : Below w.heap.size w wr.drew := hB.drew
        have hba : Below wr.heap.size wr.drew (wr.drew.alloc (.cells (it4 0 0 0 0) 30)) := (Below.refl wr.heap.size wr.drew).alloc (Nat.le_refl _) _
        have hZ : Blk (wr.drew.alloc (.cells (it4 0 0 0 0) 30)) wr.heap.size 30 (it4 0 0 0 0) := Blk.new _ _ _
        go_upto_region 6 with fail
        refine wp_region_noPanic ?_
        refine Ord.region_Q (S := fun Z => Z.cell? ⟨b, off + k * 4, none⟩ = some (.int .i64 x.base) ∧ Z.cell? ⟨b, off + k * 4 + 1, none⟩ = some (.int .i64 x.outer) ∧ Z.cell? ⟨b, off + k * 4 + 2, none⟩ = some (.int .i64 x.grow) ∧ Z.cell? ⟨b, off + k * 4 + 3, none⟩ = some (.int .i64 x.shrink)) 999 (.one 0 true (.one 1 true (.one 2 true (.one 3 true (.one 4 true (.one 5 true (.one 6 true (.one 7 true (.one 8 true (.one 9 true (.one 10 true (.one 11 true (.one 12 true (.one 13 true (.one 14 true (.one 15 true (.one 16 true (.one 17 true (.one 18 true (.one 19 true (.one 20 true (.one 21 true (.one 22 true (.one 23 false (.one 24 false .nil))))))))))))))))))))))))) (by kernel_rfl) (by kernel_rfl) (by kernel_rfl) (by decide) (fun _ _ _ _ _ h => h) (hSQ _ hdb) (fun hS0 => ?_)
        simp only [Ord.layT, List.getElem?_cons_zero, List.getElem?_cons_succ]
        (refine Ord.takeQ (v := ?_) (Or.inl ⟨rfl, ?_⟩) ?_; rotate_left; (intro w hSw; (try dsimp only at hSw); go_simp; try (with_reducible rfl)); (try simp only [Act.put, List.setIfInBounds_toArray, List.set_cons_zero, List.set_cons_succ]))
        (refine Ord.takeQ (v := ?_) (Or.inl ⟨rfl, ?_⟩) ?_; rotate_left; (intro w hSw; (try dsimp only at hSw); go_simp; try (with_reducible rfl)); (try simp only [Act.put, List.setIfInBounds_toArray, List.set_cons_zero, List.set_cons_succ]))
        (refine Ord.takeQ (v := ?_) (Or.inl ⟨rfl, ?_⟩) ?_; rotate_left; (intro w hSw; (try dsimp only at hSw); go_simp; try (with_reducible rfl)); (try simp only [Act.put, List.setIfInBounds_toArray, List.set_cons_zero, List.set_cons_succ]))
        (refine Ord.takeQ (v := ?_) (Or.inl ⟨rfl, ?_⟩) ?_; rotate_left; (intro w hSw; (try dsimp only at hSw); go_simp; try (with_reducible rfl)); (try simp only [Act.put, List.setIfInBounds_toArray, List.set_cons_zero, List.set_cons_succ]))
        (refine Ord.takeQ (v := ?_) (Or.inl ⟨rfl, ?_⟩) ?_; rotate_left; (intro w hSw; (try dsimp only at hSw); go_simp; try (with_reducible rfl)); (try simp only [Act.put, List.setIfInBounds_toArray, List.set_cons_zero, List.set_cons_succ]))
        (refine Ord.takeC 15 #[.int .i64 x.base] rfl (fun _ _ => by kernel_rfl) (fun w hSw => small_any _ _ w1) ?_; (try simp only [Act.put, List.setIfInBounds_toArray, List.set_cons_zero, List.set_cons_succ]))
        (refine Ord.takeQ (v := ?_) (Or.inl ⟨rfl, ?_⟩) ?_; rotate_left; (intro w hSw; (try dsimp only at hSw); go_simp; try (with_reducible rfl)); (try simp only [Act.put, List.setIfInBounds_toArray, List.set_cons_zero, List.set_cons_succ]))
        (refine Ord.takeQ (v := ?_) (Or.inl ⟨rfl, ?_⟩) ?_; rotate_left; (intro w hSw; (try dsimp only at hSw); go_simp; try (with_reducible rfl)); (try simp only [Act.put, List.setIfInBounds_toArray, List.set_cons_zero, List.set_cons_succ]))
        (refine Ord.takeQ (v := ?_) (Or.inl ⟨rfl, ?_⟩) ?_; rotate_left; (intro w hSw; (try dsimp only at hSw); go_simp; try (with_reducible rfl)); (try simp only [Act.put, List.setIfInBounds_toArray, List.set_cons_zero, List.set_cons_succ]))
        (refine Ord.takeQ (v := ?_) (Or.inl ⟨rfl, ?_⟩) ?_; rotate_left; (intro w hSw; (try dsimp only at hSw); go_simp; try (with_reducible rfl)); (try simp only [Act.put, List.setIfInBounds_toArray, List.set_cons_zero, List.set_cons_succ]))
        (refine Ord.takeQ (v := ?_) (Or.inl ⟨rfl, ?_⟩) ?_; rotate_left; (intro w hSw; (try dsimp only at hSw); go_simp; try (with_reducible rfl)); (try simp only [Act.put, List.setIfInBounds_toArray, List.set_cons_zero, List.set_cons_succ]))
        (refine Ord.takeC 15 #[.int .i64 x.outer] rfl (fun _ _ => by kernel_rfl) (fun w hSw => small_any _ _ w2) ?_; (try simp only [Act.put, List.setIfInBounds_toArray, List.set_cons_zero, List.set_cons_succ]))
        (refine Ord.takeQ (v := ?_) (Or.inl ⟨rfl, ?_⟩) ?_; rotate_left; (intro w hSw; (try dsimp only at hSw); go_simp; try (with_reducible rfl)); (try simp only [Act.put, List.setIfInBounds_toArray, List.set_cons_zero, List.set_cons_succ]))
        (refine Ord.takeQ (v := ?_) (Or.inl ⟨rfl, ?_⟩) ?_; rotate_left; (intro w hSw; (try dsimp only at hSw); go_simp; try (with_reducible rfl)); (try simp only [Act.put, List.setIfInBounds_toArray, List.set_cons_zero, List.set_cons_succ]))
        (refine Ord.takeQ (v := ?_) (Or.inl ⟨rfl, ?_⟩) ?_; rotate_left; (intro w hSw; (try dsimp only at hSw); go_simp; try (with_reducible rfl)); (try simp only [Act.put, List.setIfInBounds_toArray, List.set_cons_zero, List.set_cons_succ]))
        (refine Ord.takeQ (v := ?_) (Or.inl ⟨rfl, ?_⟩) ?_; rotate_left; (intro w hSw; (try dsimp only at hSw); go_simp; try (with_reducible rfl)); (try simp only [Act.put, List.setIfInBounds_toArray, List.set_cons_zero, List.set_cons_succ]))
        (refine Ord.takeQ (v := ?_) (Or.inl ⟨rfl, ?_⟩) ?_; rotate_left; (intro w hSw; (try dsimp only at hSw); go_simp; try (with_reducible rfl)); (try simp only [Act.put, List.setIfInBounds_toArray, List.set_cons_zero, List.set_cons_succ]))
        (refine Ord.takeQ (v := ?_) (Or.inl ⟨rfl, ?_⟩) ?_; rotate_left; (intro w hSw; (try dsimp only at hSw); go_simp; try (with_reducible rfl)); (try simp only [Act.put, List.setIfInBounds_toArray, List.set_cons_zero, List.set_cons_succ]))
        (refine Ord.takeQ (v := ?_) (Or.inl ⟨rfl, ?_⟩) ?_; rotate_left; (intro w hSw; (try dsimp only at hSw); go_simp; try (with_reducible rfl)); (try simp only [Act.put, List.setIfInBounds_toArray, List.set_cons_zero, List.set_cons_succ]))
        (refine Ord.takeQ (v := ?_) (Or.inl ⟨rfl, ?_⟩) ?_; rotate_left; (intro w hSw; (try dsimp only at hSw); go_simp; try (with_reducible rfl)); (try simp only [Act.put, List.setIfInBounds_toArray, List.set_cons_zero, List.set_cons_succ]))
        (refine Ord.takeQ (v := ?_) (Or.inl ⟨rfl, ?_⟩) ?_; rotate_left; (intro w hSw; (try dsimp only at hSw); go_simp; try (with_reducible rfl)); (try simp only [Act.put, List.setIfInBounds_toArray, List.set_cons_zero, List.set_cons_succ]))
        (refine Ord.takeQ (v := ?_) (Or.inl ⟨rfl, ?_⟩) ?_; rotate_left; (intro w hSw; (try dsimp only at hSw); go_simp; try (with_reducible rfl)); (try simp only [Act.put, List.setIfInBounds_toArray, List.set_cons_zero, List.set_cons_succ]))
        (refine Ord.takeQ (v := ?_) (Or.inl ⟨rfl, ?_⟩) ?_; rotate_left; (intro w hSw; (try dsimp only at hSw); go_simp; try (with_reducible rfl)); (try simp only [Act.put, List.setIfInBounds_toArray, List.set_cons_zero, List.set_cons_succ]))
        refine Ord.aloneQ rfl rfl (fun K hK => ?_)
        go_simp
        (try simp only [Act.put, List.setIfInBounds_toArray, List.set_cons_zero, List.set_cons_succ])
        refine hK.out _ _ (hSQ _ (hdb.trans (hba.mono hz))) (fun _ => ?_)
        clear hK K
        refine Ord.aloneQ rfl rfl (fun K hK => ?_)
        refine wp_store_row 30 _ _ rfl wr.heap.size (it4 (few x.base) (few x.outer) x.grow x.shrink) rfl rfl 30 (it4 0 0 0 0) hZ rfl (info_it4 _ _ _ _) (it_one _ _ _ _) ?_
        intro w9 hX9 hC9
        (try simp only [Act.put, List.setIfInBounds_toArray, List.set_cons_zero, List.set_cons_succ])
        refine hK.out _ _ (hSQ _ ((hdb.trans (hba.mono hz)).trans (hC9.below hz))) (fun _ => ?_)
        clear hK K
        refine Ord.doneQ (NoPanic.normal ?_)
        obtain ⟨A4, c4, rfl, hc4⟩ := own_some ho
        obtain ⟨A5, c5, rfl, hc5⟩ := own_some ho'
        have hB9 : Below wr.heap.size wr w9 := ((Drawn.refl wr).drew.below _).trans (hba.trans (hC9.below (Nat.le_refl _)))
        have ho9 := own_below ho hB9
        have ho9' := own_below ho' hB9
        have hz9 := hB9.size
        have hzz : wr.heap.size < w9.heap.size := hX9.lt
        have hBw := hB.trans (hB9.mono hz)
        clear hZ hba hC9 hB9 hSQ hdb hB
        have ex0 : w9.cell? ⟨wr.heap.size, 0, none⟩ = some (.int .i64 (few x.base)) := hX9.cell 0
        have ex1 : w9.cell? ⟨wr.heap.size, 1, none⟩ = some (.int .i64 (few x.outer)) := hX9.cell 1
        have ex2 : w9.cell? ⟨wr.heap.size, 2, none⟩ = some (.int .i64 x.grow) := hX9.cell 2
        have ex3 : w9.cell? ⟨wr.heap.size, 3, none⟩ = some (.int .i64 x.shrink) := hX9.cell 3
        have hown := ho9.alloc (.cells (it4 (few x.base) (few x.outer) x.grow x.shrink) 30)
        have hown' := ho9'.alloc (.cells (it4 (few x.base) (few x.outer) x.grow x.shrink) 30)
        have hX10 := hX9.alloc (.cells (it4 (few x.base) (few x.outer) x.grow x.shrink) 30)
        have hBa : Below w9.heap.size w9 (w9.alloc (.cells (it4 (few x.base) (few x.outer) x.grow x.shrink) 30)) := (Below.refl w9.heap.size w9).alloc (Nat.le_refl _) _
        go_wp2_with (refine stop_append _ _ _ _ rfl ?_)
        refine ⟨?_⟩
        refine wpList_append_own _ rfl _ _ 22 rfl w.heap.size 30 i1 (.agg #[.int .i64 0, .int .i64 0, .int .i64 0, .int .i64 0]) 4 32 Try.underlying22 hi1 hz1 hs1 hb1 rfl (by decide) (.slice A4 k c4) _ _ rfl hown ⟨w9.heap.size, 0, none⟩ 1 1 [.int .i64 (few x.base), .int .i64 (few x.outer), .int .i64 x.grow, .int .i64 x.shrink] rfl rfl (news_at (Blk.new w9 30 (it4 (few x.base) (few x.outer) x.grow x.shrink)) rfl) (by simp [Value.oneCell']) (by unfold maxLen; omega) (by omega) (by simp; omega) ?_
        intro v4 w4 ho4 hg4 _
        (try simp only [Act.put, List.setIfInBounds_toArray, List.set_cons_zero, List.set_cons_succ])
        have hX11 : Blk w4 wr.heap.size 30 (it4 (few x.base) (few x.outer) x.grow x.shrink) := blk_grown ho hX10 hg4 (Nat.le_refl _)
        have ho11 := own_grown hown' hown (by decide) hg4
        have hB4 : Below w.heap.size w w4 := (hBw.trans (hBa.mono (by omega))).trans (own_belowB hown hg4 (by simp; omega))
        obtain ⟨A6, c6, rfl, -⟩ := own_some ho4
        have hz4 := hB4.size
        clear ex0 ex1 ex2 ex3 hown hown' hX10 hX9 hBa hBw hg4 ho9 ho9' ho ho' hz9 hzz
        generalize wr.heap.size = gx at *
        have ex0 : w4.cell? ⟨gx, 0, none⟩ = some (.int .i64 (few x.base)) := hX11.cell 0
        have ex1 : w4.cell? ⟨gx, 1, none⟩ = some (.int .i64 (few x.outer)) := hX11.cell 1
        have ex2 : w4.cell? ⟨gx, 2, none⟩ = some (.int .i64 x.grow) := hX11.cell 2
        have ex3 : w4.cell? ⟨gx, 3, none⟩ = some (.int .i64 x.shrink) := hX11.cell 3
        have hown := ho11.alloc (.cells (it4 (few x.base) (few x.outer) x.grow x.shrink) 94)
        have hown4 := ho4.alloc (.cells (it4 (few x.base) (few x.outer) x.grow x.shrink) 94)
        have hBa : Below w4.heap.size w4 (w4.alloc (.cells (it4 (few x.base) (few x.outer) x.grow x.shrink) 94)) := (Below.refl w4.heap.size w4).alloc (Nat.le_refl _) _
        go_wp2_with (refine stop_append _ _ _ _ rfl ?_)
        refine ⟨?_⟩
        refine wpList_append_own _ rfl _ _ 23 rfl w.heap.size 94 i2 (.agg #[.int .i64 0, .int .i64 0, .int .i64 0, .int .i64 0]) 4 32 Try.underlying23 hi2 hz2 hs2 hb2 rfl (by decide) (.slice A5 k c5) _ _ rfl hown ⟨w4.heap.size, 0, none⟩ 1 1 [.int .i64 (few x.base), .int .i64 (few x.outer), .int .i64 x.grow, .int .i64 x.shrink] rfl rfl (news_at (Blk.new w4 94 (it4 (few x.base) (few x.outer) x.grow x.shrink)) rfl) (by simp [Value.oneCell']) (by unfold maxLen; omega) (by omega) (by simp; omega) ?_
        intro v5 w5 ho5 hg5 _
        (try simp only [Act.put, List.setIfInBounds_toArray, List.set_cons_zero, List.set_cons_succ])
        have ho6 := own_grown hown4 hown (by decide) hg5
        have hB5 : Below w.heap.size w w5 := (hB4.trans (hBa.mono hz4)).trans (own_belowB hown hg5 (by simp; omega))
        obtain ⟨A7, c7, rfl, -⟩ := own_some ho5
        clear ex0 ex1 ex2 ex3 hown hown4 hBa hg5 ho11 hX11 ho4
        have HF : Hid ((D ++ [it x]).flatMap It.cells = D.flatMap It.cells ++ [.int .i64 (few x.base), .int .i64 (few x.outer), .int .i64 x.grow, .int .i64 x.shrink]) := hid (by simp [It.cells, it])
        go_wp2_with fail
        go_roundw
        case rel => exact ⟨k + 1, D ++ [it x], by omega, by omega, by go_num, by simp [hD.out], HD2, by rw [HF.out]; exact ho6, by rw [HF.out]; exact ho5, hB5⟩
        case measure => simp [intOf]; omega
      · obtain rfl : k = 40 := by omega
        have HL : Hid (((l.take 40).map it).length = 40) := hid (by simp; omega)
        go_wp2_with fail
        go_ret2
        rw [HL.out, ← HD.out]
        exact ⟨_, _, rfl, hB, ho⟩
    · obtain rfl : k = l.length := by omega
      have HT : Hid (l.take 40 = l) := hid (List.take_of_length_le (by omega))
      have HL : Hid (((l.take 40).map it).length = l.length) := hid (by rw [HT.out]; simp)
      have HD2 : Hid (D = (l.take 40).map it) := hid (by rw [HT.out, HD.out, List.take_length])
      go_wp2_with fail
      go_ret2
      rw [HL.out, ← HD2.out]
      exact ⟨_, _, rfl, hB, ho⟩
end Go.Proofs.Yteghacdpfhohoaa
