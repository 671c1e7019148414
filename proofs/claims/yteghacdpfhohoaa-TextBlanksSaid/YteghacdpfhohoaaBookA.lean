/-
  A row of one-cell elements that may lie behind the start of its block (a queue), appended to one by one and cut at its head.
-/
import Derived.Test.YteghacdpfhohoaaFresh
import Derived.Deep.AppendSrc
namespace Go.Proofs.Yteghacdpfhohoaa
open Go.RowKit
set_option linter.unusedVariables false
namespace Mem
def OffRow (w : World) (base : Nat) (e : TypeId) (v : Value) (xs : List Value) : Prop :=
  (v = .slice none 0 0 ∧ xs = []) ∨ ∃ g off cap cur, v = .slice (some ⟨g, off, none⟩) xs.length cap ∧ base ≤ g ∧ Blk w g e cur ∧ xs.length ≤ cap ∧ cap ≤ maxLen ∧ cur.size = off + cap ∧ (cur.toList.drop off).take xs.length = xs
section
variable {w w' : World} {base : Nat} {e : TypeId} {v : Value} {xs : List Value}
theorem OffRow.nil (w : World) (base : Nat) (e : TypeId) : OffRow w base e (.slice none 0 0) [] := .inl ⟨rfl, rfl⟩
theorem OffRow.map (h : OffRow w base e v xs) (hk : ∀ g, v.ownBlock = some g → g < w.heap.size → ∀ cs, Blk w g e cs → Blk w' g e cs) : OffRow w' base e v xs := by
  rcases h with h | ⟨g, off, cap, cur, rfl, hb, hg, rest⟩
  · exact .inl h
  · exact .inr ⟨g, off, cap, cur, rfl, hb, hk g rfl hg.lt _ hg, rest⟩
theorem OffRow.below (h : OffRow w base e v xs) (hb : Below w.heap.size w w') : OffRow w' base e v xs := h.map fun g _ hg cs hc => hc.below hb hg
theorem OffRow.drew (h : OffRow w base e v xs) : OffRow w.drew base e v xs := h
theorem OffRow.alloc (h : OffRow w base e v xs) (o : Obj) : OffRow (w.alloc o) base e v xs := h.map fun g _ _ cs hc => hc.alloc o
theorem OffRow.lt (h : OffRow w base e v xs) : ∀ g, v.ownBlock = some g → base ≤ g ∧ g < w.heap.size := by
  intro g hq
  rcases h with ⟨rfl, _⟩ | ⟨g', off, cap, cur, rfl, hb, hg, _⟩
  · simp [Value.ownBlock] at hq
  · simp [Value.ownBlock] at hq
    subst hq
    exact ⟨hb, hg.lt⟩
theorem OffRow.far (h : OffRow w base e v xs) {p : Addr} (hp : v.ownBlock ≠ some p.block) (u : Value) : OffRow (w.setCell p u) base e v xs :=
  h.map fun g hq _ cs hc => hc.far (fun e => hp (by rw [hq, e])) u
/-- another block, of another element type. -/
theorem OffRow.not (h : OffRow w base e v xs) {g : Nat} {t : TypeId} {cs : Array Value} (hb : Blk w g t cs) (ht : t ≠ e) : v.ownBlock ≠ some g := by
  rcases h with ⟨rfl, _⟩ | ⟨g', off, cap, cur, rfl, _, hg, _⟩
  · simp [Value.ownBlock]
  · simp [Value.ownBlock]
    rintro rfl
    unfold Blk at hg hb
    rw [hg] at hb
    simp only [Option.some.injEq, Obj.cells.injEq] at hb
    exact ht hb.2.1.symm
theorem OffRow.seg (h : OffRow w base e v xs) : ∃ A c, v = .slice A xs.length c ∧ xs.length ≤ c ∧ c ≤ maxLen ∧ (A = none → c = 0) ∧ Seg w w.heap.size A xs := by
  rcases h with ⟨rfl, rfl⟩ | ⟨g, off, cap, cur, rfl, _, hg, h1, h2, h3, h4⟩
  · exact ⟨none, 0, rfl, Nat.le_refl _, Nat.zero_le _, fun _ => rfl, Seg.nil _ _ _⟩
  · refine ⟨_, _, rfl, h1, h2, by simp, fun _ => ⟨g, off, rfl, hg.lt, fun j hj => ?_⟩⟩
    rw [hg.cell]
    conv => rhs; rw [← h4]
    rw [List.getElem?_take, if_pos hj, List.getElem?_drop, Array.getElem?_toList]
/-- cut at its head. -/
theorem OffRow.tail {A : Option Addr} {n c : Nat} {u : Value} (h : OffRow w base e (.slice A n c) (u :: xs)) : ∃ g off, A = some ⟨g, off, none⟩ ∧ n = xs.length + 1 ∧ 1 ≤ c ∧ OffRow w base e (.slice (some ⟨g, off + 1, none⟩) xs.length (c - 1)) xs := by
  rcases h with ⟨h, h2⟩ | ⟨g, off, cap, cur, hv, hb, hg, h1, h2, h3, h4⟩
  · cases h2
  · injection hv with a1 a2 a3
    subst a1 a2 a3
    simp only [List.length_cons] at h1 h4
    refine ⟨g, off, rfl, by simp, by omega, .inr ⟨g, off + 1, c - 1, cur, rfl, hb, hg, by omega, by omega, by omega, ?_⟩⟩
    have h5 : ((cur.toList.drop off).take (xs.length + 1)).drop 1 = xs := by rw [h4]; rfl
    rw [List.drop_take, List.drop_drop] at h5
    simpa [Nat.add_comm] using h5
end
section
variable {P : Program} (w : World)
theorem run_append_off (base : Nat) (t ty e : TypeId) (i : TypeInfo) (z : Value) (bytes : Nat) (ht : P.underlying t = some (.slice e)) (hi : P.info? e = some i) (hz : i.zero = some z)
    (hsize : i.size = 1) (hby : i.bytes = bytes) (hzs : z.cells.size = 1)
    (v : Value) (xs : List Value) (hown : OffRow w base e v xs)
    (a : Addr) (c : Nat) (u : Value) (hu : w.cell? a = some u) (hs : a.spot = none) (h1 : u.oneCell' = true)
    (h63 : xs.length + 1 ≤ maxLen) (hbytes : (xs.length + 1) * bytes ≤ 140737488355328) (hbase : base ≤ w.heap.size) :
    ∃ v' w', (Builtin.append_ #[t, t] ty #[v, .slice (some a) 1 c]).run P w = .ok v' w' ∧ OffRow w' base e v' (xs ++ [u]) ∧ w.grownBy w' v.ownBlock ∧ FreshOf w v v' := by
  subst hby
  obtain ⟨ab, ao, spot⟩ := a
  simp only at hs
  subst hs
  have hnews : ∀ j q, [u][j]? = some q → w.cell? ((⟨ab, ao, none⟩ : Addr).add j) = some q := by
    intro j q hq
    cases j with
    | zero =>
      have : u = q := by simpa using hq
      subst this
      rw [Addr.add_mid]
      exact hu
    | succ j => simp at hq
  have hsrc : Src P i.size t (.slice (some ⟨ab, ao, none⟩) 1 c) 1 [u] w := Src.ofSlice w ht _ 1 c [u] (by rw [hsize]; rfl) hnews (by simpa using h1)
  have hgrow : ∀ (A : Option Addr) (cap : Nat), xs.length ≤ cap → cap < xs.length + 1 → ((Builtin.firstCells i.size xs.length (.slice A xs.length cap)).run P w.drew = .ok xs.toArray w.drew) → v = .slice A xs.length cap →
      ∃ v' w', (Builtin.append_ #[t, t] ty #[v, .slice (some ⟨ab, ao, none⟩) 1 c]).run P w = .ok v' w' ∧ OffRow w' base e v' (xs ++ [u]) ∧ w.grownBy w' v.ownBlock ∧ FreshOf w v v' := by
    intro A cap hc1 hc2 hold hv
    have hr := run_append_grow_src (P := P) w t t ty e i z ht hi hz A xs.length cap xs hold _ 1 [u] hsrc hc2 (by simp only [maxLen] at h63; omega) (growslice_fits (by omega) hbytes)
    rw [← hv] at hr
    refine ⟨_, _, hr, .inr ⟨w.heap.size, 0, grownCap w (xs.length + 1) cap e, _, by simp, hbase, Blk.new w.drew e _, by simpa using grownCap_ge w (xs.length + 1) cap e, grownCap_le_maxLen w _ _ _ h63, ?_, ?_⟩, ?_, .inr ⟨_, rfl, Nat.le_refl _⟩⟩
    · have := grownCap_ge w (xs.length + 1) cap e
      simp [Builtin.zeroCells, hzs]
      omega
    · simp [List.take_length_add_append]
    · exact ⟨rfl, rfl, rfl, by simp, fun k hk _ => heap_alloc_old w.drew _ k hk⟩
  rcases hown with ⟨rfl, rfl⟩ | ⟨g, off, cap, cur, rfl, hbg, hgg, hnc, hcm, hcs, htake⟩
  · exact hgrow none 0 (Nat.le_refl _) (by simp) (run_firstCells_none w.drew i.size 0 0 0) rfl
  · by_cases hroom : xs.length + 1 ≤ cap
    · have hpos : ∀ j, j < [u].length → off + xs.length * i.size + j < cur.size := by
        intro j hj
        simp at hj
        subst hj
        rw [hsize, hcs]
        omega
      have hr := run_append_room_src (P := P) w t t ty e i ht hi g off xs.length cap _ 1 [u] hsrc hroom (fun j hj => by rw [hgg.cell, Array.getElem?_eq_getElem (hpos j hj)]; rfl) (fun j hj => hgg.free _)
      have hw : w.setCells g (off + xs.length * i.size) [u] = w.setCell ⟨g, off + xs.length, none⟩ u := by
        rw [hsize, Nat.mul_one]
        rfl
      rw [hw] at hr
      refine ⟨_, _, hr, .inr ⟨g, off, cap, _, by simp, hbg, hgg.put _ u, by simpa using hroom, hcm, by simpa using hcs, ?_⟩, ⟨rfl, rfl, rfl, by simp, fun k hk hne => ?_⟩, .inl rfl⟩
      · have h2 : cur.toList.length = off + cap := by simpa using hcs
        simp only [Array.toList_setIfInBounds, List.length_append, List.length_cons, List.length_nil, Nat.zero_add]
        apply List.ext_getElem?
        intro j
        have hj0 : ∀ j, j < xs.length → cur.toList[off + j]? = xs[j]? := by
          intro j hj
          conv => rhs; rw [← htake]
          rw [List.getElem?_take, if_pos hj, List.getElem?_drop]
        rw [List.getElem?_take]
        by_cases hj : j < xs.length + 1
        · rw [if_pos hj, List.getElem?_drop, List.getElem?_set]
          by_cases hj2 : j < xs.length
          · rw [if_neg (by omega), hj0 j hj2, List.getElem?_append_left hj2]
          · obtain rfl : j = xs.length := by omega
            rw [if_pos rfl, if_pos (by omega)]
            simp
        · rw [if_neg hj, List.getElem?_eq_none (by simp; omega)]
      · exact heap_setCell_other w ⟨g, off + xs.length, none⟩ k u (by intro e; subst e; exact hne rfl)
    · have hc : cap = xs.length := by omega
      have hold : (Builtin.firstCells i.size xs.length (.slice (some ⟨g, off, none⟩) xs.length cap)).run P w.drew = .ok xs.toArray w.drew := by
        refine run_firstCells_some w.drew i.size xs.length ⟨g, off, none⟩ xs.length cap xs (by rw [hsize, Nat.mul_one]) ?_
        intro j q hq
        have hj := (List.getElem?_eq_some_iff.1 hq).1
        rw [Addr.add_mid, hgg.drew.cell, ← hq]
        conv => rhs; rw [← htake]
        rw [List.getElem?_take, if_pos hj, List.getElem?_drop, Array.getElem?_toList]
      exact hgrow _ cap hnc (by omega) hold rfl
theorem wp_append_off {o : Oper} {a : Act} {K : Act → World → Prop} {Q : Exit → Act → World → Prop} (s x : Operand) (t : TypeId)
    (ho : o.op = .call { callee := .builtin .append, args := #[s, x], argTypes := #[t, t] })
    (base : Nat) (e : TypeId) (i : TypeInfo) (z : Value) (bytes : Nat) (ht : P.underlying t = some (.slice e)) (hi : P.info? e = some i) (hz : i.zero = some z)
    (hsize : i.size = 1) (hby : i.bytes = bytes) (hzs : z.cells.size = 1)
    (v : Value) (xs : List Value) (hs : a.eval s = v) (hown : OffRow w base e v xs)
    (ad : Addr) (c : Nat) (u : Value) (hx : a.eval x = .slice (some ad) 1 c) (hu : w.cell? ad = some u) (hsp : ad.spot = none) (h1 : u.oneCell' = true)
    (h63 : xs.length + 1 ≤ maxLen) (hbytes : (xs.length + 1) * bytes ≤ 140737488355328) (hbase : base ≤ w.heap.size)
    (h : ∀ v' w', OffRow w' base e v' (xs ++ [u]) → w.grownBy w' v.ownBlock → FreshOf w v v' → K (a.put o.dst v') w') : o.wp P a w K Q := by
  obtain ⟨v', w', hr, h2, h3, h4⟩ := run_append_off (P := P) w base t o.type e i z bytes ht hi hz hsize hby hzs v xs hown ad c u hu hsp h1 h63 hbytes hbase
  unfold Oper.wp execOp
  simp only [ho, resolve, invoke, builtin, Sem.run_bind, Sem.run_pure, Result.andThen_ok, List.map_toArray, List.map_cons, List.map_nil, hs, hx, hr]
  exact h v' w' h2 h3 h4
theorem wpList_append_off {ops : Array Oper} {rest : List Oper} {o : Oper} {a : Act} {Q : Exit → Act → World → Prop} (hgd : o.guard = none) (s x : Operand) (t : TypeId)
    (ho : o.op = .call { callee := .builtin .append, args := #[s, x], argTypes := #[t, t] })
    (base : Nat) (e : TypeId) (i : TypeInfo) (z : Value) (bytes : Nat) (ht : P.underlying t = some (.slice e)) (hi : P.info? e = some i) (hz : i.zero = some z)
    (hsize : i.size = 1) (hby : i.bytes = bytes) (hzs : z.cells.size = 1)
    (v : Value) (xs : List Value) (hs : a.eval s = v) (hown : OffRow w base e v xs)
    (ad : Addr) (c : Nat) (u : Value) (hx : a.eval x = .slice (some ad) 1 c) (hu : w.cell? ad = some u) (hsp : ad.spot = none) (h1 : u.oneCell' = true)
    (h63 : xs.length + 1 ≤ maxLen) (hbytes : (xs.length + 1) * bytes ≤ 140737488355328) (hbase : base ≤ w.heap.size)
    (h : ∀ v' w', OffRow w' base e v' (xs ++ [u]) → w.grownBy w' v.ownBlock → FreshOf w v v' → wpList P ops Q rest (a.put o.dst v') w') : wpList P ops Q (o :: rest) a w :=
  wpList_plain hgd fun _ hK => wp_append_off w s x t ho base e i z bytes ht hi hz hsize hby hzs v xs hs hown ad c u hx hu hsp h1 h63 hbytes hbase fun v' w' h2 h3 h4 => hK _ _ (h v' w' h2 h3 h4)
end
end Mem
end Go.Proofs.Yteghacdpfhohoaa
