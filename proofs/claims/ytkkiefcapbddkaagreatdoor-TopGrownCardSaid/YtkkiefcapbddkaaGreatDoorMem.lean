/-
  Words for memory: a block that is known whole, a slice that reads as a list, numbers as cells.
-/
import Derived.Below
import Derived.Laws.Rows
import Derived.Laws.OwnMore
import Derived.Deep.Draws
namespace Go.Proofs.YtkkiefcapbddkaaGreatDoor
open Go.RowKit
namespace Mem
/-- block g holds just these cells, none frozen. -/
def Blk (w : World) (g : Nat) (t : TypeId) (cs : Array Value) : Prop := w.heap[g]? = some (.cells cs t (0, 0))
/-- numbers as cells. -/
def ints (l : List Int) : Array Value := (l.map (Value.int .i64)).toArray
/-- an address in a block below B, whose cells from there on are these. -/
def Seg (w : World) (B : Nat) (A : Option Addr) (xs : List Value) : Prop :=
  xs ≠ [] → ∃ b off, A = some ⟨b, off, none⟩ ∧ b < B ∧ ∀ j, j < xs.length → w.cell? ⟨b, off + j, none⟩ = xs[j]?

/-- the world is the old one but for draws. -/
def Drawn (w w' : World) : Prop := ∃ n, w.drewN n = w'
theorem Drawn.refl (w : World) : Drawn w w := ⟨0, rfl⟩
theorem Drawn.more {w w' : World} (h : Drawn w w') (n : Nat) : Drawn w (w'.drewN n) := by
  obtain ⟨m, rfl⟩ := h
  exact ⟨m + n, (World.drewN_drewN w m n).symm⟩
theorem Drawn.drew {w w' : World} (h : Drawn w w') : Drawn w w'.drew := h.more 1
theorem Drawn.trans {a b c : World} (h : Drawn a b) (k : Drawn b c) : Drawn a c := by
  obtain ⟨m, rfl⟩ := k
  exact h.more m
theorem Drawn.heap {w w' : World} (h : Drawn w w') : w'.heap = w.heap := by
  obtain ⟨m, rfl⟩ := h
  rfl
theorem Drawn.below {w w' : World} (h : Drawn w w') (B : Nat) : Below B w w' := by
  obtain ⟨m, rfl⟩ := h
  exact ⟨rfl, rfl, rfl, Nat.le_refl _, fun _ _ => rfl⟩
theorem belowN {B : Nat} {a w : World} (h : Below B a w) (n : Nat) : Below B a (w.drewN n) := ⟨h.os, h.tape, h.output, h.size, h.block⟩
section
variable {w w' : World} {g : Nat} {t : TypeId} {cs : Array Value}
theorem Blk.lt (h : Blk w g t cs) : g < w.heap.size := by
  rcases Nat.lt_or_ge g w.heap.size with hlt | hge
  · exact hlt
  · unfold Blk at h
    rw [Array.getElem?_eq_none hge] at h
    cases h
theorem Blk.cell (h : Blk w g t cs) (i : Nat) : w.cell? ⟨g, i, none⟩ = cs[i]? := cell_of_row w g i cs t (0, 0) h
theorem Blk.free (h : Blk w g t cs) (i : Nat) : w.frozen? ⟨g, i, none⟩ = false := frozen_of_row w g i cs t h
theorem Blk.new (w : World) (t : TypeId) (cs : Array Value) : Blk (w.alloc (.cells cs t)) w.heap.size t cs := heap_alloc_new w _
theorem Blk.newAt {n : Nat} (w : World) (t : TypeId) (cs : Array Value) (hn : n = w.heap.size) : Blk (w.alloc (.cells cs t)) n t cs := by subst hn; exact Blk.new w t cs
theorem Blk.four {a b c d : Value} (h : Blk w g t #[a, b, c, d]) : w.cell? ⟨g, 0, none⟩ = some a ∧ w.cell? ⟨g, 1, none⟩ = some b ∧ w.cell? ⟨g, 2, none⟩ = some c ∧ w.cell? ⟨g, 3, none⟩ = some d :=
  ⟨cell_of_row w g 0 _ t (0, 0) h, cell_of_row w g 1 _ t (0, 0) h, cell_of_row w g 2 _ t (0, 0) h, cell_of_row w g 3 _ t (0, 0) h⟩
theorem Blk.drew (h : Blk w g t cs) : Blk w.drew g t cs := h
theorem Blk.drewN (h : Blk w g t cs) (n : Nat) : Blk (w.drewN n) g t cs := h
theorem Blk.alloc (h : Blk w g t cs) (o : Obj) : Blk (w.alloc o) g t cs := (heap_alloc_old w o g h.lt).trans h
theorem Blk.put (h : Blk w g t cs) (i : Nat) (u : Value) : Blk (w.setCell ⟨g, i, none⟩ u) g t (cs.setIfInBounds i u) := by
  unfold Blk at h ⊢
  simp [World.setCell, Array.getElem?_modify, h]
theorem Blk.far (h : Blk w g t cs) {p : Addr} (hp : g ≠ p.block) (u : Value) : Blk (w.setCell p u) g t cs := (heap_setCell_other w p g u hp).trans h
theorem Blk.below {B : Nat} (h : Blk w g t cs) (hb : Below B w w') (hg : g < B) : Blk w' g t cs := (hb.block g hg).trans h
theorem Blk.drawn (h : Blk w g t cs) (hd : Drawn w w') : Blk w' g t cs := by
  obtain ⟨n, rfl⟩ := hd
  exact h
theorem Blk.same (h : Blk w g t cs) (hb : w'.heap = w.heap) : Blk w' g t cs := by
  unfold Blk
  rw [hb]
  exact h

theorem ints_size (l : List Int) : (ints l).size = l.length := by simp [ints]
theorem ints_get (l : List Int) {i : Nat} (h : i < l.length) : (ints l)[i]? = some (.int .i64 (l.getD i 0)) := by
  simp [ints, List.getD_eq_getElem?_getD, h]
theorem ints_set (l : List Int) (i : Nat) (x : Int) : (ints l).setIfInBounds i (.int .i64 x) = ints (l.set i x) := by
  simp [ints, List.map_set]
theorem Blk.int {l : List Int} (h : Blk w g t (ints l)) {i : Nat} (hi : i < l.length) : w.cell? ⟨g, i, none⟩ = some (.int .i64 (l.getD i 0)) := by
  rw [h.cell, ints_get l hi]
theorem Blk.intAt {l : List Int} (h : Blk w g t (ints l)) {i : Nat} (hi : i < l.length) : ∃ x, w.cell? ⟨g, i, none⟩ = some (.int .i64 x) ∧ Hid (l.getD i 0 = x) :=
  ⟨_, h.int hi, rfl⟩
theorem Blk.putInt {l : List Int} (h : Blk w g t (ints l)) (i : Nat) (x : Int) : Blk (w.setCell ⟨g, i, none⟩ (.int .i64 x)) g t (ints (l.set i x)) := by
  have := h.put i (.int .i64 x)
  rwa [ints_set] at this
theorem ints_zeros (n : Nat) : madeCells (Value.int .i64 0).cells (n * 1) = ints (List.replicate n 0) := by
  apply Array.ext'
  rw [Nat.mul_one]
  show (madeCells #[Value.int .i64 0] n).toList = _
  rw [toList_madeCells_one]
  simp [ints]

variable {B : Nat} {A : Option Addr} {xs : List Value}
theorem Seg.nil (w : World) (B : Nat) (A : Option Addr) : Seg w B A [] := fun h => absurd rfl h
theorem Seg.keep (h : Seg w B A xs) (hk : ∀ p : Addr, p.block < B → w'.cell? p = w.cell? p) : Seg w' B A xs := fun hn => by
  obtain ⟨b, off, e, hb, hc⟩ := h hn
  exact ⟨b, off, e, hb, fun j hj => (hk _ hb).trans (hc j hj)⟩
theorem Seg.below (h : Seg w B A xs) (hb : Below B w w') : Seg w' B A xs := h.keep fun _ hp => hb.cell hp
theorem Seg.drawn (h : Seg w B A xs) (hd : Drawn w w') : Seg w' B A xs := h.below (hd.below B)
theorem Seg.drew (h : Seg w B A xs) : Seg w.drew B A xs := h
theorem Seg.drewN (h : Seg w B A xs) (k : Nat) : Seg (w.drewN k) B A xs := h
theorem Seg.more (h : Seg w B A xs) {B' : Nat} (hB : B ≤ B') : Seg w B' A xs := fun hn => by
  obtain ⟨b, off, e, hb, hc⟩ := h hn
  exact ⟨b, off, e, by omega, hc⟩
theorem Seg.alloc (h : Seg w B A xs) (hB : B ≤ w.heap.size) (o : Obj) : Seg (w.alloc o) B A xs := h.keep fun p hp => World.cell?_alloc_lt w o p (by omega)
theorem Seg.setCell (h : Seg w B A xs) {p : Addr} (hB : B ≤ p.block) (u : Value) : Seg (w.setCell p u) B A xs :=
  h.keep fun q hq => World.cell?_setCell_other w p q u (fun e => by subst e; omega)
theorem Seg.ofBlk (h : Blk w g t cs) (hB : g < B) : Seg w B (some ⟨g, 0, none⟩) cs.toList := fun _ => by
  refine ⟨g, 0, rfl, hB, fun j _ => ?_⟩
  rw [Nat.zero_add, h.cell]
  simp
theorem Seg.take (h : Seg w B A xs) (n : Nat) : Seg w B A (xs.take n) := fun hn => by
  obtain ⟨b, off, e, hb, hc⟩ := h (by rintro rfl; simp at hn)
  refine ⟨b, off, e, hb, fun j hj => ?_⟩
  rw [List.length_take] at hj
  rw [hc j (by omega), List.getElem?_take_of_lt (by omega)]
/-- at an index within it. -/
theorem Seg.at_ (h : Seg w B A xs) {k : Nat} (hk : k < xs.length) : ∃ b off, A = some ⟨b, off, none⟩ ∧ b < B ∧ w.cell? ⟨b, off + k, none⟩ = xs[k]? := by
  obtain ⟨b, off, e, hb, hc⟩ := h (by rintro rfl; simp at hk)
  exact ⟨b, off, e, hb, hc k hk⟩
/-- numbers at an address. -/
def Ints (w : World) (B : Nat) (A : Option Addr) (l : List Int) : Prop := Seg w B A (l.map (Value.int .i64))
theorem Ints.at_ {l : List Int} (h : Ints w B A l) {k : Nat} (hk : k < l.length) :
    ∃ b off x, A = some ⟨b, off, none⟩ ∧ b < B ∧ w.cell? ⟨b, off + k, none⟩ = some (.int .i64 x) ∧ Hid (l.getD k 0 = x) := by
  obtain ⟨b, off, e, hb, hc⟩ := Seg.at_ h (k := k) (by simpa using hk)
  refine ⟨b, off, _, e, hb, hc.trans ?_, rfl⟩
  simp [List.getD_eq_getElem?_getD, hk]
theorem Ints.below {l : List Int} (h : Ints w B A l) (hb : Below B w w') : Ints w' B A l := Seg.below h hb
theorem Ints.drawn {l : List Int} (h : Ints w B A l) (hd : Drawn w w') : Ints w' B A l := Seg.drawn h hd
theorem Ints.drew {l : List Int} (h : Ints w B A l) : Ints w.drew B A l := h
theorem Ints.drewN {l : List Int} (h : Ints w B A l) (k : Nat) : Ints (w.drewN k) B A l := h
theorem Ints.more {l : List Int} (h : Ints w B A l) {B' : Nat} (hB : B ≤ B') : Ints w B' A l := Seg.more h hB
theorem Ints.alloc {l : List Int} (h : Ints w B A l) (hB : B ≤ w.heap.size) (o : Obj) : Ints (w.alloc o) B A l := Seg.alloc h hB o
theorem Ints.setCell {l : List Int} (h : Ints w B A l) {p : Addr} (hB : B ≤ p.block) (u : Value) : Ints (w.setCell p u) B A l := Seg.setCell h hB u
theorem Ints.nil (w : World) (B : Nat) (A : Option Addr) : Ints w B A [] := Seg.nil w B A
theorem Ints.take {l : List Int} (h : Ints w B A l) (n : Nat) : Ints w B A (l.take n) := by
  have := Seg.take h n
  simpa [Ints, List.map_take] using this
theorem Ints.ofBlk {l : List Int} (h : Blk w g t (ints l)) (hB : g < B) : Ints w B (some ⟨g, 0, none⟩) l := by
  have := Seg.ofBlk h hB
  simpa [ints, Ints] using this
theorem Ints.ofBlkTake {l : List Int} (h : Blk w g t (ints l)) (hB : g < B) (n : Nat) : Ints w B (some ⟨g, 0, none⟩) (l.take n) := Ints.take (Ints.ofBlk h hB) n
end
/-- a list, k marks behind it, zeros up to 80. -/
def room {α : Type} (l : List α) (m z : α) (k : Nat) : List α := l ++ List.replicate k m ++ List.replicate (80 - k) z
theorem room_set {α : Type} (l : List α) (m z : α) {k : Nat} (hk : k < 80) : (room l m z k).set (l.length + k) m = room l m z (k + 1) := by
  unfold room
  obtain ⟨j, hj⟩ : ∃ j, 80 - k = j + 1 := ⟨79 - k, by omega⟩
  rw [List.set_append_right _ _ (by simp), hj, show 80 - (k + 1) = j by omega, List.replicate_succ, List.replicate_succ']
  simp
theorem room_length {α : Type} (l : List α) (m z : α) {k : Nat} (hk : k ≤ 80) : (room l m z k).length = l.length + 80 := by
  simp [room]; omega
theorem room_all {α : Type} (l : List α) (m z : α) : room l m z 80 = l ++ List.replicate 80 m := by simp [room]
theorem room_none {α : Type} (l : List α) (m z : α) : room l m z 0 = l ++ List.replicate 80 z := by simp [room]
end Mem
end Go.Proofs.YtkkiefcapbddkaaGreatDoor
