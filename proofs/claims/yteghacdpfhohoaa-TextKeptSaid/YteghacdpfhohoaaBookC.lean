/-
  casementbook.Book[int64].Keep.
-/
import Derived.Test.YteghacdpfhohoaaBookB
import Derived.Test.YteghacdpfhohoaaBook
import Derived.Test.YteghacdpfhohoaaOrdQ
import Derived.Test.YteghacdpfhohoaaWhole
import Derived.Laws.AppendOwnNone
import Derived.Deep.DeepCutAuto
namespace Go.Proofs.Yteghacdpfhohoaa
open Go.RowKit Num Mem
set_option linter.unusedVariables false
set_option linter.unusedSimpArgs false
namespace Num
def flI (n : Int) : List Value := [.int .i64 n]
theorem flI_flat (l : List Int) : l.flatMap flI = l.map (Value.int .i64) := by
  induction l with
  | nil => rfl
  | cons x l ih => simp only [List.flatMap_cons, List.map_cons, ih, flI]; rfl
end Num
theorem info_bl : (Try.prog.info? 27).map (fun i => (i.zero, i.size, i.bytes)) = some (some (.slice none 0 0), 1, 24) := by kernel_rfl
theorem info_bi : (Try.prog.info? 2).map (fun i => (i.zero, i.size, i.bytes)) = some (some (.int .i64 0), 1, 8) := by kernel_rfl
namespace Mem
theorem OffRow.grown {w w' : World} {B : Nat} {e : TypeId} {v v2 : Value} {xs : List Value} (h : OffRow w B e v2 xs) (hg : w.grownBy w' v.ownBlock) (ht : Two v2 v) : OffRow w' B e v2 xs :=
  h.map fun k hq hl cs hc => (hg.block k hl (by rcases ht with ht | ht; · rw [ht] at hq; cases hq
                                                · exact fun e => ht (hq.trans e))).trans hc
theorem OffRow.shape {w : World} {B : Nat} {e : TypeId} {v : Value} {xs : List Value} (h : OffRow w B e v xs) : ∃ A m c, v = .slice A m c := by
  obtain ⟨A, c, rfl, _⟩ := h.seg
  exact ⟨A, _, c, rfl⟩
theorem own_base {w : World} {S B n z : Nat} {e : TypeId} {v : Value} {xs : List Value} (h : w.ownsRow S e z v n xs) (hB : B ≤ S) : w.ownsRow B e z v n xs := by
  refine ⟨h.1, ?_⟩
  rcases h.2 with h | ⟨g, cap, cur, e1, h1, rest⟩
  · exact .inl h
  · exact .inr ⟨g, cap, cur, e1, by omega, rest⟩
theorem below_grown0 {w w' : World} (h : w.grownBy w' none) : Below w.heap.size w w' := ⟨h.os, h.tape, h.output, h.size, fun k hk => h.block k hk (by simp)⟩
/-- a copy of a whole row: append(nil, row...). -/
theorem wp_append_rowof {P : Program} (w : World) {o : Oper} {a : Act} {K : Act → World → Prop} {Q : Exit → Act → World → Prop} (s x : Operand) (t : TypeId)
    (ho : o.op = .call { callee := .builtin .append, args := #[s, x], argTypes := #[t, t] })
    (base : Nat) (e : TypeId) (i : TypeInfo) (z : Value) (size bytes : Nat) (ht : P.underlying t = some (.slice e)) (hi : P.info? e = some i) (hz : i.zero = some z)
    (hsize : i.size = size) (hby : i.bytes = bytes) (hzs : z.cells.size = size) (hsz : 0 < size)
    (v : Value) (n S : Nat) (xs : List Value) (hs : a.eval s = .slice none 0 0) (hx : a.eval x = v) (hown : w.ownsRow S e size v n xs) (h1 : ∀ u ∈ xs, u.oneCell' = true)
    (h63 : n ≤ maxLen) (hbytes : n * bytes ≤ 140737488355328) (hbase : base ≤ w.heap.size)
    (h : ∀ v' w', w'.ownsRow base e size v' n xs → w.grownBy w' none → K (a.put o.dst v') w') : o.wp P a w K Q := by
  rcases hown.2 with ⟨rfl, rfl⟩ | ⟨g, cap, cur, rfl, hg, hh, hnc, _⟩
  · have hx0 : xs = [] := List.eq_nil_of_length_eq_zero (by have := hown.1; omega)
    subst hx0
    have hr := run_append_owned_none (P := P) (w := w) base t o.type e i size ht hi (.slice none 0 0) 0 [] (World.ownsRow_nil w base e size)
    unfold Oper.wp execOp
    simp only [ho, resolve, invoke, builtin, Sem.run_bind, Sem.run_pure, Result.andThen_ok, List.map_toArray, List.map_cons, List.map_nil, hs, hx, hr]
    exact h _ _ (World.ownsRow_nil w base e size) (World.grownBy.refl w _)
  · obtain ⟨v', w', hr, h2, h3, h4⟩ := run_append_own (P := P) w base t o.type e i z size bytes ht hi hz hsize hby hzs hsz (.slice none 0 0) 0 [] (World.ownsRow_nil w base e size) ⟨g, 0, none⟩ n cap xs hown.1 (hown.cells (g := g) rfl) h1 (by simpa using h63) (by simpa using hbytes) hbase
    unfold Oper.wp execOp
    simp only [ho, resolve, invoke, builtin, Sem.run_bind, Sem.run_pure, Result.andThen_ok, List.map_toArray, List.map_cons, List.map_nil, hs, hx, hr]
    exact h _ _ (by simpa using h2) h3
theorem wp_execB {P : Program} {o : Oper} {a : Act} {w w' : World} {v : Value} {K : Act → World → Prop} {Q : Exit → Act → World → Prop} (h : (execOp a.eval o).run P w = .ok (.value v) w') (hK : K (a.put o.dst v) w') : o.wp P a w K Q := by
  unfold Oper.wp
  rw [h]
  exact hK
theorem OffRow.segN {w : World} {B N : Nat} {e : TypeId} {v : Value} {xs : List Value} (h : OffRow w B e v xs) (hN : xs.length = N) : ∃ A c, v = .slice A N c ∧ N ≤ c ∧ c ≤ maxLen ∧ (A = none → c = 0) ∧ Seg w w.heap.size A xs := by
  subst hN
  exact h.seg
/-- the box alone has changed. -/
structure Boxed (g : Nat) (w w' : World) : Prop where
  os : w'.os = w.os
  tape : w'.tape = w.tape
  output : w'.output = w.output
  size : w'.heap.size = w.heap.size
  block : ∀ k, k ≠ g → w'.heap[k]? = w.heap[k]?
theorem Boxed.refl (g : Nat) (w : World) : Boxed g w w := ⟨rfl, rfl, rfl, rfl, fun _ _ => rfl⟩
theorem Boxed.drew {g : Nat} {a b : World} (h : Boxed g a b) : Boxed g a b.drew := ⟨h.os, h.tape, h.output, h.size, h.block⟩
theorem Boxed.drawn {g : Nat} {a b c : World} (h : Boxed g a b) (hd : Drawn b c) : Boxed g a c := by
  obtain ⟨n, rfl⟩ := hd
  exact ⟨h.os, h.tape, h.output, h.size, h.block⟩
theorem Boxed.set {g : Nat} {a b : World} (h : Boxed g a b) (i : Nat) (u : Value) : Boxed g a (b.setCell ⟨g, i, none⟩ u) :=
  ⟨h.os, h.tape, h.output, by simpa using h.size, fun k hk => (heap_setCell_other b ⟨g, i, none⟩ k u hk).trans (h.block k hk)⟩
theorem Boxed.blk {g k : Nat} {a b : World} {t : TypeId} {cs : Array Value} (h : Boxed g a b) (hk : k ≠ g) (hb : Blk a k t cs) : Blk b k t cs := (h.block k hk).trans hb
theorem Boxed.keep {g B : Nat} {lt : TypeId} {a b : World} (h : Boxed g a b) : BookKeep lt a b g B :=
  ⟨fun D h1 _ => ⟨h.os, h.tape, h.output, by rw [h.size]; exact Nat.le_refl _, fun k hk => h.block k (by omega)⟩, fun hb h1 _ => h.blk h1 hb, by rw [h.size]; exact Nat.le_refl _⟩
theorem OffRow.boxed {g B : Nat} {e : TypeId} {v : Value} {xs : List Value} {a b : World} (h : OffRow a B e v xs) (hb : Boxed g a b) (hg : g < B) : OffRow b B e v xs :=
  h.map fun k hq _ cs hc => hb.blk (by have := (h.lt k hq).1; omega) hc
theorem BookOf.boxed {α : Type} {bt lt ty : TypeId} {sz : Nat} {fl : α → List Value} {ok : α → Prop} {w w' : World} {g B S : Nat} {Ls Ls' : List (Kept α)} {v1 v2 v1' v2' : Value} {held held' : Int}
    (h : BookOf bt lt ty sz fl ok w g B S Ls v1 v2 held) (hx : Boxed g w w') (hb : Blk w' g bt #[v1', v2', .int .i64 held', .bool false]) (hl : OffRow w B lt v1' (Ls'.map (·.v))) (hw : OffRow w B lt v2' (Ls'.map (·.was))) (hne : Two v1' v2') (hs : Ls'.Sublist Ls) :
    BookOf bt lt ty sz fl ok w' g B S Ls' v1' v2' held' :=
  ⟨hb, hl.boxed hx h.gB, hw.boxed hx h.gB, hne, fun t ht => (h.rows t (hs.subset ht)).map fun k hk _ cs hc => hx.blk (by have := h.gB; omega) hc, h.apart.sublist hs, h.gB, h.BS, by rw [hx.size]; exact h.Sw⟩
theorem OffRow.fresh {w : World} {B : Nat} {e : TypeId} {v v' v2 : Value} {xs : List Value} (h : OffRow w B e v2 xs) (hf : FreshOf w v v') (ht : Two v2 v) : Two v2 v' := by
  rcases hf with hf | ⟨g, hf, hg⟩
  · unfold Two; rw [hf]; exact ht
  · right
    rw [hf]
    intro hq
    have := (h.lt g hq).2
    omega
end Mem
set_option maxRecDepth 100000 in
set_option maxHeartbeats 8000000 in
theorem book_Keep_int64 (g B S n : Nat) (v : Value) (X : List Int) (w : World) (hn : n ≤ 3000) (hX : X.length ≤ 1000000) (hb : BookAt 80 27 2 1 flI (fun _ => True) w g B S n) (ho : w.ownsRow S 2 1 v X.length (X.map (Value.int .i64))) :
    Calls Try.prog 41 #[.pointer (some ⟨g, 0, none⟩), v] w fun e w' =>
      e = .returned (.tuple #[]) ∧ BookAt 80 27 2 1 flI (fun _ => True) w' g B w.heap.size (n + 1) ∧ BookKeep 27 w w' g B := by
  obtain ⟨i1, hi1, hz1, hs1, hb1⟩ := info_parts info_bl
  obtain ⟨i2, hi2, hz2, hs2, hb2'⟩ := info_parts info_bi
  obtain ⟨Ls, v1, v2, held, hLn, hK⟩ := hb.ex
  obtain ⟨A2, m2, c2, rfl⟩ := hK.was.shape
  have hgB := hK.gB
  have hBS := hK.BS
  have hSw := hK.Sw
  obtain ⟨A, c, rfl, hXc⟩ := own_some ho
  have c0 : w.cell? ⟨g, 0, none⟩ = some v1 := hK.blk.cell 0
  go_enter Try.func41, Try.ntmps41
  have hl1 := hK.lists.alloc (.cells #[.slice A X.length c] 27)
  go_wp2_with (refine stop_append _ _ _ _ rfl ?_)
  refine ⟨?_⟩
  refine wpList_append_off _ rfl _ _ 78 rfl B 27 i1 (.slice none 0 0) 24 Try.underlying78 hi1 hz1 hs1 hb1 rfl v1 (Ls.map (·.v)) rfl hl1 ⟨w.heap.size, 0, none⟩ 1 (.slice A X.length c) rfl ((Blk.new w 27 #[.slice A X.length c]).cell 0) rfl rfl (by unfold maxLen; simp; omega) (by simp; omega) (by simp; omega) ?_
  intro v1' w1 ho1 hg1 hf1
  (try simp only [Act.put, List.setIfInBounds_toArray, List.set_cons_zero, List.set_cons_succ])
  have hba : Below w.heap.size w (w.alloc (.cells #[.slice A X.length c] 27)) := (Below.refl _ _).alloc (Nat.le_refl _) _
  have hKa := hK.below hba
  have kp1 : BookKeep 27 w w1 g B := (BookKeep.of_below hba (by omega)).trans (BookKeep.grown hl1 hg1 (by simp; omega))
  have hw2 : OffRow w1 B 27 (.slice A2 m2 c2) (Ls.map (·.was)) := hKa.was.grown hg1 hKa.ne.symm
  have hne1 : Two (.slice A2 m2 c2) v1' := hKa.was.fresh hf1 hKa.ne.symm
  have hg1b : Blk w1 g 80 #[v1, (.slice A2 m2 c2), .int .i64 held, .bool false] := (hg1.block g hKa.blk.lt (fun e => hl1.not hKa.blk (by decide) e.symm)).trans hKa.blk
  have hrows1 : ∀ t ∈ Ls, KeptAt 2 1 flI (fun _ => True) w1 B S t := fun t ht => (hK.rows t ht).map fun k hk hl cs hc => kp1.blk hc (by omega) (by decide)
  have hoX1 : w1.ownsRow S 2 1 (.slice A X.length c) X.length (X.map (Value.int .i64)) := own_map ho fun k hk hl cs hc => kp1.blk hc (by have := (ho.lt k hk).1; omega) (by decide)
  have hz1' := kp1.size
  have hgr := hK.lists.lt
  obtain ⟨A1, m1, c1, rfl⟩ := ho1.shape
  have x0 : w1.cell? ⟨g, 0, none⟩ = some v1 := hg1b.cell 0
  have f0 : w1.frozen? ⟨g, 0, none⟩ = false := hg1b.free 0
  have hap := hK.apart
  have hv1g : (Value.slice A1 m1 c1).ownBlock ≠ some g := ho1.not hg1b (by decide)
  have hv2g : (Value.slice A2 m2 c2).ownBlock ≠ some g := hw2.not hg1b (by decide)
  clear hba hKa hl1 hg1 hf1 hK c0
  go_upto_region 1 with fail
  have hb2 : Blk (w1.setCell ⟨g, 0, none⟩ (.slice A1 m1 c1)) g 80 #[(.slice A1 m1 c1), (.slice A2 m2 c2), .int .i64 held, .bool false] := hg1b.put 0 (.slice A1 m1 c1)
  have kp2 : BookKeep 27 w (w1.setCell ⟨g, 0, none⟩ (.slice A1 m1 c1)) g B := kp1.trans (BookKeep.set w1 g B 0 (.slice A1 m1 c1))
  have hL2 := ho1.far (p := ⟨g, 0, none⟩) hv1g (.slice A1 m1 c1)
  have hW2 := hw2.far (p := ⟨g, 0, none⟩) hv2g (.slice A1 m1 c1)
  have kq : BookKeep 27 w1 (w1.setCell ⟨g, 0, none⟩ (.slice A1 m1 c1)) g B := BookKeep.set w1 g B 0 _
  have hrows2 : ∀ t ∈ Ls, KeptAt 2 1 flI (fun _ => True) (w1.setCell ⟨g, 0, none⟩ (.slice A1 m1 c1)) B S t := fun t ht => (hrows1 t ht).map fun k hk hl cs hc => kq.blk hc (by omega) (by decide)
  have hoX2 : (w1.setCell ⟨g, 0, none⟩ (.slice A1 m1 c1)).ownsRow S 2 1 (.slice A X.length c) X.length (X.map (Value.int .i64)) := own_map hoX1 fun k hk hl cs hc => kq.blk hc (by have := (hoX1.lt k hk).1; omega) (by decide)
  clear kq hg1b hw2 ho1 hrows1 hoX1 kp1 x0 f0 hz1' hv1g hv2g
  generalize w1.setCell ⟨g, 0, none⟩ (.slice A1 m1 c1) = w2 at *
  have hz2' := kp2.size
  have hSQ : (fun Z : World => Z.cell? ⟨g, 1, none⟩ = some (.slice A2 m2 c2) ∧ Z.frozen? ⟨g, 1, none⟩ = false) w2.drew := ⟨hb2.cell 1, hb2.free 1⟩
  refine wp_region_noPanic ?_
  refine Ord.region_Q (S := fun Z : World => Z.cell? ⟨g, 1, none⟩ = some (.slice A2 m2 c2) ∧ Z.frozen? ⟨g, 1, none⟩ = false) 11 (.one 0 true (.one 1 true (.one 2 true (.one 3 true (.one 4 true (.one 5 true (.one 6 false (.one 7 false (.one 8 false (.one 9 true (.one 10 true (.one 11 false .nil)))))))))))) (by kernel_rfl) (by kernel_rfl) (by kernel_rfl) (by decide) (fun _ _ _ _ _ h => h) (hSQ) (fun hS0 => ?_)
  simp only [Ord.layT, List.getElem?_cons_zero, List.getElem?_cons_succ]
  (refine Ord.takeQ (v := ?_) (Or.inl ⟨rfl, ?_⟩) ?_; rotate_left; (intro w hSw; (try dsimp only at hSw); go_simp; try (with_reducible rfl)); (try simp only [Act.put, List.setIfInBounds_toArray, List.set_cons_zero, List.set_cons_succ]))
  (refine Ord.takeQ (v := ?_) (Or.inl ⟨rfl, ?_⟩) ?_; rotate_left; (intro w hSw; (try dsimp only at hSw); go_simp; try (with_reducible rfl)); (try simp only [Act.put, List.setIfInBounds_toArray, List.set_cons_zero, List.set_cons_succ]))
  (refine Ord.takeQ (v := ?_) (Or.inl ⟨rfl, ?_⟩) ?_; rotate_left; (intro w hSw; (try dsimp only at hSw); go_simp; try (with_reducible rfl)); (try simp only [Act.put, List.setIfInBounds_toArray, List.set_cons_zero, List.set_cons_succ]))
  (refine Ord.takeQ (v := ?_) (Or.inl ⟨rfl, ?_⟩) ?_; rotate_left; (intro w hSw; (try dsimp only at hSw); go_simp; try (with_reducible rfl)); (try simp only [Act.put, List.setIfInBounds_toArray, List.set_cons_zero, List.set_cons_succ]))
  (refine Ord.takeQ (v := ?_) (Or.inl ⟨rfl, ?_⟩) ?_; rotate_left; (intro w hSw; (try dsimp only at hSw); go_simp; try (with_reducible rfl)); (try simp only [Act.put, List.setIfInBounds_toArray, List.set_cons_zero, List.set_cons_succ]))
  (refine Ord.takeQ (v := ?_) (Or.inl ⟨rfl, ?_⟩) ?_; rotate_left; (intro w hSw; (try dsimp only at hSw); go_simp; try (with_reducible rfl)); (try simp only [Act.put, List.setIfInBounds_toArray, List.set_cons_zero, List.set_cons_succ]))
  refine Ord.aloneQ rfl rfl (fun K hK => ?_)
  refine wp_append_rowof _ _ _ 27 rfl B 2 i2 (.int .i64 0) 1 8 Try.underlying27 hi2 hz2 hs2 hb2' rfl (by decide) (.slice A X.length c) X.length S _ rfl rfl hoX2 (by simp [Value.oneCell']) (by unfold maxLen; omega) (by omega) (by simp; omega) ?_
  intro vq w3 hoq hgq
  obtain ⟨Aq, cq, rfl, hcq⟩ := own_some hoq
  have hb3 : Below w2.heap.size w2 w3 := ⟨hgq.os, hgq.tape, hgq.output, hgq.size, fun k hk => hgq.block k hk (by simp)⟩
  have hk3 := hb2.below hb3 hb2.lt
  have hz3 := hb3.size
  (try simp only [Act.put, List.setIfInBounds_toArray, List.set_cons_zero, List.set_cons_succ])
  refine hK.out _ _ (⟨hk3.cell 1, hk3.free 1⟩) (fun _ => ?_)
  clear hK K
  refine Ord.aloneQ rfl rfl (fun K hK => ?_)
  refine wp_execB (v := (.slice (some ⟨w3.heap.size, 0, none⟩) 1 1)) (w' := (w3.alloc (.cells #[.slice Aq X.length cq] 27))) (by kernel_rfl) ?_
  have hk4 := hk3.alloc (.cells #[.slice Aq X.length cq] 27)
  (try simp only [Act.put, List.setIfInBounds_toArray, List.set_cons_zero, List.set_cons_succ])
  refine hK.out _ _ (⟨hk4.cell 1, hk4.free 1⟩) (fun _ => ?_)
  clear hK K
  refine Ord.aloneQ rfl rfl (fun K hK => ?_)
  have hW4 := (hW2.below hb3).alloc (.cells #[.slice Aq X.length cq] 27)
  refine wp_append_off _ _ _ 78 rfl B 27 i1 (.slice none 0 0) 24 Try.underlying78 hi1 hz1 hs1 hb1 rfl (.slice A2 m2 c2) (Ls.map (·.was)) rfl hW4 ⟨w3.heap.size, 0, none⟩ 1 (.slice Aq X.length cq) rfl ((Blk.new w3 27 #[.slice Aq X.length cq]).cell 0) rfl rfl (by unfold maxLen; simp; omega) (by simp; omega) (by simp; omega) ?_
  intro v2' w4 ho4 hg4 hf4
  obtain ⟨A4, m4, c4, rfl⟩ := ho4.shape
  have hk5 : Blk w4 g 80 #[.slice A1 m1 c1, .slice A2 m2 c2, .int .i64 held, .bool false] := (hg4.block g hk4.lt (fun e => hW4.not hk4 (by decide) e.symm)).trans hk4
  have q1 := hk5.cell 1
  have q2 := hk5.free 1
  (try simp only [Act.put, List.setIfInBounds_toArray, List.set_cons_zero, List.set_cons_succ])
  refine hK.out _ _ (⟨hk5.cell 1, hk5.free 1⟩) (fun _ => ?_)
  clear hK K
  (refine Ord.takeQ (v := ?_) (Or.inl ⟨rfl, ?_⟩) ?_; rotate_left; (intro w hSw; (try dsimp only at hSw); go_simp; try (with_reducible rfl)); (try simp only [Act.put, List.setIfInBounds_toArray, List.set_cons_zero, List.set_cons_succ]))
  (refine Ord.takeQ (v := ?_) (Or.inl ⟨rfl, ?_⟩) ?_; rotate_left; (intro w hSw; (try dsimp only at hSw); go_simp; try (with_reducible rfl)); (try simp only [Act.put, List.setIfInBounds_toArray, List.set_cons_zero, List.set_cons_succ]))
  refine Ord.lastQ rfl rfl (fun K hK => ?_)
  go_simp
  (try simp only [Act.put, List.setIfInBounds_toArray, List.set_cons_zero, List.set_cons_succ])
  refine hK.out _ _ ?_
  clear hK K
  refine Ord.doneQ (NoPanic.normal ?_)
  clear hSQ
  -- the new list is in the book
  have kp34 : BookKeep 27 w3 w4 g B := (BookKeep.of_below ((Below.refl _ _).alloc (Nat.le_refl _) _) (by omega)).trans (BookKeep.grown hW4 hg4 (by simp; omega))
  have kp4 : BookKeep 27 w2 w4 g B := (BookKeep.of_below hb3 (by omega)).trans kp34
  have hq4 : w4.ownsRow B 2 1 (.slice Aq X.length cq) X.length (X.map (Value.int .i64)) := own_map hoq fun k hk hl cs hc => kp34.blk hc (by have := (hoq.lt k hk).1; omega) (by decide)
  have hx4 : w4.ownsRow B 2 1 (.slice A X.length c) X.length (X.map (Value.int .i64)) := own_map (own_base hoX2 hBS) fun k hk hl cs hc => kp4.blk hc (by have := (hoX2.lt k hk).1; omega) (by decide)
  have hL4 : OffRow w4 B 27 (.slice A1 m1 c1) (Ls.map (·.v) ++ [.slice A X.length c]) := ((hL2.below hb3).alloc _).grown hg4 hne1.symm
  have hne4 : Two (.slice A1 m1 c1) (.slice A4 m4 c4) := ((hL2.below hb3).alloc (.cells #[.slice Aq X.length cq] 27)).fresh hf4 hne1.symm
  have hr4 : ∀ t ∈ Ls, KeptAt 2 1 flI (fun _ => True) w4 B S t := fun t ht => (hrows2 t ht).map fun k hk hl cs hc => kp4.blk hc (by omega) (by decide)
  have kp := kp2.trans kp4
  have hzf : w.heap.size ≤ w4.heap.size := kp.size
  have hB4 : BookOf 80 27 2 1 flI (fun _ => True) (w4.setCell ⟨g, 1, none⟩ (.slice A4 m4 c4)) g B w.heap.size (Ls ++ [⟨.slice A X.length c, .slice Aq X.length cq, X⟩]) (.slice A1 m1 c1) (.slice A4 m4 c4) held := by
    have ks : BookKeep 27 w4 (w4.setCell ⟨g, 1, none⟩ (.slice A4 m4 c4)) g B := BookKeep.set w4 g B 1 _
    refine ⟨hk5.put 1 _, ?_, ?_, hne4, ?_, ?_, hgB, by omega, by simpa using hzf⟩
    · simpa using hL4.far (p := ⟨g, 1, none⟩) (hL4.not hk5 (by decide)) (.slice A4 m4 c4)
    · simpa using ho4.far (p := ⟨g, 1, none⟩) (ho4.not hk5 (by decide)) (.slice A4 m4 c4)
    · intro t ht
      rcases List.mem_append.1 ht with ht | ht
      · exact ((hr4 t ht).more hSw).map fun k hk hl cs hc => ks.blk hc (by omega) (by decide)
      · obtain rfl : t = ⟨.slice A X.length c, .slice Aq X.length cq, X⟩ := by simpa using ht
        refine ⟨?_, ?_, hX, fun _ _ => trivial, fun k hk => (ho.lt k hk).2⟩
        · rw [flI_flat]; exact own_map hx4 fun k hk hl cs hc => ks.blk hc (by have := (hx4.lt k hk).1; omega) (by decide)
        · rw [flI_flat]; exact own_map hq4 fun k hk hl cs hc => ks.blk hc (by have := (hq4.lt k hk).1; omega) (by decide)
    · refine List.pairwise_append.2 ⟨hap, by simp, fun s hs t ht => ?_⟩
      obtain rfl : t = ⟨.slice A X.length c, .slice Aq X.length cq, X⟩ := by simpa using ht
      show Two s.v (.slice A X.length c)
      unfold Two
      by_cases h0 : s.v.ownBlock = none
      · exact .inl h0
      · obtain ⟨k, hk⟩ := Option.ne_none_iff_exists'.1 h0
        right
        rw [hk]
        intro e
        have e1 := (hr4 s hs).old k hk
        have e2 := (ho.lt k e.symm).1
        omega
  replace kp := kp.trans (BookKeep.set w4 g B 1 (.slice A4 m4 c4))
  clear kp34 kp4 hq4 hx4 hL4 hne4 hr4 hk5 q1 q2 ho4 hg4 hf4 hW4 hk4 hk3 hz3 hoq hgq hcq hb3 hL2 hW2 hrows2 hoX2 kp2 hb2 hzf hne1 hap hb hgr hz2'
  generalize w4.setCell ⟨g, 1, none⟩ (.slice A4 m4 c4) = w5 at *
  have hLn' : (Ls ++ [(⟨.slice A X.length c, .slice Aq X.length cq, X⟩ : Kept Int)]).length ≤ n + 1 := by simp; omega
  generalize Ls ++ [(⟨.slice A X.length c, .slice Aq X.length cq, X⟩ : Kept Int)] = L5 at *
  have x2 : w5.cell? ⟨g, 2, none⟩ = some (.int .i64 held) := hB4.blk.cell 2
  have f2 : w5.frozen? ⟨g, 2, none⟩ = false := hB4.blk.free 2
  clear ho
  go_wp2_with fail
  go_loopw [] (fun wr => ∃ (Ls' : List (Kept Int)) (va vb : Value) (hd : Int), Ls'.length ≤ n + 1 ∧ BookOf 80 27 2 1 flI (fun _ => True) wr g B w.heap.size Ls' va vb hd ∧ BookKeep 27 w wr g B) (fun wr => match wr.cell? ⟨g, 0, none⟩ with | some (.slice _ m _) => m | _ => 0)
  case atStart =>
    refine ⟨L5, _, _, _, hLn', hB4.boxed (Ls' := L5) ((Boxed.refl g w5).set 2 _) (by simpa using hB4.blk.put 2 _) hB4.lists hB4.was hB4.ne (List.Sublist.refl _), kp.trans (BookKeep.set w5 g B 2 _)⟩
  case round =>
    clear hB4 kp x2 f2 hLn'
    obtain ⟨Ls', va, vb, hd, hn1, hBo, hkp⟩ := hrel
    obtain ⟨N, hN⟩ : ∃ N, Ls'.length = N := ⟨_, rfl⟩
    obtain ⟨Aa, ca, rfl, hca, hca2, hna, hsa⟩ := hBo.lists.segN (N := N) (by simpa using hN)
    obtain ⟨Ab, cb, rfl, hcb, hcb2, hnb, hsb⟩ := hBo.was.segN (N := N) (by simpa using hN)
    have x0 : wr.cell? ⟨g, 0, none⟩ = some (.slice Aa N ca) := hBo.blk.cell 0
    have x2 : wr.cell? ⟨g, 2, none⟩ = some (.int .i64 hd) := hBo.blk.cell 2
    have hNn : N ≤ 3001 := by omega
    have d3 : decide ((4000 : Int) < (N : Int)) = false := decide_eq_false (by omega)
    by_cases hlt : 1 < N
    · have d1 : decide ((1 : Int) < (N : Int)) = true := decide_eq_true (by omega)
      by_cases hh : 1000000 < hd
      · have d2 : decide ((1000000 : Int) < hd) = true := decide_eq_true hh
        cases Ls' with
        | nil => simp at hN; omega
        | cons t L2 =>
        obtain ⟨tv, tw, tr⟩ := t
        have hN2 : N = L2.length + 1 := by rw [← hN]; simp
        have hKt := hBo.rows _ (List.mem_cons_self ..)
        have hfew : tr.length ≤ 1000000 := hKt.few
        obtain ⟨At, ct, hvt, hIt⟩ := own_seg hKt.list
        obtain ⟨Aw, cw, hwt, hIw⟩ := own_seg hKt.copy
        simp only at hvt hwt
        subst hvt hwt
        simp only [flI_flat] at hIt hIw
        obtain ⟨g1, o1, rfl, -, hca1, ht1⟩ := hBo.lists.tail
        obtain ⟨g2, o2, rfl, -, hcb1, ht2⟩ := hBo.was.tail
        have y1 : wr.cell? ⟨g1, o1, none⟩ = some (.slice At tr.length ct) := by
          obtain ⟨b, off, e, _, hc⟩ := hsa (by simp)
          injection e with e
          injection e with e1 e2 _
          subst e1 e2
          simpa using hc 0 (by simp)
        have y2 : wr.cell? ⟨g2, o2, none⟩ = some (.slice Aw tr.length cw) := by
          obtain ⟨b, off, e, _, hc⟩ := hsb (by simp)
          injection e with e
          injection e with e1 e2 _
          subst e1 e2
          simpa using hc 0 (by simp)
        have hg1 : g1 ≠ g := by have := (hBo.lists.lt g1 rfl).1; omega
        have hg2 : g2 ≠ g := by have := (hBo.was.lt g2 rfl).1; omega
        have hN0 : 0 < N := by omega
        have h1N : 1 ≤ N := by omega
        have hSQ : (fun Z : World => Z.cell? ⟨g, 3, none⟩ = some (.bool false) ∧ Z.cell? ⟨g, 0, none⟩ = some (.slice (some ⟨g1, o1, none⟩) N ca) ∧ Z.cell? ⟨g1, o1, none⟩ = some (.slice At tr.length ct) ∧ Z.cell? ⟨g, 1, none⟩ = some (.slice (some ⟨g2, o2, none⟩) N cb) ∧ Z.cell? ⟨g2, o2, none⟩ = some (.slice Aw tr.length cw) ∧ Z.frozen? ⟨g, 3, none⟩ = false) wr.drew := ⟨hBo.blk.cell 3, x0, y1, hBo.blk.cell 1, y2, hBo.blk.free 3⟩
        have hSd : ∀ Z, Drawn wr.drew Z → (fun Z : World => Z.cell? ⟨g, 3, none⟩ = some (.bool false) ∧ Z.cell? ⟨g, 0, none⟩ = some (.slice (some ⟨g1, o1, none⟩) N ca) ∧ Z.cell? ⟨g1, o1, none⟩ = some (.slice At tr.length ct) ∧ Z.cell? ⟨g, 1, none⟩ = some (.slice (some ⟨g2, o2, none⟩) N cb) ∧ Z.cell? ⟨g2, o2, none⟩ = some (.slice Aw tr.length cw) ∧ Z.frozen? ⟨g, 3, none⟩ = false) Z := by
          rintro Z ⟨q, rfl⟩
          exact hSQ
        clear hna hnb hsa hsb
        go_upto_region 4 with fail
        refine wp_region_noPanic ?_
        refine Ord.region_Q (S := fun Z : World => Z.cell? ⟨g, 3, none⟩ = some (.bool false) ∧ Z.cell? ⟨g, 0, none⟩ = some (.slice (some ⟨g1, o1, none⟩) N ca) ∧ Z.cell? ⟨g1, o1, none⟩ = some (.slice At tr.length ct) ∧ Z.cell? ⟨g, 1, none⟩ = some (.slice (some ⟨g2, o2, none⟩) N cb) ∧ Z.cell? ⟨g2, o2, none⟩ = some (.slice Aw tr.length cw) ∧ Z.frozen? ⟨g, 3, none⟩ = false) 23 (.one 0 true (.one 1 true (.one 2 true (.one 3 true (.one 4 true (.one 5 true (.one 6 true (.one 7 true (.one 8 true (.one 9 true (.one 10 true (.one 11 true (.one 12 true (.one 13 true (.one 14 true (.one 15 true (.one 16 true (.one 17 true (.one 18 false (.one 19 true (.one 20 true (.one 21 true (.one 22 true (.one 23 false .nil)))))))))))))))))))))))) (by kernel_rfl) (by kernel_rfl) (by kernel_rfl) (by decide) (fun _ _ _ _ _ h => h) (hSQ) (fun hS0 => ?_)
        simp only [Ord.layT, List.getElem?_cons_zero, List.getElem?_cons_succ]
        (refine Ord.takeQ (v := ?_) (Or.inl ⟨rfl, ?_⟩) ?_; rotate_left; (intro w hSw; (try dsimp only at hSw); go_simp; try (with_reducible rfl)); (try simp only [Act.put, List.setIfInBounds_toArray, List.set_cons_zero, List.set_cons_succ]))
        (refine Ord.takeQ (v := ?_) (Or.inl ⟨rfl, ?_⟩) ?_; rotate_left; (intro w hSw; (try dsimp only at hSw); go_simp; try (with_reducible rfl)); (try simp only [Act.put, List.setIfInBounds_toArray, List.set_cons_zero, List.set_cons_succ]))
        (refine Ord.takeQ (v := ?_) (Or.inl ⟨rfl, ?_⟩) ?_; rotate_left; (intro w hSw; (try dsimp only at hSw); go_simp; try (with_reducible rfl)); (try simp only [Act.put, List.setIfInBounds_toArray, List.set_cons_zero, List.set_cons_succ]))
        (refine Ord.takeQ (v := ?_) (Or.inl ⟨rfl, ?_⟩) ?_; rotate_left; (intro w hSw; (try dsimp only at hSw); go_simp; try (with_reducible rfl)); (try simp only [Act.put, List.setIfInBounds_toArray, List.set_cons_zero, List.set_cons_succ]))
        (refine Ord.takeQ (v := ?_) (Or.inl ⟨rfl, ?_⟩) ?_; rotate_left; (intro w hSw; (try dsimp only at hSw); go_simp; try (with_reducible rfl)); (try simp only [Act.put, List.setIfInBounds_toArray, List.set_cons_zero, List.set_cons_succ]))
        (refine Ord.takeQ (v := ?_) (Or.inl ⟨rfl, ?_⟩) ?_; rotate_left; (intro w hSw; (try dsimp only at hSw); go_simp; try (with_reducible rfl)); (try simp only [Act.put, List.setIfInBounds_toArray, List.set_cons_zero, List.set_cons_succ]))
        (refine Ord.takeQ (v := ?_) (Or.inl ⟨rfl, ?_⟩) ?_; rotate_left; (intro w hSw; (try dsimp only at hSw); go_simp; try (with_reducible rfl)); (try simp only [Act.put, List.setIfInBounds_toArray, List.set_cons_zero, List.set_cons_succ]))
        (refine Ord.takeQ (v := ?_) (Or.inl ⟨rfl, ?_⟩) ?_; rotate_left; (intro w hSw; (try dsimp only at hSw); go_simp; try (with_reducible rfl)); (try simp only [Act.put, List.setIfInBounds_toArray, List.set_cons_zero, List.set_cons_succ]))
        (refine Ord.takeQ (v := ?_) (Or.inl ⟨rfl, ?_⟩) ?_; rotate_left; (intro w hSw; (try dsimp only at hSw); go_simp; try (with_reducible rfl)); (try simp only [Act.put, List.setIfInBounds_toArray, List.set_cons_zero, List.set_cons_succ]))
        (refine Ord.takeQ (v := ?_) (Or.inl ⟨rfl, ?_⟩) ?_; rotate_left; (intro w hSw; (try dsimp only at hSw); go_simp; try (with_reducible rfl)); (try simp only [Act.put, List.setIfInBounds_toArray, List.set_cons_zero, List.set_cons_succ]))
        (refine Ord.takeQ (v := ?_) (Or.inl ⟨rfl, ?_⟩) ?_; rotate_left; (intro w hSw; (try dsimp only at hSw); go_simp; try (with_reducible rfl)); (try simp only [Act.put, List.setIfInBounds_toArray, List.set_cons_zero, List.set_cons_succ]))
        (refine Ord.takeQ (v := ?_) (Or.inl ⟨rfl, ?_⟩) ?_; rotate_left; (intro w hSw; (try dsimp only at hSw); go_simp; try (with_reducible rfl)); (try simp only [Act.put, List.setIfInBounds_toArray, List.set_cons_zero, List.set_cons_succ]))
        (refine Ord.takeQ (v := ?_) (Or.inl ⟨rfl, ?_⟩) ?_; rotate_left; (intro w hSw; (try dsimp only at hSw); go_simp; try (with_reducible rfl)); (try simp only [Act.put, List.setIfInBounds_toArray, List.set_cons_zero, List.set_cons_succ]))
        (refine Ord.takeQ (v := ?_) (Or.inl ⟨rfl, ?_⟩) ?_; rotate_left; (intro w hSw; (try dsimp only at hSw); go_simp; try (with_reducible rfl)); (try simp only [Act.put, List.setIfInBounds_toArray, List.set_cons_zero, List.set_cons_succ]))
        (refine Ord.takeQ (v := ?_) (Or.inl ⟨rfl, ?_⟩) ?_; rotate_left; (intro w hSw; (try dsimp only at hSw); go_simp; try (with_reducible rfl)); (try simp only [Act.put, List.setIfInBounds_toArray, List.set_cons_zero, List.set_cons_succ]))
        (refine Ord.takeQ (v := ?_) (Or.inl ⟨rfl, ?_⟩) ?_; rotate_left; (intro w hSw; (try dsimp only at hSw); go_simp; try (with_reducible rfl)); (try simp only [Act.put, List.setIfInBounds_toArray, List.set_cons_zero, List.set_cons_succ]))
        (refine Ord.takeQ (v := ?_) (Or.inl ⟨rfl, ?_⟩) ?_; rotate_left; (intro w hSw; (try dsimp only at hSw); go_simp; try (with_reducible rfl)); (try simp only [Act.put, List.setIfInBounds_toArray, List.set_cons_zero, List.set_cons_succ]))
        (refine Ord.takeQ (v := ?_) (Or.inl ⟨rfl, ?_⟩) ?_; rotate_left; (intro w hSw; (try dsimp only at hSw); go_simp; try (with_reducible rfl)); (try simp only [Act.put, List.setIfInBounds_toArray, List.set_cons_zero, List.set_cons_succ]))
        refine Ord.aloneQ rfl rfl (fun K hK => ?_)
        go_simp
        refine (book_Same tr At Aw ct cw wr.heap.size wr.heap.size wr.drew (by omega) hIt hIw).mono ?_
        rintro e w9 ⟨rfl, hd9⟩
        go_wp2_with fail
        (try simp only [Act.put, List.setIfInBounds_toArray, List.set_cons_zero, List.set_cons_succ])
        refine hK.out _ _ (hSd _ hd9) (fun _ => ?_)
        clear hK K
        (refine Ord.takeQ (v := ?_) (Or.inl ⟨rfl, ?_⟩) ?_; rotate_left; (intro w hSw; (try dsimp only at hSw); go_simp; try (with_reducible rfl)); (try simp only [Act.put, List.setIfInBounds_toArray, List.set_cons_zero, List.set_cons_succ]))
        (refine Ord.takeQ (v := ?_) (Or.inl ⟨rfl, ?_⟩) ?_; rotate_left; (intro w hSw; (try dsimp only at hSw); go_simp; try (with_reducible rfl)); (try simp only [Act.put, List.setIfInBounds_toArray, List.set_cons_zero, List.set_cons_succ]))
        (refine Ord.takeQ (v := ?_) (Or.inl ⟨rfl, ?_⟩) ?_; rotate_left; (intro w hSw; (try dsimp only at hSw); go_simp; try (with_reducible rfl)); (try simp only [Act.put, List.setIfInBounds_toArray, List.set_cons_zero, List.set_cons_succ]))
        (refine Ord.takeQ (v := ?_) (Or.inl ⟨rfl, ?_⟩) ?_; rotate_left; (intro w hSw; (try dsimp only at hSw); go_simp; try (with_reducible rfl)); (try simp only [Act.put, List.setIfInBounds_toArray, List.set_cons_zero, List.set_cons_succ]))
        refine Ord.lastQ rfl rfl (fun K hK => ?_)
        obtain ⟨q1, q2, q3, q4, q5, q6⟩ := hSd _ hd9
        go_simp
        (try simp only [Act.put, List.setIfInBounds_toArray, List.set_cons_zero, List.set_cons_succ])
        refine hK.out _ _ ?_
        clear hK K
        refine Ord.doneQ (NoPanic.normal ?_)
        clear hSQ hSd
        have hb4 : Blk (w9.setCell ⟨g, 3, none⟩ (.bool false)) g 80 #[.slice (some ⟨g1, o1, none⟩) N ca, .slice (some ⟨g2, o2, none⟩) N cb, .int .i64 hd, .bool false] := by
          simpa using (hBo.blk.drew.drawn hd9).put 3 (.bool false)
        have hx4 : Boxed g wr (w9.setCell ⟨g, 3, none⟩ (.bool false)) := (((Boxed.refl g wr).drew).drawn hd9).set 3 _
        generalize w9.setCell ⟨g, 3, none⟩ (.bool false) = wa at *
        clear hd9
        have z1 : wa.cell? ⟨g1, o1, none⟩ = some (.slice At tr.length ct) := (World.cell?_of_block (a := ⟨g1, o1, none⟩) (hx4.block g1 hg1)).trans y1
        have z0 : wa.cell? ⟨g, 0, none⟩ = some (.slice (some ⟨g1, o1, none⟩) N ca) := hb4.cell 0
        have z2 : wa.cell? ⟨g, 1, none⟩ = some (.slice (some ⟨g2, o2, none⟩) N cb) := hb4.cell 1
        have k0 : wa.frozen? ⟨g, 0, none⟩ = false := hb4.free 0
        have k1 : wa.frozen? ⟨g, 1, none⟩ = false := hb4.free 1
        have hSQ : (fun Z : World => Z.cell? ⟨g, 2, none⟩ = some (.int .i64 hd) ∧ Z.cell? ⟨g, 0, none⟩ = some (.slice (some ⟨g1, o1, none⟩) N ca) ∧ Z.cell? ⟨g1, o1, none⟩ = some (.slice At tr.length ct) ∧ Z.frozen? ⟨g, 2, none⟩ = false) wa.drew := ⟨hb4.cell 2, z0, z1, hb4.free 2⟩
        go_upto_region 5 with fail
        refine wp_region_noPanic ?_
        refine Ord.region_Q (S := fun Z : World => Z.cell? ⟨g, 2, none⟩ = some (.int .i64 hd) ∧ Z.cell? ⟨g, 0, none⟩ = some (.slice (some ⟨g1, o1, none⟩) N ca) ∧ Z.cell? ⟨g1, o1, none⟩ = some (.slice At tr.length ct) ∧ Z.frozen? ⟨g, 2, none⟩ = false) 16 (.one 0 true (.one 1 true (.one 2 true (.one 3 true (.one 4 true (.one 5 true (.one 6 true (.one 7 true (.one 8 true (.one 9 true (.one 10 true (.one 11 true (.one 12 true (.one 13 true (.one 14 true (.one 15 true (.one 16 false .nil))))))))))))))))) (by kernel_rfl) (by kernel_rfl) (by kernel_rfl) (by decide) (fun _ _ _ _ _ h => h) (hSQ) (fun hS0 => ?_)
        simp only [Ord.layT, List.getElem?_cons_zero, List.getElem?_cons_succ]
        (refine Ord.takeQ (v := ?_) (Or.inl ⟨rfl, ?_⟩) ?_; rotate_left; (intro w hSw; (try dsimp only at hSw); go_simp; try (with_reducible rfl)); (try simp only [Act.put, List.setIfInBounds_toArray, List.set_cons_zero, List.set_cons_succ]))
        (refine Ord.takeQ (v := ?_) (Or.inl ⟨rfl, ?_⟩) ?_; rotate_left; (intro w hSw; (try dsimp only at hSw); go_simp; try (with_reducible rfl)); (try simp only [Act.put, List.setIfInBounds_toArray, List.set_cons_zero, List.set_cons_succ]))
        (refine Ord.takeQ (v := ?_) (Or.inl ⟨rfl, ?_⟩) ?_; rotate_left; (intro w hSw; (try dsimp only at hSw); go_simp; try (with_reducible rfl)); (try simp only [Act.put, List.setIfInBounds_toArray, List.set_cons_zero, List.set_cons_succ]))
        (refine Ord.takeQ (v := ?_) (Or.inl ⟨rfl, ?_⟩) ?_; rotate_left; (intro w hSw; (try dsimp only at hSw); go_simp; try (with_reducible rfl)); (try simp only [Act.put, List.setIfInBounds_toArray, List.set_cons_zero, List.set_cons_succ]))
        (refine Ord.takeQ (v := ?_) (Or.inl ⟨rfl, ?_⟩) ?_; rotate_left; (intro w hSw; (try dsimp only at hSw); go_simp; try (with_reducible rfl)); (try simp only [Act.put, List.setIfInBounds_toArray, List.set_cons_zero, List.set_cons_succ]))
        (refine Ord.takeQ (v := ?_) (Or.inl ⟨rfl, ?_⟩) ?_; rotate_left; (intro w hSw; (try dsimp only at hSw); go_simp; try (with_reducible rfl)); (try simp only [Act.put, List.setIfInBounds_toArray, List.set_cons_zero, List.set_cons_succ]))
        (refine Ord.takeQ (v := ?_) (Or.inl ⟨rfl, ?_⟩) ?_; rotate_left; (intro w hSw; (try dsimp only at hSw); go_simp; try (with_reducible rfl)); (try simp only [Act.put, List.setIfInBounds_toArray, List.set_cons_zero, List.set_cons_succ]))
        (refine Ord.takeQ (v := ?_) (Or.inl ⟨rfl, ?_⟩) ?_; rotate_left; (intro w hSw; (try dsimp only at hSw); go_simp; try (with_reducible rfl)); (try simp only [Act.put, List.setIfInBounds_toArray, List.set_cons_zero, List.set_cons_succ]))
        (refine Ord.takeQ (v := ?_) (Or.inl ⟨rfl, ?_⟩) ?_; rotate_left; (intro w hSw; (try dsimp only at hSw); go_simp; try (with_reducible rfl)); (try simp only [Act.put, List.setIfInBounds_toArray, List.set_cons_zero, List.set_cons_succ]))
        (refine Ord.takeQ (v := ?_) (Or.inl ⟨rfl, ?_⟩) ?_; rotate_left; (intro w hSw; (try dsimp only at hSw); go_simp; try (with_reducible rfl)); (try simp only [Act.put, List.setIfInBounds_toArray, List.set_cons_zero, List.set_cons_succ]))
        (refine Ord.takeQ (v := ?_) (Or.inl ⟨rfl, ?_⟩) ?_; rotate_left; (intro w hSw; (try dsimp only at hSw); go_simp; try (with_reducible rfl)); (try simp only [Act.put, List.setIfInBounds_toArray, List.set_cons_zero, List.set_cons_succ]))
        (refine Ord.takeQ (v := ?_) (Or.inl ⟨rfl, ?_⟩) ?_; rotate_left; (intro w hSw; (try dsimp only at hSw); go_simp; try (with_reducible rfl)); (try simp only [Act.put, List.setIfInBounds_toArray, List.set_cons_zero, List.set_cons_succ]))
        (refine Ord.takeQ (v := ?_) (Or.inl ⟨rfl, ?_⟩) ?_; rotate_left; (intro w hSw; (try dsimp only at hSw); go_simp; try (with_reducible rfl)); (try simp only [Act.put, List.setIfInBounds_toArray, List.set_cons_zero, List.set_cons_succ]))
        (refine Ord.takeQ (v := ?_) (Or.inl ⟨rfl, ?_⟩) ?_; rotate_left; (intro w hSw; (try dsimp only at hSw); go_simp; try (with_reducible rfl)); (try simp only [Act.put, List.setIfInBounds_toArray, List.set_cons_zero, List.set_cons_succ]))
        (refine Ord.takeQ (v := ?_) (Or.inl ⟨rfl, ?_⟩) ?_; rotate_left; (intro w hSw; (try dsimp only at hSw); go_simp; try (with_reducible rfl)); (try simp only [Act.put, List.setIfInBounds_toArray, List.set_cons_zero, List.set_cons_succ]))
        (refine Ord.takeQ (v := ?_) (Or.inl ⟨rfl, ?_⟩) ?_; rotate_left; (intro w hSw; (try dsimp only at hSw); go_simp; try (with_reducible rfl)); (try simp only [Act.put, List.setIfInBounds_toArray, List.set_cons_zero, List.set_cons_succ]))
        refine Ord.lastQ rfl rfl (fun K hK => ?_)
        obtain ⟨q1, q2, q3, q4⟩ := hSQ
        go_simp
        (try simp only [Act.put, List.setIfInBounds_toArray, List.set_cons_zero, List.set_cons_succ])
        refine hK.out _ _ ?_
        clear hK K
        refine Ord.doneQ (NoPanic.normal ?_)
        have hbf := ((hb4.put 2 (.int .i64 (wrap64 (wrap64 (hd - (ct : Int)) - 1)))).put 0 (.slice (some ⟨g1, o1 + 1, none⟩) L2.length (ca - 1))).put 1 (.slice (some ⟨g2, o2 + 1, none⟩) L2.length (cb - 1))
        have hxf : Boxed g wr ((((wa.setCell ⟨g, 2, none⟩ (.int .i64 (wrap64 (wrap64 (hd - (ct : Int)) - 1)))).setCell ⟨g, 0, none⟩ (.slice (some ⟨g1, o1 + 1, none⟩) L2.length (ca - 1))).setCell ⟨g, 1, none⟩ (.slice (some ⟨g2, o2 + 1, none⟩) L2.length (cb - 1))).drew) := (((hx4.set 2 _).set 0 _).set 1 _).drew
        have hl2 : L2.length ≤ n + 1 := by simp at hn1; omega
        have hne2 : Two (.slice (some ⟨g1, o1 + 1, none⟩) L2.length (ca - 1)) (.slice (some ⟨g2, o2 + 1, none⟩) L2.length (cb - 1)) := by simpa [Two, Value.ownBlock] using hBo.ne
        rw [List.length_map] at ht1 ht2
        have hBf := hBo.boxed (Ls' := L2) hxf (by simpa using hbf.drew) ht1 ht2 hne2 (List.sublist_cons_self ..)
        clear hb4 hx4 ht1 ht2 hne2 hKt hIt hIw y1 y2
        go_wp2_with fail
        refine ⟨⟨L2, _, _, _, hl2, hBf, hkp.trans hxf.keep⟩, ?_⟩
        rw [hBf.blk.cell 0, x0]
        show L2.length < N
        omega
      · have d2 : decide ((1000000 : Int) < hd) = false := decide_eq_false hh
        go_wp2_with fail
        exact bodyPost_end (results_none rfl _ _ _) rfl ⟨rfl, ⟨Ls', _, _, hd, hn1, hBo⟩, hkp⟩
    · have d1 : decide ((1 : Int) < (N : Int)) = false := decide_eq_false (by omega)
      go_wp2_with fail
      exact bodyPost_end (results_none rfl _ _ _) rfl ⟨rfl, ⟨Ls', _, _, hd, hn1, hBo⟩, hkp⟩
end Go.Proofs.Yteghacdpfhohoaa
