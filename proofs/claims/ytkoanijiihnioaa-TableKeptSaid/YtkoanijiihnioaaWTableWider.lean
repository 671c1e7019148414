/-
  The walk of TableWider.
-/
import Derived.Test.YtkoanijiihnioaaWTableFills
import Derived.Laws.AppendOwnNone
namespace Go.Proofs.Ytkoanijiihnioaa
open Go.RowKit Num Mem Opn
set_option linter.unusedVariables false
set_option linter.unusedSimpArgs false
theorem Mem.Rows2.snoc {α : Type} {w : World} {B B' sz : Nat} {A A' : Option Addr} {fl : α → List Value} {vs : List Value} {ls : List (List α)} {v : Value} {r : List α} (h : Rows2 w B A sz fl vs ls) (hv : RowOk w B' sz fl v r) (hS : Seg w B' A' (vs ++ [v])) (hB : B ≤ B') : Rows2 w B' A' sz fl (vs ++ [v]) (ls ++ [r]) := by
  refine ⟨by simp [h.len], hS, fun i q hq => ?_⟩
  rw [List.getElem?_append] at hq ⊢
  by_cases hi : i < ls.length
  · rw [if_pos hi] at hq
    rw [if_pos (by rw [h.len]; exact hi)]
    obtain ⟨A2, c2, h1, h2, h3⟩ := h.row i q hq
    exact ⟨A2, c2, h1, h2, h3.more hB⟩
  · rw [if_neg hi] at hq
    rw [if_neg (by rw [h.len]; exact hi), h.len]
    have h0 : i - ls.length = 0 := by
      have := (List.getElem?_eq_some_iff.1 hq).1
      simp at this
      omega
    rw [h0] at hq ⊢
    have : r = q := by simpa using hq
    subst this
    obtain ⟨A2, c2, rfl, h2, h3⟩ := hv
    exact ⟨A2, c2, rfl, h2, h3⟩
theorem seg_news {w : World} {B b off : Nat} {vs : List Value} (h : Seg w B (some ⟨b, off, none⟩) vs) : ∀ j u, vs[j]? = some u → w.cell? ((⟨b, off, none⟩ : Addr).add j) = some u := by
  intro j u hu
  obtain ⟨b', off', e, _, hc⟩ := h (by rintro rfl; simp at hu)
  injection e with e
  injection e with e1 e2 _
  subst e1 e2
  rw [Addr.add_mid, hc j (List.getElem?_eq_some_iff.1 hu).1, hu]
theorem rows_one {α : Type} {w : World} {B sz : Nat} {A : Option Addr} {fl : α → List Value} {vs : List Value} {ls : List (List α)} (h : Rows2 w B A sz fl vs ls) : ∀ u ∈ vs, u.oneCell' = true := by
  intro u hu
  obtain ⟨i, hi⟩ := List.mem_iff_getElem?.1 hu
  have hlt := (List.getElem?_eq_some_iff.1 hi).1
  rw [h.len] at hlt
  obtain ⟨A', c, h1, _⟩ := h.row i _ (List.getElem?_eq_getElem hlt)
  rw [hi] at h1
  injection h1 with h1
  subst h1
  rfl
theorem wpList_append_seg {P : Program} {w : World} {ops : Array Oper} {rest : List Oper} {o : Oper} {a : Act} {Q : Exit → Act → World → Prop} (hgd : o.guard = none) (s x : Operand) (t : TypeId)
    (ho : o.op = .call { callee := .builtin .append, args := #[s, x], argTypes := #[t, t] })
    (base : Nat) (e : TypeId) (i : TypeInfo) (z : Value) (bytes : Nat) (ht : P.underlying t = some (.slice e)) (hi : P.info? e = some i) (hz : i.zero = some z)
    (hsize : i.size = 1) (hby : i.bytes = bytes) (hzs : z.cells.size = 1)
    (v : Value) (n : Nat) (xs : List Value) (hs : a.eval s = v) (hown : w.ownsRow base e 1 v n xs)
    (A : Option Addr) (m c B : Nat) (vs : List Value) (hx : a.eval x = .slice A m c) (hl : vs.length = m) (hm : m ≤ c) (hn : A = none → c = 0) (hS : Seg w B A vs) (h1 : ∀ u ∈ vs, u.oneCell' = true)
    (h63 : n + m ≤ maxLen) (hbytes : (n + m) * bytes ≤ 140737488355328) (hbase : base ≤ w.heap.size)
    (h : ∀ v' w', w'.ownsRow base e 1 v' (n + m) (xs ++ vs) → w.grownBy w' v.ownBlock → wpList P ops Q rest (a.put o.dst v') w') : wpList P ops Q (o :: rest) a w := by
  cases A with
  | none =>
    have hc := hn rfl
    subst hc
    have hm0 : m = 0 := by omega
    subst hm0
    have hvs : vs = [] := List.eq_nil_of_length_eq_zero hl
    subst hvs
    exact wpList_append_own_none hgd s x t ho base e i 1 ht hi v n xs hs hown hx (h v w (by simpa using hown) (World.grownBy.refl w _))
  | some ad =>
    refine wpList_append_own w hgd s x t ho base e i z 1 bytes ht hi hz hsize hby hzs (by decide) v n xs hs hown ad m c vs hx (by simpa using hl) ?_ h1 h63 hbytes hbase (fun v' w' k1 k2 _ => h v' w' k1 k2)
    intro j u hu
    obtain ⟨b, off, e, _, hc⟩ := hS (by rintro rfl; simp at hu)
    injection e with e
    subst e
    rw [Addr.add_mid, hc j (List.getElem?_eq_some_iff.1 hu).1, hu]
theorem over_more {X Y : List Nd} (h : Over Y X) : X.length ≤ Y.length := h.1
set_option maxRecDepth 100000 in
set_option maxHeartbeats 16000000 in
theorem walk_TableWider (A0 : Option Addr) (ls : List (List Nd)) (c0 : Nat) (Ar : Option Addr) (row : List Nd) (cr : Nat) (w : World) (hr : RowsN w A0 ls c0) (hrr : RowN w Ar row cr) :
    Calls Try.prog 7 #[.slice A0 ls.length c0, .slice Ar row.length cr] w fun e w' => e = .returned (.bool true) ∧ Below w.heap.size w w' := by
  obtain ⟨i3, hi3, hz3, hs3, hb3⟩ := info_parts info_needs
  obtain ⟨⟨vs, hA0⟩, hcap, hfew, hok⟩ := hr
  obtain ⟨hRow, hrc, hrf, hrok⟩ := hrr
  have hnl := needs_len ls
  have hnm := needs_most ls
  go_enter Try.func7, Try.ntmps7
  go_wp2_with fail
  refine (some19 ls vs A0 c0 _ (by omega) hA0 hok).mono ?_
  rintro e w1 ⟨A1, c1, A2, c2, vs1, vs2, rfl, hc1, hnone, hb1, hR1, -⟩
  have hNL : (needs ls).length ≤ 12 := by simp [needs]; omega
  generalize needs ls = N at *
  clear hA0 hok hcap hfew
  replace hRow := (hRow.below hb1).more hb1.size
  have hz1 := hb1.size
  obtain ⟨q, hq⟩ : ∃ q, (decide (10 < N.length) || decide (12 < row.length)) = q := ⟨_, rfl⟩
  have HQ := hid hq
  clear hq
  go_upto_region 2 with fail
  go_cut [22] (fun s22 wx => s22 = .bool q ∧ w1 = wx)
  case first =>
    by_cases h1 : 10 < N.length
    · have d1 : decide ((10 : Int) < (N.length : Int)) = true := decide_eq_true (by omega)
      have HZ : Hid (q = true) := hid (by rw [← HQ.out]; simp [h1])
      go_wp2_with fail
      go_meet
      exact ⟨by rw [HZ.out], rfl⟩
    · have d1 : decide ((10 : Int) < (N.length : Int)) = false := decide_eq_false (by omega)
      have d1' : N.length ≤ 10 := by omega
      by_cases h2 : 12 < row.length
      · have d2 : decide ((12 : Int) < (row.length : Int)) = true := decide_eq_true (by omega)
        have HZ : Hid (q = true) := hid (by rw [← HQ.out]; simp [h2])
        go_wp2_with fail
        go_meet
        exact ⟨by rw [HZ.out], rfl⟩
      · have d2 : decide ((12 : Int) < (row.length : Int)) = false := decide_eq_false (by omega)
        have d2' : row.length ≤ 12 := by omega
        have HZ : Hid (q = false) := hid (by rw [← HQ.out]; simp [h1, h2])
        go_wp2_with fail
        go_meet
        exact ⟨by rw [HZ.out], rfl⟩
  case rest =>
  obtain ⟨rfl, rfl⟩ := hcut
  cases q
  · have hN10 : N.length ≤ 10 := by have := HQ.out; simp at this; exact this.1
    have hr12 : row.length ≤ 12 := by have := HQ.out; simp at this; exact this.2
    clear HQ
    go_wp2_with fail
    refine (table_Columns N vs1 A1 c1 _ (by omega) hR1 (fun r h => by have := hnl r h; omega)).mono ?_
    rintro e w2 ⟨v2, rfl, hb2, ho2⟩
    have hbet := cols_bet (by decide) hnm
    have hXL := cols_length (m := 12) hnl
    have hOV := hid (cols_more N row)
    have hTW := hid (fun (r : List Nd) (t : List (List Nd)) (h : N = r :: t) => (by subst h; exact cols_twice r t : cols (N ++ [r]) = cols N))
    generalize hXe : cols N = X at *
    clear hXe
    obtain ⟨A, c, rfl, hc⟩ := own_some ho2
    have hA : Recs w2 w2.heap.size A 2 Nd.cells X := Recs.of_own nd_length (by decide) ho2
    have hB := hb1.trans (hb2.mono hz1)
    replace hR1 := (hR1.below hb2).more hb2.size
    replace hRow := (hRow.below hb2).more hb2.size
    have hz2 := hB.size
    clear hb1 hb2 ho2 hz1
    -- the list of rows, and one row more
    have hW0 : Below w2.heap.size w2 (w2.alloc (.cells #[] 53)) := (Below.refl _ _).alloc (Nat.le_refl _) _
    have hown0 : (w2.alloc (.cells #[] 53)).ownsRow w2.heap.size 53 1 (.slice (some ⟨w2.heap.size, 0, none⟩) 0 0) 0 [] := own_new w2 53 #[] (Nat.le_refl _) (by simp)
    have hR1a := hR1.below hW0
    have hv1 := rows_one hR1
    go_wp2_with (refine stop_append _ _ _ _ rfl ?_)
    refine ⟨?_⟩
    refine wpList_append_seg rfl _ _ 49 rfl w2.heap.size 53 i3 (.slice none 0 0) 24 Try.underlying49 hi3 hz3 hs3 hb3 rfl (.slice (some ⟨w2.heap.size, 0, none⟩) 0 0) 0 [] rfl hown0 A1 N.length c1 w2.heap.size vs1 rfl hR1.len hc1 hnone hR1a.seg hv1 (by unfold maxLen; omega) (by omega) (by simp) ?_
    intro v3 w3 ho3 hg3
    (try simp only [Act.put, List.setIfInBounds_toArray, List.set_cons_zero, List.set_cons_succ])
    rw [Nat.zero_add, List.nil_append] at ho3
    have hw3 := hW0.trans (own_belowB hown0 hg3 (by simp))
    clear hown0 hg3 hW0 hR1a
    have hw4 : Below w2.heap.size w2 (w3.alloc (.cells #[.slice Ar row.length cr] 53)) := hw3.alloc hw3.size _
    have hown := ho3.alloc (.cells #[.slice Ar row.length cr] 53)
    go_wp2_with (refine stop_append _ _ _ _ rfl ?_)
    refine ⟨?_⟩
    refine wpList_append_own _ rfl _ _ 49 rfl w2.heap.size 53 i3 (.slice none 0 0) 1 24 Try.underlying49 hi3 hz3 hs3 hb3 rfl (by decide) v3 N.length vs1 rfl hown ⟨w3.heap.size, 0, none⟩ 1 1 [.slice Ar row.length cr] rfl rfl (news19 (Blk.new w3 53 #[.slice Ar row.length cr]) rfl) (by simp [Value.oneCell']) (by unfold maxLen; omega) (by omega) (by have := hw3.size; simp; omega) ?_
    intro v5 w5 ho5 hg5 _
    (try simp only [Act.put, List.setIfInBounds_toArray, List.set_cons_zero, List.set_cons_succ])
    have hw5 : Below w2.heap.size w2 w5 := hw4.trans (own_belowB hown hg5 (by have := hw3.size; simp; omega))
    have hz5 := hw5.size
    obtain ⟨A5, c5, hv5, hSg⟩ := own_seg ho5
    subst hv5
    have hc5 : N.length + 1 ≤ c5 := by
      obtain ⟨A', c', h1, h2⟩ := own_some ho5
      injection h1 with _ _ h3
      omega
    have hR5 : Rows2 w5 w5.heap.size A5 2 Nd.cells (vs1 ++ [.slice Ar row.length cr]) (N ++ [row]) := (hR1.below hw5).snoc ⟨_, _, rfl, hrc, (hRow.below hw5).more hz5⟩ hSg hz5
    have hcl := table_Columns (N ++ [row]) _ A5 c5 w5 (by simp; omega) hR5 (fun r h => by
      rcases List.mem_append.1 h with h | h
      · have := hnl r h; omega
      · have : r = row := by simpa using h
        subst this; omega)
    rw [show (N ++ [row]).length = N.length + 1 by simp] at hcl
    clear hown hg5 ho5 hw4 hw3 ho3 hR5 hSg
    go_wp2_with fail
    refine hcl.mono ?_
    clear hcl
    rintro e w6 ⟨v6, rfl, hb6, ho6⟩
    obtain ⟨A6, c6, rfl, hc6⟩ := own_some ho6
    have hY := Recs.of_own nd_length (by decide) ho6
    have hw6 := hw5.trans (hb6.mono hz5)
    have hz6 := hw6.size
    replace hA := hA.below hw6
    replace hR1 := hR1.below hw6
    clear ho6 hb6 hw5 hz5 hRow
    obtain ⟨Y, hYe⟩ : ∃ Y, cols (N ++ [row]) = Y := ⟨_, rfl⟩
    rw [hYe] at hOV hY ⊢
    clear hYe
    have hB6 := hB.trans (hw6.mono hz2)
    have dl : decide (Y.length < X.length) = false := decide_eq_false (by have := hOV.out.1; omega)
    have dl' : X.length ≤ Y.length := hOV.out.1
    have hXok : ∀ y ∈ X, I64 y.least ∧ I64 y.most := fun y hy => by
      obtain ⟨i, hi⟩ := List.mem_iff_getElem?.1 hy
      have h := hbet i
      rw [List.getD_eq_getElem?_getD, hi] at h
      simp only [Option.getD_some] at h
      exact ⟨⟨by omega, by omega⟩, ⟨by omega, by omega⟩⟩
    replace hXok := hid hXok
    replace hbet := hid hbet
    go_wp2_with fail
    go_loopw [9] (fun s9 wr => ∃ k : Nat, k ≤ X.length ∧ s9 = .int .i64 k ∧ Drawn w6 wr) (fun i _ => X.length - (intOf i).toNat)
    case atStart => exact ⟨0, Nat.zero_le _, rfl, .refl _⟩
    case round =>
      obtain ⟨k, hk, rfl, hd⟩ := hrel
      by_cases hlt : k < X.length
      · obtain ⟨bx, ox, x, rfl, hbx, HX, cx0, cx1⟩ := col_at (hA.drawn hd) hlt
        obtain ⟨by_, oy, y, rfl, hby, HY, cy0, cy1⟩ := col_at (hY.drawn hd) (k := k) (by omega)
        have hov := hOV.out.2 k
        rw [HX.out, HY.out] at hov
        have d1 : decide (y.least < x.least) = false := decide_eq_false (by omega)
        have d2 : decide (y.most < x.most) = false := decide_eq_false (by omega)
        have hky : k < Y.length := by omega
        have hSQ : (fun Z : World => Z.cell? ⟨by_, oy + k * 2, none⟩ = some (.int .i64 y.least) ∧ Z.cell? ⟨bx, ox + k * 2, none⟩ = some (.int .i64 x.least) ∧ Z.cell? ⟨by_, oy + k * 2 + 1, none⟩ = some (.int .i64 y.most) ∧ Z.cell? ⟨bx, ox + k * 2 + 1, none⟩ = some (.int .i64 x.most)) wr.drew := ⟨cy0, cx0, cy1, cx1⟩
        go_upto_region 11 with fail
        refine wp_region_noPanic ?_
        refine Ord.region_Q (S := fun Z : World => Z.cell? ⟨by_, oy + k * 2, none⟩ = some (.int .i64 y.least) ∧ Z.cell? ⟨bx, ox + k * 2, none⟩ = some (.int .i64 x.least) ∧ Z.cell? ⟨by_, oy + k * 2 + 1, none⟩ = some (.int .i64 y.most) ∧ Z.cell? ⟨bx, ox + k * 2 + 1, none⟩ = some (.int .i64 x.most)) 999 (.one 0 true (.one 1 true (.one 2 true (.one 3 true (.one 4 true (.one 5 true (.one 6 true (.one 7 true (.one 8 true (.one 9 true (.one 10 true (.one 11 true (.one 12 true (.one 13 true (.one 14 true (.one 15 true (.one 16 true (.one 17 true (.one 18 true (.one 19 true (.one 20 true (.one 21 true (.one 22 true (.one 23 true .nil)))))))))))))))))))))))) (by kernel_rfl) (by kernel_rfl) (by kernel_rfl) (by decide) (fun _ _ _ _ _ h => h) (hSQ) (fun hS0 => ?_)
        simp only [Ord.layT, List.getElem?_cons_zero, List.getElem?_cons_succ]
        (refine Ord.takeQ (v := ?_) (Or.inl ⟨rfl, ?_⟩) ?_; rotate_left; (intro w hSw; (try dsimp only at hSw); go_simp; try (with_reducible rfl)); (try simp only [Act.put, List.setIfInBounds_toArray, List.set_cons_zero, List.set_cons_succ]))
        (refine Ord.takeQ (v := ?_) (Or.inl ⟨rfl, ?_⟩) ?_; rotate_left; (intro w hSw; (try dsimp only at hSw); go_simp; try (with_reducible rfl)); (try simp only [Act.put, List.setIfInBounds_toArray, List.set_cons_zero, List.set_cons_succ]))
        (refine Ord.takeQ (v := ?_) (Or.inl ⟨rfl, ?_⟩) ?_; rotate_left; (intro w hSw; (try dsimp only at hSw); go_simp; try (with_reducible rfl)); (try simp only [Act.put, List.setIfInBounds_toArray, List.set_cons_zero, List.set_cons_succ]))
        (refine Ord.takeQ (v := ?_) (Or.inl ⟨rfl, ?_⟩) ?_; rotate_left; (intro w hSw; (try dsimp only at hSw); go_simp; try (with_reducible rfl)); (try simp only [Act.put, List.setIfInBounds_toArray, List.set_cons_zero, List.set_cons_succ]))
        (refine Ord.takeQ (v := ?_) (Or.inl ⟨rfl, ?_⟩) ?_; rotate_left; (intro w hSw; (try dsimp only at hSw); go_simp; try (with_reducible rfl)); (try simp only [Act.put, List.setIfInBounds_toArray, List.set_cons_zero, List.set_cons_succ]))
        (refine Ord.takeQ (v := ?_) (Or.inl ⟨rfl, ?_⟩) ?_; rotate_left; (intro w hSw; (try dsimp only at hSw); go_simp; try (with_reducible rfl)); (try simp only [Act.put, List.setIfInBounds_toArray, List.set_cons_zero, List.set_cons_succ]))
        (refine Ord.takeQ (v := ?_) (Or.inl ⟨rfl, ?_⟩) ?_; rotate_left; (intro w hSw; (try dsimp only at hSw); go_simp; try (with_reducible rfl)); (try simp only [Act.put, List.setIfInBounds_toArray, List.set_cons_zero, List.set_cons_succ]))
        (refine Ord.takeQ (v := ?_) (Or.inl ⟨rfl, ?_⟩) ?_; rotate_left; (intro w hSw; (try dsimp only at hSw); go_simp; try (with_reducible rfl)); (try simp only [Act.put, List.setIfInBounds_toArray, List.set_cons_zero, List.set_cons_succ]))
        (refine Ord.takeQ (v := ?_) (Or.inl ⟨rfl, ?_⟩) ?_; rotate_left; (intro w hSw; (try dsimp only at hSw); go_simp; try (with_reducible rfl)); (try simp only [Act.put, List.setIfInBounds_toArray, List.set_cons_zero, List.set_cons_succ]))
        (refine Ord.takeQ (v := ?_) (Or.inl ⟨rfl, ?_⟩) ?_; rotate_left; (intro w hSw; (try dsimp only at hSw); go_simp; try (with_reducible rfl)); (try simp only [Act.put, List.setIfInBounds_toArray, List.set_cons_zero, List.set_cons_succ]))
        (refine Ord.takeQ (v := ?_) (Or.inl ⟨rfl, ?_⟩) ?_; rotate_left; (intro w hSw; (try dsimp only at hSw); go_simp; try (with_reducible rfl)); (try simp only [Act.put, List.setIfInBounds_toArray, List.set_cons_zero, List.set_cons_succ]))
        (refine Ord.takeQ (v := ?_) (Or.inl ⟨rfl, ?_⟩) ?_; rotate_left; (intro w hSw; (try dsimp only at hSw); go_simp; try (with_reducible rfl)); (try simp only [Act.put, List.setIfInBounds_toArray, List.set_cons_zero, List.set_cons_succ]))
        (refine Ord.takeQ (v := ?_) (Or.inl ⟨rfl, ?_⟩) ?_; rotate_left; (intro w hSw; (try dsimp only at hSw); go_simp; try (with_reducible rfl)); (try simp only [Act.put, List.setIfInBounds_toArray, List.set_cons_zero, List.set_cons_succ]))
        (refine Ord.takeQ (v := ?_) (Or.inl ⟨rfl, ?_⟩) ?_; rotate_left; (intro w hSw; (try dsimp only at hSw); go_simp; try (with_reducible rfl)); (try simp only [Act.put, List.setIfInBounds_toArray, List.set_cons_zero, List.set_cons_succ]))
        (refine Ord.takeQ (v := ?_) (Or.inl ⟨rfl, ?_⟩) ?_; rotate_left; (intro w hSw; (try dsimp only at hSw); go_simp; try (with_reducible rfl)); (try simp only [Act.put, List.setIfInBounds_toArray, List.set_cons_zero, List.set_cons_succ]))
        (refine Ord.takeQ (v := ?_) (Or.inl ⟨rfl, ?_⟩) ?_; rotate_left; (intro w hSw; (try dsimp only at hSw); go_simp; try (with_reducible rfl)); (try simp only [Act.put, List.setIfInBounds_toArray, List.set_cons_zero, List.set_cons_succ]))
        (refine Ord.takeQ (v := ?_) (Or.inl ⟨rfl, ?_⟩) ?_; rotate_left; (intro w hSw; (try dsimp only at hSw); go_simp; try (with_reducible rfl)); (try simp only [Act.put, List.setIfInBounds_toArray, List.set_cons_zero, List.set_cons_succ]))
        (refine Ord.takeQ (v := ?_) (Or.inl ⟨rfl, ?_⟩) ?_; rotate_left; (intro w hSw; (try dsimp only at hSw); go_simp; try (with_reducible rfl)); (try simp only [Act.put, List.setIfInBounds_toArray, List.set_cons_zero, List.set_cons_succ]))
        (refine Ord.takeQ (v := ?_) (Or.inl ⟨rfl, ?_⟩) ?_; rotate_left; (intro w hSw; (try dsimp only at hSw); go_simp; try (with_reducible rfl)); (try simp only [Act.put, List.setIfInBounds_toArray, List.set_cons_zero, List.set_cons_succ]))
        (refine Ord.takeQ (v := ?_) (Or.inl ⟨rfl, ?_⟩) ?_; rotate_left; (intro w hSw; (try dsimp only at hSw); go_simp; try (with_reducible rfl)); (try simp only [Act.put, List.setIfInBounds_toArray, List.set_cons_zero, List.set_cons_succ]))
        (refine Ord.takeQ (v := ?_) (Or.inl ⟨rfl, ?_⟩) ?_; rotate_left; (intro w hSw; (try dsimp only at hSw); go_simp; try (with_reducible rfl)); (try simp only [Act.put, List.setIfInBounds_toArray, List.set_cons_zero, List.set_cons_succ]))
        (refine Ord.takeQ (v := ?_) (Or.inl ⟨rfl, ?_⟩) ?_; rotate_left; (intro w hSw; (try dsimp only at hSw); go_simp; try (with_reducible rfl)); (try simp only [Act.put, List.setIfInBounds_toArray, List.set_cons_zero, List.set_cons_succ]))
        (refine Ord.takeQ (v := ?_) (Or.inl ⟨rfl, ?_⟩) ?_; rotate_left; (intro w hSw; (try dsimp only at hSw); go_simp; try (with_reducible rfl)); (try simp only [Act.put, List.setIfInBounds_toArray, List.set_cons_zero, List.set_cons_succ]))
        (refine Ord.takeQ (v := ?_) (Or.inl ⟨rfl, ?_⟩) ?_; rotate_left; (intro w hSw; (try dsimp only at hSw); go_simp; try (with_reducible rfl)); (try simp only [Act.put, List.setIfInBounds_toArray, List.set_cons_zero, List.set_cons_succ]))
        refine Ord.doneQ (NoPanic.normal ?_)
        clear hSQ
        go_wp2_with fail
        go_roundw
        case rel => exact ⟨k + 1, by omega, by go_num, hd.drew⟩
        case measure => simp [intOf]; omega
      · obtain rfl : k = X.length := by omega
        have hBr := hB6.trans (hd.below _)
        rcases Nat.eq_zero_or_pos N.length with h0 | h0
        · have d1 : ((N.length : Int) == 0) = true := beq_iff_eq.2 (by omega)
          have d2 : (N.length == 0) = true := beq_iff_eq.2 h0
          replace h0 := hid h0
          go_wp2_with fail
          refine (known19 _).mono ?_
          rintro e w8 ⟨rfl, hb8⟩
          go_wp2_with fail
          go_ret
          exact ⟨rfl, hBr.trans (hb8.mono hBr.size)⟩
        · have d1 : ((N.length : Int) == 0) = false := beq_eq_false_iff_ne.2 (by omega)
          have d2 : (N.length == 0) = false := beq_eq_false_iff_ne.2 (by omega)
          have hRr := (hR1.below (hd.below _)).more (B' := wr.heap.size) (by rw [hd.heap]; exact hz6)
          have hAr := (hA.drawn hd).more (B' := wr.heap.size) (by rw [hd.heap]; exact hz6)
          obtain ⟨b, off, A', c', r, rfl, hb, HR, cr0, hrc', hRq⟩ := Rows2.at_ hRr (k := 0) h0
          rw [Nat.add_zero] at cr0
          have hNe : N = r :: N.tail := by
            have := HR.out
            cases N with
            | nil => simp at this
            | cons a t => simp at this; subst this; rfl
          have hcolX := hTW.out r N.tail hNe
          have hrl : r.length ≤ 12 := hnl r (by rw [hNe]; simp)
          have hzr := hBr.size
          replace hcolX := hid hcolX
          clear hNe hA hR1 hY hB hB6 hw6 hd hTW hOV
          have hSK : ∀ Z, Below wr.heap.size wr Z → (fun Z : World => Below wr.heap.size wr Z ∧ Z.cell? ⟨b, off, none⟩ = some (.slice A' r.length c')) Z := fun Z h => ⟨h, (h.cell (p := ⟨b, off, none⟩) hb).trans cr0⟩
          have hdb : Below wr.heap.size wr wr.drew := (Drawn.refl wr).drew.below _
          have hvr := rows_one hRr
          go_upto_region 15 with fail
          refine wp_region_noPanic ?_
          refine Ord.region_Q (S := fun Z : World => Below wr.heap.size wr Z ∧ Z.cell? ⟨b, off, none⟩ = some (.slice A' r.length c')) 999 (.one 1 true (.one 3 true (.one 4 true (.one 5 true (.one 9 true (.two 0 (.two 2 (.one 6 false (.one 7 false (.one 8 false (.one 10 false (.one 11 true (.one 12 false (.one 13 true (.one 14 true .nil)))))))) 6 (.one 2 false (.one 7 false (.one 8 false (.one 10 false (.one 11 true (.one 12 false (.one 13 true (.one 14 true .nil))))))))) 6 (.one 0 false (.one 2 false (.one 7 false (.one 8 false (.one 10 false (.one 11 true (.one 12 false (.one 13 true (.one 14 true .nil))))))))))))))) (by kernel_rfl) (by kernel_rfl) (by kernel_rfl) (by decide) (fun _ _ _ _ _ h => h) (hSK _ hdb) (fun hS0 => ?_)
          simp only [Ord.layT, List.getElem?_cons_zero, List.getElem?_cons_succ]
          (refine Ord.takeQ (v := ?_) (Or.inl ⟨rfl, ?_⟩) ?_; rotate_left; (intro w hSw; (try dsimp only at hSw); go_simp; try (with_reducible rfl)); (try simp only [Act.put, List.setIfInBounds_toArray, List.set_cons_zero, List.set_cons_succ]))
          (refine Ord.takeQ (v := ?_) (Or.inl ⟨rfl, ?_⟩) ?_; rotate_left; (intro w hSw; (try dsimp only at hSw); go_simp; try (with_reducible rfl)); (try simp only [Act.put, List.setIfInBounds_toArray, List.set_cons_zero, List.set_cons_succ]))
          (refine Ord.takeQ (v := ?_) (Or.inl ⟨rfl, ?_⟩) ?_; rotate_left; (intro w hSw; (try dsimp only at hSw); go_simp; try (with_reducible rfl)); (try simp only [Act.put, List.setIfInBounds_toArray, List.set_cons_zero, List.set_cons_succ]))
          (refine Ord.takeQ (v := ?_) (Or.inl ⟨rfl, ?_⟩) ?_; rotate_left; (intro w hSw; (try dsimp only at hSw); go_simp; try (with_reducible rfl)); (try simp only [Act.put, List.setIfInBounds_toArray, List.set_cons_zero, List.set_cons_succ]))
          (refine Ord.takeQ (v := ?_) (Or.inl ⟨rfl, ?_⟩) ?_; rotate_left; (intro w hSw; (try dsimp only at hSw); go_simp; try (with_reducible rfl)); (try simp only [Act.put, List.setIfInBounds_toArray, List.set_cons_zero, List.set_cons_succ]))
          refine Ord.twoQ rfl rfl rfl rfl (fun K hK => ?_) (fun K hK => ?_)
          · have hbA : Below wr.heap.size wr (wr.drew.alloc (.cells #[] 53)) := hdb.trans ((Below.refl wr.heap.size wr.drew).alloc (Nat.le_refl _) _)
            have hoA : (wr.drew.alloc (.cells #[] 53)).ownsRow wr.heap.size 53 1 (.slice (some ⟨wr.heap.size, 0, none⟩) 0 0) 0 [] := own_new wr.drew 53 #[] (Nat.le_refl _) (by simp)
            refine wp_exec (v := (.slice (some ⟨wr.heap.size, 0, none⟩) 0 0)) (w' := (wr.drew.alloc (.cells #[] 53))) (by kernel_rfl) ?_
            (try simp only [Act.put, List.setIfInBounds_toArray, List.set_cons_zero, List.set_cons_succ])
            refine hK.out _ _ (hSK _ hbA) (fun _ => ?_)
            clear hK K
            refine Ord.twoQ rfl rfl rfl rfl (fun K hK => ?_) (fun K hK => ?_)
            · refine wp_append_own _ _ _ 49 rfl wr.heap.size 53 i3 (.slice none 0 0) 1 24 Try.underlying49 hi3 hz3 hs3 hb3 rfl (by decide) (.slice (some ⟨wr.heap.size, 0, none⟩) 0 0) _ _ rfl hoA ⟨b, off, none⟩ N.length c1 vs1 rfl (by rw [hRr.len]; simp) (seg_news (hRr.below hbA).seg) hvr (by unfold maxLen; omega) (by omega) (by first | omega | (simp; done) | (simp; omega)) ?_
              intro v2 w9 ho9 hg9 _
              rw [Nat.zero_add, List.nil_append] at ho9
              have hb9 := hbA.trans (own_belowB hoA hg9 (by first | omega | (simp; done) | (simp; omega)))
              (try simp only [Act.put, List.setIfInBounds_toArray, List.set_cons_zero, List.set_cons_succ])
              refine hK.out _ _ (hSK _ hb9) (fun _ => ?_)
              clear hK K
              refine Ord.aloneQ rfl rfl (fun K hK => ?_)
              have hbB : Below wr.heap.size wr (w9.alloc (.cells #[.slice A' r.length c'] 53)) := hb9.alloc hb9.size _
              refine wp_exec (v := (.slice (some ⟨w9.heap.size, 0, none⟩) 1 1)) (w' := (w9.alloc (.cells #[.slice A' r.length c'] 53))) (by kernel_rfl) ?_
              (try simp only [Act.put, List.setIfInBounds_toArray, List.set_cons_zero, List.set_cons_succ])
              refine hK.out _ _ (hSK _ hbB) (fun _ => ?_)
              clear hK K
              have hoB := ho9.alloc (.cells #[.slice A' r.length c'] 53)
              have hkB := Blk.new w9 53 #[.slice A' r.length c']
              clear ho9 hg9 hoA
              refine Ord.aloneQ rfl rfl (fun K hK => ?_)
              refine wp_append_own _ _ _ 49 rfl wr.heap.size 53 i3 (.slice none 0 0) 1 24 Try.underlying49 hi3 hz3 hs3 hb3 rfl (by decide) _ _ _ rfl hoB ⟨w9.heap.size, 0, none⟩ 1 1 [.slice A' r.length c'] rfl rfl (news19 hkB rfl) (by simp [Value.oneCell']) (by unfold maxLen; omega) (by omega) (by have := (hbB).size; simp at this ⊢; omega) ?_
              intro v7 w7 ho7 hg7 _
              have hb7 := (hbB).trans (own_belowB hoB hg7 (by have := (hbB).size; simp at this ⊢; omega))
              have hz7 := hb7.size
              obtain ⟨A7, c7, hv7, hSg7⟩ := own_seg ho7
              subst hv7
              have hR7 : Rows2 w7 w7.heap.size A7 2 Nd.cells (vs1 ++ [.slice A' r.length c']) (N ++ [r]) := (hRr.below hb7).snoc ⟨_, _, rfl, hrc', (hRq.below hb7).more hz7⟩ hSg7 hz7
              have hcl := table_Columns (N ++ [r]) _ A7 c7 w7 (by simp; omega) hR7 (fun q h => by
                rcases List.mem_append.1 h with h | h
                · have := hnl q h; omega
                · have : q = r := by simpa using h
                  subst this; omega)
              rw [hcolX.out, show (N ++ [r]).length = N.length + 1 by simp] at hcl
              clear hSg7 hR7 ho7 hg7
              (try simp only [Act.put, List.setIfInBounds_toArray, List.set_cons_zero, List.set_cons_succ])
              refine hK.out _ _ (hSK _ hb7) (fun _ => ?_)
              clear hK K
              refine Ord.aloneQ rfl rfl (fun K hK => ?_)
              go_simp
              refine hcl.mono ?_
              clear hcl
              rintro e w8 ⟨v8, rfl, hb8, ho8⟩
              obtain ⟨A8, c8, rfl, hc8⟩ := own_some ho8
              have hY8 := Recs.of_own nd_length (by decide) ho8
              have hw8 := hb7.trans (hb8.mono hz7)
              clear ho8 hb8
              go_wp2_with fail
              (try simp only [Act.put, List.setIfInBounds_toArray, List.set_cons_zero, List.set_cons_succ])
              refine hK.out _ _ (hSK _ hw8) (fun _ => ?_)
              clear hK K
              refine Ord.aloneQ rfl rfl (fun K hK => ?_)
              go_simp
              refine (need_Same X _ _ c8 c _ _ _ (by omega) hXok.out hY8 (hAr.below hw8)).mono ?_
              rintro e w9 ⟨rfl, hd9⟩
              have hw9 := hw8.trans (hd9.below _)
              clear hY8 hd9
              go_wp2_with fail
              (try simp only [Act.put, List.setIfInBounds_toArray, List.set_cons_zero, List.set_cons_succ])
              refine hK.out _ _ (hSK _ hw9) (fun _ => ?_)
              clear hK K
              (refine Ord.takeQ (v := ?_) (Or.inl ⟨rfl, ?_⟩) ?_; rotate_left; (intro w hSw; (try dsimp only at hSw); go_simp; try (with_reducible rfl)); (try simp only [Act.put, List.setIfInBounds_toArray, List.set_cons_zero, List.set_cons_succ]))
              refine Ord.aloneQ rfl rfl (fun K hK => ?_)
              go_simp
              refine (known19 _).mono ?_
              rintro e w10 ⟨rfl, hb10⟩
              have hw10 := hw9.trans (hb10.mono hw9.size)
              go_wp2_with fail
              (try simp only [Act.put, List.setIfInBounds_toArray, List.set_cons_zero, List.set_cons_succ])
              refine hK.out _ _ (hSK _ hw10) (fun _ => ?_)
              clear hK K
              (refine Ord.takeQ (v := ?_) (Or.inl ⟨rfl, ?_⟩) ?_; rotate_left; (intro w hSw; (try dsimp only at hSw); go_simp; try (with_reducible rfl)); (try simp only [Act.put, List.setIfInBounds_toArray, List.set_cons_zero, List.set_cons_succ]))
              (refine Ord.takeQ (v := ?_) (Or.inl ⟨rfl, ?_⟩) ?_; rotate_left; (intro w hSw; (try dsimp only at hSw); go_simp; try (with_reducible rfl)); (try simp only [Act.put, List.setIfInBounds_toArray, List.set_cons_zero, List.set_cons_succ]))
              refine Ord.doneQ (NoPanic.normal ?_)
              go_wp2_with fail
              go_ret
              exact ⟨rfl, hBr.trans (hw10.mono hzr)⟩
            · have hbB : Below wr.heap.size wr ((wr.drew.alloc (.cells #[] 53)).alloc (.cells #[.slice A' r.length c'] 53)) := hbA.alloc (by simp) _
              have hkB : Blk ((wr.drew.alloc (.cells #[] 53)).alloc (.cells #[.slice A' r.length c'] 53)) (wr.drew.alloc (.cells #[] 53)).heap.size 53 #[.slice A' r.length c'] := Blk.new (wr.drew.alloc (.cells #[] 53)) 53 #[.slice A' r.length c']
              have hoB := hoA.alloc (.cells #[.slice A' r.length c'] 53)
              refine wp_exec (v := (.slice (some ⟨(wr.drew.alloc (.cells #[] 53)).heap.size, 0, none⟩) 1 1)) (w' := ((wr.drew.alloc (.cells #[] 53)).alloc (.cells #[.slice A' r.length c'] 53))) (by kernel_rfl) ?_
              (try simp only [Act.put, List.setIfInBounds_toArray, List.set_cons_zero, List.set_cons_succ])
              refine hK.out _ _ (hSK _ hbB) (fun _ => ?_)
              clear hK K
              refine Ord.aloneQ rfl rfl (fun K hK => ?_)
              refine wp_append_own _ _ _ 49 rfl wr.heap.size 53 i3 (.slice none 0 0) 1 24 Try.underlying49 hi3 hz3 hs3 hb3 rfl (by decide) (.slice (some ⟨wr.heap.size, 0, none⟩) 0 0) _ _ rfl hoB ⟨b, off, none⟩ N.length c1 vs1 rfl (by rw [hRr.len]; simp) (seg_news (hRr.below hbB).seg) hvr (by unfold maxLen; omega) (by omega) (by first | omega | (simp; done) | (simp; omega)) ?_
              intro v2 w9 ho9 hg9 _
              rw [Nat.zero_add, List.nil_append] at ho9
              have hb9 := hbB.trans (own_belowB hoB hg9 (by first | omega | (simp; done) | (simp; omega)))
              (try simp only [Act.put, List.setIfInBounds_toArray, List.set_cons_zero, List.set_cons_succ])
              refine hK.out _ _ (hSK _ hb9) (fun _ => ?_)
              clear hK K
              have hkC : Blk w9 (wr.drew.alloc (.cells #[] 53)).heap.size 53 #[.slice A' r.length c'] := (hg9.block _ hkB.lt (by simp [Value.ownBlock])).trans hkB
              clear hkB hg9 hoA hoB
              refine Ord.aloneQ rfl rfl (fun K hK => ?_)
              refine wp_append_own _ _ _ 49 rfl wr.heap.size 53 i3 (.slice none 0 0) 1 24 Try.underlying49 hi3 hz3 hs3 hb3 rfl (by decide) _ _ _ rfl ho9 ⟨(wr.drew.alloc (.cells #[] 53)).heap.size, 0, none⟩ 1 1 [.slice A' r.length c'] rfl rfl (news19 hkC rfl) (by simp [Value.oneCell']) (by unfold maxLen; omega) (by omega) (by have := (hb9).size; simp at this ⊢; omega) ?_
              intro v7 w7 ho7 hg7 _
              have hb7 := (hb9).trans (own_belowB ho9 hg7 (by have := (hb9).size; simp at this ⊢; omega))
              have hz7 := hb7.size
              obtain ⟨A7, c7, hv7, hSg7⟩ := own_seg ho7
              subst hv7
              have hR7 : Rows2 w7 w7.heap.size A7 2 Nd.cells (vs1 ++ [.slice A' r.length c']) (N ++ [r]) := (hRr.below hb7).snoc ⟨_, _, rfl, hrc', (hRq.below hb7).more hz7⟩ hSg7 hz7
              have hcl := table_Columns (N ++ [r]) _ A7 c7 w7 (by simp; omega) hR7 (fun q h => by
                rcases List.mem_append.1 h with h | h
                · have := hnl q h; omega
                · have : q = r := by simpa using h
                  subst this; omega)
              rw [hcolX.out, show (N ++ [r]).length = N.length + 1 by simp] at hcl
              clear hSg7 hR7 ho7 hg7
              (try simp only [Act.put, List.setIfInBounds_toArray, List.set_cons_zero, List.set_cons_succ])
              refine hK.out _ _ (hSK _ hb7) (fun _ => ?_)
              clear hK K
              refine Ord.aloneQ rfl rfl (fun K hK => ?_)
              go_simp
              refine hcl.mono ?_
              clear hcl
              rintro e w8 ⟨v8, rfl, hb8, ho8⟩
              obtain ⟨A8, c8, rfl, hc8⟩ := own_some ho8
              have hY8 := Recs.of_own nd_length (by decide) ho8
              have hw8 := hb7.trans (hb8.mono hz7)
              clear ho8 hb8
              go_wp2_with fail
              (try simp only [Act.put, List.setIfInBounds_toArray, List.set_cons_zero, List.set_cons_succ])
              refine hK.out _ _ (hSK _ hw8) (fun _ => ?_)
              clear hK K
              refine Ord.aloneQ rfl rfl (fun K hK => ?_)
              go_simp
              refine (need_Same X _ _ c8 c _ _ _ (by omega) hXok.out hY8 (hAr.below hw8)).mono ?_
              rintro e w9 ⟨rfl, hd9⟩
              have hw9 := hw8.trans (hd9.below _)
              clear hY8 hd9
              go_wp2_with fail
              (try simp only [Act.put, List.setIfInBounds_toArray, List.set_cons_zero, List.set_cons_succ])
              refine hK.out _ _ (hSK _ hw9) (fun _ => ?_)
              clear hK K
              (refine Ord.takeQ (v := ?_) (Or.inl ⟨rfl, ?_⟩) ?_; rotate_left; (intro w hSw; (try dsimp only at hSw); go_simp; try (with_reducible rfl)); (try simp only [Act.put, List.setIfInBounds_toArray, List.set_cons_zero, List.set_cons_succ]))
              refine Ord.aloneQ rfl rfl (fun K hK => ?_)
              go_simp
              refine (known19 _).mono ?_
              rintro e w10 ⟨rfl, hb10⟩
              have hw10 := hw9.trans (hb10.mono hw9.size)
              go_wp2_with fail
              (try simp only [Act.put, List.setIfInBounds_toArray, List.set_cons_zero, List.set_cons_succ])
              refine hK.out _ _ (hSK _ hw10) (fun _ => ?_)
              clear hK K
              (refine Ord.takeQ (v := ?_) (Or.inl ⟨rfl, ?_⟩) ?_; rotate_left; (intro w hSw; (try dsimp only at hSw); go_simp; try (with_reducible rfl)); (try simp only [Act.put, List.setIfInBounds_toArray, List.set_cons_zero, List.set_cons_succ]))
              (refine Ord.takeQ (v := ?_) (Or.inl ⟨rfl, ?_⟩) ?_; rotate_left; (intro w hSw; (try dsimp only at hSw); go_simp; try (with_reducible rfl)); (try simp only [Act.put, List.setIfInBounds_toArray, List.set_cons_zero, List.set_cons_succ]))
              refine Ord.doneQ (NoPanic.normal ?_)
              go_wp2_with fail
              go_ret
              exact ⟨rfl, hBr.trans (hw10.mono hzr)⟩
          · have hbA : Below wr.heap.size wr (wr.drew.alloc (.cells #[.slice A' r.length c'] 53)) := hdb.trans ((Below.refl wr.heap.size wr.drew).alloc (Nat.le_refl _) _)
            have hkA : Blk (wr.drew.alloc (.cells #[.slice A' r.length c'] 53)) wr.heap.size 53 #[.slice A' r.length c'] := Blk.new wr.drew _ _
            refine wp_exec (v := (.slice (some ⟨wr.heap.size, 0, none⟩) 1 1)) (w' := (wr.drew.alloc (.cells #[.slice A' r.length c'] 53))) (by kernel_rfl) ?_
            (try simp only [Act.put, List.setIfInBounds_toArray, List.set_cons_zero, List.set_cons_succ])
            refine hK.out _ _ (hSK _ hbA) (fun _ => ?_)
            clear hK K
            refine Ord.aloneQ rfl rfl (fun K hK => ?_)
            have hbB : Below wr.heap.size wr ((wr.drew.alloc (.cells #[.slice A' r.length c'] 53)).alloc (.cells #[] 53)) := hbA.alloc (by simp) _
            have hoB : ((wr.drew.alloc (.cells #[.slice A' r.length c'] 53)).alloc (.cells #[] 53)).ownsRow wr.heap.size 53 1 (.slice (some ⟨(wr.drew.alloc (.cells #[.slice A' r.length c'] 53)).heap.size, 0, none⟩) 0 0) 0 [] := own_new (wr.drew.alloc (.cells #[.slice A' r.length c'] 53)) 53 #[] (by simp) (by simp)
            refine wp_exec (v := (.slice (some ⟨(wr.drew.alloc (.cells #[.slice A' r.length c'] 53)).heap.size, 0, none⟩) 0 0)) (w' := ((wr.drew.alloc (.cells #[.slice A' r.length c'] 53)).alloc (.cells #[] 53))) (by kernel_rfl) ?_
            (try simp only [Act.put, List.setIfInBounds_toArray, List.set_cons_zero, List.set_cons_succ])
            refine hK.out _ _ (hSK _ hbB) (fun _ => ?_)
            clear hK K
            have hkB := hkA.alloc (.cells #[] 53)
            refine Ord.aloneQ rfl rfl (fun K hK => ?_)
            refine wp_append_own _ _ _ 49 rfl wr.heap.size 53 i3 (.slice none 0 0) 1 24 Try.underlying49 hi3 hz3 hs3 hb3 rfl (by decide) (.slice (some ⟨(wr.drew.alloc (.cells #[.slice A' r.length c'] 53)).heap.size, 0, none⟩) 0 0) _ _ rfl hoB ⟨b, off, none⟩ N.length c1 vs1 rfl (by rw [hRr.len]; simp) (seg_news (hRr.below hbB).seg) hvr (by unfold maxLen; omega) (by omega) (by first | omega | (simp; done) | (simp; omega)) ?_
            intro v2 w9 ho9 hg9 _
            rw [Nat.zero_add, List.nil_append] at ho9
            have hb9 := hbB.trans (own_belowB hoB hg9 (by first | omega | (simp; done) | (simp; omega)))
            (try simp only [Act.put, List.setIfInBounds_toArray, List.set_cons_zero, List.set_cons_succ])
            refine hK.out _ _ (hSK _ hb9) (fun _ => ?_)
            clear hK K
            have hkC : Blk w9 wr.heap.size 53 #[.slice A' r.length c'] := (hg9.block _ hkB.lt (by simp [Value.ownBlock])).trans hkB
            clear hkA hkB hg9 hoB
            refine Ord.aloneQ rfl rfl (fun K hK => ?_)
            refine wp_append_own _ _ _ 49 rfl wr.heap.size 53 i3 (.slice none 0 0) 1 24 Try.underlying49 hi3 hz3 hs3 hb3 rfl (by decide) _ _ _ rfl ho9 ⟨wr.heap.size, 0, none⟩ 1 1 [.slice A' r.length c'] rfl rfl (news19 hkC rfl) (by simp [Value.oneCell']) (by unfold maxLen; omega) (by omega) (by have := (hb9).size; simp at this ⊢; omega) ?_
            intro v7 w7 ho7 hg7 _
            have hb7 := (hb9).trans (own_belowB ho9 hg7 (by have := (hb9).size; simp at this ⊢; omega))
            have hz7 := hb7.size
            obtain ⟨A7, c7, hv7, hSg7⟩ := own_seg ho7
            subst hv7
            have hR7 : Rows2 w7 w7.heap.size A7 2 Nd.cells (vs1 ++ [.slice A' r.length c']) (N ++ [r]) := (hRr.below hb7).snoc ⟨_, _, rfl, hrc', (hRq.below hb7).more hz7⟩ hSg7 hz7
            have hcl := table_Columns (N ++ [r]) _ A7 c7 w7 (by simp; omega) hR7 (fun q h => by
              rcases List.mem_append.1 h with h | h
              · have := hnl q h; omega
              · have : q = r := by simpa using h
                subst this; omega)
            rw [hcolX.out, show (N ++ [r]).length = N.length + 1 by simp] at hcl
            clear hSg7 hR7 ho7 hg7
            (try simp only [Act.put, List.setIfInBounds_toArray, List.set_cons_zero, List.set_cons_succ])
            refine hK.out _ _ (hSK _ hb7) (fun _ => ?_)
            clear hK K
            refine Ord.aloneQ rfl rfl (fun K hK => ?_)
            go_simp
            refine hcl.mono ?_
            clear hcl
            rintro e w8 ⟨v8, rfl, hb8, ho8⟩
            obtain ⟨A8, c8, rfl, hc8⟩ := own_some ho8
            have hY8 := Recs.of_own nd_length (by decide) ho8
            have hw8 := hb7.trans (hb8.mono hz7)
            clear ho8 hb8
            go_wp2_with fail
            (try simp only [Act.put, List.setIfInBounds_toArray, List.set_cons_zero, List.set_cons_succ])
            refine hK.out _ _ (hSK _ hw8) (fun _ => ?_)
            clear hK K
            refine Ord.aloneQ rfl rfl (fun K hK => ?_)
            go_simp
            refine (need_Same X _ _ c8 c _ _ _ (by omega) hXok.out hY8 (hAr.below hw8)).mono ?_
            rintro e w9 ⟨rfl, hd9⟩
            have hw9 := hw8.trans (hd9.below _)
            clear hY8 hd9
            go_wp2_with fail
            (try simp only [Act.put, List.setIfInBounds_toArray, List.set_cons_zero, List.set_cons_succ])
            refine hK.out _ _ (hSK _ hw9) (fun _ => ?_)
            clear hK K
            (refine Ord.takeQ (v := ?_) (Or.inl ⟨rfl, ?_⟩) ?_; rotate_left; (intro w hSw; (try dsimp only at hSw); go_simp; try (with_reducible rfl)); (try simp only [Act.put, List.setIfInBounds_toArray, List.set_cons_zero, List.set_cons_succ]))
            refine Ord.aloneQ rfl rfl (fun K hK => ?_)
            go_simp
            refine (known19 _).mono ?_
            rintro e w10 ⟨rfl, hb10⟩
            have hw10 := hw9.trans (hb10.mono hw9.size)
            go_wp2_with fail
            (try simp only [Act.put, List.setIfInBounds_toArray, List.set_cons_zero, List.set_cons_succ])
            refine hK.out _ _ (hSK _ hw10) (fun _ => ?_)
            clear hK K
            (refine Ord.takeQ (v := ?_) (Or.inl ⟨rfl, ?_⟩) ?_; rotate_left; (intro w hSw; (try dsimp only at hSw); go_simp; try (with_reducible rfl)); (try simp only [Act.put, List.setIfInBounds_toArray, List.set_cons_zero, List.set_cons_succ]))
            (refine Ord.takeQ (v := ?_) (Or.inl ⟨rfl, ?_⟩) ?_; rotate_left; (intro w hSw; (try dsimp only at hSw); go_simp; try (with_reducible rfl)); (try simp only [Act.put, List.setIfInBounds_toArray, List.set_cons_zero, List.set_cons_succ]))
            refine Ord.doneQ (NoPanic.normal ?_)
            go_wp2_with fail
            go_ret
            exact ⟨rfl, hBr.trans (hw10.mono hzr)⟩
  · clear HQ
    go_wp2_with fail
    refine (known19 _).mono ?_
    rintro e w8 ⟨rfl, hb8⟩
    go_wp2_with fail
    go_ret
    exact ⟨rfl, hb1.trans (hb8.mono hz1)⟩
end Go.Proofs.Ytkoanijiihnioaa
