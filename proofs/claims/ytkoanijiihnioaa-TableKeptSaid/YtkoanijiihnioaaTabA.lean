/-
  Rows of rows; the walks of casementlaw19's helpers: small, some.
-/
import Derived.Test.YtkoanijiihnioaaRect0
import Derived.Test.YtkoanijiihnioaaRecs
import Derived.Test.YtkoanijiihnioaaOpen
import Derived.Test.YtkoanijiihnioaaOrdQ
import Derived.Test.YtkoanijiihnioaaMid
import Derived.Test.YtkoanijiihnioaaGrow
import Derived.Test.YtkoanijiihnioaaFloatA
import Derived.Test.YtkoanijiihnioaaPlainT2
import Derived.Deep.DeepMust
namespace Go.Proofs.Ytkoanijiihnioaa
open Go.RowKit Num Mem Opn
set_option linter.unusedVariables false
set_option linter.unusedSimpArgs false
namespace Mem
/-- rows of rows: the outer row's cells are slices, each of which holds its records. -/
structure Rows2 {α : Type} (w : World) (B : Nat) (A : Option Addr) (sz : Nat) (fl : α → List Value) (vs : List Value) (ls : List (List α)) : Prop where
  len : vs.length = ls.length
  seg : Seg w B A vs
  row : ∀ (i : Nat) (r : List α), ls[i]? = some r → ∃ A' c, vs[i]? = some (Value.slice A' r.length c) ∧ r.length ≤ c ∧ Recs w B A' sz fl r
theorem Rows2.below {α : Type} {w w' : World} {B : Nat} {A : Option Addr} {sz : Nat} {fl : α → List Value} {vs : List Value} {ls : List (List α)} (h : Rows2 w B A sz fl vs ls) (hb : Below B w w') : Rows2 w' B A sz fl vs ls :=
  ⟨h.len, h.seg.below hb, fun i r hr => by obtain ⟨A', c, h1, h2, h3⟩ := h.row i r hr; exact ⟨A', c, h1, h2, h3.below hb⟩⟩
theorem Rows2.more {α : Type} {w : World} {B B' : Nat} {A : Option Addr} {sz : Nat} {fl : α → List Value} {vs : List Value} {ls : List (List α)} (h : Rows2 w B A sz fl vs ls) (hB : B ≤ B') : Rows2 w B' A sz fl vs ls :=
  ⟨h.len, h.seg.more hB, fun i r hr => by obtain ⟨A', c, h1, h2, h3⟩ := h.row i r hr; exact ⟨A', c, h1, h2, h3.more hB⟩⟩
theorem Rows2.at_ {α : Type} {w : World} {B : Nat} {A : Option Addr} {sz : Nat} {fl : α → List Value} {vs : List Value} {ls : List (List α)} (h : Rows2 w B A sz fl vs ls) {k : Nat} (hk : k < ls.length) :
    ∃ b off A' c r, A = some ⟨b, off, none⟩ ∧ b < B ∧ Hid (ls[k]? = some r) ∧ w.cell? ⟨b, off + k, none⟩ = some (.slice A' r.length c) ∧ r.length ≤ c ∧ Recs w B A' sz fl r := by
  obtain ⟨b, off, e, hb, hc⟩ := Seg.at_ h.seg (k := k) (by rw [h.len]; exact hk)
  obtain ⟨A', c, h1, h2, h3⟩ := h.row k ls[k] (List.getElem?_eq_getElem hk)
  exact ⟨b, off, A', c, ls[k], e, hb, hid (List.getElem?_eq_getElem hk), hc.trans h1, h2, h3⟩
theorem own_some2 {w : World} {base sz n : Nat} {e : TypeId} {v : Value} {xs : List Value} (h : w.ownsRow base e sz v n xs) : ∃ A c, v = .slice A n c ∧ n ≤ c ∧ (A = none → c = 0) := by
  rcases h.2 with ⟨rfl, rfl⟩ | ⟨g, cap, cur, rfl, hg, hh, hnc, _⟩
  · exact ⟨none, 0, rfl, Nat.le_refl _, fun _ => rfl⟩
  · exact ⟨_, cap, rfl, hnc, fun h => by cases h⟩
/-- rows that lie in blocks of their own. -/
structure Inner {α : Type} (w : World) (t : TypeId) (sz : Nat) (fl : α → List Value) (vs : List Value) (D : List (List α)) : Prop where
  len : vs.length = D.length
  row : ∀ (i : Nat) (r : List α), D[i]? = some r → ∃ A' c, vs[i]? = some (Value.slice A' r.length c) ∧ r.length ≤ c ∧ (r ≠ [] → ∃ g cs, A' = some ⟨g, 0, none⟩ ∧ Blk w g t cs ∧ cs.toList.take (r.length * sz) = r.flatMap fl)
section
variable {α : Type} {w w' : World} {t : TypeId} {sz : Nat} {fl : α → List Value} {vs : List Value} {D : List (List α)}
theorem Inner.nil (w : World) (t : TypeId) (sz : Nat) (fl : α → List Value) : Inner w t sz fl [] [] := ⟨rfl, fun i r h => by simp at h⟩
theorem Inner.map (h : Inner w t sz fl vs D) (hk : ∀ g cs, Blk w g t cs → Blk w' g t cs) : Inner w' t sz fl vs D :=
  ⟨h.len, fun i r hr => by
    obtain ⟨A', c, h1, h2, h3⟩ := h.row i r hr
    refine ⟨A', c, h1, h2, fun hn => ?_⟩
    obtain ⟨g, cs, e, hb, ht⟩ := h3 hn
    exact ⟨g, cs, e, hk g cs hb, ht⟩⟩
theorem Inner.below (h : Inner w t sz fl vs D) (hb : Below w.heap.size w w') : Inner w' t sz fl vs D := h.map fun g cs hg => hg.below hb hg.lt
theorem Inner.grown {base n z : Nat} {e : TypeId} {v : Value} {xs : List Value} (h : Inner w t sz fl vs D) (ho : w.ownsRow base e z v n xs) (hg : w.grownBy w' v.ownBlock) (hne : t ≠ e) : Inner w' t sz fl vs D :=
  h.map fun g cs hb => hb.grown ho hg hne
theorem Inner.push {base n c : Nat} {A : Option Addr} {r : List α} (h : Inner w t sz fl vs D) (ho : w.ownsRow base t sz (.slice A n c) n (r.flatMap fl)) (hr : r.length = n) : Inner w t sz fl (vs ++ [Value.slice A n c]) (D ++ [r]) := by
  refine ⟨by simp [h.len], fun i q hq => ?_⟩
  rw [List.getElem?_append] at hq ⊢
  by_cases hi : i < D.length
  · rw [if_pos hi] at hq
    rw [if_pos (by rw [h.len]; exact hi)]
    exact h.row i q hq
  · rw [if_neg hi] at hq
    rw [if_neg (by rw [h.len]; exact hi), h.len]
    have h0 : i - D.length = 0 := by
      have := (List.getElem?_eq_some_iff.1 hq).1
      simp at this
      omega
    rw [h0] at hq ⊢
    have : r = q := by simpa using hq
    subst this
    rcases ho.2 with ⟨hv, h1⟩ | ⟨g, cap, cur, hv, hg, hh, hnc, hcap, hcs, htake⟩
    · injection hv with a1 a2 a3
      subst a1
      refine ⟨none, c, by simp [hr], by omega, fun hn => absurd (List.length_eq_zero_iff.1 (by omega)) hn⟩
    · injection hv with a1 a2 a3
      subst a1 a3
      refine ⟨_, _, by rw [hr]; rfl, by omega, fun _ => ⟨g, cur, rfl, hh, by rw [hr]; exact htake⟩⟩
theorem Inner.rows2 {base n c : Nat} {e : TypeId} {A : Option Addr} (h : Inner w t sz fl vs D) (ho : w.ownsRow base e 1 (.slice A n c) n vs) (hfl : ∀ x, (fl x).length = sz) : Rows2 w w.heap.size A sz fl vs D := by
  refine ⟨h.len, ?_, fun i r hr => ?_⟩
  · obtain ⟨A', c', hv, hs⟩ := own_seg ho
    injection hv with a1
    subst a1
    exact hs
  · obtain ⟨A', c', h1, h2, h3⟩ := h.row i r hr
    refine ⟨A', c', h1, h2, fun hn => ?_⟩
    obtain ⟨g, cs, rfl, hb, ht⟩ := h3 hn
    refine ⟨g, 0, rfl, hb.lt, fun k x hx j v hv => ?_⟩
    have hq := flat_get hfl hx hv
    rw [← ht] at hq
    rw [Nat.zero_add, hb.cell, ← Array.getElem?_toList]
    have hlt := (List.getElem?_eq_some_iff.1 hq).1
    rw [List.length_take] at hlt
    rw [List.getElem?_take_of_lt (by omega)] at hq
    exact hq
end
end Mem
namespace Num
/-- a number brought into 2^24, its sign kept. -/
def fw (n : Int) : Int := if n < 0 then -((-(n + 1)) % 16777216) else n % 16777216
theorem fw_lo (n : Int) : -16777215 ≤ fw n := by unfold fw; split <;> omega
theorem fw_hi (n : Int) : fw n ≤ 16777215 := by unfold fw; split <;> omega
/-- a need of the statements. -/
def nd (x : Nd) : Nd := ⟨fw x.least, fw x.most⟩
def needs (ls : List (List Nd)) : List (List Nd) := (ls.take 12).map fun r => (r.take 12).map nd
end Num
theorem nd_length (x : Nd) : x.cells.length = 2 := rfl
theorem small19_pos (n : Int) (w : World) (h : 0 ≤ n) (h2 : n ≤ 9223372036854775807) : Calls Try.prog 25 #[.int .i64 n] w fun e w' => e = .returned (.int .i64 (n % 16777216)) ∧ w = w' := by
  go_enter Try.func25, Try.ntmps25
  go_wp2_with fail
  go_ret
  exact ⟨rfl, rfl⟩
theorem small19 (n : Int) (w : World) (h : I64 n) : Calls Try.prog 25 #[.int .i64 n] w fun e w' => e = .returned (.int .i64 (fw n)) ∧ w = w' := by
  obtain ⟨h1, h2⟩ := h
  rcases Int.lt_or_le n 0 with h3 | h3
  · have HF : Hid (fw n = -((-(n + 1)) % 16777216)) := by show _ = _; unfold fw; rw [if_pos h3]
    have h4 : 0 ≤ -(n + 1) := by omega
    have h5 : -(n + 1) ≤ 9223372036854775807 := by omega
    have h6 := Int.emod_nonneg (-(n + 1)) (by omega : (16777216 : Int) ≠ 0)
    have h7 := Int.emod_lt_of_pos (-(n + 1)) (by omega : (0 : Int) < 16777216)
    go_enter Try.func25, Try.ntmps25
    go_wp2_with fail
    refine (small19_pos _ _ (by omega) (by omega)).mono ?_
    rintro e w' ⟨rfl, rfl⟩
    go_wp2_with fail
    go_ret
    exact ⟨ret_int (by rw [HF.out]), rfl⟩
  · have HF : Hid (fw n = n % 16777216) := by show _ = _; unfold fw; rw [if_neg (by omega)]
    refine (small19_pos n w h3 h2).mono ?_
    rintro e w' ⟨rfl, rfl⟩
    exact ⟨ret_int (by rw [HF.out]), rfl⟩
theorem info_need : (Try.prog.info? 58).map (fun i => (i.zero, i.size, i.bytes)) = some (some (.agg #[.int .i64 0, .int .i64 0]), 2, 16) := by kernel_rfl
theorem info_rneed : (Try.prog.info? 73).map (fun i => (i.zero, i.size, i.bytes)) = some (some (.agg #[.int .i64 0, .int .i64 0]), 2, 16) := by kernel_rfl
theorem info_needs : (Try.prog.info? 53).map (fun i => (i.zero, i.size, i.bytes)) = some (some (.slice none 0 0), 1, 24) := by kernel_rfl
theorem info_rneeds : (Try.prog.info? 71).map (fun i => (i.zero, i.size, i.bytes)) = some (some (.slice none 0 0), 1, 24) := by kernel_rfl
theorem news19 {w : World} {g : Nat} {t : TypeId} {cs : Array Value} {news : List Value} (hb : Blk w g t cs) (hn : cs.toList = news) : ∀ j u, news[j]? = some u → w.cell? ((⟨g, 0, none⟩ : Addr).add j) = some u := by
  intro j u hu
  rw [Addr.add_mid, hb.cell, Nat.zero_add, ← Array.getElem?_toList, hn, hu]
theorem wp_exec {P : Program} {o : Oper} {a : Act} {w w' : World} {v : Value} {K : Act → World → Prop} {Q : Exit → Act → World → Prop} (h : (execOp a.eval o).run P w = .ok (.value v) w') (hK : K (a.put o.dst v) w') : o.wp P a w K Q := by
  unfold Oper.wp
  rw [h]
  exact hK
theorem take_more {α : Type} {l : List α} {k : Nat} {x : α} (h : l[k]? = some x) : l.take (k + 1) = l.take k ++ [x] := by
  have hlt := (List.getElem?_eq_some_iff.1 h).1
  have h2 : l[k] = x := (List.getElem?_eq_some_iff.1 h).2
  rw [List.take_succ_eq_append_getElem hlt, h2]
theorem need_at {w : World} {B b off : Nat} {l : List Nd} (h : Recs w B (some ⟨b, off, none⟩) 2 Nd.cells l) {k : Nat} {x : Nd} (hx : l[k]? = some x) :
    w.cell? ⟨b, off + k * 2, none⟩ = some (.int .i64 x.least) ∧ w.cell? ⟨b, off + k * 2 + 1, none⟩ = some (.int .i64 x.most) := by
  obtain ⟨b', off', e, _, hc⟩ := h (by rintro rfl; simp at hx)
  injection e with e
  injection e with e1 e2 e3
  subst e1 e2
  exact ⟨hc k x hx 0 _ rfl, hc k x hx 1 _ rfl⟩
set_option maxRecDepth 100000 in
set_option maxHeartbeats 4000000 in
/-- needs of what came in, twice. -/
theorem some19 (ls : List (List Nd)) (vs : List Value) (A : Option Addr) (c : Nat) (w : World) (hl : ls.length ≤ 4611686018427387904) (hA : Rows2 w w.heap.size A 2 Nd.cells vs ls) (hw : ∀ r ∈ ls, r.length ≤ 4611686018427387904 ∧ ∀ x ∈ r, I64 x.least ∧ I64 x.most) :
    Calls Try.prog 24 #[.slice A ls.length c] w fun e w' => ∃ A1 c1 A2 c2 vs1 vs2, e = .returned (.tuple #[.slice A1 (needs ls).length c1, .slice A2 (needs ls).length c2]) ∧ (needs ls).length ≤ c1 ∧ (A1 = none → c1 = 0) ∧ Below w.heap.size w w' ∧
      Rows2 w' w'.heap.size A1 2 Nd.cells vs1 (needs ls) ∧ Rows2 w' w'.heap.size A2 2 Nd.cells vs2 (needs ls) := by
  obtain ⟨i1, hi1, hz1, hs1, hb1⟩ := info_parts info_need
  obtain ⟨i2, hi2, hz2, hs2, hb2⟩ := info_parts info_rneed
  obtain ⟨i3, hi3, hz3, hs3, hb3⟩ := info_parts info_needs
  obtain ⟨i4, hi4, hz4, hs4, hb4⟩ := info_parts info_rneeds
  obtain ⟨T, hT⟩ : ∃ T, needs ls = T := ⟨_, rfl⟩
  have HT := hid hT
  rw [hT]
  clear hT
  go_enter Try.func24, Try.ntmps24
  go_wp2_with fail
  go_loopw [4, 5, 6] (fun s4 s5 s6 wr => ∃ (k : Nat) (D : List (List Nd)) (v4 v5 : List Value), k ≤ ls.length ∧ k ≤ 12 ∧ s6 = .int .i64 k ∧ D.length = k ∧ Hid (D = (ls.take k).map fun r => (r.take 12).map nd) ∧ wr.ownsRow w.heap.size 53 1 s4 k v4 ∧ wr.ownsRow w.heap.size 71 1 s5 k v5 ∧ Inner wr 58 2 Nd.cells v4 D ∧ Inner wr 73 2 Nd.cells v5 D ∧ Below w.heap.size w wr) (fun _ _ i _ => 12 - (intOf i).toNat)
  case atStart => exact ⟨0, [], [], [], by omega, by omega, rfl, rfl, rfl, own_nil _ _ _ _, own_nil _ _ _ _, Inner.nil _ _ _ _, Inner.nil _ _ _ _, Below.refl _ _⟩
  case round =>
    obtain ⟨k, D, v4, v5, hk, hk2, rfl, hD, HD, ho, ho', hI, hI', hB⟩ := hrel
    replace hD := hid hD
    have hz := hB.size
    by_cases hlt : k < ls.length
    · by_cases hlt2 : k < 12
      · obtain ⟨b, off, A', c', r, rfl, hb, HR, cr, hrc, hRr⟩ := Rows2.at_ (hA.below hB) hlt
        obtain ⟨hrl, hrw⟩ := hw r (List.mem_of_getElem? HR.out)
        have HD2 : Hid (D ++ [(r.take 12).map nd] = (ls.take (k + 1)).map fun r => (r.take 12).map nd) := hid (by rw [take_more HR.out, List.map_append, ← HD.out]; rfl)
        have hcr : ∀ Z, Below w.heap.size w Z → Z.cell? ⟨b, off + k, none⟩ = some (.slice A' r.length c') := fun Z h => by
          obtain ⟨b2, off2, A2, c2, r2, e2, hb2, HR2, cr2, -, -⟩ := Rows2.at_ (hA.below h) hlt
          injection e2 with e2
          injection e2 with e3 e4 _
          subst e3 e4
          have c3 : Below w.heap.size w wr := hB
          have h9 := h.cell (p := ⟨b, off + k, none⟩) hb
          have h8 := hB.cell (p := ⟨b, off + k, none⟩) hb
          rw [h9, ← h8, cr]
        clear HD
        have dk : decide ((k : Int) < 12) = true := decide_eq_true (by omega)
        obtain ⟨wo, rfl⟩ : ∃ wo : World, wo = wr := ⟨_, rfl⟩
        go_wp2_with fail
        go_loopw [7, 8, 9] (fun s7 s8 s9 wr => ∃ (j : Nat) (E : List Nd), j ≤ r.length ∧ j ≤ 12 ∧ s9 = .int .i64 j ∧ E.length = j ∧ Hid (E = (r.take j).map nd) ∧ wr.ownsRow wo.heap.size 58 2 s7 j (E.flatMap Nd.cells) ∧ wr.ownsRow wo.heap.size 73 2 s8 j (E.flatMap Nd.cells) ∧ Below wo.heap.size wo wr) (fun _ _ i _ => 12 - (intOf i).toNat)
        case atStart => exact ⟨0, [], by omega, by omega, rfl, rfl, rfl, own_nil _ _ _ _, own_nil _ _ _ _, Below.refl _ _⟩
        case round =>
          obtain ⟨j, E, hj, hj2, rfl, hE, HE, hp, hp', hB2⟩ := hrel
          replace hE := hid hE
          have hz2' := hB2.size
          have hBw : Below w.heap.size w wr := hB.trans (hB2.mono hz)
          have cr' := hcr wr hBw
          by_cases hlt3 : j < r.length
          · by_cases hlt4 : j < 12
            · obtain ⟨bi, oi, x, rfl, hbi, HX, -⟩ := hRr.at_ hlt3
              obtain ⟨xw1, xw2⟩ := hrw x (List.mem_of_getElem? HX.out)
              have hSQ : ∀ Z, Below w.heap.size wo Z → (fun Z : World => Z.cell? ⟨b, off + k, none⟩ = some (.slice (some ⟨bi, oi, none⟩) r.length c') ∧ Z.cell? ⟨bi, oi + j * 2, none⟩ = some (.int .i64 x.least) ∧ Z.cell? ⟨bi, oi + j * 2 + 1, none⟩ = some (.int .i64 x.most)) Z := fun Z h => ⟨hcr Z (hB.trans h), (need_at (hRr.below h) HX.out).1, (need_at (hRr.below h) HX.out).2⟩
              have HE2 : Hid (E ++ [nd x] = (r.take (j + 1)).map nd) := hid (by rw [take_more HX.out, List.map_append, ← HE.out]; rfl)
              have HF : Hid ((E ++ [nd x]).flatMap Nd.cells = E.flatMap Nd.cells ++ [.int .i64 (fw x.least), .int .i64 (fw x.most)]) := hid (by simp [Nd.cells, nd])
              have hBo : Below w.heap.size wo wr := hB2.mono hz
              obtain ⟨A7, c7, rfl, hc7⟩ := own_some hp
              obtain ⟨A8, c8, rfl, hc8⟩ := own_some hp'
              have hcd : wr.cell? ⟨b, off + k, none⟩ = some (.slice (some ⟨bi, oi, none⟩) r.length c') := cr'
              clear HE
              have dj : decide ((j : Int) < 12) = true := decide_eq_true (by omega)
              go_upto_region 11 with fail
              go_cut [7] (fun s7 wx => ∃ v7, v7 = s7 ∧ wx.ownsRow wo.heap.size 58 2 v7 (j + 1) (E.flatMap Nd.cells ++ [.int .i64 (fw x.least), .int .i64 (fw x.most)]) ∧ wx.ownsRow wo.heap.size 73 2 (.slice A8 j c8) j (E.flatMap Nd.cells) ∧ Below wo.heap.size wo wx)
              case first =>
                refine wp_region_noPanic ?_
                refine Ord.region_Q (S := fun Z : World => Z.cell? ⟨b, off + k, none⟩ = some (.slice (some ⟨bi, oi, none⟩) r.length c') ∧ Z.cell? ⟨bi, oi + j * 2, none⟩ = some (.int .i64 x.least) ∧ Z.cell? ⟨bi, oi + j * 2 + 1, none⟩ = some (.int .i64 x.most)) 999 (.one 0 true (.one 1 true (.one 2 true (.one 3 true (.one 4 true (.one 5 true (.one 6 true (.one 7 true (.one 8 true (.one 9 true (.one 10 true (.one 11 true (.one 12 true (.one 13 true (.one 14 true (.one 15 true (.one 16 true (.one 17 true (.one 18 true (.one 19 true (.one 20 false (.one 21 false (.one 22 true .nil))))))))))))))))))))))) (by kernel_rfl) (by kernel_rfl) (by kernel_rfl) (by decide) (fun _ _ _ _ _ h => h) (hSQ _ (hBo.trans ((Drawn.refl wr).drew.below _))) (fun hS0 => ?_)
                simp only [Ord.layT, List.getElem?_cons_zero, List.getElem?_cons_succ]
                (refine Ord.takeQ (v := ?_) (Or.inl ⟨rfl, ?_⟩) ?_; rotate_left; (intro w hSw; (try dsimp only at hSw); go_simp; try (with_reducible rfl)); (try simp only [Act.put, List.setIfInBounds_toArray, List.set_cons_zero, List.set_cons_succ]))
                (refine Ord.takeQ (v := ?_) (Or.inl ⟨rfl, ?_⟩) ?_; rotate_left; (intro w hSw; (try dsimp only at hSw); go_simp; try (with_reducible rfl)); (try simp only [Act.put, List.setIfInBounds_toArray, List.set_cons_zero, List.set_cons_succ]))
                (refine Ord.takeQ (v := ?_) (Or.inl ⟨rfl, ?_⟩) ?_; rotate_left; (intro w hSw; (try dsimp only at hSw); go_simp; try (with_reducible rfl)); (try simp only [Act.put, List.setIfInBounds_toArray, List.set_cons_zero, List.set_cons_succ]))
                (refine Ord.takeQ (v := ?_) (Or.inl ⟨rfl, ?_⟩) ?_; rotate_left; (intro w hSw; (try dsimp only at hSw); go_simp; try (with_reducible rfl)); (try simp only [Act.put, List.setIfInBounds_toArray, List.set_cons_zero, List.set_cons_succ]))
                (refine Ord.takeQ (v := ?_) (Or.inl ⟨rfl, ?_⟩) ?_; rotate_left; (intro w hSw; (try dsimp only at hSw); go_simp; try (with_reducible rfl)); (try simp only [Act.put, List.setIfInBounds_toArray, List.set_cons_zero, List.set_cons_succ]))
                (refine Ord.takeQ (v := ?_) (Or.inl ⟨rfl, ?_⟩) ?_; rotate_left; (intro w hSw; (try dsimp only at hSw); go_simp; try (with_reducible rfl)); (try simp only [Act.put, List.setIfInBounds_toArray, List.set_cons_zero, List.set_cons_succ]))
                (refine Ord.takeQ (v := ?_) (Or.inl ⟨rfl, ?_⟩) ?_; rotate_left; (intro w hSw; (try dsimp only at hSw); go_simp; try (with_reducible rfl)); (try simp only [Act.put, List.setIfInBounds_toArray, List.set_cons_zero, List.set_cons_succ]))
                (refine Ord.takeQ (v := ?_) (Or.inl ⟨rfl, ?_⟩) ?_; rotate_left; (intro w hSw; (try dsimp only at hSw); go_simp; try (with_reducible rfl)); (try simp only [Act.put, List.setIfInBounds_toArray, List.set_cons_zero, List.set_cons_succ]))
                (refine Ord.takeQ (v := ?_) (Or.inl ⟨rfl, ?_⟩) ?_; rotate_left; (intro w hSw; (try dsimp only at hSw); go_simp; try (with_reducible rfl)); (try simp only [Act.put, List.setIfInBounds_toArray, List.set_cons_zero, List.set_cons_succ]))
                (refine Ord.takeC 25 #[.int .i64 x.least] rfl (fun _ _ => by kernel_rfl) (fun w hSw => small19 _ _ xw1) ?_; (try simp only [Act.put, List.setIfInBounds_toArray, List.set_cons_zero, List.set_cons_succ]))
                (refine Ord.takeQ (v := ?_) (Or.inl ⟨rfl, ?_⟩) ?_; rotate_left; (intro w hSw; (try dsimp only at hSw); go_simp; try (with_reducible rfl)); (try simp only [Act.put, List.setIfInBounds_toArray, List.set_cons_zero, List.set_cons_succ]))
                (refine Ord.takeQ (v := ?_) (Or.inl ⟨rfl, ?_⟩) ?_; rotate_left; (intro w hSw; (try dsimp only at hSw); go_simp; try (with_reducible rfl)); (try simp only [Act.put, List.setIfInBounds_toArray, List.set_cons_zero, List.set_cons_succ]))
                (refine Ord.takeQ (v := ?_) (Or.inl ⟨rfl, ?_⟩) ?_; rotate_left; (intro w hSw; (try dsimp only at hSw); go_simp; try (with_reducible rfl)); (try simp only [Act.put, List.setIfInBounds_toArray, List.set_cons_zero, List.set_cons_succ]))
                (refine Ord.takeQ (v := ?_) (Or.inl ⟨rfl, ?_⟩) ?_; rotate_left; (intro w hSw; (try dsimp only at hSw); go_simp; try (with_reducible rfl)); (try simp only [Act.put, List.setIfInBounds_toArray, List.set_cons_zero, List.set_cons_succ]))
                (refine Ord.takeQ (v := ?_) (Or.inl ⟨rfl, ?_⟩) ?_; rotate_left; (intro w hSw; (try dsimp only at hSw); go_simp; try (with_reducible rfl)); (try simp only [Act.put, List.setIfInBounds_toArray, List.set_cons_zero, List.set_cons_succ]))
                (refine Ord.takeQ (v := ?_) (Or.inl ⟨rfl, ?_⟩) ?_; rotate_left; (intro w hSw; (try dsimp only at hSw); go_simp; try (with_reducible rfl)); (try simp only [Act.put, List.setIfInBounds_toArray, List.set_cons_zero, List.set_cons_succ]))
                (refine Ord.takeQ (v := ?_) (Or.inl ⟨rfl, ?_⟩) ?_; rotate_left; (intro w hSw; (try dsimp only at hSw); go_simp; try (with_reducible rfl)); (try simp only [Act.put, List.setIfInBounds_toArray, List.set_cons_zero, List.set_cons_succ]))
                (refine Ord.takeQ (v := ?_) (Or.inl ⟨rfl, ?_⟩) ?_; rotate_left; (intro w hSw; (try dsimp only at hSw); go_simp; try (with_reducible rfl)); (try simp only [Act.put, List.setIfInBounds_toArray, List.set_cons_zero, List.set_cons_succ]))
                (refine Ord.takeC 25 #[.int .i64 x.most] rfl (fun _ _ => by kernel_rfl) (fun w hSw => small19 _ _ xw2) ?_; (try simp only [Act.put, List.setIfInBounds_toArray, List.set_cons_zero, List.set_cons_succ]))
                (refine Ord.takeQ (v := ?_) (Or.inl ⟨rfl, ?_⟩) ?_; rotate_left; (intro w hSw; (try dsimp only at hSw); go_simp; try (with_reducible rfl)); (try simp only [Act.put, List.setIfInBounds_toArray, List.set_cons_zero, List.set_cons_succ]))
                refine Ord.aloneQ rfl rfl (fun K hK => ?_)
                have hbd : Below wr.heap.size wr wr.drew := (Drawn.refl wr).drew.below _
                have hbe : Below wr.heap.size wr (wr.drew.alloc (.cells #[.int .i64 (fw x.least), .int .i64 (fw x.most)] 58)) := hbd.trans ((Below.refl wr.heap.size wr.drew).alloc (Nat.le_refl _) _)
                refine wp_exec (v := .slice (some ⟨wr.heap.size, 0, none⟩) 1 1) (w' := wr.drew.alloc (.cells #[.int .i64 (fw x.least), .int .i64 (fw x.most)] 58)) (by kernel_rfl) ?_
                (try simp only [Act.put, List.setIfInBounds_toArray, List.set_cons_zero, List.set_cons_succ])
                refine hK.out _ _ (hSQ _ (hBo.trans (hbe.mono (by omega)))) (fun _ => ?_)
                clear hK K
                refine Ord.aloneQ rfl rfl (fun K hK => ?_)
                have hown : (wr.drew.alloc (.cells #[.int .i64 (fw x.least), .int .i64 (fw x.most)] 58)).ownsRow wo.heap.size 58 2 (.slice A7 j c7) j (E.flatMap Nd.cells) := (own_drew hp).alloc _
                have hot : (wr.drew.alloc (.cells #[.int .i64 (fw x.least), .int .i64 (fw x.most)] 58)).ownsRow wo.heap.size 73 2 (.slice A8 j c8) j (E.flatMap Nd.cells) := (own_drew hp').alloc _
                refine wp_append_own _ _ _ 53 rfl wo.heap.size 58 i1 (.agg #[.int .i64 0, .int .i64 0]) 2 16 Try.underlying53 hi1 hz1 hs1 hb1 rfl (by decide) _ _ _ rfl hown ⟨wr.heap.size, 0, none⟩ 1 1 [.int .i64 (fw x.least), .int .i64 (fw x.most)] rfl rfl (news19 (Blk.new _ _ _) rfl) (by simp [Value.oneCell']) (by unfold maxLen; omega) (by omega) (by simp; omega) ?_
                intro v9 w9 hq1 hg9 _
                have hq2 := own_grown hot hown (by decide) hg9
                have hq3 := (hB2.trans (hbe.mono (by omega))).trans (own_belowB hown hg9 (by simp; omega))
                have hq4 := hSQ _ (hq3.mono hz)
                (try simp only [Act.put, List.setIfInBounds_toArray, List.set_cons_zero, List.set_cons_succ])
                refine hK.out _ _ (hq4) (fun _ => ?_)
                clear hK K
                (refine Ord.takeQ (v := ?_) (Or.inl ⟨rfl, ?_⟩) ?_; rotate_left; (intro w hSw; (try dsimp only at hSw); go_simp; try (with_reducible rfl)); (try simp only [Act.put, List.setIfInBounds_toArray, List.set_cons_zero, List.set_cons_succ]))
                refine Ord.doneQ (NoPanic.normal ?_)
                go_wp2_with fail
                go_meet
                exact ⟨_, rfl, hq1, hq2, hq3⟩
              case rest =>
              clear hp hp' hB2 hBw cr' hBo hcd
              obtain ⟨v7, rfl, hp, hp', hB2⟩ := hcut
              have hBo : Below w.heap.size wo wc := hB2.mono hz
              have hzc := hB2.size
              go_upto_region 12 with fail
              refine wp_region_noPanic ?_
              refine Ord.region_Q (S := fun Z : World => Z.cell? ⟨b, off + k, none⟩ = some (.slice (some ⟨bi, oi, none⟩) r.length c') ∧ Z.cell? ⟨bi, oi + j * 2, none⟩ = some (.int .i64 x.least) ∧ Z.cell? ⟨bi, oi + j * 2 + 1, none⟩ = some (.int .i64 x.most)) 999 (.one 0 true (.one 1 true (.one 2 true (.one 3 true (.one 4 true (.one 5 true (.one 6 true (.one 7 true (.one 8 true (.one 9 true (.one 10 true (.one 11 true (.one 12 true (.one 13 true (.one 14 true (.one 15 true (.one 16 true (.one 17 true (.one 18 true (.one 19 true (.one 20 false (.one 21 false (.one 22 true .nil))))))))))))))))))))))) (by kernel_rfl) (by kernel_rfl) (by kernel_rfl) (by decide) (fun _ _ _ _ _ h => h) (hSQ _ (hBo.trans ((Drawn.refl wc).drew.below _))) (fun hS0 => ?_)
              simp only [Ord.layT, List.getElem?_cons_zero, List.getElem?_cons_succ]
              (refine Ord.takeQ (v := ?_) (Or.inl ⟨rfl, ?_⟩) ?_; rotate_left; (intro w hSw; (try dsimp only at hSw); go_simp; try (with_reducible rfl)); (try simp only [Act.put, List.setIfInBounds_toArray, List.set_cons_zero, List.set_cons_succ]))
              (refine Ord.takeQ (v := ?_) (Or.inl ⟨rfl, ?_⟩) ?_; rotate_left; (intro w hSw; (try dsimp only at hSw); go_simp; try (with_reducible rfl)); (try simp only [Act.put, List.setIfInBounds_toArray, List.set_cons_zero, List.set_cons_succ]))
              (refine Ord.takeQ (v := ?_) (Or.inl ⟨rfl, ?_⟩) ?_; rotate_left; (intro w hSw; (try dsimp only at hSw); go_simp; try (with_reducible rfl)); (try simp only [Act.put, List.setIfInBounds_toArray, List.set_cons_zero, List.set_cons_succ]))
              (refine Ord.takeQ (v := ?_) (Or.inl ⟨rfl, ?_⟩) ?_; rotate_left; (intro w hSw; (try dsimp only at hSw); go_simp; try (with_reducible rfl)); (try simp only [Act.put, List.setIfInBounds_toArray, List.set_cons_zero, List.set_cons_succ]))
              (refine Ord.takeQ (v := ?_) (Or.inl ⟨rfl, ?_⟩) ?_; rotate_left; (intro w hSw; (try dsimp only at hSw); go_simp; try (with_reducible rfl)); (try simp only [Act.put, List.setIfInBounds_toArray, List.set_cons_zero, List.set_cons_succ]))
              (refine Ord.takeQ (v := ?_) (Or.inl ⟨rfl, ?_⟩) ?_; rotate_left; (intro w hSw; (try dsimp only at hSw); go_simp; try (with_reducible rfl)); (try simp only [Act.put, List.setIfInBounds_toArray, List.set_cons_zero, List.set_cons_succ]))
              (refine Ord.takeQ (v := ?_) (Or.inl ⟨rfl, ?_⟩) ?_; rotate_left; (intro w hSw; (try dsimp only at hSw); go_simp; try (with_reducible rfl)); (try simp only [Act.put, List.setIfInBounds_toArray, List.set_cons_zero, List.set_cons_succ]))
              (refine Ord.takeQ (v := ?_) (Or.inl ⟨rfl, ?_⟩) ?_; rotate_left; (intro w hSw; (try dsimp only at hSw); go_simp; try (with_reducible rfl)); (try simp only [Act.put, List.setIfInBounds_toArray, List.set_cons_zero, List.set_cons_succ]))
              (refine Ord.takeQ (v := ?_) (Or.inl ⟨rfl, ?_⟩) ?_; rotate_left; (intro w hSw; (try dsimp only at hSw); go_simp; try (with_reducible rfl)); (try simp only [Act.put, List.setIfInBounds_toArray, List.set_cons_zero, List.set_cons_succ]))
              (refine Ord.takeC 25 #[.int .i64 x.least] rfl (fun _ _ => by kernel_rfl) (fun w hSw => small19 _ _ xw1) ?_; (try simp only [Act.put, List.setIfInBounds_toArray, List.set_cons_zero, List.set_cons_succ]))
              (refine Ord.takeQ (v := ?_) (Or.inl ⟨rfl, ?_⟩) ?_; rotate_left; (intro w hSw; (try dsimp only at hSw); go_simp; try (with_reducible rfl)); (try simp only [Act.put, List.setIfInBounds_toArray, List.set_cons_zero, List.set_cons_succ]))
              (refine Ord.takeQ (v := ?_) (Or.inl ⟨rfl, ?_⟩) ?_; rotate_left; (intro w hSw; (try dsimp only at hSw); go_simp; try (with_reducible rfl)); (try simp only [Act.put, List.setIfInBounds_toArray, List.set_cons_zero, List.set_cons_succ]))
              (refine Ord.takeQ (v := ?_) (Or.inl ⟨rfl, ?_⟩) ?_; rotate_left; (intro w hSw; (try dsimp only at hSw); go_simp; try (with_reducible rfl)); (try simp only [Act.put, List.setIfInBounds_toArray, List.set_cons_zero, List.set_cons_succ]))
              (refine Ord.takeQ (v := ?_) (Or.inl ⟨rfl, ?_⟩) ?_; rotate_left; (intro w hSw; (try dsimp only at hSw); go_simp; try (with_reducible rfl)); (try simp only [Act.put, List.setIfInBounds_toArray, List.set_cons_zero, List.set_cons_succ]))
              (refine Ord.takeQ (v := ?_) (Or.inl ⟨rfl, ?_⟩) ?_; rotate_left; (intro w hSw; (try dsimp only at hSw); go_simp; try (with_reducible rfl)); (try simp only [Act.put, List.setIfInBounds_toArray, List.set_cons_zero, List.set_cons_succ]))
              (refine Ord.takeQ (v := ?_) (Or.inl ⟨rfl, ?_⟩) ?_; rotate_left; (intro w hSw; (try dsimp only at hSw); go_simp; try (with_reducible rfl)); (try simp only [Act.put, List.setIfInBounds_toArray, List.set_cons_zero, List.set_cons_succ]))
              (refine Ord.takeQ (v := ?_) (Or.inl ⟨rfl, ?_⟩) ?_; rotate_left; (intro w hSw; (try dsimp only at hSw); go_simp; try (with_reducible rfl)); (try simp only [Act.put, List.setIfInBounds_toArray, List.set_cons_zero, List.set_cons_succ]))
              (refine Ord.takeQ (v := ?_) (Or.inl ⟨rfl, ?_⟩) ?_; rotate_left; (intro w hSw; (try dsimp only at hSw); go_simp; try (with_reducible rfl)); (try simp only [Act.put, List.setIfInBounds_toArray, List.set_cons_zero, List.set_cons_succ]))
              (refine Ord.takeC 25 #[.int .i64 x.most] rfl (fun _ _ => by kernel_rfl) (fun w hSw => small19 _ _ xw2) ?_; (try simp only [Act.put, List.setIfInBounds_toArray, List.set_cons_zero, List.set_cons_succ]))
              (refine Ord.takeQ (v := ?_) (Or.inl ⟨rfl, ?_⟩) ?_; rotate_left; (intro w hSw; (try dsimp only at hSw); go_simp; try (with_reducible rfl)); (try simp only [Act.put, List.setIfInBounds_toArray, List.set_cons_zero, List.set_cons_succ]))
              refine Ord.aloneQ rfl rfl (fun K hK => ?_)
              have hbd : Below wc.heap.size wc wc.drew := (Drawn.refl wc).drew.below _
              have hbe : Below wc.heap.size wc (wc.drew.alloc (.cells #[.int .i64 (fw x.least), .int .i64 (fw x.most)] 73)) := hbd.trans ((Below.refl wc.heap.size wc.drew).alloc (Nat.le_refl _) _)
              refine wp_exec (v := .slice (some ⟨wc.heap.size, 0, none⟩) 1 1) (w' := wc.drew.alloc (.cells #[.int .i64 (fw x.least), .int .i64 (fw x.most)] 73)) (by kernel_rfl) ?_
              (try simp only [Act.put, List.setIfInBounds_toArray, List.set_cons_zero, List.set_cons_succ])
              refine hK.out _ _ (hSQ _ (hBo.trans (hbe.mono (by omega)))) (fun _ => ?_)
              clear hK K
              refine Ord.aloneQ rfl rfl (fun K hK => ?_)
              have hown : (wc.drew.alloc (.cells #[.int .i64 (fw x.least), .int .i64 (fw x.most)] 73)).ownsRow wo.heap.size 73 2 (.slice A8 j c8) j (E.flatMap Nd.cells) := (own_drew hp').alloc _
              have hot : (wc.drew.alloc (.cells #[.int .i64 (fw x.least), .int .i64 (fw x.most)] 73)).ownsRow wo.heap.size 58 2 v7 (j + 1) (E.flatMap Nd.cells ++ [.int .i64 (fw x.least), .int .i64 (fw x.most)]) := (own_drew hp).alloc _
              refine wp_append_own _ _ _ 71 rfl wo.heap.size 73 i2 (.agg #[.int .i64 0, .int .i64 0]) 2 16 Try.underlying71 hi2 hz2 hs2 hb2 rfl (by decide) _ _ _ rfl hown ⟨wc.heap.size, 0, none⟩ 1 1 [.int .i64 (fw x.least), .int .i64 (fw x.most)] rfl rfl (news19 (Blk.new _ _ _) rfl) (by simp [Value.oneCell']) (by unfold maxLen; omega) (by omega) (by simp; omega) ?_
              intro v9 w9 hq1 hg9 _
              have hq2 := own_grown hot hown (by decide) hg9
              have hq3 := (hB2.trans (hbe.mono (by omega))).trans (own_belowB hown hg9 (by simp; omega))
              have hq4 := hSQ _ (hq3.mono hz)
              (try simp only [Act.put, List.setIfInBounds_toArray, List.set_cons_zero, List.set_cons_succ])
              refine hK.out _ _ (hq4) (fun _ => ?_)
              clear hK K
              (refine Ord.takeQ (v := ?_) (Or.inl ⟨rfl, ?_⟩) ?_; rotate_left; (intro w hSw; (try dsimp only at hSw); go_simp; try (with_reducible rfl)); (try simp only [Act.put, List.setIfInBounds_toArray, List.set_cons_zero, List.set_cons_succ]))
              refine Ord.doneQ (NoPanic.normal ?_)
              go_wp2_with fail
              go_roundw
              case rel => exact ⟨j + 1, E ++ [nd x], by omega, by omega, by go_num, by simp [hE.out], HE2, by rw [HF.out]; exact hq2, by rw [HF.out]; exact hq1, hq3⟩
              case measure => simp [intOf]; omega
            · obtain rfl : j = 12 := by omega
              have HEE : Hid (E = (r.take 12).map nd) := HE
              obtain ⟨A7, c7, rfl, hc7⟩ := own_some hp
              obtain ⟨A8, c8, rfl, hc8⟩ := own_some hp'
              have hEl := hE.out
              have ho2 := own_below ho hB2
              have ho2' := own_below ho' hB2
              have hI2 := (hI.below hB2).push hp hEl
              have hI2' := (hI'.below hB2).push hp' hEl
              rw [HEE.out] at hI2 hI2'
              obtain ⟨A4, c4, rfl, hc4⟩ := own_some ho2
              obtain ⟨A5, c5, rfl, hc5⟩ := own_some ho2'
              have hown := ho2.alloc (.cells #[.slice A7 12 c7] 53)
              have hown' := ho2'.alloc (.cells #[.slice A7 12 c7] 53)
              have hba : Below wr.heap.size wr (wr.alloc (.cells #[.slice A7 12 c7] 53)) := (Below.refl wr.heap.size wr).alloc (Nat.le_refl _) _
              clear hRr hI hI' hcr HE ho ho'
              go_wp2_with (refine stop_append _ _ _ _ rfl ?_)
              refine ⟨?_⟩
              refine wpList_append_own _ rfl _ _ 49 rfl w.heap.size 53 i3 (.slice none 0 0) 1 24 Try.underlying49 hi3 hz3 hs3 hb3 rfl (by decide) (.slice A4 k c4) _ _ rfl hown ⟨wr.heap.size, 0, none⟩ 1 1 [.slice A7 12 c7] rfl rfl (news19 (Blk.new wr 53 #[.slice A7 12 c7]) rfl) (by simp [Value.oneCell']) (by unfold maxLen; omega) (by omega) (by simp; omega) ?_
              intro u4 w4 ho4 hg4 _
              (try simp only [Act.put, List.setIfInBounds_toArray, List.set_cons_zero, List.set_cons_succ])
              have hI4 := (hI2.below hba).grown hown hg4 (by decide)
              have hI4' := (hI2'.below hba).grown hown hg4 (by decide)
              have ho4' := own_grown hown' hown (by decide) hg4
              have hB4 : Below w.heap.size w w4 := (hBw.trans (hba.mono (by omega))).trans (own_belowB hown hg4 (by simp; omega))
              have hz4' := hB4.size
              clear hown hown' hba hg4 hI2 hI2' ho2 ho2' hp hp' hB2 hBw hB
              have hown := ho4'.alloc (.cells #[.slice A8 12 c8] 71)
              have hown' := ho4.alloc (.cells #[.slice A8 12 c8] 71)
              have hba : Below w4.heap.size w4 (w4.alloc (.cells #[.slice A8 12 c8] 71)) := (Below.refl w4.heap.size w4).alloc (Nat.le_refl _) _
              obtain ⟨A6, c6, rfl, -⟩ := own_some ho4
              go_wp2_with (refine stop_append _ _ _ _ rfl ?_)
              refine ⟨?_⟩
              refine wpList_append_own _ rfl _ _ 50 rfl w.heap.size 71 i4 (.slice none 0 0) 1 24 Try.underlying50 hi4 hz4 hs4 hb4 rfl (by decide) (.slice A5 k c5) _ _ rfl hown ⟨w4.heap.size, 0, none⟩ 1 1 [.slice A8 12 c8] rfl rfl (news19 (Blk.new w4 71 #[.slice A8 12 c8]) rfl) (by simp [Value.oneCell']) (by unfold maxLen; omega) (by omega) (by simp; omega) ?_
              intro u5 w5 ho5 hg5 _
              (try simp only [Act.put, List.setIfInBounds_toArray, List.set_cons_zero, List.set_cons_succ])
              have hI5 := (hI4.below hba).grown hown hg5 (by decide)
              have hI5' := (hI4'.below hba).grown hown hg5 (by decide)
              have ho5' := own_grown hown' hown (by decide) hg5
              have hB5 : Below w.heap.size w w5 := (hB4.trans (hba.mono (by omega))).trans (own_belowB hown hg5 (by simp; omega))
              obtain ⟨A9, c9, rfl, -⟩ := own_some ho5
              clear hown hown' hba hg5 hI4 hI4' ho4 ho4' hB4
              go_wp2_with fail
              go_roundw
              case rel => exact ⟨k + 1, D ++ [(r.take 12).map nd], _, _, by omega, by omega, by go_num, by simp [hD.out], HD2, ho5', ho5, hI5, hI5', hB5⟩
              case measure => simp [intOf]; omega
          · obtain rfl : j = r.length := by omega
            have HEE : Hid (E = (r.take 12).map nd) := hid (by rw [HE.out, List.take_length, List.take_of_length_le (by omega)])
            obtain ⟨A7, c7, rfl, hc7⟩ := own_some hp
            obtain ⟨A8, c8, rfl, hc8⟩ := own_some hp'
            have hEl := hE.out
            have ho2 := own_below ho hB2
            have ho2' := own_below ho' hB2
            have hI2 := (hI.below hB2).push hp hEl
            have hI2' := (hI'.below hB2).push hp' hEl
            rw [HEE.out] at hI2 hI2'
            obtain ⟨A4, c4, rfl, hc4⟩ := own_some ho2
            obtain ⟨A5, c5, rfl, hc5⟩ := own_some ho2'
            have hown := ho2.alloc (.cells #[.slice A7 r.length c7] 53)
            have hown' := ho2'.alloc (.cells #[.slice A7 r.length c7] 53)
            have hba : Below wr.heap.size wr (wr.alloc (.cells #[.slice A7 r.length c7] 53)) := (Below.refl wr.heap.size wr).alloc (Nat.le_refl _) _
            clear hRr hI hI' hcr HE ho ho'
            go_wp2_with (refine stop_append _ _ _ _ rfl ?_)
            refine ⟨?_⟩
            refine wpList_append_own _ rfl _ _ 49 rfl w.heap.size 53 i3 (.slice none 0 0) 1 24 Try.underlying49 hi3 hz3 hs3 hb3 rfl (by decide) (.slice A4 k c4) _ _ rfl hown ⟨wr.heap.size, 0, none⟩ 1 1 [.slice A7 r.length c7] rfl rfl (news19 (Blk.new wr 53 #[.slice A7 r.length c7]) rfl) (by simp [Value.oneCell']) (by unfold maxLen; omega) (by omega) (by simp; omega) ?_
            intro u4 w4 ho4 hg4 _
            (try simp only [Act.put, List.setIfInBounds_toArray, List.set_cons_zero, List.set_cons_succ])
            have hI4 := (hI2.below hba).grown hown hg4 (by decide)
            have hI4' := (hI2'.below hba).grown hown hg4 (by decide)
            have ho4' := own_grown hown' hown (by decide) hg4
            have hB4 : Below w.heap.size w w4 := (hBw.trans (hba.mono (by omega))).trans (own_belowB hown hg4 (by simp; omega))
            have hz4' := hB4.size
            clear hown hown' hba hg4 hI2 hI2' ho2 ho2' hp hp' hB2 hBw hB
            have hown := ho4'.alloc (.cells #[.slice A8 r.length c8] 71)
            have hown' := ho4.alloc (.cells #[.slice A8 r.length c8] 71)
            have hba : Below w4.heap.size w4 (w4.alloc (.cells #[.slice A8 r.length c8] 71)) := (Below.refl w4.heap.size w4).alloc (Nat.le_refl _) _
            obtain ⟨A6, c6, rfl, -⟩ := own_some ho4
            go_wp2_with (refine stop_append _ _ _ _ rfl ?_)
            refine ⟨?_⟩
            refine wpList_append_own _ rfl _ _ 50 rfl w.heap.size 71 i4 (.slice none 0 0) 1 24 Try.underlying50 hi4 hz4 hs4 hb4 rfl (by decide) (.slice A5 k c5) _ _ rfl hown ⟨w4.heap.size, 0, none⟩ 1 1 [.slice A8 r.length c8] rfl rfl (news19 (Blk.new w4 71 #[.slice A8 r.length c8]) rfl) (by simp [Value.oneCell']) (by unfold maxLen; omega) (by omega) (by simp; omega) ?_
            intro u5 w5 ho5 hg5 _
            (try simp only [Act.put, List.setIfInBounds_toArray, List.set_cons_zero, List.set_cons_succ])
            have hI5 := (hI4.below hba).grown hown hg5 (by decide)
            have hI5' := (hI4'.below hba).grown hown hg5 (by decide)
            have ho5' := own_grown hown' hown (by decide) hg5
            have hB5 : Below w.heap.size w w5 := (hB4.trans (hba.mono (by omega))).trans (own_belowB hown hg5 (by simp; omega))
            obtain ⟨A9, c9, rfl, -⟩ := own_some ho5
            clear hown hown' hba hg5 hI4 hI4' ho4 ho4' hB4
            go_wp2_with fail
            go_roundw
            case rel => exact ⟨k + 1, D ++ [(r.take 12).map nd], _, _, by omega, by omega, by go_num, by simp [hD.out], HD2, ho5', ho5, hI5, hI5', hB5⟩
            case measure => simp [intOf]; omega
      · obtain rfl : k = 12 := by omega
        have HTT : Hid (D = T) := hid (by rw [HD.out, ← HT.out]; rfl)
        have HL : Hid (T.length = 12) := hid (by rw [← HTT.out, hD.out])
        obtain ⟨A4, c4, rfl, hc4, hn4⟩ := own_some2 ho
        obtain ⟨A5, c5, rfl, hc5⟩ := own_some ho'
        go_wp2_with fail
        go_ret2
        rw [HL.out, ← HTT.out]
        exact ⟨_, _, _, _, _, _, rfl, hc4, hn4, hB, hI.rows2 ho nd_length, hI'.rows2 ho' nd_length⟩
    · obtain rfl : k = ls.length := by omega
      have HTT : Hid (D = T) := hid (by rw [HD.out, ← HT.out, needs, List.take_length, List.take_of_length_le (by omega)])
      have HL : Hid (T.length = ls.length) := hid (by rw [← HTT.out, hD.out])
      obtain ⟨A4, c4, rfl, hc4, hn4⟩ := own_some2 ho
      obtain ⟨A5, c5, rfl, hc5⟩ := own_some ho'
      go_wp2_with fail
      go_ret2
      rw [HL.out, ← HTT.out]
      exact ⟨_, _, _, _, _, _, rfl, hc4, hn4, hB, hI.rows2 ho nd_length, hI'.rows2 ho' nd_length⟩
end Go.Proofs.Ytkoanijiihnioaa
