/-
  environments that may be; an environment that came in.
-/
import Derived.Test.YtkkiefcapbddkaaGreatDoorSeatB
import Derived.Test.YtkkiefcapbddkaaGreatDoorSeatA
import Derived.Deep.DeepCutAuto
import Derived.Deep.CutBlock
import Derived.Outline
import Derived.Laws.RangeAny
import Derived.ChangeMaps5
set_option linter.all false
namespace Go.Proofs.YtkkiefcapbddkaaGreatDoor
open Go.RowKit Num Mem Opn
namespace Num
def inn (n top : Int) : Int := if n < 0 then 0 else if top < n then n % (top + 1) else n
theorem inn_lim {n top : Int} (ht : 0 ≤ top) : 0 ≤ inn n top ∧ inn n top ≤ top := by
  unfold inn
  split
  · omega
  · split
    · have h1 := Int.emod_nonneg n (show top + 1 ≠ 0 by omega)
      have h2 := Int.emod_lt_of_pos n (show 0 < top + 1 by omega)
      omega
    · omega
end Num
set_option maxRecDepth 100000 in
theorem keep_in (n top : Int) (w : World) (ht : 0 ≤ top) (ht2 : top ≤ 16777216) (hn : n ≤ 9223372036854775807) : Calls Tryz.prog 15 #[.int .i64 n, .int .i64 top] w fun e w' => e = .returned (.int .i64 (inn n top)) ∧ w = w' := by
  by_cases h0 : n < 0
  · have HH : Hid (0 = inn n top) := hid (by unfold inn; rw [if_pos h0])
    have d1 : decide (n < 0) = true := decide_eq_true h0
    clear h0
    go_enter Tryz.func15, Tryz.ntmps15
    go_wp2_with fail
    go_ret
    exact ⟨by rw [← HH.out]; rfl, rfl⟩
  · have d1 : decide (n < 0) = false := decide_eq_false h0
    by_cases h1 : top < n
    · have HH : Hid (n % (top + 1) = inn n top) := hid (by unfold inn; rw [if_neg h0, if_pos h1])
      have d2 : decide (top < n) = true := decide_eq_true h1
      have d3 : decide (n > top) = true := decide_eq_true h1
      have e1 : IntKind.i64.wrap (top + 1) = top + 1 := IntWalk.i64_in _ (by omega)
      have hz : ¬ (top + 1 = 0) := by omega
      have hm : IntKind.i64.wrap (n.tmod (top + 1)) = n % (top + 1) := by
        rw [Int.tmod_eq_emod_of_nonneg (by omega)]
        have h3 := Int.emod_nonneg n (show top + 1 ≠ 0 by omega)
        have h4 := Int.emod_lt_of_pos n (show 0 < top + 1 by omega)
        exact IntWalk.i64_in _ (by omega)
      go_enter Tryz.func15, Tryz.ntmps15
      go_wp2_with fail
      go_ret
      exact ⟨by rw [← HH.out, ← hm]; rfl, rfl⟩
    · have HH : Hid (n = inn n top) := hid (by unfold inn; rw [if_neg h0, if_neg h1])
      have d2 : decide (top < n) = false := decide_eq_false h1
      have d3 : decide (n > top) = false := decide_eq_false h1
      go_enter Tryz.func15, Tryz.ntmps15
      go_wp2_with fail
      go_ret
      exact ⟨by rw [← HH.out]; rfl, rfl⟩
end Go.Proofs.YtkkiefcapbddkaaGreatDoor
namespace Go.Proofs.YtkkiefcapbddkaaGreatDoor
open Go.RowKit Num Mem Opn Go.Deep
namespace Num
def envl (l : List Int) : List Int := (l.take 256).map (inn · 65536)
theorem envl_len (l : List Int) : (envl l).length ≤ 256 := by simp [envl]; omega
theorem envl_mem (l : List Int) : ∀ x ∈ envl l, 0 ≤ x ∧ x ≤ 65536 := by
  intro x hx
  obtain ⟨y, -, rfl⟩ := List.mem_map.1 hx
  exact inn_lim (by omega)
end Num
theorem own_map {w w' : World} {base z m : Nat} {e : TypeId} {v : Value} {xs : List Value} (h : w.ownsRow base e z v m xs) (hk : ∀ k, v.ownBlock = some k → k < w.heap.size → ∀ cs, Blk w k e cs → Blk w' k e cs) : w'.ownsRow base e z v m xs := by
  refine ⟨h.1, ?_⟩
  rcases h.2 with hn | ⟨b, cap, cur, rfl, hb, hgg, rest⟩
  · exact .inl hn
  · exact .inr ⟨b, cap, cur, rfl, hb, hk b rfl (Blk.lt (t := e) (cs := cur) hgg) cur hgg, rest⟩
set_option maxRecDepth 100000 in
set_option maxHeartbeats 2000000 in
theorem keep_Env (ew eh : Int) (l : List Int) (A : Option Addr) (c : Nat) (w : World) (hew : ew ≤ 9223372036854775807) (heh : eh ≤ 9223372036854775807) (hl : l.length ≤ 9223372036854775807) (hi : ∀ x ∈ l, x ≤ 9223372036854775807) (hA : Ints w w.heap.size A l) :
    Calls Tryz.prog 10 #[.agg #[.int .i64 ew, .int .i64 eh, .slice A l.length c]] w fun e w' => ∃ v, e = .returned (.agg #[.int .i64 (inn ew 16777216), .int .i64 (inn eh 16777216), v]) ∧ Below w.heap.size w w' ∧ w'.ownsRow w.heap.size 2 1 v (envl l).length (ints (envl l)).toList := by
  obtain ⟨i0, hi0, hz0, hz1, hz2⟩ := info_parts info_i64
  have hB : Below w.heap.size w ((w.alloc (.cells #[.int .i64 ew, .int .i64 eh, .slice A l.length c] 25)).alloc (.cells #[.int .i64 0, .int .i64 0, .slice none 0 0] 25)) := ((Below.refl _ _).alloc (Nat.le_refl _) _).alloc (by simp) _
  have hX : Blk ((w.alloc (.cells #[.int .i64 ew, .int .i64 eh, .slice A l.length c] 25)).alloc (.cells #[.int .i64 0, .int .i64 0, .slice none 0 0] 25)) w.heap.size 25 #[.int .i64 ew, .int .i64 eh, .slice A l.length c] := (Blk.new _ _ _).alloc _
  have hR : Blk ((w.alloc (.cells #[.int .i64 ew, .int .i64 eh, .slice A l.length c] 25)).alloc (.cells #[.int .i64 0, .int .i64 0, .slice none 0 0] 25)) (w.heap.size + 1) 25 #[.int .i64 0, .int .i64 0, .slice none 0 0] := Blk.newAt _ _ _ (by simp)
  go_enter Tryz.func10, Tryz.ntmps10
  go_upto_region 1 with fail
  refine wp_forget (fun Z => Blk Z w.heap.size 25 #[.int .i64 ew, .int .i64 eh, .slice A l.length c] ∧ Blk Z (w.heap.size + 1) 25 #[.int .i64 0, .int .i64 0, .slice none 0 0] ∧ Below w.heap.size w Z) ⟨hX, hR, hB⟩ ?_
  clear hX hR hB
  rintro w1 ⟨hX, hR, hB⟩
  obtain ⟨nw, hnw⟩ : ∃ x, inn ew 16777216 = x := ⟨_, rfl⟩
  obtain ⟨nh, hnh⟩ : ∃ x, inn eh 16777216 = x := ⟨_, rfl⟩
  have hS : ∀ Z, (Blk Z w.heap.size 25 #[.int .i64 ew, .int .i64 eh, .slice A l.length c] ∧ Blk Z (w.heap.size + 1) 25 #[.int .i64 0, .int .i64 0, .slice none 0 0] ∧ Below w.heap.size w Z) → (fun Z => (Blk Z w.heap.size 25 #[.int .i64 ew, .int .i64 eh, .slice A l.length c] ∧ Blk Z (w.heap.size + 1) 25 #[.int .i64 0, .int .i64 0, .slice none 0 0] ∧ Below w.heap.size w Z) ∧ Z.cell? ⟨w.heap.size, 0, none⟩ = some (.int .i64 ew) ∧ Z.cell? ⟨w.heap.size, 1, none⟩ = some (.int .i64 eh)) Z := fun Z h => ⟨h, h.1.cell 0, h.1.cell 1⟩
  refine wp_region_noPanic ?_
  refine Ord.region_Q (S := fun Z => (Blk Z w.heap.size 25 #[.int .i64 ew, .int .i64 eh, .slice A l.length c] ∧ Blk Z (w.heap.size + 1) 25 #[.int .i64 0, .int .i64 0, .slice none 0 0] ∧ Below w.heap.size w Z) ∧ Z.cell? ⟨w.heap.size, 0, none⟩ = some (.int .i64 ew) ∧ Z.cell? ⟨w.heap.size, 1, none⟩ = some (.int .i64 eh)) 8 (.one 0 true (.one 1 true (.one 2 true (.one 3 true (.one 4 true (.one 5 true (.one 6 true (.one 7 false (.one 8 false .nil))))))))) (by kernel_rfl) (by kernel_rfl) (by kernel_rfl) (by decide) (fun _ _ _ _ _ h => h) (hS _ ⟨hX.drew, hR.drew, hB.drew⟩) (fun hS0 => ?_)
  simp only [Ord.layT, List.getElem?_cons_zero, List.getElem?_cons_succ]
  (refine Ord.takeQ (v := ?_) (Or.inl ⟨rfl, ?_⟩) ?_; rotate_left; (intro w hSw; (try dsimp only at hSw); go_simp; try (with_reducible rfl)); (try simp only [Act.put, List.setIfInBounds_toArray, List.set_cons_zero, List.set_cons_succ]))
  (refine Ord.takeQ (v := ?_) (Or.inl ⟨rfl, ?_⟩) ?_; rotate_left; (intro w hSw; (try dsimp only at hSw); go_simp; try (with_reducible rfl)); (try simp only [Act.put, List.setIfInBounds_toArray, List.set_cons_zero, List.set_cons_succ]))
  (refine Ord.takeC 15 #[.int .i64 ew, .int .i64 16777216] rfl (fun _ _ => by kernel_rfl) (fun w hSw => keep_in ew 16777216 w (by omega) (by omega) (by omega)) ?_; (try simp only [Act.put, List.setIfInBounds_toArray, List.set_cons_zero, List.set_cons_succ]))
  (refine Ord.takeQ (v := ?_) (Or.inl ⟨rfl, ?_⟩) ?_; rotate_left; (intro w hSw; (try dsimp only at hSw); go_simp; try (with_reducible rfl)); (try simp only [Act.put, List.setIfInBounds_toArray, List.set_cons_zero, List.set_cons_succ]))
  (refine Ord.takeQ (v := ?_) (Or.inl ⟨rfl, ?_⟩) ?_; rotate_left; (intro w hSw; (try dsimp only at hSw); go_simp; try (with_reducible rfl)); (try simp only [Act.put, List.setIfInBounds_toArray, List.set_cons_zero, List.set_cons_succ]))
  (refine Ord.takeC 15 #[.int .i64 eh, .int .i64 16777216] rfl (fun _ _ => by kernel_rfl) (fun w hSw => keep_in eh 16777216 w (by omega) (by omega) (by omega)) ?_; (try simp only [Act.put, List.setIfInBounds_toArray, List.set_cons_zero, List.set_cons_succ]))
  (refine Ord.takeQ (v := ?_) (Or.inl ⟨rfl, ?_⟩) ?_; rotate_left; (intro w hSw; (try dsimp only at hSw); go_simp; try (with_reducible rfl)); (try simp only [Act.put, List.setIfInBounds_toArray, List.set_cons_zero, List.set_cons_succ]))
  refine Ord.aloneQ rfl rfl (fun K hK => ?_)
  go_wp2_with fail
  have hS1 := hS (w1.alloc (.cells #[.int .i64 0, .int .i64 0, .slice none 0 0] 25)).drew ⟨(hX.alloc _).drew, (hR.alloc _).drew, (hB.alloc hB.size _).drew⟩
  (try simp only [Act.put, List.setIfInBounds_toArray, List.set_cons_zero, List.set_cons_succ])
  refine hK.out _ _ (hS1) (fun _ => ?_)
  clear hK K
  refine Ord.lastQ rfl rfl (fun K hK => ?_)
  go_wp2_with fail
  (try simp only [Act.put, List.setIfInBounds_toArray, List.set_cons_zero, List.set_cons_succ])
  refine hK.out _ _ ?_
  clear hK K
  refine Ord.doneQ (NoPanic.normal ?_)
  replace hX := (hX.alloc (.cells #[.int .i64 nw, .int .i64 nh, .slice none 0 0] 25)).drew
  have hG := (Blk.new w1 25 #[.int .i64 nw, .int .i64 nh, .slice none 0 0]).drew
  have hgz : w.heap.size + 2 ≤ w1.heap.size := hR.lt
  replace hB := (hB.alloc hB.size (.cells #[.int .i64 nw, .int .i64 nh, .slice none 0 0] 25)).drew
  replace hR := (hR.alloc (.cells #[.int .i64 nw, .int .i64 nh, .slice none 0 0] 25)).drew
  clear hS hS0 hS1
  generalize (w1.alloc (.cells #[.int .i64 nw, .int .i64 nh, .slice none 0 0] 25)).drew = w2 at *
  generalize w1.heap.size = g at *
  go_wp2_with fail
  go_loopw [4] (fun i wr => ∃ (k : Nat) (D : List Int) (v : Value), k ≤ l.length ∧ k ≤ 256 ∧ i = .int .i64 k ∧ D.length = k ∧ Hid (D = (envl l).take k) ∧ Blk wr w.heap.size 25 #[.int .i64 ew, .int .i64 eh, .slice A l.length c] ∧ Blk wr (w.heap.size + 1) 25 #[.int .i64 0, .int .i64 0, .slice none 0 0] ∧ Blk wr g 25 #[.int .i64 nw, .int .i64 nh, v] ∧ wr.ownsRow w.heap.size 2 1 v k (ints D).toList ∧ Below w.heap.size w wr) (fun i _ => 256 - (intOf i).toNat)
  case atStart => exact ⟨0, [], .slice none 0 0, by omega, by omega, rfl, rfl, rfl, hX, hR, hG, own_nil _ _ _ _, hB⟩
  case round =>
    clear hX hR hG hB
    obtain ⟨k, D, v, hk, hk2, rfl, hD, HD, hX, hR, hG, ho, hB⟩ := hrel
    replace hD := hid hD
    obtain ⟨A2, c2, rfl, -⟩ := own_some ho
    have hz := hB.size
    have x2 : wr.cell? ⟨w.heap.size, 2, none⟩ = some (.slice A l.length c) := hX.cell 2
    by_cases hlt : k < l.length
    · by_cases hlt2 : k < 256
      · obtain ⟨b, off, x, rfl, hb, hc, hx⟩ := hA.at_ hlt
        have hxi : x ≤ 9223372036854775807 := by rw [← hx.out]; exact hi _ (by simp [List.getD, hlt])
        obtain ⟨y, hy⟩ : ∃ y, inn x 65536 = y := ⟨_, rfl⟩
        have HD2 : Hid (D ++ [y] = (envl l).take (k + 1)) := hid (by
          have h1 : (envl l)[k]? = some y := by
            have h2 := hx.out
            simp only [List.getD, hlt, List.getElem?_eq_getElem, Option.getD_some] at h2
            simp [envl, hlt, hlt2, h2, hy]
          rw [take_snoc' h1, ← HD.out])
        have hS : ∀ Z, (Blk Z w.heap.size 25 #[.int .i64 ew, .int .i64 eh, .slice (some ⟨b, off, none⟩) l.length c] ∧ Blk Z (w.heap.size + 1) 25 #[.int .i64 0, .int .i64 0, .slice none 0 0] ∧ Blk Z g 25 #[.int .i64 nw, .int .i64 nh, .slice A2 k c2] ∧ Below w.heap.size w Z) → (fun Z => (Blk Z w.heap.size 25 #[.int .i64 ew, .int .i64 eh, .slice (some ⟨b, off, none⟩) l.length c] ∧ Blk Z (w.heap.size + 1) 25 #[.int .i64 0, .int .i64 0, .slice none 0 0] ∧ Blk Z g 25 #[.int .i64 nw, .int .i64 nh, .slice A2 k c2] ∧ Below w.heap.size w Z) ∧ Z.cell? ⟨g, 2, none⟩ = some (.slice A2 k c2) ∧ Z.cell? ⟨w.heap.size, 2, none⟩ = some (.slice (some ⟨b, off, none⟩) l.length c) ∧ Z.cell? ⟨b, off + k, none⟩ = some (.int .i64 x)) Z := fun Z h => ⟨h, h.2.2.1.cell 2, h.1.cell 2, ((h.2.2.2.cell hb).trans hc)⟩
        go_upto_region 5 with fail
        refine wp_region_noPanic ?_
        refine Ord.region_Q (S := fun Z => (Blk Z w.heap.size 25 #[.int .i64 ew, .int .i64 eh, .slice (some ⟨b, off, none⟩) l.length c] ∧ Blk Z (w.heap.size + 1) 25 #[.int .i64 0, .int .i64 0, .slice none 0 0] ∧ Blk Z g 25 #[.int .i64 nw, .int .i64 nh, .slice A2 k c2] ∧ Below w.heap.size w Z) ∧ Z.cell? ⟨g, 2, none⟩ = some (.slice A2 k c2) ∧ Z.cell? ⟨w.heap.size, 2, none⟩ = some (.slice (some ⟨b, off, none⟩) l.length c) ∧ Z.cell? ⟨b, off + k, none⟩ = some (.int .i64 x)) 11 (.one 0 true (.one 1 true (.one 2 true (.one 3 true (.one 4 true (.one 5 true (.one 6 true (.one 7 true (.one 8 false (.one 9 false (.one 10 true (.one 11 false .nil)))))))))))) (by kernel_rfl) (by kernel_rfl) (by kernel_rfl) (by decide) (fun _ _ _ _ _ h => h) (hS _ ⟨hX.drew, hR.drew, hG.drew, hB.drew⟩) (fun hS0 => ?_)
        simp only [Ord.layT, List.getElem?_cons_zero, List.getElem?_cons_succ]
        (refine Ord.takeQ (v := ?_) (Or.inl ⟨rfl, ?_⟩) ?_; rotate_left; (intro w hSw; (try dsimp only at hSw); go_simp; try (with_reducible rfl)); (try simp only [Act.put, List.setIfInBounds_toArray, List.set_cons_zero, List.set_cons_succ]))
        (refine Ord.takeQ (v := ?_) (Or.inl ⟨rfl, ?_⟩) ?_; rotate_left; (intro w hSw; (try dsimp only at hSw); go_simp; try (with_reducible rfl)); (try simp only [Act.put, List.setIfInBounds_toArray, List.set_cons_zero, List.set_cons_succ]))
        (refine Ord.takeQ (v := ?_) (Or.inl ⟨rfl, ?_⟩) ?_; rotate_left; (intro w hSw; (try dsimp only at hSw); go_simp; try (with_reducible rfl)); (try simp only [Act.put, List.setIfInBounds_toArray, List.set_cons_zero, List.set_cons_succ]))
        (refine Ord.takeQ (v := ?_) (Or.inl ⟨rfl, ?_⟩) ?_; rotate_left; (intro w hSw; (try dsimp only at hSw); go_simp; try (with_reducible rfl)); (try simp only [Act.put, List.setIfInBounds_toArray, List.set_cons_zero, List.set_cons_succ]))
        (refine Ord.takeQ (v := ?_) (Or.inl ⟨rfl, ?_⟩) ?_; rotate_left; (intro w hSw; (try dsimp only at hSw); go_simp; try (with_reducible rfl)); (try simp only [Act.put, List.setIfInBounds_toArray, List.set_cons_zero, List.set_cons_succ]))
        (refine Ord.takeQ (v := ?_) (Or.inl ⟨rfl, ?_⟩) ?_; rotate_left; (intro w hSw; (try dsimp only at hSw); go_simp; try (with_reducible rfl)); (try simp only [Act.put, List.setIfInBounds_toArray, List.set_cons_zero, List.set_cons_succ]))
        (refine Ord.takeQ (v := ?_) (Or.inl ⟨rfl, ?_⟩) ?_; rotate_left; (intro w hSw; (try dsimp only at hSw); go_simp; try (with_reducible rfl)); (try simp only [Act.put, List.setIfInBounds_toArray, List.set_cons_zero, List.set_cons_succ]))
        (refine Ord.takeC 15 #[.int .i64 x, .int .i64 65536] rfl (fun _ _ => by kernel_rfl) (fun w hSw => keep_in x 65536 w (by omega) (by omega) (by omega)) ?_; (try simp only [Act.put, List.setIfInBounds_toArray, List.set_cons_zero, List.set_cons_succ]))
        refine Ord.aloneQ rfl rfl (fun K hK => ?_)
        go_wp2_with fail
        have hS1 := hS (wr.alloc (.cells #[.int .i64 y] 2)).drew ⟨(hX.alloc _).drew, (hR.alloc _).drew, (hG.alloc _).drew, (hB.alloc hB.size _).drew⟩
        (try simp only [Act.put, List.setIfInBounds_toArray, List.set_cons_zero, List.set_cons_succ])
        refine hK.out _ _ (hS1) (fun _ => ?_)
        clear hK K
        refine Ord.aloneQ rfl rfl (fun K hK => ?_)
        have hown := own_drew (ho.alloc (.cells #[.int .i64 y] 2))
        refine wp_append_own _ _ _ 23 rfl w.heap.size 2 i0 (.int .i64 0) 1 8 Tryz.underlying23 hi0 hz0 hz1 hz2 rfl (by decide) (.slice A2 k c2) _ _ rfl hown ⟨wr.heap.size, 0, none⟩ 1 1 [.int .i64 y] rfl rfl (news_at (Blk.new wr 2 #[.int .i64 y]).drew rfl) (by simp [Value.oneCell']) (by unfold maxLen; omega) (by omega) (by simp; omega) ?_
        intro v2 w5 ho2 hg2 _
        obtain ⟨A3, c3, rfl, -⟩ := own_some ho2
        have hS2 := hS w5 ⟨hS1.1.1.grown hown hg2 (by decide), hS1.1.2.1.grown hown hg2 (by decide), hS1.1.2.2.1.grown hown hg2 (by decide), (hB.alloc hB.size _).drew.trans (own_belowB hown hg2 (by simp; omega))⟩
        (try simp only [Act.put, List.setIfInBounds_toArray, List.set_cons_zero, List.set_cons_succ])
        refine hK.out _ _ (hS2) (fun _ => ?_)
        clear hK K
        (refine Ord.takeQ (v := ?_) (Or.inl ⟨rfl, ?_⟩) ?_; rotate_left; (intro w hSw; (try dsimp only at hSw); go_simp; try (with_reducible rfl)); (try simp only [Act.put, List.setIfInBounds_toArray, List.set_cons_zero, List.set_cons_succ]))
        refine Ord.lastQ rfl rfl (fun K hK => ?_)
        have f2 : w5.frozen? ⟨g, 2, none⟩ = false := hS2.1.2.2.1.free 2
        go_wp2_with fail
        (try simp only [Act.put, List.setIfInBounds_toArray, List.set_cons_zero, List.set_cons_succ])
        refine hK.out _ _ ?_
        clear hK K
        refine Ord.doneQ (NoPanic.normal ?_)
        replace hX := hS2.1.1.far (p := ⟨g, 2, none⟩) (by simp; omega) (.slice A3 (k + 1) c3)
        replace hR := hS2.1.2.1.far (p := ⟨g, 2, none⟩) (by simp; omega) (.slice A3 (k + 1) c3)
        replace hG := hS2.1.2.2.1.put 2 (.slice A3 (k + 1) c3)
        replace hB := hS2.1.2.2.2.setCell (p := ⟨g, 2, none⟩) (by simp; omega) (.slice A3 (k + 1) c3)
        have ho5 : (w5.setCell ⟨g, 2, none⟩ (.slice A3 (k + 1) c3)).ownsRow w.heap.size 2 1 (.slice A3 (k + 1) c3) (k + 1) (ints (D ++ [y])).toList := by
          have h1 : w5.ownsRow w.heap.size 2 1 (.slice A3 (k + 1) c3) (k + 1) (ints (D ++ [y])).toList := by simpa [ints] using ho2
          exact own_map h1 (fun q hq _ cs hcs => hcs.far (by rintro rfl; exact own_not hS2.1.2.2.1 h1 (by decide) hq.symm) _)
        clear hS hS0 hS1 hS2 f2 ho ho2 hown hg2
        go_wp2_with fail
        go_roundw
        case rel => exact ⟨k + 1, D ++ [y], .slice A3 (k + 1) c3, by omega, by omega, by go_num, by simp [hD.out], HD2, hX, hR, hG, ho5, hB⟩
        case measure => simp [intOf]; omega
      · obtain rfl : k = 256 := by omega
        have HL : Hid ((envl l).length = 256) := hid (by simp [envl]; omega)
        have HE : Hid (D = envl l) := hid (by rw [HD.out, ← HL.out, List.take_length])
        have q0 : wr.cell? ⟨g, 0, none⟩ = some (.int .i64 nw) := hG.cell 0
        have p0 : wr.cell? ⟨w.heap.size + 1, 0, none⟩ = some (.int .i64 0) := hR.cell 0
        have f0 : wr.frozen? ⟨w.heap.size + 1, 0, none⟩ = false := hR.free 0
        have q1 : wr.cell? ⟨g, 1, none⟩ = some (.int .i64 nh) := hG.cell 1
        have p1 : wr.cell? ⟨w.heap.size + 1, 1, none⟩ = some (.int .i64 0) := hR.cell 1
        have f1 : wr.frozen? ⟨w.heap.size + 1, 1, none⟩ = false := hR.free 1
        have q2 : wr.cell? ⟨g, 2, none⟩ = some (.slice A2 256 c2) := hG.cell 2
        have p2 : wr.cell? ⟨w.heap.size + 1, 2, none⟩ = some (.slice none 0 0) := hR.cell 2
        have f2 : wr.frozen? ⟨w.heap.size + 1, 2, none⟩ = false := hR.free 2
        go_wp2_with fail
        refine bodyPost_ret (results_row 2 25 (w.heap.size + 1) rfl rfl (((hR.put 0 _).put 1 _).put 2 _) _ Tryz.underlying25 rfl (by kernel_rfl)) rfl ?_
        refine ⟨.slice A2 256 c2, by rw [hnw, hnh]; rfl, ((hB.setCell (by simp) _).setCell (by simp) _).setCell (by simp) _, ?_⟩
        rw [HL.out, ← HE.out]
        exact own_map ho (fun q hq _ cs hcs => by
          have hne : q ≠ w.heap.size + 1 := by rintro rfl; exact own_not hR ho (by decide) hq.symm
          exact ((hcs.far hne _).far hne _).far hne _)
    · obtain rfl : k = l.length := by omega
      have HL : Hid ((envl l).length = l.length) := hid (by simp [envl]; omega)
      have HE : Hid (D = envl l) := hid (by rw [HD.out, ← HL.out, List.take_length])
      have g0 : decide ((l.length : Int) < (l.length : Int)) = false := decide_eq_false (by omega)
      have q0 : wr.cell? ⟨g, 0, none⟩ = some (.int .i64 nw) := hG.cell 0
      have p0 : wr.cell? ⟨w.heap.size + 1, 0, none⟩ = some (.int .i64 0) := hR.cell 0
      have f0 : wr.frozen? ⟨w.heap.size + 1, 0, none⟩ = false := hR.free 0
      have q1 : wr.cell? ⟨g, 1, none⟩ = some (.int .i64 nh) := hG.cell 1
      have p1 : wr.cell? ⟨w.heap.size + 1, 1, none⟩ = some (.int .i64 0) := hR.cell 1
      have f1 : wr.frozen? ⟨w.heap.size + 1, 1, none⟩ = false := hR.free 1
      have q2 : wr.cell? ⟨g, 2, none⟩ = some (.slice A2 l.length c2) := hG.cell 2
      have p2 : wr.cell? ⟨w.heap.size + 1, 2, none⟩ = some (.slice none 0 0) := hR.cell 2
      have f2 : wr.frozen? ⟨w.heap.size + 1, 2, none⟩ = false := hR.free 2
      go_wp2_with fail
      refine bodyPost_ret (results_row 2 25 (w.heap.size + 1) rfl rfl (((hR.put 0 _).put 1 _).put 2 _) _ Tryz.underlying25 rfl (by kernel_rfl)) rfl ?_
      refine ⟨.slice A2 l.length c2, by rw [hnw, hnh]; rfl, ((hB.setCell (by simp) _).setCell (by simp) _).setCell (by simp) _, ?_⟩
      rw [HL.out, ← HE.out]
      exact own_map ho (fun q hq _ cs hcs => by
        have hne : q ≠ w.heap.size + 1 := by rintro rfl; exact own_not hR ho (by decide) hq.symm
        exact ((hcs.far hne _).far hne _).far hne _)
end Go.Proofs.YtkkiefcapbddkaaGreatDoor
namespace Go.Proofs.YtkkiefcapbddkaaGreatDoor
open Go.ChangeShapes Go.WideShapes Go.RowKit Go.Joins Go.Deep Num Mem Opn
namespace Opn
def styleTypes : List TypeId := [3, 3, 3, 3, 3, 2, 3, 2, 3, 2, 3, 2, 3, 2, 3, 2, 3, 2, 3, 2, 3, 2, 3, 2, 3, 2, 3, 2, 3, 2, 3, 2, 2, 2, 2, 2, 36, 36, 2, 2, 3, 4, 4, 4, 4, 2, 2, 2, 3, 3, 2, 4]
theorem cells_style : Tryz.prog.cellTypes Tryz.prog.depth 63 = some styleTypes := by kernel_rfl
theorem style_cells : Tryz.prog.cellsOf 63 = 52 := by kernel_rfl
theorem style_kinds : ∀ u ∈ styleTypes, u = 3 ∨ u = 2 ∨ u = 36 ∨ u = 4 := by decide
theorem cell_int {P : Program} {w : World} {r : Reach} {b : Nat} {t : TypeId} {k : IntKind} {v : Value} (ht : P.underlying t = some (.int k)) (h : Cell.okWide P w r b t v) : ∃ n, v = .int k n := by
  unfold Cell.okWide at h
  rw [ht] at h
  simp only [Cell.ok, ht] at h
  cases v <;> simp at h
  obtain ⟨rfl, hb⟩ := h
  exact ⟨_, rfl⟩
theorem cell_i64 {P : Program} {w : World} {r : Reach} {b : Nat} {t : TypeId} {v : Value} (ht : P.underlying t = some (.int .i64)) (h : Cell.okWide P w r b t v) : ∃ n, v = .int .i64 n ∧ I64 n := by
  unfold Cell.okWide at h
  rw [ht] at h
  simp only [Cell.ok, ht] at h
  cases v <;> simp at h
  obtain ⟨rfl, hb⟩ := h
  refine ⟨_, rfl, ?_⟩
  simp [IntKind.has, IntKind.min, IntKind.max, IntKind.signed, IntKind.bits] at hb
  exact ⟨by omega, by omega⟩
theorem cell_bool {P : Program} {w : World} {r : Reach} {b : Nat} {t : TypeId} {v : Value} (ht : P.underlying t = some .bool) (h : Cell.okWide P w r b t v) : ∃ x, v = .bool x := by
  unfold Cell.okWide at h
  rw [ht] at h
  simp only [Cell.ok, ht] at h
  cases v <;> simp at h
  exact ⟨_, rfl⟩
theorem i32_of_wf {a : Int} (h : (Lit.int .i32 a).wf = true) : -2147483648 ≤ a ∧ a ≤ 2147483647 := by
  simp [Lit.wf, IntKind.min, IntKind.max, IntKind.signed, IntKind.bits] at h
  exact ⟨by omega, by omega⟩
structure Style52 (cs : Array Value) (sz ln : Int) : Prop where
  size : cs.size = 52
  one : cs.all (·.oneCell') = true
  c38 : cs[38]? = some (.int .i64 sz)
  c39 : cs[39]? = some (.int .i64 ln)
  isz : I64 sz
  iln : I64 ln
set_option maxRecDepth 100000 in
theorem open_style52 {W : World} {r : Reach} {b : Nat} {v : Value} (h : Value.okWide Tryz.prog W r b 63 v) : ∃ cs sz ln, v = .agg cs ∧ Style52 cs sz ln := by
  unfold Value.okWide at h
  rw [Tryz.underlying63] at h
  obtain ⟨cs, rfl, hsz, ts, hts, -, hrow⟩ := h
  rw [cells_style] at hts
  obtain rfl := Option.some.inj hts
  rw [style_cells] at hsz
  have hone : ∀ i (hi : i < cs.size), (cs[i]).oneCell' = true := by
    intro i hi
    obtain ⟨u, hu, hc⟩ := hrow i cs[i] (by simp [hi])
    rcases style_kinds u (List.mem_of_getElem? hu) with rfl | rfl | rfl | rfl
    · obtain ⟨n, e⟩ := cell_int Tryz.underlying3 hc; rw [e]; rfl
    · obtain ⟨n, e⟩ := cell_int Tryz.underlying2 hc; rw [e]; rfl
    · obtain ⟨n, e⟩ := cell_int Tryz.underlying36 hc; rw [e]; rfl
    · obtain ⟨n, e⟩ := cell_bool Tryz.underlying4 hc; rw [e]; rfl
  obtain ⟨u, hu, hc⟩ := hrow 38 cs[38] (by simp [hsz])
  obtain rfl : 2 = u := Option.some.inj hu
  obtain ⟨n, e, hn⟩ := cell_i64 Tryz.underlying2 hc
  obtain ⟨u2, hu2, hc2⟩ := hrow 39 cs[39] (by simp [hsz])
  obtain rfl : 2 = u2 := Option.some.inj hu2
  obtain ⟨n2, e2, hn2⟩ := cell_i64 Tryz.underlying2 hc2
  refine ⟨cs, n, n2, rfl, hsz, by simp only [Array.all_eq_true]; exact hone, ?_, ?_, hn, hn2⟩
  · rw [← e]; simp [hsz]
  · rw [← e2]; simp [hsz]
section
variable {H : Type} {enc : TypeId × Value → H} {W : World}
set_option maxRecDepth 100000 in
theorem open_env {b0 : Nat} {v : Value} {d : DataW H} {p : List MemPlace} (hv : Value.okWide Tryz.prog W .any b0 25 v) (h : DataW.Trod enc Tryz.prog W 0 (fun _ => true) true 25 v d p) (hlt : ∀ x ∈ p, x.block < W.heap.size)
    (hs : ∀ n ∈ d.weights Tryz.prog 25, n ≤ reachBytes) : ∃ ew eh A l c, v = .agg #[.int .i64 ew, .int .i64 eh, .slice A l.length c] ∧ I64 ew ∧ I64 eh ∧ Row64 W A l c := by
  obtain ⟨v0, v1, v2, y0, y1, y2, n, rfl, rfl, rfl, h0, h1, h2⟩ := open_agg3 Tryz.underlying25 (by kernel_rfl) (by kernel_rfl) hv h
  obtain ⟨x0, e0, _, w0⟩ := DataW.trod_int Tryz.underlying2 h0
  obtain ⟨x1, e1, _, w1⟩ := DataW.trod_int Tryz.underlying2 h1
  simp only [List.cons.injEq, and_true] at e0 e1
  subst e0 e1
  have hsl : ∃ a len cap, v2 = .slice a len cap := by
    rcases DataW.trod_slice Tryz.underlying23 h2 with ⟨e, -⟩ | ⟨a, len, cap, _, _, _, _, e, -⟩
    · simp only [List.cons.injEq, and_true] at e; exact ⟨_, _, _, e⟩
    · simp only [List.cons.injEq, and_true] at e; exact ⟨_, _, _, e⟩
  obtain ⟨A, l, c, rfl, hr⟩ := open_row (d := y2.1) (p := y2.2) Tryz.underlying23 Tryz.underlying2 (by kernel_rfl) (by kernel_rfl) hsl ⟨n, by obtain ⟨a, len, cap, rfl⟩ := hsl; exact h2⟩ (fun x hx => hlt x (by simp [hx])) (fun es sp e => by
    refine hs _ ?_
    simp only [DataW.weights, Tryz.underlying25]
    refine DataW.weights_mem_each (j := 2) (t := 23) (d := y2.1) rfl rfl _ ?_
    rw [e]
    simp [DataW.weights, Tryz.underlying23])
  exact ⟨x0, x1, A, l, c, rfl, i64_of_wf w0, i64_of_wf w1, hr⟩
end
end Opn
end Go.Proofs.YtkkiefcapbddkaaGreatDoor
