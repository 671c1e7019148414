/-
  The walks of flex.Places and flex.Across.
-/
import Derived.Test.YteghacdpfhohoaaFlexC
import Derived.Deep.DeepCutAuto
import Derived.Deep.CutBlock
namespace Go.Proofs.Yteghacdpfhohoaa
open Go.RowKit Num Mem Opn
set_option linter.unusedVariables false
set_option linter.unusedSimpArgs false
namespace Num
/-- where something begins, and how long it is. -/
structure Sp where
  at_ : Int
  size : Int
deriving DecidableEq
def Sp.cells (s : Sp) : List Value := [.int .i64 s.at_, .int .i64 s.size]
/-- what is left of the room when the first k have their sizes. -/
def lefts (room : Int) (l : List It) (s : List Int) : Nat → Int
  | 0 => room
  | k + 1 => sub (sub (lefts room l s k) (s.getD k 0)) (l.getD k it0).outer
def lft (room : Int) (l : List It) (s : List Int) : Int := max (lefts room l s l.length) 0
def onesL (n : Nat) : List Int := List.replicate n 1
/-- where the first one begins. -/
def at0 (left justify : Int) : Int := if justify = 1 then left else if justify = 2 then prt left 1 2 else 0
/-- the gaps between. -/
def gapsOf (left justify : Int) (n : Nat) : List Int := if justify = 3 ∧ 1 < n then share left (onesL (n - 1)) else List.replicate (n - 1) 0
def ats (a : Int) (l : List It) (s g : List Int) : Nat → Int
  | 0 => a
  | k + 1 => if k < g.length then add (add (add (ats a l s g k) (s.getD k 0)) (l.getD k it0).outer) (g.getD k 0) else add (add (ats a l s g k) (s.getD k 0)) (l.getD k it0).outer
/-- where the first k lie. -/
def plcs (a : Int) (l : List It) (s g : List Int) : Nat → List Sp
  | 0 => []
  | k + 1 => plcs a l s g k ++ [⟨ats a l s g k, s.getD k 0⟩]
theorem plcs_length (a : Int) (l : List It) (s g : List Int) (k : Nat) : (plcs a l s g k).length = k := by
  induction k with
  | zero => rfl
  | succ k ih => simp [plcs, ih]
def places (room : Int) (l : List It) (justify : Int) : List Sp :=
  plcs (at0 (lft room l (sizes room l)) justify) l (sizes room l) (gapsOf (lft room l (sizes room l)) justify l.length) l.length
def across (room outer size align : Int) (stretch : Bool) : Sp :=
  if align = 4 ∧ stretch = true then ⟨0, max (sub room outer) 0⟩
  else if align = 1 then ⟨sub (sub room outer) size, size⟩
  else if align = 2 then ⟨prt (sub (sub room outer) size) 1 2, size⟩
  else ⟨0, size⟩
theorem shr_len {l : List It} : ∀ (n : Nat) (x : List Int) (fz : List Bool) (ow : Int), x.length = l.length → (shr n l x fz ow).length = l.length := by
  intro n
  induction n with
  | zero => intro x fz ow h; exact h
  | succ n ih =>
    intro x fz ow h
    have hl := pas_length (share ow (wts fz l)) ⟨x, fz, ow, false⟩ l.length
    rw [shr]
    split
    · exact h
    · split
      · exact h
      · split
        · exact ih _ _ _ (hl.1.trans h)
        · rw [subs_length]; exact hl.1.trans h
theorem sizes_length (room : Int) (l : List It) : (sizes room l).length = l.length := by
  unfold sizes
  split
  · rw [zadd_length (by rw [share_length, outs_length, grws_length]), outs_length]
  · split
    · exact shr_len _ _ _ _ (outs_length l)
    · exact outs_length l
theorem gapsOf_length (left justify : Int) (n : Nat) : (gapsOf left justify n).length = n - 1 := by
  unfold gapsOf
  split
  · rw [share_length]; simp [onesL]
  · simp
theorem ones_upto (n k : Nat) : upto (fun _ => (1 : Int)) n n = onesL n := by
  apply List.ext_getElem
  · simp [upto, onesL]
  · intro i h1 h2
    simp [upto, onesL] at h1 ⊢
    omega
end Num
theorem info_span : (Try.prog.info? 76).map (fun i => (i.zero, i.size, i.bytes)) = some (some (.agg #[.int .i64 0, .int .i64 0]), 2, 16) := by kernel_rfl
def sp2 (a b : Int) : Array Value := #[.int .i64 a, .int .i64 b]
theorem info_sp2 (a b : Int) : (Try.prog.info? 76).map (·.size) = some (sp2 a b).size := by kernel_rfl
theorem sp_one (a b : Int) : (sp2 a b).all (·.oneCell') = true := by simp [sp2, Value.oneCell']
theorem sp_length (x : Sp) : x.cells.length = 2 := rfl
set_option maxRecDepth 100000 in
set_option maxHeartbeats 4000000 in
theorem flex_Across (room outer size align : Int) (st : Bool) (w : World) : Calls Try.prog 49 #[.int .i64 room, .int .i64 outer, .int .i64 size, .int .i64 align, .bool st] w fun e w' =>
    e = .returned (.agg #[.int .i64 (across room outer size align st).at_, .int .i64 (across room outer size align st).size]) ∧ Below w.heap.size w w' := by
  have hX : Blk (w.alloc (.cells (sp2 0 0) 76)) w.heap.size 76 (sp2 0 0) := Blk.new _ _ _
  have hB : Below w.heap.size w (w.alloc (.cells (sp2 0 0) 76)) := (Below.refl _ _).alloc (Nat.le_refl _) _
  obtain ⟨T, hT⟩ : ∃ T, across room outer size align st = T := ⟨_, rfl⟩
  have HT : Hid ((if align = 4 ∧ st = true then (⟨0, max (sub room outer) 0⟩ : Sp) else if align = 1 then ⟨sub (sub room outer) size, size⟩ else if align = 2 then ⟨prt (sub (sub room outer) size) 1 2, size⟩ else ⟨0, size⟩) = T) := hid hT
  rw [hT]
  clear hT
  go_enter Try.func49, Try.ntmps49
  go_upto_region 1 with fail
  refine wp_forget (fun Z => Blk Z w.heap.size 76 (sp2 0 0) ∧ Below w.heap.size w Z) ⟨hX, hB⟩ ?_
  clear hX hB
  rintro w1 ⟨hX, hB⟩
  by_cases h4 : align = 4 ∧ st = true
  · obtain ⟨rfl, rfl⟩ := h4
    have HZ : Hid (T = ⟨0, max (sub room outer) 0⟩) := hid (by rw [← HT.out, if_pos ⟨rfl, rfl⟩])
    clear HT
    go_wp2_with (first | (go_at_call 51; refine (fixed_Sub _ _ _).mono ?_; rintro e w' ⟨rfl, rfl⟩) | (first | refine stop_load 76 _ rfl rfl ?_ | refine stop_store 76 _ _ rfl rfl ?_))
    refine ⟨?_⟩
    refine wl_store rfl 76 _ _ rfl w.heap.size (sp2 0 (max (sub room outer) 0)) rfl rfl 76 _ hX rfl (info_sp2 _ _) (sp_one _ _) ?_
    intro w2 hX2 hC
    (try simp only [Act.put, List.setIfInBounds_toArray, List.set_cons_zero, List.set_cons_succ])
    go_wp2_with fail
    refine bodyPost_ret (results_row 10 76 _ rfl rfl hX2 _ Try.underlying76 rfl (info_sp2 _ _)) rfl ?_
    exact ⟨by rw [HZ.out]; rfl, hB.trans (hC.below (Nat.le_refl _))⟩
  · have HT1 : Hid ((if align = 1 then ⟨sub (sub room outer) size, size⟩ else if align = 2 then ⟨prt (sub (sub room outer) size) 1 2, size⟩ else ⟨0, size⟩) = T) := hid (by rw [← HT.out, if_neg h4])
    have g4 : (align == 4) = false ∨ (align == 4) = true ∧ st = false := by
      by_cases h : align = 4
      · right
        refine ⟨by simpa using h, ?_⟩
        cases st
        · rfl
        · exact absurd ⟨h, rfl⟩ h4
      · left; simpa using h
    clear HT h4
    by_cases h1 : align = 1
    · have HZ : Hid (T = ⟨sub (sub room outer) size, size⟩) := hid (by rw [← HT1.out, if_pos h1])
      subst h1
      clear HT1 g4
      go_wp2_with (first | (go_at_call 51; refine (fixed_Sub _ _ _).mono ?_; rintro e w' ⟨rfl, rfl⟩) | (first | refine stop_load 76 _ rfl rfl ?_ | refine stop_store 76 _ _ rfl rfl ?_))
      refine ⟨?_⟩
      refine wl_store rfl 76 _ _ rfl w.heap.size (sp2 (sub (sub room outer) size) size) rfl rfl 76 _ hX rfl (info_sp2 _ _) (sp_one _ _) ?_
      intro w2 hX2 hC
      (try simp only [Act.put, List.setIfInBounds_toArray, List.set_cons_zero, List.set_cons_succ])
      go_wp2_with fail
      refine bodyPost_ret (results_row 10 76 _ rfl rfl hX2 _ Try.underlying76 rfl (info_sp2 _ _)) rfl ?_
      exact ⟨by rw [HZ.out]; rfl, hB.trans (hC.below (Nat.le_refl _))⟩
    · have g1 : (align == 1) = false := by simpa using h1
      have HT2 : Hid ((if align = 2 then ⟨prt (sub (sub room outer) size) 1 2, size⟩ else ⟨0, size⟩) = T) := hid (by rw [← HT1.out, if_neg h1])
      clear HT1 h1
      by_cases h2 : align = 2
      · have HZ : Hid (T = ⟨prt (sub (sub room outer) size) 1 2, size⟩) := hid (by rw [← HT2.out, if_pos h2])
        subst h2
        clear HT2 g4 g1
        go_wp2_with (first | (go_at_call 51; refine (fixed_Sub _ _ _).mono ?_; rintro e w' ⟨rfl, rfl⟩) | (go_at_call 55; refine (fixed_Part _ _ _ _).mono ?_; rintro e w' ⟨rfl, rfl⟩) | (first | refine stop_load 76 _ rfl rfl ?_ | refine stop_store 76 _ _ rfl rfl ?_))
        refine ⟨?_⟩
        refine wl_store rfl 76 _ _ rfl w.heap.size (sp2 (prt (sub (sub room outer) size) 1 2) size) rfl rfl 76 _ hX rfl (info_sp2 _ _) (sp_one _ _) ?_
        intro w2 hX2 hC
        (try simp only [Act.put, List.setIfInBounds_toArray, List.set_cons_zero, List.set_cons_succ])
        go_wp2_with fail
        refine bodyPost_ret (results_row 10 76 _ rfl rfl hX2 _ Try.underlying76 rfl (info_sp2 _ _)) rfl ?_
        exact ⟨by rw [HZ.out]; rfl, hB.trans (hC.below (Nat.le_refl _))⟩
      · have HZ : Hid (T = ⟨0, size⟩) := hid (by rw [← HT2.out, if_neg h2])
        have g2 : (align == 2) = false := by simpa using h2
        clear HT2 h2
        rcases g4 with g4 | ⟨g4, rfl⟩
        all_goals
          go_wp2_with (first | (go_at_call 51; refine (fixed_Sub _ _ _).mono ?_; rintro e w' ⟨rfl, rfl⟩) | (first | refine stop_load 76 _ rfl rfl ?_ | refine stop_store 76 _ _ rfl rfl ?_))
          refine ⟨?_⟩
          refine wl_store rfl 76 _ _ rfl w.heap.size (sp2 0 size) rfl rfl 76 _ hX rfl (info_sp2 _ _) (sp_one _ _) ?_
          intro w2 hX2 hC
          (try simp only [Act.put, List.setIfInBounds_toArray, List.set_cons_zero, List.set_cons_succ])
          go_wp2_with fail
          refine bodyPost_ret (results_row 10 76 _ rfl rfl hX2 _ Try.underlying76 rfl (info_sp2 _ _)) rfl ?_
          exact ⟨by rw [HZ.out]; rfl, hB.trans (hC.below (Nat.le_refl _))⟩
set_option maxRecDepth 100000 in
set_option maxHeartbeats 8000000 in
theorem flex_Places (room : Int) (l : List It) (A : Option Addr) (c : Nat) (just : Int) (w : World) (hl : l.length ≤ 1000) (hr : I64 room) (hA : Recs w w.heap.size A 4 It.cells l) :
    Calls Try.prog 40 #[.int .i64 room, .slice A l.length c, .int .i64 just] w fun e w' =>
      ∃ v, e = .returned v ∧ Below w.heap.size w w' ∧ w'.ownsRow w.heap.size 76 2 v l.length ((places room l just).flatMap Sp.cells) := by
  obtain ⟨ii, hi1, hz1, hs1, hb1⟩ := info_parts info_span
  obtain ⟨T, hT⟩ : ∃ T, places room l just = T := ⟨_, rfl⟩
  have HT : Hid (plcs (at0 (lft room l (sizes room l)) just) l (sizes room l) (gapsOf (lft room l (sizes room l)) just l.length) l.length = T) := hid hT
  rw [hT]
  clear hT
  have hmk := make_ints (l.length - 1) (by omega)
  go_enter Try.func40, Try.ntmps40
  go_wp2_with fail
  refine (flex_Sizes room l A c _ hl hr hA).mono ?_
  rintro e w1 ⟨rfl, hB, hS⟩
  have HSL := hid (sizes_length room l)
  generalize hs : sizes room l = s at *
  replace hs := hid hs
  generalize hg : w.heap.size = g at *
  replace hg := hid hg
  go_wp2_with fail
  go_loopw [8, 23] (fun s8 s23 wr => ∃ k : Nat, k ≤ l.length ∧ s23 = .int .i64 k ∧ s8 = .int .i64 (lefts room l s k) ∧ Blk wr g 2 (ints s) ∧ Below g w wr) (fun _ i _ => l.length - (intOf i).toNat)
  case atStart => exact ⟨0, Nat.zero_le _, rfl, rfl, hS, hB⟩
  case round =>
    clear hS hB
    obtain ⟨k, hk, rfl, rfl, hS, hB⟩ := hrel
    by_cases hlt : k < l.length
    · obtain ⟨b, off, it1, rfl, hb, HX, HG, hrg⟩ := items_range (hA.below hB) hlt
      have hgx := hS.lt
      go_wp2_with (first | refine stop_load 30 _ rfl rfl ?_ | refine stop_store 30 _ _ rfl rfl ?_)
      refine ⟨?_⟩
      refine wl_load_at rfl 30 _ rfl b (off + k * 4) rfl (it4 it1.base it1.outer it1.grow it1.shrink) _ hrg Try.underlying30 rfl (info_it4 _ _ _ _) ?_
      (try simp only [Act.put, List.setIfInBounds_toArray, List.set_cons_zero, List.set_cons_succ])
      go_wp2_with (first | refine stop_load 30 _ rfl rfl ?_ | refine stop_store 30 _ _ rfl rfl ?_)
      refine ⟨?_⟩
      refine wl_store rfl 30 _ _ rfl wr.heap.size (it4 it1.base it1.outer it1.grow it1.shrink) rfl rfl 30 _ (Blk.new _ _ _) rfl (info_it4 _ _ _ _) (it_one _ _ _ _) ?_
      intro w2 hX hC
      (try simp only [Act.put, List.setIfInBounds_toArray, List.set_cons_zero, List.set_cons_succ])
      have hbb : Below wr.heap.size wr w2 := ((Below.refl wr.heap.size wr).alloc (Nat.le_refl _) _).trans (hC.below (Nat.le_refl _))
      replace hS := hS.below hbb hgx
      have hB2 := hB.trans (hbb.mono (by omega))
      clear hbb hC hB hrg
      generalize wr.heap.size = gx at *
      obtain ⟨y, hy, HY⟩ := hS.intAt (i := k) (by rw [HSL.out]; exact hlt)
      have HFR : Hid (lefts room l s (k + 1) = sub (sub (lefts room l s k) y) it1.outer) := hid (by show sub (sub _ (s.getD k 0)) _ = _; rw [HY.out, HG.out])
      have hSQ : (fun Z : World => Z.cell? ⟨g, k, none⟩ = some (.int .i64 y) ∧ Z.cell? ⟨gx, 1, none⟩ = some (.int .i64 it1.outer)) w2.drew := ⟨hy, hX.drew.cell 1⟩
      go_upto_region 6 with fail
      refine wp_region_noPanic ?_
      refine Ord.region_Q (S := fun Z : World => Z.cell? ⟨g, k, none⟩ = some (.int .i64 y) ∧ Z.cell? ⟨gx, 1, none⟩ = some (.int .i64 it1.outer)) 999 (.one 0 true (.one 1 true (.one 2 true (.one 3 true (.one 4 true (.one 5 true (.one 6 true (.one 7 true (.one 8 true (.one 9 true .nil)))))))))) (by kernel_rfl) (by kernel_rfl) (by kernel_rfl) (by decide) (fun _ _ _ _ _ h => h) (hSQ) (fun hS0 => ?_)
      simp only [Ord.layT, List.getElem?_cons_zero, List.getElem?_cons_succ]
      (refine Ord.takeQ (v := ?_) (Or.inl ⟨rfl, ?_⟩) ?_; rotate_left; (intro w hSw; (try dsimp only at hSw); go_simp; try (with_reducible rfl)); (try simp only [Act.put, List.setIfInBounds_toArray, List.set_cons_zero, List.set_cons_succ]))
      (refine Ord.takeQ (v := ?_) (Or.inl ⟨rfl, ?_⟩) ?_; rotate_left; (intro w hSw; (try dsimp only at hSw); go_simp; try (with_reducible rfl)); (try simp only [Act.put, List.setIfInBounds_toArray, List.set_cons_zero, List.set_cons_succ]))
      (refine Ord.takeQ (v := ?_) (Or.inl ⟨rfl, ?_⟩) ?_; rotate_left; (intro w hSw; (try dsimp only at hSw); go_simp; try (with_reducible rfl)); (try simp only [Act.put, List.setIfInBounds_toArray, List.set_cons_zero, List.set_cons_succ]))
      (refine Ord.takeQ (v := ?_) (Or.inl ⟨rfl, ?_⟩) ?_; rotate_left; (intro w hSw; (try dsimp only at hSw); go_simp; try (with_reducible rfl)); (try simp only [Act.put, List.setIfInBounds_toArray, List.set_cons_zero, List.set_cons_succ]))
      (refine Ord.takeQ (v := ?_) (Or.inl ⟨rfl, ?_⟩) ?_; rotate_left; (intro w hSw; (try dsimp only at hSw); go_simp; try (with_reducible rfl)); (try simp only [Act.put, List.setIfInBounds_toArray, List.set_cons_zero, List.set_cons_succ]))
      (refine Ord.takeC 51 #[.int .i64 (lefts room l s k), .int .i64 y] rfl (fun _ _ => by kernel_rfl) (fun w hSw => fixed_Sub _ _ _) ?_; (try simp only [Act.put, List.setIfInBounds_toArray, List.set_cons_zero, List.set_cons_succ]))
      (refine Ord.takeQ (v := ?_) (Or.inl ⟨rfl, ?_⟩) ?_; rotate_left; (intro w hSw; (try dsimp only at hSw); go_simp; try (with_reducible rfl)); (try simp only [Act.put, List.setIfInBounds_toArray, List.set_cons_zero, List.set_cons_succ]))
      (refine Ord.takeQ (v := ?_) (Or.inl ⟨rfl, ?_⟩) ?_; rotate_left; (intro w hSw; (try dsimp only at hSw); go_simp; try (with_reducible rfl)); (try simp only [Act.put, List.setIfInBounds_toArray, List.set_cons_zero, List.set_cons_succ]))
      (refine Ord.takeC 51 #[.int .i64 (sub (lefts room l s k) y), .int .i64 it1.outer] rfl (fun _ _ => by kernel_rfl) (fun w hSw => fixed_Sub _ _ _) ?_; (try simp only [Act.put, List.setIfInBounds_toArray, List.set_cons_zero, List.set_cons_succ]))
      (refine Ord.takeQ (v := ?_) (Or.inl ⟨rfl, ?_⟩) ?_; rotate_left; (intro w hSw; (try dsimp only at hSw); go_simp; try (with_reducible rfl)); (try simp only [Act.put, List.setIfInBounds_toArray, List.set_cons_zero, List.set_cons_succ]))
      refine Ord.doneQ (NoPanic.normal ?_)
      clear hSQ
      go_wp2_with fail
      go_roundw
      case rel => exact ⟨k + 1, by omega, by go_num, by rw [HFR.out], hS.drew, hB2.drew⟩
      case measure => simp [intOf]; omega
    · obtain rfl : k = l.length := by omega
      have HLF : Hid (lft room l s = max (lefts room l s l.length) 0) := hid rfl
      have hgx := hS.lt
      have hsz2 := hB.size
      obtain ⟨n1, hn1⟩ : ∃ n1 : Nat, l.length - 1 = n1 := ⟨_, rfl⟩
      rw [hn1] at hmk
      have em : max ((l.length : Int) - 1) 0 = (n1 : Int) := by omega
      have em2 : IntKind.i64.wrap ((l.length : Int) - 1) = (l.length : Int) - 1 := IntWalk.i64_in _ (by omega)
      have HN1 := hid hn1
      clear hn1
      have hm := hmk wr
      go_upto_block 2 with fail
      clear hm em em2 hmk
      rw [← HLF.out]
      generalize hlf : lft room l s = lf at *
      replace hlf := hid hlf
      clear HLF
      have hW : Blk (wr.alloc (.cells (ints (List.replicate n1 0)) 2)) wr.heap.size 2 (ints (List.replicate n1 0)) := Blk.new _ _ _
      replace hS := hS.alloc (.cells (ints (List.replicate n1 0)) 2)
      replace hB := hB.alloc (by omega) (.cells (ints (List.replicate n1 0)) 2)
      refine wp_forget (fun Z => Blk Z wr.heap.size 2 (ints (List.replicate n1 0)) ∧ Blk Z g 2 (ints s) ∧ Below g w Z) ⟨hW, hS, hB⟩ ?_
      clear hW hS hB
      rintro w3 ⟨hW, hS, hB⟩
      generalize wr.heap.size = gw at *
      go_cut [11, 12] (fun s11 s12 wx => s11 = .int .i64 (at0 lf just) ∧ ∃ gy : Nat, s12 = .slice (some ⟨gy, 0, none⟩) n1 n1 ∧ Blk wx gy 2 (ints (gapsOf lf just l.length)) ∧ Blk wx g 2 (ints s) ∧ Below g w wx)
      case first =>
        have hgw := hW.lt
        by_cases h3 : just = 3 ∧ 1 < l.length
        · obtain ⟨rfl, h3⟩ := h3
          have HG : Hid (gapsOf lf 3 l.length = share lf (onesL n1)) := hid (by unfold gapsOf; rw [if_pos ⟨rfl, h3⟩, HN1.out])
          have HAT : Hid (at0 lf 3 = 0) := hid rfl
          have d1 : decide (1 < l.length) = true := decide_eq_true h3
          have hW0 : Blk w3 gw 2 (ints (upto (fun _ => 1) n1 0)) := by rw [upto_zero]; exact hW
          clear hW
          go_wp2_with fail
          go_loopw [64] (fun s64 wr => ∃ k : Nat, k ≤ n1 ∧ s64 = .int .i64 k ∧ Blk wr gw 2 (ints (upto (fun _ => 1) n1 k)) ∧ Blk wr g 2 (ints s) ∧ Below g w wr) (fun i _ => n1 - (intOf i).toNat)
          case atStart => exact ⟨0, Nat.zero_le _, rfl, hW0, hS, hB⟩
          case round =>
            clear hW0 hS hB
            obtain ⟨k, hk, rfl, hW, hS, hB⟩ := hrel
            have hn1 := HN1.out
            by_cases hlt : k < n1
            · obtain ⟨y, hy, -⟩ := hW.intAt (i := k) (by rw [upto_length]; exact hlt)
              have hf := hW.free k
              have hn2 : n1 ≤ 1000 := by omega
              clear hn1
              go_wp2_with fail
              go_roundw
              case rel => exact ⟨k + 1, by omega, by go_num, by rw [← upto_set]; exact hW.putInt k 1, hS.far (by simp; omega) _, hB.setCell (by simp; omega) _⟩
              case measure => simp [intOf]; omega
            · obtain rfl : k = n1 := by omega
              have hgw2 := hW.lt
              rw [ones_upto k k] at hW
              have hsh := fixed_Share lf (onesL k) (some ⟨gw, 0, none⟩) k wr (by simp [onesL]; omega) (Ints.ofBlk hW hgw2)
              rw [show (onesL k).length = k by simp [onesL]] at hsh
              clear hn1
              go_wp2_with fail
              refine hsh.mono ?_
              clear hsh
              rintro e w4 ⟨rfl, hb4, hP⟩
              go_wp2_with fail
              go_meet
              exact ⟨by rw [HAT.out], _, rfl, by rw [HG.out]; exact hP, hS.below hb4 hS.lt, hB.trans (hb4.mono (by omega))⟩
        · have HG : Hid (gapsOf lf just l.length = List.replicate n1 0) := hid (by unfold gapsOf; rw [if_neg h3, HN1.out])
          by_cases h1 : just = 1
          · subst h1
            have HAT : Hid (at0 lf 1 = lf) := hid rfl
            go_wp2_with fail
            go_meet
            exact ⟨by rw [HAT.out], _, rfl, by rw [HG.out]; exact hW, hS, hB⟩
          · have g1 : (just == 1) = false := by simpa using h1
            by_cases h2 : just = 2
            · subst h2
              have HAT : Hid (at0 lf 2 = prt lf 1 2) := hid rfl
              go_wp2_with (go_at_call 55; refine (fixed_Part _ _ _ _).mono ?_; rintro e w' ⟨rfl, rfl⟩)
              go_meet
              exact ⟨by rw [HAT.out], _, rfl, by rw [HG.out]; exact hW, hS, hB⟩
            · have g2 : (just == 2) = false := by simpa using h2
              have HAT : Hid (at0 lf just = 0) := hid (by unfold at0; rw [if_neg h1, if_neg h2])
              by_cases h4 : just = 3
              · subst h4
                have d1 : decide (1 < l.length) = false := decide_eq_false (fun h => h3 ⟨rfl, h⟩)
                have d0 : l.length ≤ 1 := Nat.le_of_not_lt (fun h => h3 ⟨rfl, h⟩)
                have d2 : decide ((1 : Int) < (l.length : Int)) = false := decide_eq_false (by omega)
                clear h3 h1 h2
                go_wp2_with fail
                go_meet
                exact ⟨by rw [HAT.out], _, rfl, by rw [HG.out]; exact hW, hS, hB⟩
              · have g3 : (just == 3) = false := by simpa using h4
                clear h3 h1 h2 h4
                go_wp2_with fail
                go_meet
                exact ⟨by rw [HAT.out], _, rfl, by rw [HG.out]; exact hW, hS, hB⟩
      case rest =>
      obtain ⟨rfl, gy, rfl, hG, hS2, hB2⟩ := hcut
      clear hW hS hB
      have HGL := hid (gapsOf_length lf just l.length)
      rw [HN1.out] at HGL
      have HT2 : Hid (plcs (at0 lf just) l s (gapsOf lf just l.length) l.length = T) := HT
      generalize gapsOf lf just l.length = gp at *
      generalize at0 lf just = a0 at *
      go_wp2_with fail
      go_loopw [11, 14, 76] (fun s11 s14 s76 wr => ∃ k : Nat, k ≤ l.length ∧ s76 = .int .i64 k ∧ s11 = .int .i64 (ats a0 l s gp k) ∧ wr.ownsRow g 76 2 s14 k ((plcs a0 l s gp k).flatMap Sp.cells) ∧ Blk wr gy 2 (ints gp) ∧ Blk wr g 2 (ints s) ∧ Below g w wr) (fun _ _ i _ => l.length - (intOf i).toNat)
      case atStart => exact ⟨0, Nat.zero_le _, rfl, rfl, own_nil _ _ _ _, hG, hS2, hB2⟩
      case round =>
        clear hG hS2 hB2
        obtain ⟨k, hk, rfl, rfl, ho, hG, hS, hB⟩ := hrel
        have hsz4 := hB.size
        by_cases hlt : k < l.length
        · obtain ⟨b, off, it1, rfl, hb, HX, HG, hrg⟩ := items_range (hA.below hB) hlt
          have hgx := hS.lt
          have hgx2 := hG.lt
          go_wp2_with (first | refine stop_load 30 _ rfl rfl ?_ | refine stop_store 30 _ _ rfl rfl ?_)
          refine ⟨?_⟩
          refine wl_load_at rfl 30 _ rfl b (off + k * 4) rfl (it4 it1.base it1.outer it1.grow it1.shrink) _ hrg Try.underlying30 rfl (info_it4 _ _ _ _) ?_
          (try simp only [Act.put, List.setIfInBounds_toArray, List.set_cons_zero, List.set_cons_succ])
          go_wp2_with (first | refine stop_load 30 _ rfl rfl ?_ | refine stop_store 30 _ _ rfl rfl ?_)
          refine ⟨?_⟩
          refine wl_store rfl 30 _ _ rfl wr.heap.size (it4 it1.base it1.outer it1.grow it1.shrink) rfl rfl 30 _ (Blk.new _ _ _) rfl (info_it4 _ _ _ _) (it_one _ _ _ _) ?_
          intro w2 hX hC
          (try simp only [Act.put, List.setIfInBounds_toArray, List.set_cons_zero, List.set_cons_succ])
          have hbb : Below wr.heap.size wr w2 := ((Below.refl wr.heap.size wr).alloc (Nat.le_refl _) _).trans (hC.below (Nat.le_refl _))
          replace hS := hS.below hbb hgx
          replace hG := hG.below hbb hgx2
          replace ho := own_below ho hbb
          have hB2 := hB.trans (hbb.mono (by omega))
          have hsz5 := hS.lt
          clear hbb hC hB hrg
          generalize wr.heap.size = gx at *
          obtain ⟨y, hy, HY⟩ := hS.intAt (i := k) (by rw [HSL.out]; exact hlt)
          have HU : Hid ((plcs a0 l s gp (k + 1)).flatMap Sp.cells = (plcs a0 l s gp k).flatMap Sp.cells ++ [.int .i64 (ats a0 l s gp k), .int .i64 y]) := hid (by simp only [plcs, List.flatMap_append]; rw [HY.out]; simp [Sp.cells])
          have HAT : Hid (ats a0 l s gp (k + 1) = if k < n1 then add (add (add (ats a0 l s gp k) y) it1.outer) (gp.getD k 0) else add (add (ats a0 l s gp k) y) it1.outer) := hid (by simp only [ats]; rw [HGL.out, HY.out, HG.out])
          generalize ats a0 l s gp k = ak at *
          obtain ⟨A6, c6, rfl, hc6⟩ := own_some ho
          have hown := ho.alloc (.cells #[.int .i64 ak, .int .i64 y] 76)
          have hba : Below w2.heap.size w2 (w2.alloc (.cells #[.int .i64 ak, .int .i64 y] 76)) := (Below.refl w2.heap.size w2).alloc (Nat.le_refl _) _
          go_wp2_with (refine stop_append _ _ _ _ rfl ?_)
          refine ⟨?_⟩
          refine wpList_append_own _ rfl _ _ 73 rfl g 76 ii (.agg #[.int .i64 0, .int .i64 0]) 2 16 Try.underlying73 hi1 hz1 hs1 hb1 rfl (by decide) (.slice A6 k c6) _ _ rfl hown ⟨w2.heap.size, 0, none⟩ 1 1 [.int .i64 ak, .int .i64 y] rfl rfl (news_at (Blk.new w2 76 #[.int .i64 ak, .int .i64 y]) rfl) (by simp [Value.oneCell']) (by unfold maxLen; omega) (by omega) (by simp; omega) ?_
          intro v4 w4 ho4 hg4 _
          (try simp only [Act.put, List.setIfInBounds_toArray, List.set_cons_zero, List.set_cons_succ])
          have hX4 : Blk w4 gx 30 (it4 it1.base it1.outer it1.grow it1.shrink) := (hX.alloc _).grown hown hg4 (by decide)
          have hS4 : Blk w4 g 2 (ints s) := (hS.alloc _).grown hown hg4 (by decide)
          have hG4 : Blk w4 gy 2 (ints gp) := (hG.alloc _).grown hown hg4 (by decide)
          have hB4 : Below g w w4 := (hB2.trans (hba.mono (by omega))).trans (own_belowB hown hg4 (by simp; omega))
          obtain ⟨A7, c7, rfl, -⟩ := own_some ho4
          clear hown hba hg4 hX hS hG hB2 ho hy
          obtain ⟨y2, hy, HY2⟩ := hS4.intAt (i := k) (by rw [HSL.out]; exact hlt)
          obtain rfl : y2 = y := HY2.out.symm.trans HY.out
          have hSQ : (fun Z : World => Z.cell? ⟨g, k, none⟩ = some (.int .i64 y2) ∧ Z.cell? ⟨gx, 1, none⟩ = some (.int .i64 it1.outer)) w4.drew := ⟨hy, hX4.drew.cell 1⟩
          go_upto_region 27 with fail
          refine wp_region_noPanic ?_
          refine Ord.region_Q (S := fun Z : World => Z.cell? ⟨g, k, none⟩ = some (.int .i64 y2) ∧ Z.cell? ⟨gx, 1, none⟩ = some (.int .i64 it1.outer)) 999 (.one 0 true (.one 1 true (.one 2 true (.one 3 true (.one 4 true (.one 5 true (.one 6 true (.one 7 true (.one 8 true (.one 9 true .nil)))))))))) (by kernel_rfl) (by kernel_rfl) (by kernel_rfl) (by decide) (fun _ _ _ _ _ h => h) (hSQ) (fun hS0 => ?_)
          simp only [Ord.layT, List.getElem?_cons_zero, List.getElem?_cons_succ]
          (refine Ord.takeQ (v := ?_) (Or.inl ⟨rfl, ?_⟩) ?_; rotate_left; (intro w hSw; (try dsimp only at hSw); go_simp; try (with_reducible rfl)); (try simp only [Act.put, List.setIfInBounds_toArray, List.set_cons_zero, List.set_cons_succ]))
          (refine Ord.takeQ (v := ?_) (Or.inl ⟨rfl, ?_⟩) ?_; rotate_left; (intro w hSw; (try dsimp only at hSw); go_simp; try (with_reducible rfl)); (try simp only [Act.put, List.setIfInBounds_toArray, List.set_cons_zero, List.set_cons_succ]))
          (refine Ord.takeQ (v := ?_) (Or.inl ⟨rfl, ?_⟩) ?_; rotate_left; (intro w hSw; (try dsimp only at hSw); go_simp; try (with_reducible rfl)); (try simp only [Act.put, List.setIfInBounds_toArray, List.set_cons_zero, List.set_cons_succ]))
          (refine Ord.takeQ (v := ?_) (Or.inl ⟨rfl, ?_⟩) ?_; rotate_left; (intro w hSw; (try dsimp only at hSw); go_simp; try (with_reducible rfl)); (try simp only [Act.put, List.setIfInBounds_toArray, List.set_cons_zero, List.set_cons_succ]))
          (refine Ord.takeQ (v := ?_) (Or.inl ⟨rfl, ?_⟩) ?_; rotate_left; (intro w hSw; (try dsimp only at hSw); go_simp; try (with_reducible rfl)); (try simp only [Act.put, List.setIfInBounds_toArray, List.set_cons_zero, List.set_cons_succ]))
          (refine Ord.takeC 53 #[.int .i64 ak, .int .i64 y2] rfl (fun _ _ => by kernel_rfl) (fun w hSw => fixed_Add _ _ _) ?_; (try simp only [Act.put, List.setIfInBounds_toArray, List.set_cons_zero, List.set_cons_succ]))
          (refine Ord.takeQ (v := ?_) (Or.inl ⟨rfl, ?_⟩) ?_; rotate_left; (intro w hSw; (try dsimp only at hSw); go_simp; try (with_reducible rfl)); (try simp only [Act.put, List.setIfInBounds_toArray, List.set_cons_zero, List.set_cons_succ]))
          (refine Ord.takeQ (v := ?_) (Or.inl ⟨rfl, ?_⟩) ?_; rotate_left; (intro w hSw; (try dsimp only at hSw); go_simp; try (with_reducible rfl)); (try simp only [Act.put, List.setIfInBounds_toArray, List.set_cons_zero, List.set_cons_succ]))
          (refine Ord.takeC 53 #[.int .i64 (add ak y2), .int .i64 it1.outer] rfl (fun _ _ => by kernel_rfl) (fun w hSw => fixed_Add _ _ _) ?_; (try simp only [Act.put, List.setIfInBounds_toArray, List.set_cons_zero, List.set_cons_succ]))
          (refine Ord.takeQ (v := ?_) (Or.inl ⟨rfl, ?_⟩) ?_; rotate_left; (intro w hSw; (try dsimp only at hSw); go_simp; try (with_reducible rfl)); (try simp only [Act.put, List.setIfInBounds_toArray, List.set_cons_zero, List.set_cons_succ]))
          refine Ord.doneQ (NoPanic.normal ?_)
          clear hSQ hy
          by_cases hn : k < n1
          · obtain ⟨q, hq, HQ⟩ := hG4.intAt (i := k) (by rw [HGL.out]; exact hn)
            have hq' : w4.drew.cell? ⟨gy, k, none⟩ = some (.int .i64 q) := hq
            have HAT2 : Hid (ats a0 l s gp (k + 1) = add (add (add ak y2) it1.outer) q) := hid (by rw [HAT.out, if_pos hn, HQ.out])
            have dn : decide (k < n1) = true := decide_eq_true hn
            clear HAT hq
            go_wp2_with (go_at_call 53; refine (fixed_Add _ _ _).mono ?_; rintro e w' ⟨rfl, rfl⟩)
            go_roundw
            case rel => exact ⟨k + 1, by omega, by go_num, by rw [HAT2.out], by rw [HU.out]; exact own_drew ho4, hG4.drew, hS4.drew, hB4.drew⟩
            case measure => simp [intOf]; omega
          · have HAT2 : Hid (ats a0 l s gp (k + 1) = add (add ak y2) it1.outer) := hid (by rw [HAT.out, if_neg hn])
            have dn : decide (k < n1) = false := decide_eq_false hn
            clear HAT
            go_wp2_with fail
            go_roundw
            case rel => exact ⟨k + 1, by omega, by go_num, by rw [HAT2.out], by rw [HU.out]; exact own_drew ho4, hG4.drew, hS4.drew, hB4.drew⟩
            case measure => simp [intOf]; omega
        · obtain rfl : k = l.length := by omega
          go_wp2_with fail
          go_ret
          obtain rfl := hg.out
          exact ⟨_, rfl, hB, by rw [← HT2.out]; exact ho⟩
end Go.Proofs.Yteghacdpfhohoaa
