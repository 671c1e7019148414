/-
  The walks of table.added, table.Widths, table.Rows.
-/
import Derived.Test.YtkoanijiihnioaaTabB
import Derived.Test.YtkoanijiihnioaaShare
namespace Go.Proofs.Ytkoanijiihnioaa
open Go.RowKit Num Mem Opn
set_option linter.unusedVariables false
set_option linter.unusedSimpArgs false
namespace Num
theorem map_upto (f : Nd → Int) (l : List Nd) : upto (fun i => f (l.getD i nd0)) l.length l.length = l.map f := by
  apply List.ext_getElem
  · simp [upto]
  · intro i h1 h2
    simp [upto] at h1 ⊢
    simp [h1]
end Num
theorem upto_all {f : Nat → Int} {n k i : Nat} (hi : i < n) (hk : i < k) : (upto f n k).getD i 0 = f i := by rw [upto_getD _ hi, if_pos hk]
set_option maxRecDepth 100000 in
theorem table_added (g gp : Nat) (a b : List Int) (w : World) (hlen : a.length = b.length) (hl : a.length ≤ 1000) (hne : g ≠ gp) (hO : Blk w g 2 (ints a)) (hP : Blk w gp 2 (ints b)) :
    Calls Try.prog 56 #[.slice (some ⟨g, 0, none⟩) a.length a.length, .slice (some ⟨gp, 0, none⟩) a.length a.length] w fun e w' =>
      e = .returned (.slice (some ⟨g, 0, none⟩) a.length a.length) ∧ Below g w w' ∧ Blk w' g 2 (ints (zadd a b)) := by
  have HZL : Hid ((zadd a b).length = a.length) := hid (zadd_length hlen)
  have HMX : Hid (a.length = (zadd a b).length) := hid HZL.out.symm
  have hO0 : Blk w g 2 (ints (mix a (zadd a b) 0)) := by rw [mix_zero]; exact hO
  have HLE := hid hlen
  clear hO hlen
  go_enter Try.func56, Try.ntmps56
  go_wp2_with fail
  go_loopw [9] (fun s9 wr => ∃ k : Nat, k ≤ a.length ∧ s9 = .int .i64 k ∧ Blk wr g 2 (ints (mix a (zadd a b) k)) ∧ Blk wr gp 2 (ints b) ∧ Below g w wr) (fun i _ => a.length - (intOf i).toNat)
  case atStart => exact ⟨0, Nat.zero_le _, rfl, hO0, hP, Below.refl _ _⟩
  case round =>
    clear hO0 hP
    obtain ⟨k, hk, rfl, hO, hP, hB⟩ := hrel
    by_cases hlt : k < a.length
    · obtain ⟨xk, hxk, HXK⟩ := hO.intAt (i := k) (by rw [mix_length HMX.out]; exact hlt)
      obtain ⟨pk, hpk, HPK⟩ := hP.intAt (i := k) (by rw [← HLE.out]; exact hlt)
      have hfo := hO.free k
      have HU : Hid ((mix a (zadd a b) k).set k (add xk pk) = mix a (zadd a b) (k + 1)) := hid (by
        rw [← mix_set HMX.out hlt, zadd_get HLE.out hlt, HPK.out]
        rw [mix_get HMX.out (Nat.le_refl k) hlt] at HXK
        rw [HXK.out])
      go_wp2_with (go_at_call 49; refine (fixed_Add _ _ _).mono ?_; rintro e w' ⟨rfl, rfl⟩)
      go_roundw
      case rel => exact ⟨k + 1, by omega, by go_num, by rw [← HU.out]; exact hO.putInt k _, hP.far (p := ⟨g, k, none⟩) (by simp; omega) _, hB.setCell (by simp) _⟩
      case measure => simp [intOf]; omega
    · obtain rfl : k = a.length := by omega
      have HFI : Hid (mix a (zadd a b) a.length = zadd a b) := hid (mix_all HMX.out)
      go_wp2_with fail
      go_ret
      exact ⟨rfl, hB, by rw [← HFI.out]; exact hO⟩
def lf (l : List Nd) (i : Nat) : Int := (l.getD i nd0).least
def mf (l : List Nd) (i : Nat) : Int := (l.getD i nd0).most
def wgf (l : List Nd) (i : Nat) : Int := wgt (l.getD i nd0)
theorem lf_all (l : List Nd) : upto (lf l) l.length l.length = leasts l := map_upto (·.least) l
theorem mf_all (l : List Nd) : upto (mf l) l.length l.length = mosts l := map_upto (·.most) l
theorem wf_all (l : List Nd) : upto (wgf l) l.length l.length = wgts l := map_upto wgt l
theorem ones_all (n : Nat) : upto (fun _ => (1 : Int)) n n = ones n := by
  apply List.ext_getElem
  · simp [upto, ones]
  · intro i h1 h2
    simp [upto, ones] at h1 ⊢
    omega
set_option maxRecDepth 100000 in
set_option maxHeartbeats 8000000 in
theorem table_Widths (room : Int) (l : List Nd) (A : Option Addr) (c : Nat) (sure : Bool) (w : World) (hl : l.length ≤ 1000) (hb : Bet 70368744177664 l) (hle : ∀ i, (l.getD i nd0).least ≤ (l.getD i nd0).most) (hr : I64 room) (hA : Recs w w.heap.size A 2 Nd.cells l) :
    Calls Try.prog 27 #[.int .i64 room, .slice A l.length c, .bool sure] w fun e w' =>
      ∃ g, w.heap.size ≤ g ∧ e = .returned (.slice (some ⟨g, 0, none⟩) l.length l.length) ∧ Below w.heap.size w w' ∧ Blk w' g 2 (ints (widths room l sure)) := by
  have hmk := make_ints l.length (by omega)
  replace hb := hid hb
  replace hle := hid hle
  obtain ⟨T, hT⟩ : ∃ T, widths room l sure = T := ⟨_, rfl⟩
  have HT : Hid ((if room ≤ sums (leasts l) l.length then leasts l
    else if room ≤ sums (mosts l) l.length then zadd (leasts l) (share (sub room (sums (leasts l) l.length)) (wgts l))
    else if sure then zadd (mosts l) (share (sub room (sums (mosts l) l.length)) (ones l.length))
    else mosts l) = T) := hid hT
  rw [hT]
  clear hT
  go_enter Try.func27, Try.ntmps27
  go_upto_region 2 with fail
  go_cut [9, 10] (fun s9 s10 wx => ∃ ga gb : Nat, s9 = .slice (some ⟨ga, 0, none⟩) l.length l.length ∧ s10 = .slice (some ⟨gb, 0, none⟩) l.length l.length ∧ w.heap.size ≤ ga ∧ w.heap.size ≤ gb ∧ ga ≠ gb ∧ Blk wx ga 2 (ints (upto (lf l) l.length 0)) ∧ Blk wx gb 2 (ints (upto (mf l) l.length 0)) ∧ Below w.heap.size w wx)
  case first =>
    have hb1 : Below w.heap.size w w.drew := (Drawn.refl w).drew.below _
    have hb2 : Below w.heap.size w (w.drew.alloc (.cells (ints (List.replicate l.length 0)) 2)) := hb1.alloc (Nat.le_refl _) _
    have hb3 : Below w.heap.size w ((w.drew.alloc (.cells (ints (List.replicate l.length 0)) 2)).alloc (.cells (ints (List.replicate l.length 0)) 2)) := hb2.alloc (by simp) _
    have hm1 := hmk w.drew
    have hm2 := hmk (w.drew.alloc (.cells (ints (List.replicate l.length 0)) 2))
    have hE1 : Blk ((w.drew.alloc (.cells (ints (List.replicate l.length 0)) 2)).alloc (.cells (ints (List.replicate l.length 0)) 2)) w.heap.size 2 (ints (List.replicate l.length 0)) := (Blk.new w.drew _ _).alloc _
    have hE2 : Blk ((w.drew.alloc (.cells (ints (List.replicate l.length 0)) 2)).alloc (.cells (ints (List.replicate l.length 0)) 2)) (w.heap.size + 1) 2 (ints (List.replicate l.length 0)) := by
      have := Blk.new (w.drew.alloc (.cells (ints (List.replicate l.length 0)) 2)) 2 (ints (List.replicate l.length 0))
      simpa using this
    refine wp_region_noPanic ?_
    refine Ord.region_Q (S := fun _ => True) 999 (.one 0 true (.one 1 true (.one 3 true (.one 4 true (.two 2 (.one 6 true (.one 5 false (.one 7 true .nil))) 5 (.one 2 false (.one 6 true (.one 7 true .nil)))))))) (by kernel_rfl) (by kernel_rfl) (by kernel_rfl) (by decide) (fun _ _ _ _ _ h => h) trivial (fun hS0 => ?_)
    simp only [Ord.layT, List.getElem?_cons_zero, List.getElem?_cons_succ]
    (refine Ord.takeQ (v := ?_) (Or.inl ⟨rfl, ?_⟩) ?_; rotate_left; (intro w hSw; (try dsimp only at hSw); go_simp; try (with_reducible rfl)); (try simp only [Act.put, List.setIfInBounds_toArray, List.set_cons_zero, List.set_cons_succ]))
    (refine Ord.takeQ (v := ?_) (Or.inl ⟨rfl, ?_⟩) ?_; rotate_left; (intro w hSw; (try dsimp only at hSw); go_simp; try (with_reducible rfl)); (try simp only [Act.put, List.setIfInBounds_toArray, List.set_cons_zero, List.set_cons_succ]))
    (refine Ord.takeQ (v := ?_) (Or.inl ⟨rfl, ?_⟩) ?_; rotate_left; (intro w hSw; (try dsimp only at hSw); go_simp; try (with_reducible rfl)); (try simp only [Act.put, List.setIfInBounds_toArray, List.set_cons_zero, List.set_cons_succ]))
    (refine Ord.takeQ (v := ?_) (Or.inl ⟨rfl, ?_⟩) ?_; rotate_left; (intro w hSw; (try dsimp only at hSw); go_simp; try (with_reducible rfl)); (try simp only [Act.put, List.setIfInBounds_toArray, List.set_cons_zero, List.set_cons_succ]))
    refine Ord.twoQ rfl rfl rfl rfl (fun K hK => ?_) (fun K hK => ?_)
    · go_simp
      (try simp only [Act.put, List.setIfInBounds_toArray, List.set_cons_zero, List.set_cons_succ])
      refine hK.out _ _ trivial (fun _ => ?_)
      clear hK K
      (refine Ord.takeQ (v := ?_) (Or.inl ⟨rfl, ?_⟩) ?_; rotate_left; (intro w hSw; (try dsimp only at hSw); go_simp; try (with_reducible rfl)); (try simp only [Act.put, List.setIfInBounds_toArray, List.set_cons_zero, List.set_cons_succ]))
      refine Ord.aloneQ rfl rfl (fun K hK => ?_)
      go_simp
      (try simp only [Act.put, List.setIfInBounds_toArray, List.set_cons_zero, List.set_cons_succ])
      refine hK.out _ _ trivial (fun _ => ?_)
      clear hK K
      (refine Ord.takeQ (v := ?_) (Or.inl ⟨rfl, ?_⟩) ?_; rotate_left; (intro w hSw; (try dsimp only at hSw); go_simp; try (with_reducible rfl)); (try simp only [Act.put, List.setIfInBounds_toArray, List.set_cons_zero, List.set_cons_succ]))
      refine Ord.doneQ (NoPanic.normal ?_)
      go_wp2_with fail
      go_meet
      exact ⟨_, _, rfl, rfl, Nat.le_refl _, by omega, by omega, by rw [upto_zero]; exact hE1, by rw [upto_zero]; exact hE2, hb3⟩
    · go_simp
      (try simp only [Act.put, List.setIfInBounds_toArray, List.set_cons_zero, List.set_cons_succ])
      refine hK.out _ _ trivial (fun _ => ?_)
      clear hK K
      refine Ord.aloneQ rfl rfl (fun K hK => ?_)
      go_simp
      (try simp only [Act.put, List.setIfInBounds_toArray, List.set_cons_zero, List.set_cons_succ])
      refine hK.out _ _ trivial (fun _ => ?_)
      clear hK K
      (refine Ord.takeQ (v := ?_) (Or.inl ⟨rfl, ?_⟩) ?_; rotate_left; (intro w hSw; (try dsimp only at hSw); go_simp; try (with_reducible rfl)); (try simp only [Act.put, List.setIfInBounds_toArray, List.set_cons_zero, List.set_cons_succ]))
      (refine Ord.takeQ (v := ?_) (Or.inl ⟨rfl, ?_⟩) ?_; rotate_left; (intro w hSw; (try dsimp only at hSw); go_simp; try (with_reducible rfl)); (try simp only [Act.put, List.setIfInBounds_toArray, List.set_cons_zero, List.set_cons_succ]))
      refine Ord.doneQ (NoPanic.normal ?_)
      go_wp2_with fail
      go_meet
      exact ⟨_, _, rfl, rfl, by omega, Nat.le_refl _, by omega, by rw [upto_zero]; exact hE2, by rw [upto_zero]; exact hE1, hb3⟩
  case rest =>
  obtain ⟨ga, gb, rfl, rfl, hga, hgb, hne, hOa, hOb, hB⟩ := hcut
  go_upto_region 3 with fail
  go_cut [11, 12] (fun s11 s12 wx => ∃ gw go : Nat, s11 = .slice (some ⟨gw, 0, none⟩) l.length l.length ∧ s12 = .slice (some ⟨go, 0, none⟩) l.length l.length ∧ gw ≠ ga ∧ gw ≠ gb ∧ go ≠ ga ∧ go ≠ gb ∧ gw ≠ go ∧ w.heap.size ≤ gw ∧ w.heap.size ≤ go ∧ Blk wx gw 2 (ints (upto (wgf l) l.length 0)) ∧ Blk wx go 2 (ints (upto (fun _ => 1) l.length 0)) ∧ Blk wx ga 2 (ints (upto (lf l) l.length 0)) ∧ Blk wx gb 2 (ints (upto (mf l) l.length 0)) ∧ Below w.heap.size w wx)
  case first =>
    have hza := hOa.lt
    have hzb := hOb.lt
    have hzw := hB.size
    have hb1 : Below wc.heap.size wc wc.drew := (Drawn.refl wc).drew.below _
    have hb2 : Below wc.heap.size wc (wc.drew.alloc (.cells (ints (List.replicate l.length 0)) 2)) := hb1.alloc (Nat.le_refl _) _
    have hb3 : Below wc.heap.size wc ((wc.drew.alloc (.cells (ints (List.replicate l.length 0)) 2)).alloc (.cells (ints (List.replicate l.length 0)) 2)) := hb2.alloc (by simp) _
    have hm1 := hmk wc.drew
    have hm2 := hmk (wc.drew.alloc (.cells (ints (List.replicate l.length 0)) 2))
    have hE1 : Blk ((wc.drew.alloc (.cells (ints (List.replicate l.length 0)) 2)).alloc (.cells (ints (List.replicate l.length 0)) 2)) wc.heap.size 2 (ints (List.replicate l.length 0)) := (Blk.new wc.drew _ _).alloc _
    have hE2 : Blk ((wc.drew.alloc (.cells (ints (List.replicate l.length 0)) 2)).alloc (.cells (ints (List.replicate l.length 0)) 2)) (wc.heap.size + 1) 2 (ints (List.replicate l.length 0)) := by
      have := Blk.new (wc.drew.alloc (.cells (ints (List.replicate l.length 0)) 2)) 2 (ints (List.replicate l.length 0))
      simpa using this
    have hOa2 := hOa.below hb3 hza
    have hOb2 := hOb.below hb3 hzb
    have hB2 := hB.trans (hb3.mono hzw)
    refine wp_region_noPanic ?_
    refine Ord.region_Q (S := fun _ => True) 999 (.one 0 true (.one 1 true (.one 3 true (.one 4 true (.two 2 (.one 6 true (.one 5 false (.one 7 true .nil))) 5 (.one 2 false (.one 6 true (.one 7 true .nil)))))))) (by kernel_rfl) (by kernel_rfl) (by kernel_rfl) (by decide) (fun _ _ _ _ _ h => h) trivial (fun hS0 => ?_)
    simp only [Ord.layT, List.getElem?_cons_zero, List.getElem?_cons_succ]
    (refine Ord.takeQ (v := ?_) (Or.inl ⟨rfl, ?_⟩) ?_; rotate_left; (intro w hSw; (try dsimp only at hSw); go_simp; try (with_reducible rfl)); (try simp only [Act.put, List.setIfInBounds_toArray, List.set_cons_zero, List.set_cons_succ]))
    (refine Ord.takeQ (v := ?_) (Or.inl ⟨rfl, ?_⟩) ?_; rotate_left; (intro w hSw; (try dsimp only at hSw); go_simp; try (with_reducible rfl)); (try simp only [Act.put, List.setIfInBounds_toArray, List.set_cons_zero, List.set_cons_succ]))
    (refine Ord.takeQ (v := ?_) (Or.inl ⟨rfl, ?_⟩) ?_; rotate_left; (intro w hSw; (try dsimp only at hSw); go_simp; try (with_reducible rfl)); (try simp only [Act.put, List.setIfInBounds_toArray, List.set_cons_zero, List.set_cons_succ]))
    (refine Ord.takeQ (v := ?_) (Or.inl ⟨rfl, ?_⟩) ?_; rotate_left; (intro w hSw; (try dsimp only at hSw); go_simp; try (with_reducible rfl)); (try simp only [Act.put, List.setIfInBounds_toArray, List.set_cons_zero, List.set_cons_succ]))
    refine Ord.twoQ rfl rfl rfl rfl (fun K hK => ?_) (fun K hK => ?_)
    · go_simp
      (try simp only [Act.put, List.setIfInBounds_toArray, List.set_cons_zero, List.set_cons_succ])
      refine hK.out _ _ trivial (fun _ => ?_)
      clear hK K
      (refine Ord.takeQ (v := ?_) (Or.inl ⟨rfl, ?_⟩) ?_; rotate_left; (intro w hSw; (try dsimp only at hSw); go_simp; try (with_reducible rfl)); (try simp only [Act.put, List.setIfInBounds_toArray, List.set_cons_zero, List.set_cons_succ]))
      refine Ord.aloneQ rfl rfl (fun K hK => ?_)
      go_simp
      (try simp only [Act.put, List.setIfInBounds_toArray, List.set_cons_zero, List.set_cons_succ])
      refine hK.out _ _ trivial (fun _ => ?_)
      clear hK K
      (refine Ord.takeQ (v := ?_) (Or.inl ⟨rfl, ?_⟩) ?_; rotate_left; (intro w hSw; (try dsimp only at hSw); go_simp; try (with_reducible rfl)); (try simp only [Act.put, List.setIfInBounds_toArray, List.set_cons_zero, List.set_cons_succ]))
      refine Ord.doneQ (NoPanic.normal ?_)
      go_wp2_with fail
      go_meet
      exact ⟨_, _, rfl, rfl, by omega, by omega, by omega, by omega, by omega, by omega, by omega, by rw [upto_zero]; exact hE1, by rw [upto_zero]; exact hE2, hOa2, hOb2, hB2⟩
    · go_simp
      (try simp only [Act.put, List.setIfInBounds_toArray, List.set_cons_zero, List.set_cons_succ])
      refine hK.out _ _ trivial (fun _ => ?_)
      clear hK K
      refine Ord.aloneQ rfl rfl (fun K hK => ?_)
      go_simp
      (try simp only [Act.put, List.setIfInBounds_toArray, List.set_cons_zero, List.set_cons_succ])
      refine hK.out _ _ trivial (fun _ => ?_)
      clear hK K
      (refine Ord.takeQ (v := ?_) (Or.inl ⟨rfl, ?_⟩) ?_; rotate_left; (intro w hSw; (try dsimp only at hSw); go_simp; try (with_reducible rfl)); (try simp only [Act.put, List.setIfInBounds_toArray, List.set_cons_zero, List.set_cons_succ]))
      (refine Ord.takeQ (v := ?_) (Or.inl ⟨rfl, ?_⟩) ?_; rotate_left; (intro w hSw; (try dsimp only at hSw); go_simp; try (with_reducible rfl)); (try simp only [Act.put, List.setIfInBounds_toArray, List.set_cons_zero, List.set_cons_succ]))
      refine Ord.doneQ (NoPanic.normal ?_)
      go_wp2_with fail
      go_meet
      exact ⟨_, _, rfl, rfl, by omega, by omega, by omega, by omega, by omega, by omega, by omega, by rw [upto_zero]; exact hE2, by rw [upto_zero]; exact hE1, hOa2, hOb2, hB2⟩
  case rest =>
  clear hOa hOb hB
  obtain ⟨gw, go, rfl, rfl, n1, n2, n3, n4, n5, hgw, hgo, hW, hO1, hOa, hOb, hB⟩ := hcut
  clear hmk
  go_wp2_with fail
  go_loopw [7, 8, 29] (fun s7 s8 s29 wr => ∃ k : Nat, k ≤ l.length ∧ s29 = .int .i64 k ∧ s7 = .int .i64 (sums (leasts l) k) ∧ s8 = .int .i64 (sums (mosts l) k) ∧ Blk wr ga 2 (ints (upto (lf l) l.length k)) ∧ Blk wr gb 2 (ints (upto (mf l) l.length k)) ∧ Blk wr gw 2 (ints (upto (wgf l) l.length k)) ∧ Blk wr go 2 (ints (upto (fun _ => 1) l.length k)) ∧ Below w.heap.size w wr) (fun _ _ i _ => l.length - (intOf i).toNat)
  case atStart => exact ⟨0, Nat.zero_le _, rfl, rfl, rfl, hOa, hOb, hW, hO1, hB⟩
  case round =>
    clear hOa hOb hW hO1 hB
    obtain ⟨k, hk, rfl, rfl, rfl, hOa, hOb, hW, hO1, hB⟩ := hrel
    by_cases hlt : k < l.length
    · obtain ⟨bi, oi, x, rfl, hbi, HX, hrg⟩ := need_range (hA.below hB) hlt
      have HG : Hid (l.getD k nd0 = x) := hid (by rw [List.getD_eq_getElem?_getD, HX.out]; rfl)
      have hxb := hb.out k
      have hxl := hle.out k
      rw [HG.out] at hxb hxl
      have za := hOa.lt
      have zb := hOb.lt
      have zw := hW.lt
      have zo := hO1.lt
      have hzw := hB.size
      go_wp2_with (first | refine stop_load 58 _ rfl rfl ?_ | refine stop_store 58 _ _ rfl rfl ?_)
      refine ⟨?_⟩
      refine wl_load_at rfl 58 _ rfl bi (oi + k * 2) rfl (nd2 x.least x.most) _ hrg Try.underlying58 rfl (info_nd2 _ _) ?_
      (try simp only [Act.put, List.setIfInBounds_toArray, List.set_cons_zero, List.set_cons_succ])
      go_wp2_with (first | refine stop_load 58 _ rfl rfl ?_ | refine stop_store 58 _ _ rfl rfl ?_)
      refine ⟨?_⟩
      refine wl_store rfl 58 _ _ rfl wr.heap.size (nd2 x.least x.most) rfl rfl 58 _ (Blk.new _ _ _) rfl (info_nd2 _ _) (nd_one _ _) ?_
      intro w2 hX hC
      (try simp only [Act.put, List.setIfInBounds_toArray, List.set_cons_zero, List.set_cons_succ])
      have hbb : Below wr.heap.size wr w2 := ((Below.refl wr.heap.size wr).alloc (Nat.le_refl _) _).trans (hC.below (Nat.le_refl _))
      replace hOa := hOa.below hbb za
      replace hOb := hOb.below hbb zb
      replace hW := hW.below hbb zw
      replace hO1 := hO1.below hbb zo
      have hB2 := hB.trans (hbb.mono hzw)
      clear hbb hC hB hrg
      generalize wr.heap.size = gx at *
      go_upto_region 7 with fail
      go_cut [] (fun wx => Blk wx ga 2 (ints (upto (lf l) l.length (k + 1))) ∧ Blk wx gb 2 (ints (upto (mf l) l.length (k + 1))) ∧ Blk wx gw 2 (ints (upto (wgf l) l.length k)) ∧ Blk wx go 2 (ints (upto (fun _ => 1) l.length k)) ∧ Blk wx gx 58 (nd2 x.least x.most) ∧ Below w.heap.size w wx)
      case first =>
        have ea : Blk (w2.setCell ⟨ga, k, none⟩ (.int .i64 x.least)) ga 2 (ints (upto (lf l) l.length (k + 1))) := by
          have := hOa.putInt k (lf l k)
          rw [upto_set] at this
          rwa [show lf l k = x.least from by unfold lf; rw [HG.out]] at this
        have eb : Blk (w2.setCell ⟨gb, k, none⟩ (.int .i64 x.most)) gb 2 (ints (upto (mf l) l.length (k + 1))) := by
          have := hOb.putInt k (mf l k)
          rw [upto_set] at this
          rwa [show mf l k = x.most from by unfold mf; rw [HG.out]] at this
        obtain ⟨y1, hy1, -⟩ := hOa.intAt (i := k) (by rw [upto_length]; exact hlt)
        obtain ⟨y2, hy2, -⟩ := hOb.intAt (i := k) (by rw [upto_length]; exact hlt)
        have f1 := hOa.free k
        have f2 := hOb.free k
        have hy2' : ∀ v, (w2.drew.setCell ⟨ga, k, none⟩ v).cell? ⟨gb, k, none⟩ = some (.int .i64 y2) := fun v => by rw [World.cell?_setCell_other _ _ _ _ (by simp <;> omega)]; exact hy2
        have f2' : ∀ v, (w2.drew.setCell ⟨ga, k, none⟩ v).frozen? ⟨gb, k, none⟩ = false := fun v => ((hOb.drew).far (p := ⟨ga, k, none⟩) hne.symm v).free k
        have hSQ : ∀ Z, Blk Z gx 58 (nd2 x.least x.most) → (fun Z : World => Z.cell? ⟨gx, 0, none⟩ = some (.int .i64 x.least) ∧ Z.cell? ⟨gx, 1, none⟩ = some (.int .i64 x.most)) Z := fun Z h => ⟨h.cell 0, h.cell 1⟩
        have hXd : Blk w2.drew gx 58 (nd2 x.least x.most) := hX
        refine wp_region_noPanic ?_
        refine Ord.region_Q (S := fun Z : World => Z.cell? ⟨gx, 0, none⟩ = some (.int .i64 x.least) ∧ Z.cell? ⟨gx, 1, none⟩ = some (.int .i64 x.most)) 999 (.one 0 true (.one 1 true (.one 2 true (.one 3 true (.one 4 true (.one 5 true (.one 6 true (.one 7 true (.one 8 true (.one 9 false (.one 10 true (.one 11 false .nil)))))))))))) (by kernel_rfl) (by kernel_rfl) (by kernel_rfl) (by decide) (fun _ _ _ _ _ h => h) (hSQ _ hXd) (fun hS0 => ?_)
        simp only [Ord.layT, List.getElem?_cons_zero, List.getElem?_cons_succ]
        (refine Ord.takeQ (v := ?_) (Or.inl ⟨rfl, ?_⟩) ?_; rotate_left; (intro w hSw; (try dsimp only at hSw); go_simp; try (with_reducible rfl)); (try simp only [Act.put, List.setIfInBounds_toArray, List.set_cons_zero, List.set_cons_succ]))
        (refine Ord.takeQ (v := ?_) (Or.inl ⟨rfl, ?_⟩) ?_; rotate_left; (intro w hSw; (try dsimp only at hSw); go_simp; try (with_reducible rfl)); (try simp only [Act.put, List.setIfInBounds_toArray, List.set_cons_zero, List.set_cons_succ]))
        (refine Ord.takeQ (v := ?_) (Or.inl ⟨rfl, ?_⟩) ?_; rotate_left; (intro w hSw; (try dsimp only at hSw); go_simp; try (with_reducible rfl)); (try simp only [Act.put, List.setIfInBounds_toArray, List.set_cons_zero, List.set_cons_succ]))
        (refine Ord.takeQ (v := ?_) (Or.inl ⟨rfl, ?_⟩) ?_; rotate_left; (intro w hSw; (try dsimp only at hSw); go_simp; try (with_reducible rfl)); (try simp only [Act.put, List.setIfInBounds_toArray, List.set_cons_zero, List.set_cons_succ]))
        (refine Ord.takeQ (v := ?_) (Or.inl ⟨rfl, ?_⟩) ?_; rotate_left; (intro w hSw; (try dsimp only at hSw); go_simp; try (with_reducible rfl)); (try simp only [Act.put, List.setIfInBounds_toArray, List.set_cons_zero, List.set_cons_succ]))
        (refine Ord.takeQ (v := ?_) (Or.inl ⟨rfl, ?_⟩) ?_; rotate_left; (intro w hSw; (try dsimp only at hSw); go_simp; try (with_reducible rfl)); (try simp only [Act.put, List.setIfInBounds_toArray, List.set_cons_zero, List.set_cons_succ]))
        (refine Ord.takeQ (v := ?_) (Or.inl ⟨rfl, ?_⟩) ?_; rotate_left; (intro w hSw; (try dsimp only at hSw); go_simp; try (with_reducible rfl)); (try simp only [Act.put, List.setIfInBounds_toArray, List.set_cons_zero, List.set_cons_succ]))
        (refine Ord.takeQ (v := ?_) (Or.inl ⟨rfl, ?_⟩) ?_; rotate_left; (intro w hSw; (try dsimp only at hSw); go_simp; try (with_reducible rfl)); (try simp only [Act.put, List.setIfInBounds_toArray, List.set_cons_zero, List.set_cons_succ]))
        (refine Ord.takeQ (v := ?_) (Or.inl ⟨rfl, ?_⟩) ?_; rotate_left; (intro w hSw; (try dsimp only at hSw); go_simp; try (with_reducible rfl)); (try simp only [Act.put, List.setIfInBounds_toArray, List.set_cons_zero, List.set_cons_succ]))
        refine Ord.aloneQ rfl rfl (fun K hK => ?_)
        go_simp
        have hX1 := hXd.far (p := ⟨ga, k, none⟩) (by simp; omega) (.int .i64 x.least)
        (try simp only [Act.put, List.setIfInBounds_toArray, List.set_cons_zero, List.set_cons_succ])
        refine hK.out _ _ (hSQ _ hX1) (fun _ => ?_)
        clear hK K
        (refine Ord.takeQ (v := ?_) (Or.inl ⟨rfl, ?_⟩) ?_; rotate_left; (intro w hSw; (try dsimp only at hSw); go_simp; try (with_reducible rfl)); (try simp only [Act.put, List.setIfInBounds_toArray, List.set_cons_zero, List.set_cons_succ]))
        refine Ord.aloneQ rfl rfl (fun K hK => ?_)
        go_simp
        have hX2 := hX1.far (p := ⟨gb, k, none⟩) (by simp; omega) (.int .i64 x.most)
        (try simp only [Act.put, List.setIfInBounds_toArray, List.set_cons_zero, List.set_cons_succ])
        refine hK.out _ _ (hSQ _ hX2) (fun _ => ?_)
        clear hK K
        refine Ord.doneQ (NoPanic.normal ?_)
        go_wp2_with fail
        go_meet
        exact ⟨(ea.far (p := ⟨gb, k, none⟩) hne (.int .i64 x.most)), (by have := (hOb.far (p := ⟨ga, k, none⟩) hne.symm (.int .i64 x.least)).putInt k (mf l k); rw [upto_set, show mf l k = x.most from by unfold mf; rw [HG.out]] at this; exact this), (hW.far (p := ⟨ga, k, none⟩) n1 _).far (p := ⟨gb, k, none⟩) n2 _, (hO1.far (p := ⟨ga, k, none⟩) n3 _).far (p := ⟨gb, k, none⟩) n4 _, hX2, ((hB2.drew).setCell (by simp; omega) _).setCell (by simp; omega) _⟩
      case rest =>
      clear hOa hOb hW hO1 hX hB2
      obtain ⟨hOa, hOb, hW, hO1, hX, hB⟩ := hcut
      have c0 : wc.cell? ⟨gx, 0, none⟩ = some (.int .i64 x.least) := hX.cell 0
      have c1 : wc.cell? ⟨gx, 1, none⟩ = some (.int .i64 x.most) := hX.cell 1
      obtain ⟨y1, hy1, -⟩ := hW.intAt (i := k) (by rw [upto_length]; exact hlt)
      obtain ⟨y2, hy2, -⟩ := hO1.intAt (i := k) (by rw [upto_length]; exact hlt)
      have f1 := hW.free k
      have f2 := hO1.free k
      have hy2' : ∀ v, (wc.setCell ⟨gw, k, none⟩ v).cell? ⟨go, k, none⟩ = some (.int .i64 y2) := fun v => by rw [World.cell?_setCell_other _ _ _ _ (by simp <;> omega)]; exact hy2
      have f2' : ∀ v, (wc.setCell ⟨gw, k, none⟩ v).frozen? ⟨go, k, none⟩ = false := fun v => (hO1.far (p := ⟨gw, k, none⟩) n5.symm v).free k
      have HWG : Hid (wgf l k = min ((x.most - x.least + 64 - 1) / 64) 65536) := hid (by unfold wgf wgt; rw [HG.out]; omega)
      have hw0 : 0 ≤ x.most - x.least + 64 - 1 := by omega
      go_upto_region 10 with fail
      refine wp_forget (fun Z => Blk Z ga 2 (ints (upto (lf l) l.length (k + 1))) ∧ Blk Z gb 2 (ints (upto (mf l) l.length (k + 1))) ∧ Blk Z gw 2 (ints (upto (wgf l) l.length (k + 1))) ∧ Blk Z go 2 (ints (upto (fun _ => 1) l.length (k + 1))) ∧ Blk Z gx 58 (nd2 x.least x.most) ∧ Below w.heap.size w Z) ⟨?_, ?_, ?_, ?_, ?_, ?_⟩ ?_
      · exact (hOa.far (p := ⟨gw, k, none⟩) n1.symm _).far (p := ⟨go, k, none⟩) n3.symm _
      · exact (hOb.far (p := ⟨gw, k, none⟩) n2.symm _).far (p := ⟨go, k, none⟩) n4.symm _
      · have := (hW.putInt k (wgf l k)).far (p := ⟨go, k, none⟩) n5 (.int .i64 1)
        rw [upto_set, HWG.out] at this
        exact this
      · have := (hO1.far (p := ⟨gw, k, none⟩) n5.symm (.int .i64 (min ((x.most - x.least + 64 - 1) / 64) 65536))).putInt k 1
        rw [show (upto (fun _ => (1 : Int)) l.length k).set k 1 = upto (fun _ => 1) l.length (k + 1) from upto_set (fun _ => 1)] at this
        exact this
      · exact (hX.far (p := ⟨gw, k, none⟩) (by simp; omega) _).far (p := ⟨go, k, none⟩) (by simp; omega) _
      · exact (hB.setCell (by simp; omega) _).setCell (by simp; omega) _
      clear hOa hOb hW hO1 hX hB c0 c1 hy1 hy2 f1 f2 hy2' f2' hw0
      rintro w5 ⟨hOa, hOb, hW, hO1, hX, hB⟩
      have HS1 : Hid (sums (leasts l) (k + 1) = add (sums (leasts l) k) x.least) := hid (by show add _ ((leasts l).getD k 0) = _; rw [leasts_get, HG.out])
      have HS2 : Hid (sums (mosts l) (k + 1) = add (sums (mosts l) k) x.most) := hid (by show add _ ((mosts l).getD k 0) = _; rw [mosts_get, HG.out])
      have hSQ : (fun Z : World => Z.cell? ⟨gx, 0, none⟩ = some (.int .i64 x.least) ∧ Z.cell? ⟨gx, 1, none⟩ = some (.int .i64 x.most)) w5.drew := ⟨hX.drew.cell 0, hX.drew.cell 1⟩
      refine wp_region_noPanic ?_
      refine Ord.region_Q (S := fun Z : World => Z.cell? ⟨gx, 0, none⟩ = some (.int .i64 x.least) ∧ Z.cell? ⟨gx, 1, none⟩ = some (.int .i64 x.most)) 999 (.one 0 true (.one 1 true (.one 2 true (.one 3 true (.one 4 true (.one 5 true (.one 6 true (.one 7 true (.one 8 true (.one 9 true .nil)))))))))) (by kernel_rfl) (by kernel_rfl) (by kernel_rfl) (by decide) (fun _ _ _ _ _ h => h) (hSQ) (fun hS0 => ?_)
      simp only [Ord.layT, List.getElem?_cons_zero, List.getElem?_cons_succ]
      (refine Ord.takeQ (v := ?_) (Or.inl ⟨rfl, ?_⟩) ?_; rotate_left; (intro w hSw; (try dsimp only at hSw); go_simp; try (with_reducible rfl)); (try simp only [Act.put, List.setIfInBounds_toArray, List.set_cons_zero, List.set_cons_succ]))
      (refine Ord.takeQ (v := ?_) (Or.inl ⟨rfl, ?_⟩) ?_; rotate_left; (intro w hSw; (try dsimp only at hSw); go_simp; try (with_reducible rfl)); (try simp only [Act.put, List.setIfInBounds_toArray, List.set_cons_zero, List.set_cons_succ]))
      (refine Ord.takeQ (v := ?_) (Or.inl ⟨rfl, ?_⟩) ?_; rotate_left; (intro w hSw; (try dsimp only at hSw); go_simp; try (with_reducible rfl)); (try simp only [Act.put, List.setIfInBounds_toArray, List.set_cons_zero, List.set_cons_succ]))
      (refine Ord.takeC 49 #[.int .i64 (sums (leasts l) k), .int .i64 x.least] rfl (fun _ _ => by kernel_rfl) (fun w hSw => fixed_Add _ _ _) ?_; (try simp only [Act.put, List.setIfInBounds_toArray, List.set_cons_zero, List.set_cons_succ]))
      (refine Ord.takeQ (v := ?_) (Or.inl ⟨rfl, ?_⟩) ?_; rotate_left; (intro w hSw; (try dsimp only at hSw); go_simp; try (with_reducible rfl)); (try simp only [Act.put, List.setIfInBounds_toArray, List.set_cons_zero, List.set_cons_succ]))
      (refine Ord.takeQ (v := ?_) (Or.inl ⟨rfl, ?_⟩) ?_; rotate_left; (intro w hSw; (try dsimp only at hSw); go_simp; try (with_reducible rfl)); (try simp only [Act.put, List.setIfInBounds_toArray, List.set_cons_zero, List.set_cons_succ]))
      (refine Ord.takeQ (v := ?_) (Or.inl ⟨rfl, ?_⟩) ?_; rotate_left; (intro w hSw; (try dsimp only at hSw); go_simp; try (with_reducible rfl)); (try simp only [Act.put, List.setIfInBounds_toArray, List.set_cons_zero, List.set_cons_succ]))
      (refine Ord.takeC 49 #[.int .i64 (sums (mosts l) k), .int .i64 x.most] rfl (fun _ _ => by kernel_rfl) (fun w hSw => fixed_Add _ _ _) ?_; (try simp only [Act.put, List.setIfInBounds_toArray, List.set_cons_zero, List.set_cons_succ]))
      (refine Ord.takeQ (v := ?_) (Or.inl ⟨rfl, ?_⟩) ?_; rotate_left; (intro w hSw; (try dsimp only at hSw); go_simp; try (with_reducible rfl)); (try simp only [Act.put, List.setIfInBounds_toArray, List.set_cons_zero, List.set_cons_succ]))
      (refine Ord.takeQ (v := ?_) (Or.inl ⟨rfl, ?_⟩) ?_; rotate_left; (intro w hSw; (try dsimp only at hSw); go_simp; try (with_reducible rfl)); (try simp only [Act.put, List.setIfInBounds_toArray, List.set_cons_zero, List.set_cons_succ]))
      refine Ord.doneQ (NoPanic.normal ?_)
      clear hSQ
      go_wp2_with fail
      go_roundw
      case rel => exact ⟨k + 1, by omega, by go_num, by rw [HS1.out], by rw [HS2.out], hOa.drew, hOb.drew, hW.drew, hO1.drew, hB.drew⟩
      case measure => simp [intOf]; omega
    · obtain rfl : k = l.length := by omega
      rw [lf_all] at hOa
      rw [mf_all] at hOb
      rw [wf_all] at hW
      rw [ones_all] at hO1
      have za := hOa.lt
      have zb := hOb.lt
      have zw := hW.lt
      have zo := hO1.lt
      obtain ⟨sa, hsa⟩ : ∃ sa, sums (leasts l) l.length = sa := ⟨_, rfl⟩
      obtain ⟨sb, hsb⟩ : ∃ sb, sums (mosts l) l.length = sb := ⟨_, rfl⟩
      rw [hsa, hsb] at HT ⊢
      clear hsa hsb
      by_cases c1 : room ≤ sa
      · have HZ : Hid (leasts l = T) := hid (by rw [← HT.out, if_pos c1])
        have d1 : decide (room ≤ sa) = true := decide_eq_true c1
        go_wp2_with fail
        go_ret
        exact ⟨ga, hga, rfl, hB, by rw [← HZ.out]; exact hOa⟩
      · have d1 : decide (room ≤ sa) = false := decide_eq_false c1
        by_cases c2 : room ≤ sb
        · have HZ : Hid (zadd (leasts l) (share (sub room sa) (wgts l)) = T) := hid (by rw [← HT.out, if_neg c1, if_pos c2])
          have d2 : decide (room ≤ sb) = true := decide_eq_true c2
          have hsh := fixed_Share (sub room sa) (wgts l) (some ⟨gw, 0, none⟩) l.length wr (by rw [wgts_length]; omega) (Ints.ofBlk hW zw)
          rw [wgts_length] at hsh
          clear HT
          go_wp2_with (go_at_call 50; refine (fixed_Sub _ _ _).mono ?_; rintro e w' ⟨rfl, rfl⟩)
          refine hsh.mono ?_
          clear hsh
          rintro e w3 ⟨rfl, hb3, hP⟩
          have had := table_added ga wr.heap.size (leasts l) (share (sub room sa) (wgts l)) w3 (by rw [share_length, leasts_length, wgts_length]) (by rw [leasts_length]; exact hl) (by omega) (hOa.below hb3 za) hP
          rw [leasts_length] at had
          go_wp2_with fail
          refine had.mono ?_
          clear had
          rintro e w4 ⟨rfl, hb4, hF⟩
          go_wp2_with fail
          go_ret
          exact ⟨ga, hga, rfl, (hB.trans (hb3.mono hB.size)).trans (hb4.mono hga), by rw [← HZ.out]; exact hF⟩
        · have d2 : decide (room ≤ sb) = false := decide_eq_false c2
          cases sure
          · have HZ : Hid (mosts l = T) := hid (by rw [← HT.out, if_neg c1, if_neg c2]; rfl)
            clear HT
            go_wp2_with fail
            go_ret
            exact ⟨gb, hgb, rfl, hB, by rw [← HZ.out]; exact hOb⟩
          · have HZ : Hid (zadd (mosts l) (share (sub room sb) (ones l.length)) = T) := hid (by rw [← HT.out, if_neg c1, if_neg c2]; rfl)
            have hsh := fixed_Share (sub room sb) (ones l.length) (some ⟨go, 0, none⟩) l.length wr (by rw [ones_length]; omega) (Ints.ofBlk hO1 zo)
            rw [ones_length] at hsh
            clear HT
            go_wp2_with (go_at_call 50; refine (fixed_Sub _ _ _).mono ?_; rintro e w' ⟨rfl, rfl⟩)
            refine hsh.mono ?_
            clear hsh
            rintro e w3 ⟨rfl, hb3, hP⟩
            have had := table_added gb wr.heap.size (mosts l) (share (sub room sb) (ones l.length)) w3 (by rw [share_length, mosts_length, ones_length]) (by rw [mosts_length]; exact hl) (by omega) (hOb.below hb3 zb) hP
            rw [mosts_length] at had
            go_wp2_with fail
            refine had.mono ?_
            clear had
            rintro e w4 ⟨rfl, hb4, hF⟩
            go_wp2_with fail
            go_ret
            exact ⟨gb, hgb, rfl, (hB.trans (hb3.mono hB.size)).trans (hb4.mono hgb), by rw [← HZ.out]; exact hF⟩
end Go.Proofs.Ytkoanijiihnioaa
