/-
  The walk of FloatsApart.
-/
import Derived.Test.YtkoanijiihnioaaWFloatsBands
import Derived.Test.YtkoanijiihnioaaFloatM
namespace Go.Proofs.Ytkoanijiihnioaa
open Go.RowKit Num Mem Opn
set_option linter.unusedVariables false
set_option linter.unusedSimpArgs false
namespace Num
def Fl.rc (f : Fl) : List Value := [.int .i64 f.x, .int .i64 f.y, .int .i64 f.w, .int .i64 f.h]
theorem Inn.nil (m L R : Int) : Inn m L R [] := ⟨by simp, by simp, by simp, by simp⟩
end Num
theorem rc_length (f : Fl) : f.rc.length = 4 := rfl
theorem info_rc4 : (Try.prog.info? 27).map (fun i => (i.zero, i.size, i.bytes)) = some (some (.agg #[.int .i64 0, .int .i64 0, .int .i64 0, .int .i64 0]), 4, 32) := by kernel_rfl
theorem rcs_at {w : World} {B b off : Nat} {l : List Fl} (h : Recs w B (some ⟨b, off, none⟩) 4 Fl.rc l) {k : Nat} {f : Fl} (hx : l[k]? = some f) :
    w.cell? ⟨b, off + k * 4, none⟩ = some (.int .i64 f.x) ∧ w.cell? ⟨b, off + k * 4 + 1, none⟩ = some (.int .i64 f.y) ∧ w.cell? ⟨b, off + k * 4 + 2, none⟩ = some (.int .i64 f.w) ∧ w.cell? ⟨b, off + k * 4 + 3, none⟩ = some (.int .i64 f.h) := by
  obtain ⟨b', off', e, _, hc⟩ := h (by rintro rfl; simp at hx)
  injection e with e
  injection e with e1 e2 e3
  subst e1 e2
  exact ⟨hc k f hx 0 _ rfl, hc k f hx 1 _ rfl, hc k f hx 2 _ rfl, hc k f hx 3 _ rfl⟩
theorem rcs_range {w : World} {B b off : Nat} {l : List Fl} (h : Recs w B (some ⟨b, off, none⟩) 4 Fl.rc l) {k : Nat} {f : Fl} (hx : l[k]? = some f) : w.rangeAt b (off + k * 4) (rect4 f.x f.y f.w f.h).toList := by
  obtain ⟨b', off', e, _, hc⟩ := h (by rintro rfl; simp at hx)
  injection e with e
  injection e with e1 e2 e3
  subst e1 e2
  exact fun j v hv => hc k f hx j v hv
theorem RoomKeep.own {w w' : World} {g base base' n sz : Nat} {e t : TypeId} {v : Value} {xs : List Value} {cs : Array Value} (h : RoomKeep w w' g base) (ho : w.ownsRow base' e sz v n xs) (hg : Blk w g t cs) (ht : t ≠ e) (he : e ≠ 38) : w'.ownsRow base' e sz v n xs :=
  own_keep ho (fun q hq _ => by
    rcases ho.2 with ⟨rfl, _⟩ | ⟨g1, cap, cur, rfl, _, hh, _⟩
    · simp [Value.ownBlock] at hq
    · simp only [Value.ownBlock, Option.some.injEq] at hq
      subst hq
      have hb : Blk w g1 e cur := hh
      rw [hh]
      refine h.blk hb ?_ he
      rintro rfl
      rw [hg] at hh
      injection hh with hh
      injection hh with _ hh
      exact ht hh)
theorem wp_store_row {P : Program} {op : Oper} {a : Act} {w : World} {K : Act → World → Prop} {Q : Exit → Act → World → Prop} (ty : TypeId) (x y : Operand) (ho : op.op = .store ty x y)
    (b : Nat) (cells : Array Value) (hx : a.eval x = .pointer (some ⟨b, 0, none⟩)) (hy : a.eval y = .agg cells)
    (t : TypeId) (old : Array Value) (hb : Blk w b t old) (hs : old.size = cells.size) (hi : (P.info? ty).map (·.size) = some cells.size) (h1 : cells.all (·.oneCell') = true)
    (h : ∀ w', Blk w' b t cells → Chg b w w' → K (a.put op.dst undef) w') : op.wp P a w K Q := by
  have hk := setCells_blk b t cells.toList old.toList [] w (by simpa using hb) (by simpa using hs)
  refine wp_store_mid ty x y ho b 0 cells hx hy ?_ hi h1 (h _ (by simpa using hk.1) (by simpa using hk.2))
  intro j hj
  rw [Nat.zero_add, hb.cell]
  exact ⟨by rw [Array.getElem?_eq_getElem (by omega)]; rfl, hb.free j⟩
theorem RoomAt.chg {w W : World} {g base gx : Nat} {left right : Int} {l : List Fl} {v : Value} {cs : Array Value} (h : RoomAt w g base left right l v) (hx : Blk w gx 27 cs) (hc : Chg gx w W) : RoomAt W g base left right l v := by
  have hne : g ≠ gx := by
    rintro rfl
    have h1 := h.blk
    unfold Blk at h1 hx
    rw [h1] at hx
    injection hx with hx
    injection hx with _ hx
    exact absurd hx (by decide)
  refine ⟨?_, own_keep h.own (fun q hq _ => hc.other q (by rintro rfl; exact own_not hx h.own (by decide) hq.symm))⟩
  unfold Blk
  rw [hc.other g hne]
  exact h.blk
theorem meet_none {F f : Fl} {z : Int} (h : F.w = z) (hm : meet ⟨F.x, F.y, F.w, F.h⟩ ⟨f.x, f.y, f.w, f.h⟩ = nought) (w : World) :
    Calls Try.prog 23 #[.agg (rect4 F.x F.y z F.h), .agg (rect4 f.x f.y f.w f.h)] w fun e w' => e = .returned (.agg #[.int .i64 0, .int .i64 0, .int .i64 0, .int .i64 0]) ∧ Below w.heap.size w w' := by
  subst h
  have h := rect_Meet F.x F.y F.w F.h f.x f.y f.w f.h w
  rw [hm] at h
  exact h
set_option maxRecDepth 100000 in
set_option maxHeartbeats 8000000 in
theorem walk_FloatsApart (left width : Int) (A : Option Addr) (l : List Ak) (c : Nat) (w : World) (il : I64 left) (iw : I64 width) (hr : RowA w A l c) :
    Calls Try.prog 5 #[.int .i64 left, .int .i64 width, .slice A l.length c] w fun e w' => e = .returned (.bool true) ∧ Below w.heap.size w w' := by
  obtain ⟨hA, hlc, hcp, hx⟩ := hr
  obtain ⟨i0, hi, hz0, hz1, hz2⟩ := info_parts info_rc4
  have hl1 := few_lo left
  have hl2 := few_hi left
  have hw1 := few_lo width
  have hw2 := few_hi width
  go_enter Try.func5, Try.ntmps5
  go_wp2_with fail
  refine (small_any _ _ il).mono ?_
  rintro e w' ⟨rfl, rfl⟩
  go_wp2_with fail
  refine (small_any _ _ iw).mono ?_
  rintro e w' ⟨rfl, rfl⟩
  generalize few left = L at *
  generalize few width = wd at *
  obtain ⟨W, hW⟩ : ∃ W, (if wd < 0 then -wd else wd) = W := ⟨_, rfl⟩
  have HW := hid hW
  have hW0 : 0 ≤ W := by rw [← hW]; split <;> omega
  have hW1 : W ≤ 16777215 := by rw [← hW]; split <;> omega
  clear hW
  go_upto_if 19 with fail
  go_cut [1] (fun s1 wx => s1 = .int .i64 W ∧ w = wx)
  case first =>
    by_cases h1 : wd < 0
    · have HZ : Hid (-wd = W) := hid (by have := HW.out; rwa [if_pos h1] at this)
      have g1 : decide (wd < 0) = true := by simpa using h1
      go_wp2_with fail
      go_meet
      exact ⟨by rw [HZ.out], rfl⟩
    · have HZ : Hid (wd = W) := hid (by have := HW.out; rwa [if_neg h1] at this)
      have g1 : decide (wd < 0) = false := by simpa using h1
      go_wp2_with fail
      go_meet
      exact ⟨by rw [HZ.out], rfl⟩
  case rest =>
  obtain ⟨rfl, rfl⟩ := hcut
  clear hw1 hw2 HW
  go_wp2_with fail
  refine (room_New _ _ _).mono ?_
  rintro e w1 ⟨rfl, hB, hs, hR⟩
  have he : (binOp .eql 23 (.pointer (some ⟨w.heap.size, 0, none⟩)) (.pointer none)).run Try.prog w1 = .ok (.bool false) w1 := by kernel_rfl
  rw [show sat L = L from sat_id (by omega) (by omega), show max W 0 = W by omega, add_fit (by omega) (by omega) (by omega) (by omega)] at hR
  obtain ⟨R, hRR⟩ : ∃ R, L + W = R := ⟨_, rfl⟩
  rw [hRR] at hR
  have HRR := hid hRR
  have hR1 : L ≤ R := by omega
  have hR2 : R ≤ 33554432 := by omega
  have wRR : IntKind.i64.wrap (L + W) = R := by rw [hRR]; exact IntWalk.i64_in _ (by omega)
  clear hRR
  have hs1 : w.heap.size + 1 ≤ w1.heap.size := by omega
  go_wp2_with fail
  go_loopg [8, 9] l.length (fun g' s8 s9 wr => ∃ (k : Nat) (D : List Fl) (v : Value), g' = l.length - k ∧ k ≤ l.length ∧ k ≤ 40 ∧ s9 = .int .i64 k ∧ D.length = k ∧ Hid (Inn (33554432 + k * 16777216) L R D) ∧ RoomAt wr w.heap.size (w.heap.size + 1) L R D v ∧ w.heap.size + 1 ≤ wr.heap.size ∧ wr.ownsRow w.heap.size 27 4 s8 D.length (D.flatMap Fl.rc) ∧ Below w.heap.size w wr)
  case atStart => exact ⟨0, [], _, rfl, Nat.zero_le _, by omega, rfl, rfl, hid (Inn.nil _ _ _), hR, hs1, own_nil _ _ _ _, hB⟩
  case round =>
    clear hR hs1 hB hs he
    obtain ⟨k, D, v, rfl, hk, hk30, rfl, hD, HBd, hR, hs1, hP, hB⟩ := hrel
    subst hD
    obtain ⟨A8, c8, rfl, hc8⟩ := own_some hP
    obtain ⟨q, hq⟩ : ∃ q, (decide (D.length < l.length) && decide (D.length < 40)) = q := ⟨_, rfl⟩
    have HQ := hid hq
    clear hq
    go_upto_region 10 with fail
    go_cut [34] (fun s30 wx => s30 = .bool q ∧ wr = wx)
    case first =>
      clear wRR
      by_cases h1 : D.length < l.length
      · by_cases h2 : D.length < 40
        · have HZ : Hid (q = true) := hid (by rw [← HQ.out]; simp [h1, h2])
          have g2 : decide ((D.length : Int) < 40) = true := by simp; omega
          go_wp2_with fail
          go_meet
          exact ⟨by rw [HZ.out], rfl⟩
        · have HZ : Hid (q = false) := hid (by rw [← HQ.out]; simp [h2])
          have g2 : decide ((D.length : Int) < 40) = false := by simp; omega
          go_wp2_with fail
          go_meet
          exact ⟨by rw [HZ.out], rfl⟩
      · have HZ : Hid (q = false) := hid (by rw [← HQ.out]; simp [h1])
        go_wp2_with fail
        go_meet
        exact ⟨by rw [HZ.out], rfl⟩
    case rest =>
    obtain ⟨rfl, rfl⟩ := hcut
    cases q
    · clear hA hx HQ
      go_wp2_with fail
      refine (known17 _).mono ?_
      rintro e w8 ⟨rfl, hb⟩
      go_wp2_with fail
      go_ret
      exact ⟨rfl, hB.trans (hb.mono hB.size)⟩
    · have hlt : D.length < l.length := by have := HQ.out; simp at this; exact this.1
      have hk29 : D.length < 40 := by have := HQ.out; simp at this; exact this.2
      clear HQ
      obtain ⟨bq, oq, a, rfl, hbq, hax, q0, q1, q2, q3⟩ := ask_at (hA.below hB) hlt
      obtain ⟨ia1, ia2, ia3⟩ := hx a (List.mem_of_getElem? hax.out)
      clear hax
      obtain ⟨ar, aw, ah, af⟩ := a
      simp only at ia1 ia2 ia3 q0 q1 q2 q3
      have b1 := few_lo aw
      have b2 := few_hi aw
      have b3 := few_lo ah
      have b4 := few_hi ah
      have b5 := few_lo af
      have b6 := few_hi af
      go_wp2_with fail
      refine (small_any _ _ ia1).mono ?_
      rintro e w' ⟨rfl, rfl⟩
      generalize few aw = u at *
      obtain ⟨u1, hu1⟩ : ∃ u1, (if u < 0 then -u else u) = u1 := ⟨_, rfl⟩
      have HU := hid hu1
      have hu2 : 0 ≤ u1 := by rw [← hu1]; split <;> omega
      clear hu1
      go_upto_if 44 with fail
      go_cut [10] (fun s10 wx => s10 = .int .i64 u1 ∧ wr = wx)
      case first =>
        clear wRR
        by_cases h1 : u < 0
        · have HZ : Hid (-u = u1) := hid (by have := HU.out; rwa [if_pos h1] at this)
          have g1 : decide (u < 0) = true := by simpa using h1
          go_wp2_with fail
          go_meet
          exact ⟨by rw [HZ.out], rfl⟩
        · have HZ : Hid (u = u1) := hid (by have := HU.out; rwa [if_neg h1] at this)
          have g1 : decide (u < 0) = false := by simpa using h1
          go_wp2_with fail
          go_meet
          exact ⟨by rw [HZ.out], rfl⟩
      case rest =>
      obtain ⟨rfl, rfl⟩ := hcut
      have hu3 : u1 ≤ 16777215 := by have := HU.out; split at this <;> omega
      clear HU b1 b2
      generalize hu : u = uu at *
      obtain ⟨z, hz⟩ : ∃ z, (if 0 < W then u1 % (W + 1) else 0) = z := ⟨_, rfl⟩
      have HZ := hid hz
      have hz1' : 0 ≤ z := by rw [← hz]; split; exact Int.emod_nonneg _ (by omega); omega
      have hz2' : z ≤ W := by
        rw [← hz]
        split
        · have := Int.emod_lt_of_pos u1 (show 0 < W + 1 by omega); omega
        · omega
      clear hz
      go_upto_if 48 with fail
      go_cut [10] (fun s10 wx => s10 = .int .i64 z ∧ wr = wx)
      case first =>
        clear wRR
        by_cases h1 : 0 < W
        · have HZ2 : Hid (u1 % (W + 1) = z) := hid (by have := HZ.out; rwa [if_pos h1] at this)
          have g1 : decide (0 < W) = true := by simpa using h1
          have g2 : IntKind.i64.wrap (W + 1) = W + 1 := IntWalk.i64_in _ (by omega)
          go_wp2_with fail
          go_meet
          exact ⟨by rw [HZ2.out], rfl⟩
        · have HZ2 : Hid (0 = z) := hid (by have := HZ.out; rwa [if_neg h1] at this)
          have g1 : decide (0 < W) = false := by simpa using h1
          go_wp2_with fail
          go_meet
          exact ⟨by rw [← HZ2.out], rfl⟩
      case rest =>
      obtain ⟨rfl, rfl⟩ := hcut
      clear HZ
      go_wp2_with fail
      refine (small_any _ _ ia2).mono ?_
      rintro e w' ⟨rfl, rfl⟩
      generalize few ah = ht at *
      obtain ⟨fr, hfr⟩ : ∃ fr, few af = fr := ⟨_, rfl⟩
      rw [hfr] at b5 b6
      have hPI := place_in (s := ar) (w := z) (hh := ht) (y := fr) HBd.out hl1 hR1 hR2 (by omega) (by omega) hz1' (by have := HRR.out; omega) (by omega) b4 b5 b6
      obtain ⟨F, hF⟩ : ∃ F, place D L R ar z ht fr = F := ⟨_, rfl⟩
      rw [hF] at hPI
      obtain ⟨hP1, hP2, hP3, hP4, hP5, hP6, hP7⟩ := hPI
      have HIN := hid hP1
      have HME := hid hP2
      have HTO := hid hP7
      have hBF := hP1.bd F (by simp)
      have HBF := hid hBF
      clear hP1 hP2 hP7 HBd hBF
      have hSQ : ∀ Z, Below w.heap.size wr Z → (fun Z => Z.cell? ⟨bq, oq + D.length * 4, none⟩ = some (.bool ar) ∧ Z.cell? ⟨bq, oq + D.length * 4 + 3, none⟩ = some (.int .i64 af)) Z := fun Z h => ⟨(h.cell hbq).trans q0, (h.cell hbq).trans q3⟩
      have hdb : Below w.heap.size wr wr.drew := (Drawn.refl wr).drew.below _
      have hRd : RoomAt wr.drew w.heap.size (w.heap.size + 1) L R D v := hR.drawn (Drawn.refl wr).drew
      have hPd : wr.drew.ownsRow w.heap.size 27 4 (.slice A8 D.length c8) D.length (D.flatMap Fl.rc) := own_drew hP
      go_upto_region 19 with fail
      go_cut [12] (fun s12 wx => ∃ gx : Nat, s12 = .pointer (some ⟨gx, 0, none⟩) ∧ Blk wx gx 27 (rect4 F.x F.y z F.h) ∧ (∃ v2, RoomAt wx w.heap.size (w.heap.size + 1) L R (D ++ [F]) v2) ∧ wx.ownsRow w.heap.size 27 4 (.slice A8 D.length c8) D.length (D.flatMap Fl.rc) ∧ Below w.heap.size wr wx ∧ w.heap.size + 1 ≤ wx.heap.size)
      case first =>
        clear wRR
        refine wp_region_noPanic ?_
        refine Ord.region_tree (S := fun Z => Z.cell? ⟨bq, oq + D.length * 4, none⟩ = some (.bool ar) ∧ Z.cell? ⟨bq, oq + D.length * 4 + 3, none⟩ = some (.int .i64 af)) (.one 0 true (.one 1 true (.one 2 true (.one 3 true (.one 4 true (.one 5 true (.one 6 true (.one 7 true (.one 8 true (.one 9 true (.one 10 true (.one 11 true (.one 12 true (.two 13 (.two 14 (.one 15 false (.one 16 false .nil)) 15 (.one 14 false (.one 16 false .nil))) 15 (.one 13 false (.one 14 false (.one 16 false .nil))))))))))))))))) (by kernel_rfl) (by kernel_rfl) (by kernel_rfl) (by decide) (fun _ _ _ _ _ h => h) (hSQ _ hdb) (fun hS0 => ?_)
        simp only [Ord.layT, List.getElem?_cons_zero, List.getElem?_cons_succ]
        (refine Ord.takeT (v := ?_) (Or.inl ⟨rfl, ?_⟩) ?_; rotate_left; (intro w hSw; (try dsimp only at hSw); go_simp; try (with_reducible rfl)); (try simp only [Act.put, List.setIfInBounds_toArray, List.set_cons_zero, List.set_cons_succ]))
        (refine Ord.takeT (v := ?_) (Or.inl ⟨rfl, ?_⟩) ?_; rotate_left; (intro w hSw; (try dsimp only at hSw); go_simp; try (with_reducible rfl)); (try simp only [Act.put, List.setIfInBounds_toArray, List.set_cons_zero, List.set_cons_succ]))
        (refine Ord.takeT (v := ?_) (Or.inl ⟨rfl, ?_⟩) ?_; rotate_left; (intro w hSw; (try dsimp only at hSw); go_simp; try (with_reducible rfl)); (try simp only [Act.put, List.setIfInBounds_toArray, List.set_cons_zero, List.set_cons_succ]))
        (refine Ord.takeT (v := ?_) (Or.inl ⟨rfl, ?_⟩) ?_; rotate_left; (intro w hSw; (try dsimp only at hSw); go_simp; try (with_reducible rfl)); (try simp only [Act.put, List.setIfInBounds_toArray, List.set_cons_zero, List.set_cons_succ]))
        (refine Ord.takeT (v := ?_) (Or.inl ⟨rfl, ?_⟩) ?_; rotate_left; (intro w hSw; (try dsimp only at hSw); go_simp; try (with_reducible rfl)); (try simp only [Act.put, List.setIfInBounds_toArray, List.set_cons_zero, List.set_cons_succ]))
        (refine Ord.takeT (v := ?_) (Or.inl ⟨rfl, ?_⟩) ?_; rotate_left; (intro w hSw; (try dsimp only at hSw); go_simp; try (with_reducible rfl)); (try simp only [Act.put, List.setIfInBounds_toArray, List.set_cons_zero, List.set_cons_succ]))
        (refine Ord.takeT (v := ?_) (Or.inl ⟨rfl, ?_⟩) ?_; rotate_left; (intro w hSw; (try dsimp only at hSw); go_simp; try (with_reducible rfl)); (try simp only [Act.put, List.setIfInBounds_toArray, List.set_cons_zero, List.set_cons_succ]))
        (refine Ord.takeT (v := ?_) (Or.inl ⟨rfl, ?_⟩) ?_; rotate_left; (intro w hSw; (try dsimp only at hSw); go_simp; try (with_reducible rfl)); (try simp only [Act.put, List.setIfInBounds_toArray, List.set_cons_zero, List.set_cons_succ]))
        (refine Ord.takeT (v := ?_) (Or.inl ⟨rfl, ?_⟩) ?_; rotate_left; (intro w hSw; (try dsimp only at hSw); go_simp; try (with_reducible rfl)); (try simp only [Act.put, List.setIfInBounds_toArray, List.set_cons_zero, List.set_cons_succ]))
        (refine Ord.takeT (v := ?_) (Or.inl ⟨rfl, ?_⟩) ?_; rotate_left; (intro w hSw; (try dsimp only at hSw); go_simp; try (with_reducible rfl)); (try simp only [Act.put, List.setIfInBounds_toArray, List.set_cons_zero, List.set_cons_succ]))
        (refine Ord.takeT (v := ?_) (Or.inl ⟨rfl, ?_⟩) ?_; rotate_left; (intro w hSw; (try dsimp only at hSw); go_simp; try (with_reducible rfl)); (try simp only [Act.put, List.setIfInBounds_toArray, List.set_cons_zero, List.set_cons_succ]))
        (refine Ord.takeT (v := ?_) (Or.inl ⟨rfl, ?_⟩) ?_; rotate_left; (intro w hSw; (try dsimp only at hSw); go_simp; try (with_reducible rfl)); (try simp only [Act.put, List.setIfInBounds_toArray, List.set_cons_zero, List.set_cons_succ]))
        (refine Ord.takeT (v := ?_) (Or.inl ⟨rfl, ?_⟩) ?_; rotate_left; (intro w hSw; (try dsimp only at hSw); go_simp; try (with_reducible rfl)); (try simp only [Act.put, List.setIfInBounds_toArray, List.set_cons_zero, List.set_cons_succ]))
        refine Ord.twoT rfl rfl rfl rfl (fun K hK => ?_) (fun K hK => ?_)
        · go_simp
          refine (small_any _ _ ia3).mono ?_
          rintro e w9 ⟨rfl, rfl⟩
          go_wp2_with fail
          refine hK.out _ _ hS0 (fun _ => ?_)
          clear hK K
          (try simp only [Act.put, List.setIfInBounds_toArray, List.set_cons_zero, List.set_cons_succ])
          refine Ord.twoT rfl rfl rfl rfl (fun K hK => ?_) (fun K hK => ?_)
          · go_simp
            have hput := room_Put w.heap.size (w.heap.size + 1) L R D _ ar z ht fr wr.drew (by omega) hs1 hRd
            rw [hF] at hput
            refine hput.mono ?_
            clear hput
            rintro e w3 ⟨rfl, ⟨v2, hr2⟩, hk2⟩
            have hb3 := hdb.trans (hk2.below _ (Nat.le_refl _) (by omega) (by simp; omega))
            have hp3 := hk2.own hPd (hRd).blk (by decide) (by decide)
            have hs3 : w.heap.size + 1 ≤ w3.heap.size := by have := hk2.size; simp at this; omega
            go_wp2_with fail
            refine hK.out _ _ (hSQ _ hb3) (fun hS3 => ?_)
            clear hK K
            (try simp only [Act.put, List.setIfInBounds_toArray, List.set_cons_zero, List.set_cons_succ])
            refine Ord.aloneT rfl rfl (fun K hK => ?_)
            go_simp
            have hba : Below w3.heap.size w3 (w3.alloc (.cells (rect4 0 0 0 0) 27)) := (Below.refl _ _).alloc (Nat.le_refl _) _
            have hZ : Blk (w3.alloc (.cells (rect4 0 0 0 0) 27)) w3.heap.size 27 (rect4 0 0 0 0) := Blk.new _ _ _
            have hb4 := hb3.trans (hba.mono (by omega))
            refine hK.out _ _ (hSQ _ hb4) (fun hS4 => ?_)
            clear hK K
            (try simp only [Act.put, List.setIfInBounds_toArray, List.set_cons_zero, List.set_cons_succ])
            have hw3 : wr.heap.size ≤ w3.heap.size := by have := hk2.size; simpa using this
            refine Ord.aloneT rfl rfl (fun K hK => ?_)
            refine wp_store_row 27 _ _ rfl w3.heap.size (rect4 F.x F.y z F.h) rfl rfl 27 (rect4 0 0 0 0) hZ rfl (info_rect4 _ _ _ _) (rect_one _ _ _ _) ?_
            intro w9 hX9 hC9
            have hb9 := hb4.trans (hC9.below (show w.heap.size ≤ w3.heap.size by omega))
            have hr9 := RoomAt.chg (hr2.below hba) hZ hC9
            have hp9 := own_keep (own_below hp3 hba) (fun q hq _ => hC9.other q (by have := (hP.lt q hq).2; omega))
            have hs9 : w.heap.size + 1 ≤ w9.heap.size := by rw [hC9.size]; exact (by simp; omega)
            (try simp only [Act.put, List.setIfInBounds_toArray, List.set_cons_zero, List.set_cons_succ])
            refine hK.out _ _ (hSQ _ hb9) (fun _ => ?_)
            clear hK K
            refine Ord.doneT (NoPanic.normal ?_)
            go_wp2_with fail
            go_meet
            exact ⟨_, rfl, hX9, ⟨_, hr9⟩, hp9, hb9, hs9⟩
          · go_simp
            have hba : Below wr.heap.size wr (wr.alloc (.cells (rect4 0 0 0 0) 27)) := (Below.refl _ _).alloc (Nat.le_refl _) _
            have hZ : Blk (wr.alloc (.cells (rect4 0 0 0 0) 27)) wr.heap.size 27 (rect4 0 0 0 0) := Blk.new _ _ _
            have hbA : Below w.heap.size wr (wr.alloc (.cells (rect4 0 0 0 0) 27)).drew := (hba.mono (by omega)).trans ((Drawn.refl _).drew.below _)
            have hRA : RoomAt (wr.alloc (.cells (rect4 0 0 0 0) 27)).drew w.heap.size (w.heap.size + 1) L R D v := (hR.below hba).drawn (Drawn.refl _).drew
            have hPA : (wr.alloc (.cells (rect4 0 0 0 0) 27)).drew.ownsRow w.heap.size 27 4 (.slice A8 D.length c8) D.length (D.flatMap Fl.rc) := own_drew (own_below hP hba)
            have hsA : w.heap.size + 1 ≤ (wr.alloc (.cells (rect4 0 0 0 0) 27)).drew.heap.size := by simp; omega
            replace hZ := hZ.drew
            refine hK.out _ _ (hSQ _ hbA) (fun hS0 => ?_)
            clear hK K
            (try simp only [Act.put, List.setIfInBounds_toArray, List.set_cons_zero, List.set_cons_succ])
            refine Ord.aloneT rfl rfl (fun K hK => ?_)
            go_simp
            have hput := room_Put w.heap.size (w.heap.size + 1) L R D _ ar z ht fr (wr.alloc (.cells (rect4 0 0 0 0) 27)).drew (by omega) hsA hRA
            rw [hF] at hput
            refine hput.mono ?_
            clear hput
            rintro e w3 ⟨rfl, ⟨v2, hr2⟩, hk2⟩
            have hb3 := hbA.trans (hk2.below _ (Nat.le_refl _) (by omega) (by simp; omega))
            have hp3 := hk2.own hPA (hRA).blk (by decide) (by decide)
            have hs3 : w.heap.size + 1 ≤ w3.heap.size := by have := hk2.size; simp at this; omega
            go_wp2_with fail
            refine hK.out _ _ (hSQ _ hb3) (fun hS3 => ?_)
            clear hK K
            (try simp only [Act.put, List.setIfInBounds_toArray, List.set_cons_zero, List.set_cons_succ])
            have hZ3 := hk2.blk hZ (by omega) (by decide)
            refine Ord.aloneT rfl rfl (fun K hK => ?_)
            refine wp_store_row 27 _ _ rfl wr.heap.size (rect4 F.x F.y z F.h) rfl rfl 27 (rect4 0 0 0 0) hZ3 rfl (info_rect4 _ _ _ _) (rect_one _ _ _ _) ?_
            intro w9 hX9 hC9
            have hb9 := hb3.trans (hC9.below (show w.heap.size ≤ wr.heap.size by omega))
            have hr9 := RoomAt.chg hr2 hZ3 hC9
            have hp9 := own_keep hp3 (fun q hq _ => hC9.other q (by have := (hP.lt q hq).2; omega))
            have hs9 : w.heap.size + 1 ≤ w9.heap.size := by rw [hC9.size]; exact hs3
            (try simp only [Act.put, List.setIfInBounds_toArray, List.set_cons_zero, List.set_cons_succ])
            refine hK.out _ _ (hSQ _ hb9) (fun _ => ?_)
            clear hK K
            refine Ord.doneT (NoPanic.normal ?_)
            go_wp2_with fail
            go_meet
            exact ⟨_, rfl, hX9, ⟨_, hr9⟩, hp9, hb9, hs9⟩
        · go_simp
          have hba : Below wr.heap.size wr (wr.alloc (.cells (rect4 0 0 0 0) 27)) := (Below.refl _ _).alloc (Nat.le_refl _) _
          have hZ : Blk (wr.alloc (.cells (rect4 0 0 0 0) 27)) wr.heap.size 27 (rect4 0 0 0 0) := Blk.new _ _ _
          have hbA : Below w.heap.size wr (wr.alloc (.cells (rect4 0 0 0 0) 27)).drew := (hba.mono (by omega)).trans ((Drawn.refl _).drew.below _)
          have hRA : RoomAt (wr.alloc (.cells (rect4 0 0 0 0) 27)).drew w.heap.size (w.heap.size + 1) L R D v := (hR.below hba).drawn (Drawn.refl _).drew
          have hPA : (wr.alloc (.cells (rect4 0 0 0 0) 27)).drew.ownsRow w.heap.size 27 4 (.slice A8 D.length c8) D.length (D.flatMap Fl.rc) := own_drew (own_below hP hba)
          have hsA : w.heap.size + 1 ≤ (wr.alloc (.cells (rect4 0 0 0 0) 27)).drew.heap.size := by simp; omega
          replace hZ := hZ.drew
          refine hK.out _ _ (hSQ _ hbA) (fun hS0 => ?_)
          clear hK K
          (try simp only [Act.put, List.setIfInBounds_toArray, List.set_cons_zero, List.set_cons_succ])
          refine Ord.aloneT rfl rfl (fun K hK => ?_)
          go_simp
          refine (small_any _ _ ia3).mono ?_
          rintro e w9 ⟨rfl, rfl⟩
          go_wp2_with fail
          refine hK.out _ _ hS0 (fun _ => ?_)
          clear hK K
          (try simp only [Act.put, List.setIfInBounds_toArray, List.set_cons_zero, List.set_cons_succ])
          refine Ord.aloneT rfl rfl (fun K hK => ?_)
          go_simp
          have hput := room_Put w.heap.size (w.heap.size + 1) L R D _ ar z ht fr (wr.alloc (.cells (rect4 0 0 0 0) 27)).drew (by omega) hsA hRA
          rw [hF] at hput
          refine hput.mono ?_
          clear hput
          rintro e w3 ⟨rfl, ⟨v2, hr2⟩, hk2⟩
          have hb3 := hbA.trans (hk2.below _ (Nat.le_refl _) (by omega) (by simp; omega))
          have hp3 := hk2.own hPA (hRA).blk (by decide) (by decide)
          have hs3 : w.heap.size + 1 ≤ w3.heap.size := by have := hk2.size; simp at this; omega
          go_wp2_with fail
          refine hK.out _ _ (hSQ _ hb3) (fun hS3 => ?_)
          clear hK K
          (try simp only [Act.put, List.setIfInBounds_toArray, List.set_cons_zero, List.set_cons_succ])
          have hZ3 := hk2.blk hZ (by omega) (by decide)
          refine Ord.aloneT rfl rfl (fun K hK => ?_)
          refine wp_store_row 27 _ _ rfl wr.heap.size (rect4 F.x F.y z F.h) rfl rfl 27 (rect4 0 0 0 0) hZ3 rfl (info_rect4 _ _ _ _) (rect_one _ _ _ _) ?_
          intro w9 hX9 hC9
          have hb9 := hb3.trans (hC9.below (show w.heap.size ≤ wr.heap.size by omega))
          have hr9 := RoomAt.chg hr2 hZ3 hC9
          have hp9 := own_keep hp3 (fun q hq _ => hC9.other q (by have := (hP.lt q hq).2; omega))
          have hs9 : w.heap.size + 1 ≤ w9.heap.size := by rw [hC9.size]; exact hs3
          (try simp only [Act.put, List.setIfInBounds_toArray, List.set_cons_zero, List.set_cons_succ])
          refine hK.out _ _ (hSQ _ hb9) (fun _ => ?_)
          clear hK K
          refine Ord.doneT (NoPanic.normal ?_)
          go_wp2_with fail
          go_meet
          exact ⟨_, rfl, hX9, ⟨_, hr9⟩, hp9, hb9, hs9⟩
      case rest =>
      obtain ⟨gx, rfl, hX, ⟨v2, hR2'⟩, hP', hB', hs2⟩ := hcut
      have hBw := hB.trans hB'
      clear hR hRd hPd hSQ hdb hP hs1
      have ex0 : wc.cell? ⟨gx, 0, none⟩ = some (.int .i64 F.x) := hX.cell 0
      have ex1 : wc.cell? ⟨gx, 1, none⟩ = some (.int .i64 F.y) := hX.cell 1
      have ex2 : wc.cell? ⟨gx, 2, none⟩ = some (.int .i64 z) := hX.cell 2
      have eq3 : wc.cell? ⟨bq, oq + D.length * 4 + 3, none⟩ = some (.int .i64 af) := (hB'.cell hbq).trans q3
      have d1 : decide (F.x < L) = false := by simp; omega
      have d2 : IntKind.i64.wrap (F.x + z) = F.x + z := IntWalk.i64_in _ (by have := HBF.out.x1; have := HBF.out.x0; omega)
      have d3 : decide (R < F.x + z) = false := by simp; omega
      have d4 : decide (F.y < fr) = false := by simp; omega
      go_upto_region 20 with fail
      go_cut [120] (fun s120 wx => s120 = .bool false ∧ Drawn wc wx)
      case first =>
        rcases Nat.eq_zero_or_pos D.length with h0 | h0
        · have d5 : decide ((0 : Int) < (D.length : Int)) = false := decide_eq_false (by omega)
          have d7 : decide (0 < D.length) = false := decide_eq_false (by omega)
          replace h0 := hid h0
          have hSQ : ∀ Z, Drawn wc Z → (fun Z => Drawn wc Z ∧ Z.cell? ⟨gx, 0, none⟩ = some (.int .i64 F.x) ∧ Z.cell? ⟨gx, 1, none⟩ = some (.int .i64 F.y) ∧ Z.cell? ⟨gx, 2, none⟩ = some (.int .i64 z) ∧ Z.cell? ⟨bq, oq + D.length * 4 + 3, none⟩ = some (.int .i64 af)) Z := fun Z h => ⟨h, (cellD h _).trans ex0, (cellD h _).trans ex1, (cellD h _).trans ex2, (cellD h _).trans eq3⟩
          refine wp_region_noPanic ?_
          refine Ord.region_ord (S := fun Z => Drawn wc Z ∧ Z.cell? ⟨gx, 0, none⟩ = some (.int .i64 F.x) ∧ Z.cell? ⟨gx, 1, none⟩ = some (.int .i64 F.y) ∧ Z.cell? ⟨gx, 2, none⟩ = some (.int .i64 z) ∧ Z.cell? ⟨bq, oq + D.length * 4 + 3, none⟩ = some (.int .i64 af)) [(0, true), (1, true), (2, true), (3, true), (4, true), (5, true), (6, true), (7, true), (8, true), (9, true), (10, true), (11, true), (12, true), (13, true), (14, true), (15, true), (16, true), (17, true), (18, true), (19, true), (20, true), (21, true), (22, true), (23, true), (24, true), (25, true), (26, true), (27, true), (28, true), (29, false), (30, true), (31, true), (32, true), (33, true), (34, true), (35, true), (36, true), (37, true), (38, true), (39, true), (40, true), (41, true), (42, true), (43, true), (44, true), (45, true), (46, true)] (by kernel_rfl) (by kernel_rfl) (by kernel_rfl) (by decide) (fun _ _ _ _ _ h => h) (hSQ _ (Drawn.refl _).drew) (fun hS0 => ?_)
          simp only [Ord.lay, List.getElem?_cons_zero, List.getElem?_cons_succ]
          (refine Ord.take (v := ?_) (Or.inl ⟨rfl, ?_⟩) ?_; rotate_left; (intro w hSw; (try dsimp only at hSw); go_simp; try (with_reducible rfl)); (try simp only [Act.put, List.setIfInBounds_toArray, List.set_cons_zero, List.set_cons_succ]))
          (refine Ord.take (v := ?_) (Or.inl ⟨rfl, ?_⟩) ?_; rotate_left; (intro w hSw; (try dsimp only at hSw); go_simp; try (with_reducible rfl)); (try simp only [Act.put, List.setIfInBounds_toArray, List.set_cons_zero, List.set_cons_succ]))
          (refine Ord.take (v := ?_) (Or.inl ⟨rfl, ?_⟩) ?_; rotate_left; (intro w hSw; (try dsimp only at hSw); go_simp; try (with_reducible rfl)); (try simp only [Act.put, List.setIfInBounds_toArray, List.set_cons_zero, List.set_cons_succ]))
          (refine Ord.take (v := ?_) (Or.inl ⟨rfl, ?_⟩) ?_; rotate_left; (intro w hSw; (try dsimp only at hSw); go_simp; try (with_reducible rfl)); (try simp only [Act.put, List.setIfInBounds_toArray, List.set_cons_zero, List.set_cons_succ]))
          (refine Ord.take (v := ?_) (Or.inl ⟨rfl, ?_⟩) ?_; rotate_left; (intro w hSw; (try dsimp only at hSw); go_simp; try (with_reducible rfl)); (try simp only [Act.put, List.setIfInBounds_toArray, List.set_cons_zero, List.set_cons_succ]))
          (refine Ord.take (v := ?_) (Or.inl ⟨rfl, ?_⟩) ?_; rotate_left; (intro w hSw; (try dsimp only at hSw); go_simp; try (with_reducible rfl)); (try simp only [Act.put, List.setIfInBounds_toArray, List.set_cons_zero, List.set_cons_succ]))
          (refine Ord.take (v := ?_) (Or.inl ⟨rfl, ?_⟩) ?_; rotate_left; (intro w hSw; (try dsimp only at hSw); go_simp; try (with_reducible rfl)); (try simp only [Act.put, List.setIfInBounds_toArray, List.set_cons_zero, List.set_cons_succ]))
          (refine Ord.take (v := ?_) (Or.inl ⟨rfl, ?_⟩) ?_; rotate_left; (intro w hSw; (try dsimp only at hSw); go_simp; try (with_reducible rfl)); (try simp only [Act.put, List.setIfInBounds_toArray, List.set_cons_zero, List.set_cons_succ]))
          (refine Ord.take (v := ?_) (Or.inl ⟨rfl, ?_⟩) ?_; rotate_left; (intro w hSw; (try dsimp only at hSw); go_simp; try (with_reducible rfl)); (try simp only [Act.put, List.setIfInBounds_toArray, List.set_cons_zero, List.set_cons_succ]))
          (refine Ord.take (v := ?_) (Or.inl ⟨rfl, ?_⟩) ?_; rotate_left; (intro w hSw; (try dsimp only at hSw); go_simp; try (with_reducible rfl)); (try simp only [Act.put, List.setIfInBounds_toArray, List.set_cons_zero, List.set_cons_succ]))
          (refine Ord.take (v := ?_) (Or.inl ⟨rfl, ?_⟩) ?_; rotate_left; (intro w hSw; (try dsimp only at hSw); go_simp; try (with_reducible rfl)); (try simp only [Act.put, List.setIfInBounds_toArray, List.set_cons_zero, List.set_cons_succ]))
          (refine Ord.take (v := ?_) (Or.inl ⟨rfl, ?_⟩) ?_; rotate_left; (intro w hSw; (try dsimp only at hSw); go_simp; try (with_reducible rfl)); (try simp only [Act.put, List.setIfInBounds_toArray, List.set_cons_zero, List.set_cons_succ]))
          (refine Ord.take (v := ?_) (Or.inl ⟨rfl, ?_⟩) ?_; rotate_left; (intro w hSw; (try dsimp only at hSw); go_simp; try (with_reducible rfl)); (try simp only [Act.put, List.setIfInBounds_toArray, List.set_cons_zero, List.set_cons_succ]))
          (refine Ord.take (v := ?_) (Or.inl ⟨rfl, ?_⟩) ?_; rotate_left; (intro w hSw; (try dsimp only at hSw); go_simp; try (with_reducible rfl)); (try simp only [Act.put, List.setIfInBounds_toArray, List.set_cons_zero, List.set_cons_succ]))
          (refine Ord.take (v := ?_) (Or.inl ⟨rfl, ?_⟩) ?_; rotate_left; (intro w hSw; (try dsimp only at hSw); go_simp; try (with_reducible rfl)); (try simp only [Act.put, List.setIfInBounds_toArray, List.set_cons_zero, List.set_cons_succ]))
          (refine Ord.take (v := ?_) (Or.inl ⟨rfl, ?_⟩) ?_; rotate_left; (intro w hSw; (try dsimp only at hSw); go_simp; try (with_reducible rfl)); (try simp only [Act.put, List.setIfInBounds_toArray, List.set_cons_zero, List.set_cons_succ]))
          (refine Ord.take (v := ?_) (Or.inl ⟨rfl, ?_⟩) ?_; rotate_left; (intro w hSw; (try dsimp only at hSw); go_simp; try (with_reducible rfl)); (try simp only [Act.put, List.setIfInBounds_toArray, List.set_cons_zero, List.set_cons_succ]))
          (refine Ord.take (v := ?_) (Or.inl ⟨rfl, ?_⟩) ?_; rotate_left; (intro w hSw; (try dsimp only at hSw); go_simp; try (with_reducible rfl)); (try simp only [Act.put, List.setIfInBounds_toArray, List.set_cons_zero, List.set_cons_succ]))
          (refine Ord.take (v := ?_) (Or.inl ⟨rfl, ?_⟩) ?_; rotate_left; (intro w hSw; (try dsimp only at hSw); go_simp; try (with_reducible rfl)); (try simp only [Act.put, List.setIfInBounds_toArray, List.set_cons_zero, List.set_cons_succ]))
          (refine Ord.take (v := ?_) (Or.inl ⟨rfl, ?_⟩) ?_; rotate_left; (intro w hSw; (try dsimp only at hSw); go_simp; try (with_reducible rfl)); (try simp only [Act.put, List.setIfInBounds_toArray, List.set_cons_zero, List.set_cons_succ]))
          (refine Ord.take (v := ?_) (Or.inl ⟨rfl, ?_⟩) ?_; rotate_left; (intro w hSw; (try dsimp only at hSw); go_simp; try (with_reducible rfl)); (try simp only [Act.put, List.setIfInBounds_toArray, List.set_cons_zero, List.set_cons_succ]))
          (refine Ord.take (v := ?_) (Or.inl ⟨rfl, ?_⟩) ?_; rotate_left; (intro w hSw; (try dsimp only at hSw); go_simp; try (with_reducible rfl)); (try simp only [Act.put, List.setIfInBounds_toArray, List.set_cons_zero, List.set_cons_succ]))
          (refine Ord.take (v := ?_) (Or.inl ⟨rfl, ?_⟩) ?_; rotate_left; (intro w hSw; (try dsimp only at hSw); go_simp; try (with_reducible rfl)); (try simp only [Act.put, List.setIfInBounds_toArray, List.set_cons_zero, List.set_cons_succ]))
          (refine Ord.take (v := ?_) (Or.inl ⟨rfl, ?_⟩) ?_; rotate_left; (intro w hSw; (try dsimp only at hSw); go_simp; try (with_reducible rfl)); (try simp only [Act.put, List.setIfInBounds_toArray, List.set_cons_zero, List.set_cons_succ]))
          (refine Ord.take (v := ?_) (Or.inl ⟨rfl, ?_⟩) ?_; rotate_left; (intro w hSw; (try dsimp only at hSw); go_simp; try (with_reducible rfl)); (try simp only [Act.put, List.setIfInBounds_toArray, List.set_cons_zero, List.set_cons_succ]))
          (refine Ord.take (v := ?_) (Or.inl ⟨rfl, ?_⟩) ?_; rotate_left; (intro w hSw; (try dsimp only at hSw); go_simp; try (with_reducible rfl)); (try simp only [Act.put, List.setIfInBounds_toArray, List.set_cons_zero, List.set_cons_succ]))
          (refine Ord.take (v := ?_) (Or.inl ⟨rfl, ?_⟩) ?_; rotate_left; (intro w hSw; (try dsimp only at hSw); go_simp; try (with_reducible rfl)); (try simp only [Act.put, List.setIfInBounds_toArray, List.set_cons_zero, List.set_cons_succ]))
          (refine Ord.take (v := ?_) (Or.inl ⟨rfl, ?_⟩) ?_; rotate_left; (intro w hSw; (try dsimp only at hSw); go_simp; try (with_reducible rfl)); (try simp only [Act.put, List.setIfInBounds_toArray, List.set_cons_zero, List.set_cons_succ]))
          (refine Ord.take (v := ?_) (Or.inl ⟨rfl, ?_⟩) ?_; rotate_left; (intro w hSw; (try dsimp only at hSw); go_simp; try (with_reducible rfl)); (try simp only [Act.put, List.setIfInBounds_toArray, List.set_cons_zero, List.set_cons_succ]))
          refine Ord.alone rfl (fun K hK => ?_)
          go_simp
          refine (small_any _ _ ia3).mono ?_
          rintro e w9 ⟨rfl, rfl⟩
          go_wp2_with fail
          refine hK.out _ _ (hS0) (fun _ => ?_)
          clear hK K
          (try simp only [Act.put, List.setIfInBounds_toArray, List.set_cons_zero, List.set_cons_succ])
          (refine Ord.take (v := ?_) (Or.inl ⟨rfl, ?_⟩) ?_; rotate_left; (intro w hSw; (try dsimp only at hSw); go_simp; try (with_reducible rfl)); (try simp only [Act.put, List.setIfInBounds_toArray, List.set_cons_zero, List.set_cons_succ]))
          (refine Ord.take (v := ?_) (Or.inl ⟨rfl, ?_⟩) ?_; rotate_left; (intro w hSw; (try dsimp only at hSw); go_simp; try (with_reducible rfl)); (try simp only [Act.put, List.setIfInBounds_toArray, List.set_cons_zero, List.set_cons_succ]))
          (refine Ord.take (v := ?_) (Or.inl ⟨rfl, ?_⟩) ?_; rotate_left; (intro w hSw; (try dsimp only at hSw); go_simp; try (with_reducible rfl)); (try simp only [Act.put, List.setIfInBounds_toArray, List.set_cons_zero, List.set_cons_succ]))
          (refine Ord.take (v := ?_) (Or.inl ⟨rfl, ?_⟩) ?_; rotate_left; (intro w hSw; (try dsimp only at hSw); go_simp; try (with_reducible rfl)); (try simp only [Act.put, List.setIfInBounds_toArray, List.set_cons_zero, List.set_cons_succ]))
          (refine Ord.take (v := ?_) (Or.inl ⟨rfl, ?_⟩) ?_; rotate_left; (intro w hSw; (try dsimp only at hSw); go_simp; try (with_reducible rfl)); (try simp only [Act.put, List.setIfInBounds_toArray, List.set_cons_zero, List.set_cons_succ]))
          (refine Ord.take (v := ?_) (Or.inl ⟨rfl, ?_⟩) ?_; rotate_left; (intro w hSw; (try dsimp only at hSw); go_simp; try (with_reducible rfl)); (try simp only [Act.put, List.setIfInBounds_toArray, List.set_cons_zero, List.set_cons_succ]))
          (refine Ord.take (Or.inr ⟨rfl, rfl⟩) ?_; (try simp only [Act.put, List.setIfInBounds_toArray, List.set_cons_zero, List.set_cons_succ]))
          (refine Ord.take (Or.inr ⟨rfl, rfl⟩) ?_; (try simp only [Act.put, List.setIfInBounds_toArray, List.set_cons_zero, List.set_cons_succ]))
          (refine Ord.take (Or.inr ⟨rfl, rfl⟩) ?_; (try simp only [Act.put, List.setIfInBounds_toArray, List.set_cons_zero, List.set_cons_succ]))
          (refine Ord.take (Or.inr ⟨rfl, rfl⟩) ?_; (try simp only [Act.put, List.setIfInBounds_toArray, List.set_cons_zero, List.set_cons_succ]))
          (refine Ord.take (Or.inr ⟨rfl, rfl⟩) ?_; (try simp only [Act.put, List.setIfInBounds_toArray, List.set_cons_zero, List.set_cons_succ]))
          (refine Ord.take (Or.inr ⟨rfl, rfl⟩) ?_; (try simp only [Act.put, List.setIfInBounds_toArray, List.set_cons_zero, List.set_cons_succ]))
          (refine Ord.take (Or.inr ⟨rfl, rfl⟩) ?_; (try simp only [Act.put, List.setIfInBounds_toArray, List.set_cons_zero, List.set_cons_succ]))
          (refine Ord.take (Or.inr ⟨rfl, rfl⟩) ?_; (try simp only [Act.put, List.setIfInBounds_toArray, List.set_cons_zero, List.set_cons_succ]))
          (refine Ord.take (Or.inr ⟨rfl, rfl⟩) ?_; (try simp only [Act.put, List.setIfInBounds_toArray, List.set_cons_zero, List.set_cons_succ]))
          (refine Ord.take (v := ?_) (Or.inl ⟨rfl, ?_⟩) ?_; rotate_left; (intro w hSw; (try dsimp only at hSw); go_simp; try (with_reducible rfl)); (try simp only [Act.put, List.setIfInBounds_toArray, List.set_cons_zero, List.set_cons_succ]))
          (refine Ord.take (v := ?_) (Or.inl ⟨rfl, ?_⟩) ?_; rotate_left; (intro w hSw; (try dsimp only at hSw); go_simp; try (with_reducible rfl)); (try simp only [Act.put, List.setIfInBounds_toArray, List.set_cons_zero, List.set_cons_succ]))
          refine Ord.done (NoPanic.normal ?_)
          have hfin := hS0.1
          go_wp2_with fail
          go_meet
          exact ⟨rfl, hfin⟩
        · have d5 : decide ((0 : Int) < (D.length : Int)) = true := decide_eq_true (by omega)
          have d7 : decide (0 < D.length) = true := decide_eq_true h0
          obtain ⟨k1, hk1⟩ : ∃ k1, D.length = k1 + 1 := ⟨D.length - 1, by omega⟩
          have hRec := Recs.of_own rc_length (by decide) hP'
          obtain ⟨b8, o8, f, rfl, hb8, hf, -⟩ := hRec.at_ (k := k1) (by omega)
          have ef := (rcs_at hRec hf.out).2.1
          have d6 : decide (F.y < f.y) = false := by have := HTO.out f (List.mem_of_getElem? hf.out); simp; omega
          have e1 : (D.length : Int) - 1 = (k1 : Int) := by omega
          have e2 : decide ((k1 : Int) < (D.length : Int)) = true := by simp; omega
          have e3 : k1 < D.length := by omega
          have e4 : IntKind.i64.wrap ((D.length : Int) - 1) = (k1 : Int) := by rw [e1]; exact IntWalk.i64_in _ (by omega)
          have e5 : IntKind.i64.wrap (k1 : Int) = (k1 : Int) := IntWalk.i64_in _ (by omega)
          have e6 : ¬ ((k1 : Int) < 0) := by omega
          have e7 : (k1 : Int).toNat = k1 := by omega
          clear hRec
          have hSQ : ∀ Z, Drawn wc Z → (fun Z => Drawn wc Z ∧ Z.cell? ⟨gx, 0, none⟩ = some (.int .i64 F.x) ∧ Z.cell? ⟨gx, 1, none⟩ = some (.int .i64 F.y) ∧ Z.cell? ⟨gx, 2, none⟩ = some (.int .i64 z) ∧ Z.cell? ⟨bq, oq + D.length * 4 + 3, none⟩ = some (.int .i64 af) ∧ Z.cell? ⟨b8, o8 + k1 * 4 + 1, none⟩ = some (.int .i64 f.y)) Z := fun Z h => ⟨h, (cellD h _).trans ex0, (cellD h _).trans ex1, (cellD h _).trans ex2, (cellD h _).trans eq3, (cellD h _).trans ef⟩
          replace hk1 := hid hk1
          refine wp_region_noPanic ?_
          refine Ord.region_ord (S := fun Z => Drawn wc Z ∧ Z.cell? ⟨gx, 0, none⟩ = some (.int .i64 F.x) ∧ Z.cell? ⟨gx, 1, none⟩ = some (.int .i64 F.y) ∧ Z.cell? ⟨gx, 2, none⟩ = some (.int .i64 z) ∧ Z.cell? ⟨bq, oq + D.length * 4 + 3, none⟩ = some (.int .i64 af) ∧ Z.cell? ⟨b8, o8 + k1 * 4 + 1, none⟩ = some (.int .i64 f.y)) [(0, true), (1, true), (2, true), (3, true), (4, true), (5, true), (6, true), (7, true), (8, true), (9, true), (10, true), (11, true), (12, true), (13, true), (14, true), (15, true), (16, true), (17, true), (18, true), (19, true), (20, true), (21, true), (22, true), (23, true), (24, true), (25, true), (26, true), (27, true), (28, true), (29, false), (30, true), (31, true), (32, true), (33, true), (34, true), (35, true), (36, true), (37, true), (38, true), (39, true), (40, true), (41, true), (42, true), (43, true), (44, true), (45, true), (46, true)] (by kernel_rfl) (by kernel_rfl) (by kernel_rfl) (by decide) (fun _ _ _ _ _ h => h) (hSQ _ (Drawn.refl _).drew) (fun hS0 => ?_)
          simp only [Ord.lay, List.getElem?_cons_zero, List.getElem?_cons_succ]
          (refine Ord.take (v := ?_) (Or.inl ⟨rfl, ?_⟩) ?_; rotate_left; (intro w hSw; (try dsimp only at hSw); go_simp; try (with_reducible rfl)); (try simp only [Act.put, List.setIfInBounds_toArray, List.set_cons_zero, List.set_cons_succ]))
          (refine Ord.take (v := ?_) (Or.inl ⟨rfl, ?_⟩) ?_; rotate_left; (intro w hSw; (try dsimp only at hSw); go_simp; try (with_reducible rfl)); (try simp only [Act.put, List.setIfInBounds_toArray, List.set_cons_zero, List.set_cons_succ]))
          (refine Ord.take (v := ?_) (Or.inl ⟨rfl, ?_⟩) ?_; rotate_left; (intro w hSw; (try dsimp only at hSw); go_simp; try (with_reducible rfl)); (try simp only [Act.put, List.setIfInBounds_toArray, List.set_cons_zero, List.set_cons_succ]))
          (refine Ord.take (v := ?_) (Or.inl ⟨rfl, ?_⟩) ?_; rotate_left; (intro w hSw; (try dsimp only at hSw); go_simp; try (with_reducible rfl)); (try simp only [Act.put, List.setIfInBounds_toArray, List.set_cons_zero, List.set_cons_succ]))
          (refine Ord.take (v := ?_) (Or.inl ⟨rfl, ?_⟩) ?_; rotate_left; (intro w hSw; (try dsimp only at hSw); go_simp; try (with_reducible rfl)); (try simp only [Act.put, List.setIfInBounds_toArray, List.set_cons_zero, List.set_cons_succ]))
          (refine Ord.take (v := ?_) (Or.inl ⟨rfl, ?_⟩) ?_; rotate_left; (intro w hSw; (try dsimp only at hSw); go_simp; try (with_reducible rfl)); (try simp only [Act.put, List.setIfInBounds_toArray, List.set_cons_zero, List.set_cons_succ]))
          (refine Ord.take (v := ?_) (Or.inl ⟨rfl, ?_⟩) ?_; rotate_left; (intro w hSw; (try dsimp only at hSw); go_simp; try (with_reducible rfl)); (try simp only [Act.put, List.setIfInBounds_toArray, List.set_cons_zero, List.set_cons_succ]))
          (refine Ord.take (v := ?_) (Or.inl ⟨rfl, ?_⟩) ?_; rotate_left; (intro w hSw; (try dsimp only at hSw); go_simp; try (with_reducible rfl)); (try simp only [Act.put, List.setIfInBounds_toArray, List.set_cons_zero, List.set_cons_succ]))
          (refine Ord.take (v := ?_) (Or.inl ⟨rfl, ?_⟩) ?_; rotate_left; (intro w hSw; (try dsimp only at hSw); go_simp; try (with_reducible rfl)); (try simp only [Act.put, List.setIfInBounds_toArray, List.set_cons_zero, List.set_cons_succ]))
          (refine Ord.take (v := ?_) (Or.inl ⟨rfl, ?_⟩) ?_; rotate_left; (intro w hSw; (try dsimp only at hSw); go_simp; try (with_reducible rfl)); (try simp only [Act.put, List.setIfInBounds_toArray, List.set_cons_zero, List.set_cons_succ]))
          (refine Ord.take (v := ?_) (Or.inl ⟨rfl, ?_⟩) ?_; rotate_left; (intro w hSw; (try dsimp only at hSw); go_simp; try (with_reducible rfl)); (try simp only [Act.put, List.setIfInBounds_toArray, List.set_cons_zero, List.set_cons_succ]))
          (refine Ord.take (v := ?_) (Or.inl ⟨rfl, ?_⟩) ?_; rotate_left; (intro w hSw; (try dsimp only at hSw); go_simp; try (with_reducible rfl)); (try simp only [Act.put, List.setIfInBounds_toArray, List.set_cons_zero, List.set_cons_succ]))
          (refine Ord.take (v := ?_) (Or.inl ⟨rfl, ?_⟩) ?_; rotate_left; (intro w hSw; (try dsimp only at hSw); go_simp; try (with_reducible rfl)); (try simp only [Act.put, List.setIfInBounds_toArray, List.set_cons_zero, List.set_cons_succ]))
          (refine Ord.take (v := ?_) (Or.inl ⟨rfl, ?_⟩) ?_; rotate_left; (intro w hSw; (try dsimp only at hSw); go_simp; try (with_reducible rfl)); (try simp only [Act.put, List.setIfInBounds_toArray, List.set_cons_zero, List.set_cons_succ]))
          (refine Ord.take (v := ?_) (Or.inl ⟨rfl, ?_⟩) ?_; rotate_left; (intro w hSw; (try dsimp only at hSw); go_simp; try (with_reducible rfl)); (try simp only [Act.put, List.setIfInBounds_toArray, List.set_cons_zero, List.set_cons_succ]))
          (refine Ord.take (v := ?_) (Or.inl ⟨rfl, ?_⟩) ?_; rotate_left; (intro w hSw; (try dsimp only at hSw); go_simp; try (with_reducible rfl)); (try simp only [Act.put, List.setIfInBounds_toArray, List.set_cons_zero, List.set_cons_succ]))
          (refine Ord.take (v := ?_) (Or.inl ⟨rfl, ?_⟩) ?_; rotate_left; (intro w hSw; (try dsimp only at hSw); go_simp; try (with_reducible rfl)); (try simp only [Act.put, List.setIfInBounds_toArray, List.set_cons_zero, List.set_cons_succ]))
          (refine Ord.take (v := ?_) (Or.inl ⟨rfl, ?_⟩) ?_; rotate_left; (intro w hSw; (try dsimp only at hSw); go_simp; try (with_reducible rfl)); (try simp only [Act.put, List.setIfInBounds_toArray, List.set_cons_zero, List.set_cons_succ]))
          (refine Ord.take (v := ?_) (Or.inl ⟨rfl, ?_⟩) ?_; rotate_left; (intro w hSw; (try dsimp only at hSw); go_simp; try (with_reducible rfl)); (try simp only [Act.put, List.setIfInBounds_toArray, List.set_cons_zero, List.set_cons_succ]))
          (refine Ord.take (v := ?_) (Or.inl ⟨rfl, ?_⟩) ?_; rotate_left; (intro w hSw; (try dsimp only at hSw); go_simp; try (with_reducible rfl)); (try simp only [Act.put, List.setIfInBounds_toArray, List.set_cons_zero, List.set_cons_succ]))
          (refine Ord.take (v := ?_) (Or.inl ⟨rfl, ?_⟩) ?_; rotate_left; (intro w hSw; (try dsimp only at hSw); go_simp; try (with_reducible rfl)); (try simp only [Act.put, List.setIfInBounds_toArray, List.set_cons_zero, List.set_cons_succ]))
          (refine Ord.take (v := ?_) (Or.inl ⟨rfl, ?_⟩) ?_; rotate_left; (intro w hSw; (try dsimp only at hSw); go_simp; try (with_reducible rfl)); (try simp only [Act.put, List.setIfInBounds_toArray, List.set_cons_zero, List.set_cons_succ]))
          (refine Ord.take (v := ?_) (Or.inl ⟨rfl, ?_⟩) ?_; rotate_left; (intro w hSw; (try dsimp only at hSw); go_simp; try (with_reducible rfl)); (try simp only [Act.put, List.setIfInBounds_toArray, List.set_cons_zero, List.set_cons_succ]))
          (refine Ord.take (v := ?_) (Or.inl ⟨rfl, ?_⟩) ?_; rotate_left; (intro w hSw; (try dsimp only at hSw); go_simp; try (with_reducible rfl)); (try simp only [Act.put, List.setIfInBounds_toArray, List.set_cons_zero, List.set_cons_succ]))
          (refine Ord.take (v := ?_) (Or.inl ⟨rfl, ?_⟩) ?_; rotate_left; (intro w hSw; (try dsimp only at hSw); go_simp; try (with_reducible rfl)); (try simp only [Act.put, List.setIfInBounds_toArray, List.set_cons_zero, List.set_cons_succ]))
          (refine Ord.take (v := ?_) (Or.inl ⟨rfl, ?_⟩) ?_; rotate_left; (intro w hSw; (try dsimp only at hSw); go_simp; try (with_reducible rfl)); (try simp only [Act.put, List.setIfInBounds_toArray, List.set_cons_zero, List.set_cons_succ]))
          (refine Ord.take (v := ?_) (Or.inl ⟨rfl, ?_⟩) ?_; rotate_left; (intro w hSw; (try dsimp only at hSw); go_simp; try (with_reducible rfl)); (try simp only [Act.put, List.setIfInBounds_toArray, List.set_cons_zero, List.set_cons_succ]))
          (refine Ord.take (v := ?_) (Or.inl ⟨rfl, ?_⟩) ?_; rotate_left; (intro w hSw; (try dsimp only at hSw); go_simp; try (with_reducible rfl)); (try simp only [Act.put, List.setIfInBounds_toArray, List.set_cons_zero, List.set_cons_succ]))
          (refine Ord.take (v := ?_) (Or.inl ⟨rfl, ?_⟩) ?_; rotate_left; (intro w hSw; (try dsimp only at hSw); go_simp; try (with_reducible rfl)); (try simp only [Act.put, List.setIfInBounds_toArray, List.set_cons_zero, List.set_cons_succ]))
          refine Ord.alone rfl (fun K hK => ?_)
          go_simp
          refine (small_any _ _ ia3).mono ?_
          rintro e w9 ⟨rfl, rfl⟩
          go_wp2_with fail
          refine hK.out _ _ (hS0) (fun _ => ?_)
          clear hK K
          (try simp only [Act.put, List.setIfInBounds_toArray, List.set_cons_zero, List.set_cons_succ])
          (refine Ord.take (v := ?_) (Or.inl ⟨rfl, ?_⟩) ?_; rotate_left; (intro w hSw; (try dsimp only at hSw); go_simp; try (with_reducible rfl)); (try simp only [Act.put, List.setIfInBounds_toArray, List.set_cons_zero, List.set_cons_succ]))
          (refine Ord.take (v := ?_) (Or.inl ⟨rfl, ?_⟩) ?_; rotate_left; (intro w hSw; (try dsimp only at hSw); go_simp; try (with_reducible rfl)); (try simp only [Act.put, List.setIfInBounds_toArray, List.set_cons_zero, List.set_cons_succ]))
          (refine Ord.take (v := ?_) (Or.inl ⟨rfl, ?_⟩) ?_; rotate_left; (intro w hSw; (try dsimp only at hSw); go_simp; try (with_reducible rfl)); (try simp only [Act.put, List.setIfInBounds_toArray, List.set_cons_zero, List.set_cons_succ]))
          (refine Ord.take (v := ?_) (Or.inl ⟨rfl, ?_⟩) ?_; rotate_left; (intro w hSw; (try dsimp only at hSw); go_simp; try (with_reducible rfl)); (try simp only [Act.put, List.setIfInBounds_toArray, List.set_cons_zero, List.set_cons_succ]))
          (refine Ord.take (v := ?_) (Or.inl ⟨rfl, ?_⟩) ?_; rotate_left; (intro w hSw; (try dsimp only at hSw); go_simp; try (with_reducible rfl)); (try simp only [Act.put, List.setIfInBounds_toArray, List.set_cons_zero, List.set_cons_succ]))
          (refine Ord.take (v := ?_) (Or.inl ⟨rfl, ?_⟩) ?_; rotate_left; (intro w hSw; (try dsimp only at hSw); go_simp; try (with_reducible rfl)); (try simp only [Act.put, List.setIfInBounds_toArray, List.set_cons_zero, List.set_cons_succ]))
          (refine Ord.take (v := ?_) (Or.inl ⟨rfl, ?_⟩) ?_; rotate_left; (intro w hSw; (try dsimp only at hSw); go_simp; try (with_reducible rfl)); (try simp only [Act.put, List.setIfInBounds_toArray, List.set_cons_zero, List.set_cons_succ]))
          (refine Ord.take (v := ?_) (Or.inl ⟨rfl, ?_⟩) ?_; rotate_left; (intro w hSw; (try dsimp only at hSw); go_simp; try (with_reducible rfl)); (try simp only [Act.put, List.setIfInBounds_toArray, List.set_cons_zero, List.set_cons_succ]))
          (refine Ord.take (v := ?_) (Or.inl ⟨rfl, ?_⟩) ?_; rotate_left; (intro w hSw; (try dsimp only at hSw); go_simp; try (with_reducible rfl)); (try simp only [Act.put, List.setIfInBounds_toArray, List.set_cons_zero, List.set_cons_succ]))
          (refine Ord.take (v := ?_) (Or.inl ⟨rfl, ?_⟩) ?_; rotate_left; (intro w hSw; (try dsimp only at hSw); go_simp; try (with_reducible rfl)); (try simp only [Act.put, List.setIfInBounds_toArray, List.set_cons_zero, List.set_cons_succ]))
          (refine Ord.take (v := ?_) (Or.inl ⟨rfl, ?_⟩) ?_; rotate_left; (intro w hSw; (try dsimp only at hSw); go_simp; try (with_reducible rfl)); (try simp only [Act.put, List.setIfInBounds_toArray, List.set_cons_zero, List.set_cons_succ]))
          (refine Ord.take (v := ?_) (Or.inl ⟨rfl, ?_⟩) ?_; rotate_left; (intro w hSw; (try dsimp only at hSw); go_simp; try (with_reducible rfl)); (try simp only [Act.put, List.setIfInBounds_toArray, List.set_cons_zero, List.set_cons_succ]))
          (refine Ord.take (v := ?_) (Or.inl ⟨rfl, ?_⟩) ?_; rotate_left; (intro w hSw; (try dsimp only at hSw); go_simp; try (with_reducible rfl)); (try simp only [Act.put, List.setIfInBounds_toArray, List.set_cons_zero, List.set_cons_succ]))
          (refine Ord.take (v := ?_) (Or.inl ⟨rfl, ?_⟩) ?_; rotate_left; (intro w hSw; (try dsimp only at hSw); go_simp; try (with_reducible rfl)); (try simp only [Act.put, List.setIfInBounds_toArray, List.set_cons_zero, List.set_cons_succ]))
          (refine Ord.take (v := ?_) (Or.inl ⟨rfl, ?_⟩) ?_; rotate_left; (intro w hSw; (try dsimp only at hSw); go_simp; try (with_reducible rfl)); (try simp only [Act.put, List.setIfInBounds_toArray, List.set_cons_zero, List.set_cons_succ]))
          (refine Ord.take (v := ?_) (Or.inl ⟨rfl, ?_⟩) ?_; rotate_left; (intro w hSw; (try dsimp only at hSw); go_simp; try (with_reducible rfl)); (try simp only [Act.put, List.setIfInBounds_toArray, List.set_cons_zero, List.set_cons_succ]))
          (refine Ord.take (v := ?_) (Or.inl ⟨rfl, ?_⟩) ?_; rotate_left; (intro w hSw; (try dsimp only at hSw); go_simp; try (with_reducible rfl)); (try simp only [Act.put, List.setIfInBounds_toArray, List.set_cons_zero, List.set_cons_succ]))
          refine Ord.done (NoPanic.normal ?_)
          have hfin := hS0.1
          go_wp2_with fail
          go_meet
          exact ⟨rfl, hfin⟩
      case rest =>
      obtain ⟨rfl, hD2⟩ := hcut
      replace hX := hX.drawn hD2
      replace hR2' := hR2'.drawn hD2
      replace hP' : wc.ownsRow w.heap.size 27 4 (.slice A8 D.length c8) D.length (D.flatMap Fl.rc) := own_below hP' (hD2.below _)
      replace hBw := hBw.trans (hD2.below _)
      replace hs2 : w.heap.size + 1 ≤ wc.heap.size := by rw [hD2.heap]; exact hs2
      clear ex0 ex1 ex2 eq3 d1 d2 d3 d4 hD2 wRR hB' q0 q3
      go_wp2_with fail
      go_loopg [13] D.length (fun g' s13 wx => ∃ (j : Nat) (v3 : Value), g' = D.length - j ∧ j ≤ D.length ∧ s13 = .int .i64 j ∧ Blk wx gx 27 (rect4 F.x F.y z F.h) ∧ RoomAt wx w.heap.size (w.heap.size + 1) L R (D ++ [F]) v3 ∧ wx.ownsRow w.heap.size 27 4 (.slice A8 D.length c8) D.length (D.flatMap Fl.rc) ∧ Below w.heap.size w wx ∧ w.heap.size + 1 ≤ wx.heap.size)
      case atStart => exact ⟨0, v2, rfl, Nat.zero_le _, rfl, hX, hR2', hP', hBw, hs2⟩
      case round =>
        clear hX hR2' hP' hBw hs2
        obtain ⟨j, v3, rfl, hj, rfl, hX, hR3, hP3', hBw, hs3⟩ := hrel
        by_cases hlt2 : j < D.length
        · have hRec := Recs.of_own rc_length (by decide) hP3'
          obtain ⟨b8, o8, f, rfl, hb8, hf, -⟩ := hRec.at_ hlt2
          have hr8 := rcs_range hRec hf.out
          have hm := hid (HME.out f (List.mem_of_getElem? hf.out))
          have hSQ : ∀ Z, Below wr.heap.size wr Z → (fun Z => Z.rangeAt gx 0 (rect4 F.x F.y z F.h).toList ∧ Z.rangeAt b8 (o8 + j * 4) (rect4 f.x f.y f.w f.h).toList) Z := fun Z h => ⟨fun i v hi => (h.cell hX.lt).trans (hX.range i v hi), fun i v hi => (h.cell hb8).trans (hr8 i v hi)⟩
          go_upto_region 25 with fail
          refine wp_region_noPanic ?_
          refine Ord.region_ord (S := fun Z => Z.rangeAt gx 0 (rect4 F.x F.y z F.h).toList ∧ Z.rangeAt b8 (o8 + j * 4) (rect4 f.x f.y f.w f.h).toList) [(0, true), (1, true), (2, true), (3, true), (4, true), (6, true), (5, false), (7, true)] (by kernel_rfl) (by kernel_rfl) (by kernel_rfl) (by decide) (fun _ _ _ _ _ h => h) (hSQ _ ((Drawn.refl wr).drew.below _)) (fun hS0 => ?_)
          simp only [Ord.lay, List.getElem?_cons_zero, List.getElem?_cons_succ]
          (refine Ord.take (yieldsIf_load_mid rfl _ _ rfl gx 0 rfl _ _ (fun w' h => h.1) Try.underlying27 rfl (info_rect_list _ _ _ _)) ?_; (try simp only [Act.put, List.setIfInBounds_toArray, List.set_cons_zero, List.set_cons_succ]))
          (refine Ord.take (v := ?_) (Or.inl ⟨rfl, ?_⟩) ?_; rotate_left; (intro w hSw; (try dsimp only at hSw); go_simp; try (with_reducible rfl)); (try simp only [Act.put, List.setIfInBounds_toArray, List.set_cons_zero, List.set_cons_succ]))
          (refine Ord.take (v := ?_) (Or.inl ⟨rfl, ?_⟩) ?_; rotate_left; (intro w hSw; (try dsimp only at hSw); go_simp; try (with_reducible rfl)); (try simp only [Act.put, List.setIfInBounds_toArray, List.set_cons_zero, List.set_cons_succ]))
          (refine Ord.take (v := ?_) (Or.inl ⟨rfl, ?_⟩) ?_; rotate_left; (intro w hSw; (try dsimp only at hSw); go_simp; try (with_reducible rfl)); (try simp only [Act.put, List.setIfInBounds_toArray, List.set_cons_zero, List.set_cons_succ]))
          (refine Ord.take (yieldsIf_load_mid rfl _ _ rfl b8 (o8 + j * 4) rfl _ _ (fun w' h => h.2) Try.underlying27 rfl (info_rect_list _ _ _ _)) ?_; (try simp only [Act.put, List.setIfInBounds_toArray, List.set_cons_zero, List.set_cons_succ]))
          (refine Ord.take (v := .agg #[.int .i64 0, .int .i64 0, .int .i64 0, .int .i64 0]) (Or.inl ⟨rfl, fun w _ => by kernel_rfl⟩) ?_; (try simp only [Act.put, List.setIfInBounds_toArray, List.set_cons_zero, List.set_cons_succ]))
          refine Ord.alone rfl (fun K hK => ?_)
          go_simp
          refine (meet_none hP3 hm.out wr.drew).mono ?_
          rintro e w5 ⟨rfl, hb5⟩
          have hbM : Below wr.heap.size wr w5 := ((Drawn.refl wr).drew.below _).trans (hb5.mono (by simp))
          go_wp2_with fail
          refine hK.out _ _ (hSQ _ hbM) (fun _ => ?_)
          clear hK K
          (try simp only [Act.put, List.setIfInBounds_toArray, List.set_cons_zero, List.set_cons_succ])
          (refine Ord.take (v := .bool false) (Or.inl ⟨rfl, fun w _ => by kernel_rfl⟩) ?_; (try simp only [Act.put, List.setIfInBounds_toArray, List.set_cons_zero, List.set_cons_succ]))
          refine Ord.done (NoPanic.normal ?_)
          have hb9 := hbM
          go_wp2_with fail
          go_roundg (D.length - (j + 1))
          case rel => exact ⟨j + 1, v3, rfl, by omega, by go_num, hX.below hb9 hX.lt, hR3.below hb9, own_below hP3' hb9, hBw.trans (hb9.mono hBw.size), by have := hb9.size; omega⟩
          case measure => omega
        · obtain rfl : j = D.length := by omega
          have ex0 : wr.cell? ⟨gx, 0, none⟩ = some (.int .i64 F.x) := hX.cell 0
          have ex1 : wr.cell? ⟨gx, 1, none⟩ = some (.int .i64 F.y) := hX.cell 1
          have ex2 : wr.cell? ⟨gx, 2, none⟩ = some (.int .i64 z) := hX.cell 2
          have ex3 : wr.cell? ⟨gx, 3, none⟩ = some (.int .i64 F.h) := hX.cell 3
          have hown := hP3'.alloc (.cells #[.int .i64 F.x, .int .i64 F.y, .int .i64 z, .int .i64 F.h] 27)
          have hba : Below wr.heap.size wr (wr.alloc (.cells #[.int .i64 F.x, .int .i64 F.y, .int .i64 z, .int .i64 F.h] 27)) := (Below.refl _ _).alloc (Nat.le_refl _) _
          go_wp2_with (refine stop_append _ _ _ _ rfl ?_)
          refine ⟨?_⟩
          refine wpList_append_own _ rfl _ _ 46 rfl w.heap.size 27 i0 (.agg #[.int .i64 0, .int .i64 0, .int .i64 0, .int .i64 0]) 4 32 Try.underlying46 hi hz0 hz1 hz2 rfl (by decide) (.slice A8 D.length c8) _ _ rfl hown ⟨wr.heap.size, 0, none⟩ 1 1 [.int .i64 F.x, .int .i64 F.y, .int .i64 z, .int .i64 F.h] rfl rfl (news_at (Blk.new wr 27 #[.int .i64 F.x, .int .i64 F.y, .int .i64 z, .int .i64 F.h]) rfl) (by simp [Value.oneCell']) (by unfold maxLen; omega) (by omega) (by simp; omega) ?_
          intro v4 w4 ho4 hg4 _
          (try simp only [Act.put, List.setIfInBounds_toArray, List.set_cons_zero, List.set_cons_succ])
          have hR4 : RoomAt w4 w.heap.size (w.heap.size + 1) L R (D ++ [F]) v3 := ⟨(hR3.below hba).blk.grown hown hg4 (by decide), own_grown (hR3.below hba).own hown (by decide) hg4⟩
          have hB4 : Below w.heap.size w w4 := (hBw.trans (hba.mono (by omega))).trans (own_belowB hown hg4 (by simp; omega))
          have hs4 : w.heap.size + 1 ≤ w4.heap.size := by have := hg4.size; simp at this; omega
          obtain ⟨A9, c9, rfl, -⟩ := own_some ho4
          have ho5 : w4.ownsRow w.heap.size 27 4 (.slice A9 (D.length + 1) c9) (D ++ [F]).length ((D ++ [F]).flatMap Fl.rc) := by
            have := ho4
            simpa [Fl.rc, hP3] using this
          clear ex0 ex1 ex2 ex3 hown hba hX hR3 hP3' hBw hs3 hg4 ho4
          go_wp2_with fail
          go_roundg (l.length - (D.length + 1))
          case rel => exact ⟨D.length + 1, D ++ [F], v3, rfl, by omega, by omega, by go_num, by simp, hid (by have h := HIN.out; rw [show (33554432 : Int) + (D.length : Nat) * 16777216 + 16777216 = 33554432 + (D.length + 1 : Nat) * 16777216 by omega] at h; exact h), hR4, hs4, ho5, hB4⟩
          case measure => omega
end Go.Proofs.Ytkoanijiihnioaa
