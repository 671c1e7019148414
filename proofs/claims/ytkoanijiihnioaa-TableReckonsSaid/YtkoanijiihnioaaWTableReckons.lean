/-
  The walk of TableReckons.
-/
import Derived.Test.YtkoanijiihnioaaWTableWider
import Derived.Test.YtkoanijiihnioaaOpenGrid
import Derived.Test.YtkoanijiihnioaaTabS
namespace Go.Proofs.Ytkoanijiihnioaa
open Go.RowKit Num Mem Opn
set_option linter.unusedVariables false
set_option linter.unusedSimpArgs false
theorem needs_sat (ls : List (List Nd)) : ∀ r ∈ needs ls, ∀ x ∈ r, sat x.least = x.least ∧ sat x.most = x.most := by
  intro r hr x hx
  obtain ⟨q, _, rfl⟩ := List.mem_map.1 hr
  obtain ⟨y, _, rfl⟩ := List.mem_map.1 hx
  have h1 := fw_hi y.least
  have h2 := fw_hi y.most
  have h3 := fw_lo y.least
  have h4 := fw_lo y.most
  simp only [nd, sat]
  omega
set_option maxRecDepth 100000 in
set_option maxHeartbeats 16000000 in
theorem walk_TableReckons (A0 : Option Addr) (ls : List (List Nd)) (c0 : Nat) (room : Int) (sure : Bool) (A3 : Option Addr) (rows : List (List Int)) (c3 : Nat) (w : World) (hr : RowsN w A0 ls c0) (ir : I64 room) (hg : RowsG w A3 rows c3) :
    Calls Try.prog 12 #[.slice A0 ls.length c0, .int .i64 room, .bool sure, .slice A3 rows.length c3] w fun e w' => e = .returned (.bool true) ∧ Below w.heap.size w w' := by
  obtain ⟨⟨vs, hA0⟩, hcap, hfew, hok⟩ := hr
  obtain ⟨⟨vg, hG⟩, hgc, hgf, hgok⟩ := hg
  have hr1 := fw_lo room
  have hr2 := fw_hi room
  have hnl := needs_len ls
  have hnm := needs_most ls
  have hns := needs_sat ls
  replace hgok := hid hgok
  go_enter Try.func12, Try.ntmps12
  go_wp2_with fail
  refine (some19 ls vs A0 c0 _ (by omega) hA0 hok).mono ?_
  rintro e w1 ⟨A1, c1, A2, c2, vs1, vs2, rfl, hc1, hnone, hb1, hR1, hR2⟩
  have hNL : (needs ls).length ≤ 12 := by simp [needs]; omega
  generalize needs ls = N at *
  clear hA0 hok hcap hfew
  replace hG := (hG.below hb1).more hb1.size
  have hz1 := hb1.size
  go_wp2_with fail
  refine (small19 _ _ ir).mono ?_
  rintro e w' ⟨rfl, rfl⟩
  generalize fw room = R at *
  go_wp2_with fail
  refine (table_Columns N vs1 A1 c1 _ (by omega) hR1 (fun r h => by have := hnl r h; omega)).mono ?_
  rintro e w2 ⟨v2, rfl, hb2, ho2⟩
  obtain ⟨A, c, rfl, hc⟩ := own_some ho2
  have hX : Recs w2 w2.heap.size A 2 Nd.cells (cols N) := Recs.of_own nd_length (by decide) ho2
  have hB := hb1.trans (hb2.mono hz1)
  have hz2 := hB.size
  replace hR2 := (hR2.below hb2).more hb2.size
  replace hG := (hG.below hb2).more hb2.size
  clear hb1 hb2 ho2 hz1 hR1
  go_wp2_with fail
  refine (ref19_Columns N vs2 A2 c2 _ (by omega) hR2 (fun r h => ⟨by have := hnl r h; omega, hns r h⟩)).mono ?_
  rintro e w3 ⟨v3, rfl, hb3, ho3⟩
  obtain ⟨Ay, cy, rfl, hcy⟩ := own_some ho3
  have hY : Recs w3 w3.heap.size Ay 2 Nd.cells (cols N) := Recs.of_own nd_length (by decide) ho3
  have hbet := cols_bet (by decide) hnm
  have hle := cols_le N
  have hcl := cols_length (m := 12) hnl
  generalize cols N = X at *
  replace hX := (hX.below hb3).more hb3.size
  replace hG := (hG.below hb3).more hb3.size
  replace hB := hB.trans (hb3.mono hz2)
  have hz3 := hB.size
  clear hb3 ho3 hz2 hR2 hns hnl hnm
  replace hbet := hid hbet
  replace hle := hid hle
  have dne : ((X.length : Int) != (X.length : Int)) = false := by simp
  go_wp2_with fail
  go_loopw [13] (fun s13 wr => ∃ k : Nat, k ≤ X.length ∧ s13 = .int .i64 k ∧ Drawn w3 wr) (fun i _ => X.length - (intOf i).toNat)
  case atStart => exact ⟨0, Nat.zero_le _, rfl, .refl _⟩
  case round =>
    obtain ⟨k, hk, rfl, hd⟩ := hrel
    by_cases hlt : k < X.length
    · obtain ⟨bx, ox, x, rfl, hbx, HX, cx0, cx1⟩ := col_at (hX.drawn hd) hlt
      obtain ⟨by_, oy, y, rfl, hby, HY, cy0, cy1⟩ := col_at (hY.drawn hd) hlt
      obtain rfl : x = y := by rw [← HX.out, HY.out]
      have hSQ : (fun Z : World => Z.cell? ⟨bx, ox + k * 2, none⟩ = some (.int .i64 x.least) ∧ Z.cell? ⟨by_, oy + k * 2, none⟩ = some (.int .i64 x.least) ∧ Z.cell? ⟨bx, ox + k * 2 + 1, none⟩ = some (.int .i64 x.most) ∧ Z.cell? ⟨by_, oy + k * 2 + 1, none⟩ = some (.int .i64 x.most)) wr.drew := ⟨cx0, cy0, cx1, cy1⟩
      go_upto_region 10 with fail
      refine wp_region_noPanic ?_
      refine Ord.region_Q (S := fun Z : World => Z.cell? ⟨bx, ox + k * 2, none⟩ = some (.int .i64 x.least) ∧ Z.cell? ⟨by_, oy + k * 2, none⟩ = some (.int .i64 x.least) ∧ Z.cell? ⟨bx, ox + k * 2 + 1, none⟩ = some (.int .i64 x.most) ∧ Z.cell? ⟨by_, oy + k * 2 + 1, none⟩ = some (.int .i64 x.most)) 999 (.one 0 true (.one 1 true (.one 2 true (.one 3 true (.one 4 true (.one 5 true (.one 6 true (.one 7 true (.one 8 true (.one 9 true (.one 10 true (.one 11 true (.one 12 true (.one 13 true (.one 14 true (.one 15 true (.one 16 true (.one 17 true (.one 18 true (.one 19 true (.one 20 true (.one 21 true (.one 22 true (.one 23 true .nil)))))))))))))))))))))))) (by kernel_rfl) (by kernel_rfl) (by kernel_rfl) (by decide) (fun _ _ _ _ _ h => h) (hSQ) (fun hS0 => ?_)
      simp only [Ord.layT, List.getElem?_cons_zero, List.getElem?_cons_succ]
      (refine Ord.takeQ (v := ?_) (Or.inl ⟨rfl, ?_⟩) ?_; rotate_left; (intro w hSw; (try dsimp only at hSw); go_simp; try (with_reducible rfl)); (try simp only [Act.put, List.setIfInBounds_toArray, List.set_cons_zero, List.set_cons_succ]))
      (refine Ord.takeQ (v := ?_) (Or.inl ⟨rfl, ?_⟩) ?_; rotate_left; (intro w hSw; (try dsimp only at hSw); go_simp; try (with_reducible rfl)); (try simp only [Act.put, List.setIfInBounds_toArray, List.set_cons_zero, List.set_cons_succ]))
      (refine Ord.takeQ (v := ?_) (Or.inl ⟨rfl, ?_⟩) ?_; rotate_left; (intro w hSw; (try dsimp only at hSw); go_simp; try (with_reducible rfl)); (try simp only [Act.put, List.setIfInBounds_toArray, List.set_cons_zero, List.set_cons_succ]))
      (refine Ord.takeQ (v := ?_) (Or.inl ⟨rfl, ?_⟩) ?_; rotate_left; (intro w hSw; (try dsimp only at hSw); go_simp; try (with_reducible rfl)); (try simp only [Act.put, List.setIfInBounds_toArray, List.set_cons_zero, List.set_cons_succ]))
      (refine Ord.takeQ (v := ?_) (Or.inl ⟨rfl, ?_⟩) ?_; rotate_left; (intro w hSw; (try dsimp only at hSw); go_simp; try (with_reducible rfl)); (try simp only [Act.put, List.setIfInBounds_toArray, List.set_cons_zero, List.set_cons_succ]))
      (refine Ord.takeQ (v := ?_) (Or.inl ⟨rfl, ?_⟩) ?_; rotate_left; (intro w hSw; (try dsimp only at hSw); go_simp; try (with_reducible rfl)); (try simp only [Act.put, List.setIfInBounds_toArray, List.set_cons_zero, List.set_cons_succ]))
      (refine Ord.takeQ (v := ?_) (Or.inl ⟨rfl, ?_⟩) ?_; rotate_left; (intro w hSw; (try dsimp only at hSw); go_simp; try (with_reducible rfl)); (try simp only [Act.put, List.setIfInBounds_toArray, List.set_cons_zero, List.set_cons_succ]))
      (refine Ord.takeQ (v := ?_) (Or.inl ⟨rfl, ?_⟩) ?_; rotate_left; (intro w hSw; (try dsimp only at hSw); go_simp; try (with_reducible rfl)); (try simp only [Act.put, List.setIfInBounds_toArray, List.set_cons_zero, List.set_cons_succ]))
      (refine Ord.takeQ (v := ?_) (Or.inl ⟨rfl, ?_⟩) ?_; rotate_left; (intro w hSw; (try dsimp only at hSw); go_simp; try (with_reducible rfl)); (try simp only [Act.put, List.setIfInBounds_toArray, List.set_cons_zero, List.set_cons_succ]))
      (refine Ord.takeQ (v := ?_) (Or.inl ⟨rfl, ?_⟩) ?_; rotate_left; (intro w hSw; (try dsimp only at hSw); go_simp; try (with_reducible rfl)); (try simp only [Act.put, List.setIfInBounds_toArray, List.set_cons_zero, List.set_cons_succ]))
      (refine Ord.takeQ (v := ?_) (Or.inl ⟨rfl, ?_⟩) ?_; rotate_left; (intro w hSw; (try dsimp only at hSw); go_simp; try (with_reducible rfl)); (try simp only [Act.put, List.setIfInBounds_toArray, List.set_cons_zero, List.set_cons_succ]))
      (refine Ord.takeQ (v := ?_) (Or.inl ⟨rfl, ?_⟩) ?_; rotate_left; (intro w hSw; (try dsimp only at hSw); go_simp; try (with_reducible rfl)); (try simp only [Act.put, List.setIfInBounds_toArray, List.set_cons_zero, List.set_cons_succ]))
      (refine Ord.takeQ (v := ?_) (Or.inl ⟨rfl, ?_⟩) ?_; rotate_left; (intro w hSw; (try dsimp only at hSw); go_simp; try (with_reducible rfl)); (try simp only [Act.put, List.setIfInBounds_toArray, List.set_cons_zero, List.set_cons_succ]))
      (refine Ord.takeQ (v := ?_) (Or.inl ⟨rfl, ?_⟩) ?_; rotate_left; (intro w hSw; (try dsimp only at hSw); go_simp; try (with_reducible rfl)); (try simp only [Act.put, List.setIfInBounds_toArray, List.set_cons_zero, List.set_cons_succ]))
      (refine Ord.takeQ (v := ?_) (Or.inl ⟨rfl, ?_⟩) ?_; rotate_left; (intro w hSw; (try dsimp only at hSw); go_simp; try (with_reducible rfl)); (try simp only [Act.put, List.setIfInBounds_toArray, List.set_cons_zero, List.set_cons_succ]))
      (refine Ord.takeQ (v := ?_) (Or.inl ⟨rfl, ?_⟩) ?_; rotate_left; (intro w hSw; (try dsimp only at hSw); go_simp; try (with_reducible rfl)); (try simp only [Act.put, List.setIfInBounds_toArray, List.set_cons_zero, List.set_cons_succ]))
      (refine Ord.takeQ (v := ?_) (Or.inl ⟨rfl, ?_⟩) ?_; rotate_left; (intro w hSw; (try dsimp only at hSw); go_simp; try (with_reducible rfl)); (try simp only [Act.put, List.setIfInBounds_toArray, List.set_cons_zero, List.set_cons_succ]))
      (refine Ord.takeQ (v := ?_) (Or.inl ⟨rfl, ?_⟩) ?_; rotate_left; (intro w hSw; (try dsimp only at hSw); go_simp; try (with_reducible rfl)); (try simp only [Act.put, List.setIfInBounds_toArray, List.set_cons_zero, List.set_cons_succ]))
      (refine Ord.takeQ (v := ?_) (Or.inl ⟨rfl, ?_⟩) ?_; rotate_left; (intro w hSw; (try dsimp only at hSw); go_simp; try (with_reducible rfl)); (try simp only [Act.put, List.setIfInBounds_toArray, List.set_cons_zero, List.set_cons_succ]))
      (refine Ord.takeQ (v := ?_) (Or.inl ⟨rfl, ?_⟩) ?_; rotate_left; (intro w hSw; (try dsimp only at hSw); go_simp; try (with_reducible rfl)); (try simp only [Act.put, List.setIfInBounds_toArray, List.set_cons_zero, List.set_cons_succ]))
      (refine Ord.takeQ (v := ?_) (Or.inl ⟨rfl, ?_⟩) ?_; rotate_left; (intro w hSw; (try dsimp only at hSw); go_simp; try (with_reducible rfl)); (try simp only [Act.put, List.setIfInBounds_toArray, List.set_cons_zero, List.set_cons_succ]))
      (refine Ord.takeQ (v := ?_) (Or.inl ⟨rfl, ?_⟩) ?_; rotate_left; (intro w hSw; (try dsimp only at hSw); go_simp; try (with_reducible rfl)); (try simp only [Act.put, List.setIfInBounds_toArray, List.set_cons_zero, List.set_cons_succ]))
      (refine Ord.takeQ (v := ?_) (Or.inl ⟨rfl, ?_⟩) ?_; rotate_left; (intro w hSw; (try dsimp only at hSw); go_simp; try (with_reducible rfl)); (try simp only [Act.put, List.setIfInBounds_toArray, List.set_cons_zero, List.set_cons_succ]))
      (refine Ord.takeQ (v := ?_) (Or.inl ⟨rfl, ?_⟩) ?_; rotate_left; (intro w hSw; (try dsimp only at hSw); go_simp; try (with_reducible rfl)); (try simp only [Act.put, List.setIfInBounds_toArray, List.set_cons_zero, List.set_cons_succ]))
      refine Ord.doneQ (NoPanic.normal ?_)
      clear hSQ
      go_wp2_with fail
      go_roundw
      case rel => exact ⟨k + 1, by omega, by go_num, hd.drew⟩
      case measure => simp [intOf]; omega
    · obtain rfl : k = X.length := by omega
      have hBr := hB.trans (hd.below _)
      have hX2 := (hX.drawn hd).more (B' := wr.heap.size) (by rw [hd.heap]; exact Nat.le_refl _)
      have hY2 := (hY.drawn hd).more (B' := wr.heap.size) (by rw [hd.heap]; exact Nat.le_refl _)
      have hG2 := (hG.below (hd.below _)).more (B' := wr.heap.size) (by rw [hd.heap]; exact Nat.le_refl _)
      clear hX hY hG hB hd hz3
      obtain ⟨M, hM⟩ : ∃ M, rows.take 20 = M := ⟨_, rfl⟩
      have hML : M.length ≤ 20 := by rw [← hM]; simp; omega
      have hMO : ∀ r ∈ M, r.length ≤ 4611686018427387904 ∧ ∀ x ∈ r, I64 x := fun r hr => hgok.out r (List.mem_of_mem_take (by rw [hM]; exact hr))
      have hGM := hG2.take 20
      rw [hM] at hGM
      go_upto_if 62 with fail
      go_cut [3] (fun s3 wx => s3 = .slice A3 M.length c3 ∧ wr = wx)
      case first =>
        by_cases hm : 20 < rows.length
        · have d1 : decide ((20 : Int) < (rows.length : Int)) = true := decide_eq_true (by omega)
          have hc20 : 20 ≤ c3 := by omega
          have HL : Hid (M.length = 20) := hid (by rw [← hM]; simp; omega)
          obtain ⟨b, off, rfl, -, -⟩ := hG2.seg (by intro hv; have := hG2.len; rw [hv] at this; simp at this; omega)
          clear hM
          go_wp2_with fail
          go_meet
          exact ⟨by rw [HL.out], rfl⟩
        · have d1 : decide ((20 : Int) < (rows.length : Int)) = false := decide_eq_false (by omega)
          have HL : Hid (M.length = rows.length) := hid (by rw [← hM]; simp; omega)
          clear hM
          go_wp2_with fail
          go_meet
          exact ⟨by rw [HL.out], rfl⟩
      case rest =>
      obtain ⟨rfl, rfl⟩ := hcut
      clear hM hG2 hgok
      go_wp2_with fail
      refine (table_Widths R X _ c sure _ (by omega) (bet_more hbet.out (by decide)) hle.out ⟨by omega, by omega⟩ hX2).mono ?_
      rintro e w4 ⟨g, hgz, rfl, hb4, hW⟩
      have HF := hid (widths_filled (sure := sure) hbet.out hle.out (by omega) (by omega : -16777216 ≤ R) (by omega))
      have hz4 := hb4.size
      have hW4 := (Ints.ofBlk hW hW.lt)
      replace hY2 := (hY2.below hb4).more hz4
      replace hGM := (hGM.below hb4).more hz4
      have hB4 := hBr.trans (hb4.mono hBr.size)
      clear hW hb4 hX2 hgz
      go_wp2_with fail
      refine (ref19_Widths R X _ cy sure _ (by omega) (bet_more hbet.out (by decide)) hle.out ⟨by omega, by omega⟩ hY2).mono ?_
      rintro e w5 ⟨A5, c5, rfl, hb5, hV5⟩
      have hz5 := hb5.size
      replace hW4 := (hW4.below hb5)
      replace hGM := (hGM.below hb5).more hz5
      have hB5 := hB4.trans (hb5.mono hB4.size)
      have hVL := HF.out.len
      clear hb5 hY2 HF hB4
      obtain ⟨V, hVe⟩ : ∃ V, widths R X sure = V := ⟨_, rfl⟩
      rw [hVe] at hVL hW4 hV5
      clear hVe
      have hsm := book_Same V _ A5 X.length c5 _ _ w5 (by omega) hW4 hV5
      rw [hVL] at hsm
      go_wp2_with fail
      refine hsm.mono ?_
      rintro e w6 ⟨rfl, hd6⟩
      have hB6 := hB5.trans (hd6.below _)
      replace hGM := (hGM.below (hd6.below _)).more (B' := w6.heap.size) (by rw [hd6.heap]; exact Nat.le_refl _)
      clear hsm hW4 hV5 hd6 hB5
      go_wp2_with fail
      refine (table_Rows M _ A3 c3 _ (by omega) hGM hMO).mono ?_
      rintro e w7 ⟨v7, rfl, hb7, ho7⟩
      obtain ⟨A7, c7, rfl, hV7⟩ := own_seg ho7
      have hz7 := hb7.size
      replace hGM := (hGM.below hb7).more hz7
      have hB7 := hB6.trans (hb7.mono hB6.size)
      clear ho7 hb7 hB6
      go_wp2_with fail
      refine (ref19_Rows M _ A3 c3 _ (by omega) hGM hMO).mono ?_
      rintro e w8 ⟨v8, rfl, hb8, ho8⟩
      obtain ⟨A8, c8, rfl, hV8⟩ := own_seg ho8
      have hz8 := hb8.size
      have hB8 := hB7.trans (hb8.mono hB7.size)
      have hV7' : Ints w8 w7.heap.size A7 (rowsM M) := Seg.below hV7 hb8
      have hV8' : Ints w8 w8.heap.size A8 (rowsM M) := hV8
      clear ho8 hb8 hB7 hV7 hV8 hGM
      have hRL : (rowsM M).length = M.length := by simp [rowsM]
      have hsm := book_Same (rowsM M) _ _ c7 c8 _ _ w8 (by omega) hV7' hV8'
      rw [hRL] at hsm
      go_wp2_with fail
      refine hsm.mono ?_
      rintro e w9 ⟨rfl, hd9⟩
      have hB9 := hB8.trans (hd9.below _)
      clear hsm hV7' hV8' hd9 hB8
      go_wp2_with fail
      refine (known19 _).mono ?_
      rintro e w10 ⟨rfl, hb10⟩
      go_wp2_with fail
      go_ret
      exact ⟨rfl, hB9.trans (hb10.mono hB9.size)⟩
end Go.Proofs.Ytkoanijiihnioaa
