/-
  The walk of TextBlanks.
-/
import Derived.Test.YteghacdpfhohoaaTextQ
namespace Go.Proofs.Yteghacdpfhohoaa
open Go.RowKit Num Mem Opn Go.Deep
set_option linter.unusedVariables false
set_option linter.unusedSimpArgs false
set_option linter.unusedSimpArgs false
theorem least_m (P : List Pz) (m : Nat) (A : Option Addr) (c : Nat) (w : World) (hm : P.length = m) (hn : m ≤ 1000000) (hA : Recs w w.heap.size A 57 Pz.cells P) :
    Calls Try.prog 38 #[.slice A m c] w fun e w' => e = .returned (.int .i64 (leastF P 0)) ∧ Below w.heap.size w w' := by
  subst hm; exact text_Least P A c w hn hA
theorem most_m (P : List Pz) (m : Nat) (A : Option Addr) (c : Nat) (w : World) (hm : P.length = m) (hn : m ≤ 1000000) (hA : Recs w w.heap.size A 57 Pz.cells P) :
    Calls Try.prog 37 #[.slice A m c] w fun e w' => e = .returned (.int .i64 (mostF P 0 0)) ∧ Below w.heap.size w w' := by
  subst hm; exact text_Most P A c w hn hA
theorem same_m (P : List Pq) (m : Nat) (A A' : Option Addr) (c c' : Nat) (w : World) (hm : P.length = m) (hl : m ≤ 1000000) (hok : ∀ y ∈ P, okP y) (hA : Recs w w.heap.size A 57 Pq.cells P) (hA' : Recs w w.heap.size A' 57 Pq.cells P) :
    Calls Try.prog 39 #[.slice A m c, .slice A' m c'] w fun e w' => e = .returned (.bool true) ∧ Drawn w w' := by
  subst hm
  exact pq_Same P A A' c c' _ _ w (by omega) hok hA hA'
set_option maxRecDepth 100000 in
set_option maxHeartbeats 4000000 in
theorem walk_TextBlanks (s : ByteArray) (ew eh : Int) (A : Option Addr) (l : List Int) (c : Nat) (w : World) (hs : s.size ≤ maxLen) (hew : I64 ew) (heh : I64 eh) (hr : Row64 w A l c) :
    Calls Try.prog 9 #[.string s, .agg #[.int .i64 ew, .int .i64 eh, .slice A l.length c]] w fun e w' => e = .returned (.bool true) ∧ Below w.heap.size w w' := by
    obtain ⟨hA, hlc, hcp, hi⟩ := hr
    have hX : Blk (w.alloc (.cells #[.int .i64 ew, .int .i64 eh, .slice A l.length c] 36)) w.heap.size 36 #[.int .i64 ew, .int .i64 eh, .slice A l.length c] := Blk.new _ _ _
    have hB : Below w.heap.size w (w.alloc (.cells #[.int .i64 ew, .int .i64 eh, .slice A l.length c] 36)) := (Below.refl _ _).alloc (Nat.le_refl _) _
    go_enter Try.func9, Try.ntmps9
    go_upto_region 1 with fail
    refine wp_forget (fun Z => Blk Z w.heap.size 36 #[.int .i64 ew, .int .i64 eh, .slice A l.length c] ∧ Below w.heap.size w Z) ⟨hX, hB⟩ ?_
    clear hX hB
    rintro w1 ⟨hX, hB⟩
    go_wp2_with fail
    refine (keep_Few s 300 w1 hs).mono ?_
    rintro e w2 ⟨rfl, rfl⟩
    have hs2 := fewS_size s 300
    generalize fewS s 300 = S at *
    obtain ⟨T, hT⟩ : ∃ T, runesBytes (spreadR (runesOf S)) = T := ⟨_, rfl⟩
    have hT2 : T.size ≤ 1200 := by
      have h1 := spread_size (runesOf S)
      have h2 := runes_len S
      rw [hT] at h1
      omega
    replace hT := hid hT
    have HR : Hid (ByteArray.empty ++ runesBytes (spreadR (rns S (S.size - 0) 0)) = T) := hid (by rw [ByteArray.empty_append]; exact hT.out)
    obtain ⟨q, hq⟩ : ∃ q, w1.heap.size = q := ⟨_, rfl⟩
    have hI : IterAt (w1.iter S 0) q S 0 := by
      have := World.iter_heap w1 S 0
      rw [hq] at this
      simpa [IterAt] using this
    have hXi : Blk (w1.iter S 0) w.heap.size 36 #[.int .i64 ew, .int .i64 eh, .slice A l.length c] := hX.alloc _
    have hBi : Below w.heap.size w (w1.iter S 0) := hB.alloc hB.size _
    have hqw : w.heap.size < q := by have := hX.lt; omega
    have hrange := run_range_string (P := Try.prog) w1 9 S Try.underlying9
    rw [hq] at hrange
    clear hq hX hB
    go_wp2_with fail
    clear hrange
    generalize w1.iter S 0 = w2 at *
    go_loopg [5] (S.size - 0) (fun g' s5 wr => ∃ (pos : Nat) (o : ByteArray), g' = S.size - pos ∧ s5 = .string o ∧ IterAt wr q S pos ∧ Blk wr w.heap.size 36 #[.int .i64 ew, .int .i64 eh, .slice A l.length c] ∧ Below w.heap.size w wr ∧ Hid (o ++ runesBytes (spreadR (rns S (S.size - pos) pos)) = T))
    case atStart => exact ⟨0, ByteArray.empty, rfl, rfl, hI, hXi, hBi, HR⟩
    case round =>
      clear hI hXi hBi HR
      obtain ⟨pos, o, rfl, rfl, hI, hX, hB, HR⟩ := hrel
      by_cases hp : pos < S.size
      · have hw := width_pos S pos hp
        have hdl := decode_le S pos
        have hnx : ∀ ty, (Instr.next (.pointer (some ⟨q, 0, none⟩)) true ty).run Try.prog wr = _ := fun ty => run_next_at hI hp ty
        have hc := bump_chg wr q S (pos + (Utf8.decode S pos).2)
        have hI2 := bump_iter (p' := pos + (Utf8.decode S pos).2) hI
        have hX2 : Blk (wr.bump q S (pos + (Utf8.decode S pos).2)) w.heap.size 36 #[.int .i64 ew, .int .i64 eh, .slice A l.length c] := hX.chg hc (by omega)
        have hB2 : Below w.heap.size w (wr.bump q S (pos + (Utf8.decode S pos).2)) := hB.trans (hc.below (by omega))
        have HR2 : Hid (o ++ runesBytes (spreadR (((Utf8.decode S pos).1 : Int) :: rns S (S.size - (pos + (Utf8.decode S pos).2)) (pos + (Utf8.decode S pos).2))) = T) := hid (by
          have h1 := HR.out
          obtain ⟨k, hk⟩ : ∃ k, S.size - pos = k + 1 := ⟨S.size - pos - 1, by omega⟩
          rw [hk, rns, if_pos hp] at h1
          rw [← h1, rns_fuel S (k := S.size - (pos + (Utf8.decode S pos).2)) (k' := k) (by omega) (by omega)])
        clear hI hX hB HR hc
        have hsd : S.size - (pos + (Utf8.decode S pos).2) < S.size - pos := by omega
        replace hsd := hid hsd
        obtain ⟨p', hp'⟩ : ∃ p', pos + (Utf8.decode S pos).2 = p' := ⟨_, rfl⟩
        obtain ⟨rv, hrv⟩ : ∃ rv, (Utf8.decode S pos).1 = rv := ⟨_, rfl⟩
        rw [hp'] at hnx hI2 hX2 hB2 HR2 hsd
        rw [hrv] at hnx HR2 hdl
        clear hp' hrv hw
        obtain ⟨b, hb⟩ : ∃ b, blankR rv = b := ⟨_, rfl⟩
        have HQ := hid hb
        clear hb
        go_upto_region 6 with fail
        clear hnx
        generalize wr.bump q S p' = w3 at *
        go_cut [30] (fun s30 wz => s30 = .bool b ∧ w3 = wz)
        case first =>
          by_cases h9 : rv = 9
          · have g9 : ((rv : Int) == 9) = true := by simp [h9]
            have HZ : Hid (b = true) := hid (by rw [← HQ.out]; simp [blankR, h9])
            clear h9
            go_wp2_with fail
            go_meet
            exact ⟨by rw [HZ.out], rfl⟩
          · have g9 : ((rv : Int) == 9) = false := by simp; omega
            by_cases h10 : rv = 10
            · have g10 : ((rv : Int) == 10) = true := by simp [h10]
              have HZ : Hid (b = true) := hid (by rw [← HQ.out]; simp [blankR, h10])
              clear h10
              go_wp2_with fail
              go_meet
              exact ⟨by rw [HZ.out], rfl⟩
            · have g10 : ((rv : Int) == 10) = false := by simp; omega
              by_cases h12 : rv = 12
              · have g12 : ((rv : Int) == 12) = true := by simp [h12]
                have HZ : Hid (b = true) := hid (by rw [← HQ.out]; simp [blankR, h12])
                clear h12
                go_wp2_with fail
                go_meet
                exact ⟨by rw [HZ.out], rfl⟩
              · have g12 : ((rv : Int) == 12) = false := by simp; omega
                by_cases h32 : rv = 32
                · have g32 : ((rv : Int) == 32) = true := by simp [h32]
                  have HZ : Hid (b = true) := hid (by rw [← HQ.out]; simp [blankR, h32])
                  clear h32
                  go_wp2_with fail
                  go_meet
                  exact ⟨by rw [HZ.out], rfl⟩
                · have g32 : ((rv : Int) == 32) = false := by simp; omega
                  have HZ : Hid (b = false) := hid (by rw [← HQ.out]; simp [blankR, h9, h10, h12, h32])
                  clear h9 h10 h12 h32
                  go_wp2_with fail
                  go_meet
                  exact ⟨by rw [HZ.out], rfl⟩
        case rest =>
        obtain ⟨rfl, rfl⟩ := hcut
        cases b with
        | true =>
          have hn : blankR ((rv : Int)).toNat = true := by rw [Int.toNat_natCast]; exact HQ.out
          have h0 := HR2.out
          rw [spread_blank _ hn, ← ByteArray.append_assoc] at h0
          have hz : (o ++ bl3).size ≤ 1200 := by have := congrArg ByteArray.size h0; rw [ByteArray.size_append] at this; omega
          have hz2 : o.size + 3 ≤ 1200 := by rw [ByteArray.size_append] at hz; exact hz
          have hadd := run_string_add_sum (P := Try.prog) (w := w3) o { data := #[10, 32, 9] } (by have : (ByteArray.mk #[10, 32, 9]).size = 3 := rfl; omega)
          have hno : ¬ (o.size + 3 > 9223372036854775807) := by omega
          obtain ⟨y, hy⟩ : ∃ y, o ++ { data := #[10, 32, 9] } = y := ⟨_, rfl⟩
          have hy2 : o ++ bl3 = y := hy
          rw [hy] at hadd
          rw [hy2] at h0
          replace h0 := hid h0
          clear hy hy2 hz hz2 HR2 hn HQ
          go_wp2_with fail
          go_roundg (S.size - p')
          case rel => exact ⟨p', y, rfl, rfl, hI2, hX2, hB2, h0⟩
          case measure => exact hsd.out
        | false =>
          have hn : blankR ((rv : Int)).toNat = false := by rw [Int.toNat_natCast]; exact HQ.out
          have h0 := HR2.out
          rw [spread_word _ hn, ← ByteArray.append_assoc] at h0
          have hcv : ∀ wx, (convert 21 9 (.int .i32 (rv : Int))).run Try.prog wx = .ok (.string (Utf8.encode (rv : Int))) wx := fun wx => run_convert_int_string wx 21 9 .i32 (rv : Int) (by rw [Try.underlying21]; rfl) Try.underlying9
          generalize Utf8.encode (rv : Int) = E at *
          have hz2 : o.size + E.size ≤ 1200 := by have := congrArg ByteArray.size h0; rw [ByteArray.size_append, ByteArray.size_append] at this; omega
          have hadd := run_string_add_sum (P := Try.prog) (w := w3) o E (by omega)
          have hno : ¬ (o.size + E.size > 9223372036854775807) := by omega
          obtain ⟨y, hy⟩ : ∃ y, o ++ E = y := ⟨_, rfl⟩
          rw [hy] at hadd h0
          replace h0 := hid h0
          clear hy hz2 HR2 hn HQ
          go_wp2_with fail
          go_roundg (S.size - p')
          case rel => exact ⟨p', y, rfl, rfl, hI2, hX2, hB2, h0⟩
          case measure => exact hsd.out
      · have hnx : ∀ ty, (Instr.next (.pointer (some ⟨q, 0, none⟩)) true ty).run Try.prog wr = _ := fun ty => run_next_none hI hp ty
        have HZ : o = T := by
          have h1 := HR.out
          rw [show S.size - pos = 0 by omega, rns] at h1
          rw [← h1]
          exact (ByteArray.append_empty).symm
        subst HZ
        clear HR hI
        have k1 := conv_runes S (by omega)
        have k2 : ∀ cc, (convert 51 9 (.slice (some ⟨wr.heap.size, 0, none⟩) (runesOf S).length cc)).run Try.prog (wr.alloc (.cells (rcells wr S) 21)).drew = .ok (.string (runesBytes (runesOf S))) (wr.alloc (.cells (rcells wr S) 21)).drew := fun cc => conv_back S wr cc
        have hX2 := (hX.alloc (.cells (rcells wr S) 21)).drew
        have hB2 := (hB.alloc hB.size (.cells (rcells wr S) 21)).drew
        by_cases hq : runesBytes (runesOf S) = S
        · have k3 : ((runesBytes (runesOf S)).toList == S.toList) = true := by rw [hq]; simp
          go_upto_region 11 with fail
          clear k1 k2 k3 hX hB hnx hp
          generalize (wr.alloc (.cells (rcells wr S) 21)).drew = w2' at *
          have c0 : w2'.cell? ⟨w.heap.size, 0, none⟩ = some (.int .i64 ew) := hX2.cell 0
          have c1 : w2'.cell? ⟨w.heap.size, 1, none⟩ = some (.int .i64 eh) := hX2.cell 1
          have c2 : w2'.cell? ⟨w.heap.size, 2, none⟩ = some (.slice A l.length c) := hX2.cell 2
          go_wp2_with fail
          refine (keep_Env ew eh l A c w2' (by have := hew.2; omega) (by have := heh.2; omega) (by omega) (fun x hx => by have := (hi x hx).2; omega) ((hA.below hB2).more hB2.size)).mono ?_
          rintro e w4 ⟨v, rfl, hb, ho⟩
          have hlt := hX2.lt
          obtain ⟨A2, c3, rfl, -⟩ := own_some ho
          replace ho := ownsRow_setCell_below (ownsRow_setCell_below (ownsRow_setCell_below ho (a := ⟨w.heap.size, 0, none⟩) hlt (.int .i64 (inn ew 16777216))) (a := ⟨w.heap.size, 1, none⟩) hlt (.int .i64 (inn eh 16777216))) (a := ⟨w.heap.size, 2, none⟩) hlt (.slice A2 (envl l).length c3)
          obtain ⟨A3, c4, he, hseg⟩ := own_seg ho
          injection he with e1 e2 e3
          subst e1
          clear e2 e3 c4 hlt
          have hL : Ints (((w4.setCell ⟨w.heap.size, 0, none⟩ (.int .i64 (inn ew 16777216))).setCell ⟨w.heap.size, 1, none⟩ (.int .i64 (inn eh 16777216))).setCell ⟨w.heap.size, 2, none⟩ (.slice A2 (envl l).length c3)) (((w4.setCell ⟨w.heap.size, 0, none⟩ (.int .i64 (inn ew 16777216))).setCell ⟨w.heap.size, 1, none⟩ (.int .i64 (inn eh 16777216))).setCell ⟨w.heap.size, 2, none⟩ (.slice A2 (envl l).length c3)).heap.size A2 (envl l) := by
            have h1 : ∀ u : List Int, (ints u).toList = u.map (Value.int .i64) := fun u => by simp [ints]
            rw [h1] at hseg
            exact hseg
          have hL1 := envl_len l
          obtain ⟨n, hn⟩ : ∃ n, (envl l).length = n := ⟨_, rfl⟩
          rw [hn] at hL1 hL ⊢
          replace hn := hid hn
          clear hseg ho
          generalize envl l = L at *
          generalize inn ew 16777216 = nw at *
          generalize inn eh 16777216 = nh at *
          have hX3 := hX2.below hb hX2.lt
          have hB3 := hB2.trans (hb.mono hB2.size)
          clear c0 c1 c2
          have c0 : w4.cell? ⟨w.heap.size, 0, none⟩ = some (.int .i64 ew) := hX3.cell 0
          have c1 : w4.cell? ⟨w.heap.size, 1, none⟩ = some (.int .i64 eh) := hX3.cell 1
          have c2 : w4.cell? ⟨w.heap.size, 2, none⟩ = some (.slice A l.length c) := hX3.cell 2
          have f0 : w4.frozen? ⟨w.heap.size, 0, none⟩ = false := hX3.free 0
          have f1 : w4.frozen? ⟨w.heap.size, 1, none⟩ = false := hX3.free 1
          have f2 : w4.frozen? ⟨w.heap.size, 2, none⟩ = false := hX3.free 2
          have hX4 : Blk _ w.heap.size 36 #[.int .i64 nw, .int .i64 nh, .slice A2 n c3] := ((hX3.put 0 (.int .i64 nw)).put 1 (.int .i64 nh)).put 2 (.slice A2 n c3)
          have hB4 := ((hB3.setCell (p := ⟨w.heap.size, 0, none⟩) (by simp) (.int .i64 nw)).setCell (p := ⟨w.heap.size, 1, none⟩) (by simp) (.int .i64 nh)).setCell (p := ⟨w.heap.size, 2, none⟩) (by simp) (.slice A2 n c3)
          go_upto_region 12 with fail
          generalize ((w4.setCell ⟨w.heap.size, 0, none⟩ (.int .i64 nw)).setCell ⟨w.heap.size, 1, none⟩ (.int .i64 nh)).setCell ⟨w.heap.size, 2, none⟩ (.slice A2 n c3) = w5 at *
          clear hX3 hB3 hX2 hB2 hb f0 f1 f2 c0 c1 c2

          obtain ⟨P, hP⟩ : ∃ P, piecesF L [⟨7, 1, false, S⟩] = P := ⟨_, rfl⟩
          have hP0 : piecesF L [⟨7, 1, false, o⟩] = P := by rw [← hP, ← hT.out]; exact blanks_law L 1 S hq
          have hP1 := pieces_len L S (by omega)
          have hP2 := pieces_ok L S (by omega)
          have hP3 := pieces_lm L S
          rw [hP] at hP1 hP2 hP3
          replace hP := hid hP
          replace hP0 := hid hP0
          replace hP2 := hid hP2
          clear hT hq
          obtain ⟨m, hm⟩ : ∃ m, (P.map Pz.q).length = m := ⟨_, rfl⟩
          have hmP : P.length = m := by rw [← hm, List.length_map]
          rw [hm] at hP1
          replace hm := hid hm
          replace hmP := hid hmP
          have hws := hX4.lt
          have hSt : ∀ Z, Blk Z w.heap.size 36 #[.int .i64 nw, .int .i64 nh, .slice A2 n c3] → (fun Z => Blk Z w.heap.size 36 #[.int .i64 nw, .int .i64 nh, .slice A2 n c3]) Z := fun Z h => h
          refine wp_region_noPanic ?_
          refine Ord.region_Q (S := fun Z => Blk Z w.heap.size 36 #[.int .i64 nw, .int .i64 nh, .slice A2 n c3]) 999 (.one 0 true (.one 1 true (.one 2 false (.one 3 false (.one 4 false (.one 5 true .nil)))))) (by kernel_rfl) (by kernel_rfl) (by kernel_rfl) (by decide) (fun _ _ _ _ _ h => h) (hSt _ hX4.drew) (fun hS0 => ?_)
          simp only [Ord.layT, List.getElem?_cons_zero, List.getElem?_cons_succ]
          (refine Ord.takeQ (yieldsIf_load_mid rfl _ _ rfl (w.heap.size) 0 rfl _ _ (fun w' h => h.range) Try.underlying36 rfl (by kernel_rfl)) ?_; (try simp only [Act.put, List.setIfInBounds_toArray, List.set_cons_zero, List.set_cons_succ]))
          (refine Ord.takeQ (v := ?_) (Or.inl ⟨rfl, ?_⟩) ?_; rotate_left; (intro w hSw; (try dsimp only at hSw); go_simp; try (with_reducible rfl)); (try simp only [Act.put, List.setIfInBounds_toArray, List.set_cons_zero, List.set_cons_succ]))
          refine Ord.aloneQ rfl rfl (fun K hK => ?_)
          go_simp
          refine (law14_box S false w5.drew).mono ?_
          rintro e u1 ⟨rfl, hbq⟩
          have hS1 := hSt _ (hS0.below hbq (by show _ < w5.heap.size; omega))
          go_wp2_with fail
          (try simp only [Act.put, List.setIfInBounds_toArray, List.set_cons_zero, List.set_cons_succ])
          refine hK.out _ _ (hS1) (fun _ => ?_)
          clear hK K
          refine Ord.aloneQ rfl rfl (fun K hK => ?_)
          refine wp_execT (w' := (u1.alloc (.cells (Bx.arr ⟨7, 1, false, S⟩) 64))) (v := .slice (some ⟨u1.heap.size, 0, none⟩) 1 1) (by kernel_rfl) ?_
          have h2 : Below w5.drew.heap.size w5.drew (u1.alloc (.cells (Bx.arr ⟨7, 1, false, S⟩) 64)) := hbq.alloc hbq.size _
          have hR := recs_box u1 S
          generalize (u1.alloc (.cells (Bx.arr ⟨7, 1, false, S⟩) 64)) = u2 at *
          (try simp only [Act.put, List.setIfInBounds_toArray, List.set_cons_zero, List.set_cons_succ])
          refine hK.out _ _ (hSt _ (hS0.below h2 (by show _ < w5.heap.size; omega))) (fun _ => ?_)
          clear hK K
          refine Ord.aloneQ rfl rfl (fun K hK => ?_)
          go_simp
          have hpc := textPieces_m nw nh L n A2 c3 S _ u2 hn.out (by omega) (by omega) ((hL.drew.below h2).more h2.size) hR
          rw [hP.out, hm.out] at hpc
          refine hpc.mono ?_
          clear hpc
          rintro e u3 ⟨v, rfl, hb3, ho1⟩
          obtain ⟨AA1, cc1, rfl, -⟩ := own_some ho1
          have h3 : Below w5.drew.heap.size w5.drew u3 := h2.trans (hb3.mono h2.size)
          have hz2 := h2.size
          go_wp2_with fail
          (try simp only [Act.put, List.setIfInBounds_toArray, List.set_cons_zero, List.set_cons_succ])
          refine hK.out _ _ (hSt _ (hS0.below h3 (by show _ < w5.heap.size; omega))) (fun _ => ?_)
          clear hK K
          (refine Ord.takeQ (v := ?_) (Or.inl ⟨rfl, ?_⟩) ?_; rotate_left; (intro w hSw; (try dsimp only at hSw); go_simp; try (with_reducible rfl)); (try simp only [Act.put, List.setIfInBounds_toArray, List.set_cons_zero, List.set_cons_succ]))
          refine Ord.doneQ (NoPanic.normal ?_)
          go_upto_region 13 with fail
          have hX7 := hX4.drew.below h3 hws
          have hB7 := hB4.drew.trans (h3.mono (by show _ ≤ w5.heap.size; omega))
          have hL7 := (hL.drew.below h3).more h3.size
          have hz7 := h3.size
          have hw7 := hX7.lt
          clear hX4 hB4 hL h3 hS0 h2 hb3 hR hS1
          refine wp_region_noPanic ?_
          refine Ord.region_Q (S := fun Z => Blk Z w.heap.size 36 #[.int .i64 nw, .int .i64 nh, .slice A2 n c3]) 999 (.one 0 true (.one 1 true (.one 2 false (.one 3 false (.one 4 false (.one 5 true .nil)))))) (by kernel_rfl) (by kernel_rfl) (by kernel_rfl) (by decide) (fun _ _ _ _ _ h => h) (hSt _ hX7.drew) (fun hS0 => ?_)
          simp only [Ord.layT, List.getElem?_cons_zero, List.getElem?_cons_succ]
          (refine Ord.takeQ (yieldsIf_load_mid rfl _ _ rfl (w.heap.size) 0 rfl _ _ (fun w' h => h.range) Try.underlying36 rfl (by kernel_rfl)) ?_; (try simp only [Act.put, List.setIfInBounds_toArray, List.set_cons_zero, List.set_cons_succ]))
          (refine Ord.takeQ (v := ?_) (Or.inl ⟨rfl, ?_⟩) ?_; rotate_left; (intro w hSw; (try dsimp only at hSw); go_simp; try (with_reducible rfl)); (try simp only [Act.put, List.setIfInBounds_toArray, List.set_cons_zero, List.set_cons_succ]))
          refine Ord.aloneQ rfl rfl (fun K hK => ?_)
          go_simp
          refine (law14_box o false u3.drew).mono ?_
          rintro e u4 ⟨rfl, hbq⟩
          have hS1 := hSt _ (hS0.below hbq (by show _ < u3.heap.size; omega))
          go_wp2_with fail
          (try simp only [Act.put, List.setIfInBounds_toArray, List.set_cons_zero, List.set_cons_succ])
          refine hK.out _ _ (hS1) (fun _ => ?_)
          clear hK K
          refine Ord.aloneQ rfl rfl (fun K hK => ?_)
          refine wp_execT (w' := (u4.alloc (.cells (Bx.arr ⟨7, 1, false, o⟩) 64))) (v := .slice (some ⟨u4.heap.size, 0, none⟩) 1 1) (by kernel_rfl) ?_
          have h2 : Below u3.drew.heap.size u3.drew (u4.alloc (.cells (Bx.arr ⟨7, 1, false, o⟩) 64)) := hbq.alloc hbq.size _
          have hR := recs_box u4 o
          generalize (u4.alloc (.cells (Bx.arr ⟨7, 1, false, o⟩) 64)) = u5 at *
          (try simp only [Act.put, List.setIfInBounds_toArray, List.set_cons_zero, List.set_cons_succ])
          refine hK.out _ _ (hSt _ (hS0.below h2 (by show _ < u3.heap.size; omega))) (fun _ => ?_)
          clear hK K
          refine Ord.aloneQ rfl rfl (fun K hK => ?_)
          go_simp
          have hpc := textPieces_m nw nh L n A2 c3 o _ u5 hn.out (by omega) (by omega) ((hL7.drew.below h2).more h2.size) hR
          rw [hP0.out, hm.out] at hpc
          refine hpc.mono ?_
          clear hpc
          rintro e u6 ⟨v, rfl, hb3, ho2⟩
          obtain ⟨AA2, cc2, rfl, -⟩ := own_some ho2
          have h6 : Below u3.drew.heap.size u3.drew u6 := h2.trans (hb3.mono h2.size)
          have hz2 := h2.size
          go_wp2_with fail
          (try simp only [Act.put, List.setIfInBounds_toArray, List.set_cons_zero, List.set_cons_succ])
          refine hK.out _ _ (hSt _ (hS0.below h6 (by show _ < u3.heap.size; omega))) (fun _ => ?_)
          clear hK K
          (refine Ord.takeQ (v := ?_) (Or.inl ⟨rfl, ?_⟩) ?_; rotate_left; (intro w hSw; (try dsimp only at hSw); go_simp; try (with_reducible rfl)); (try simp only [Act.put, List.setIfInBounds_toArray, List.set_cons_zero, List.set_cons_succ]))
          refine Ord.doneQ (NoPanic.normal ?_)
          have hX8 := hX7.drew.below h6 hw7
          have hB8 := hB7.drew.trans (h6.mono (by show _ ≤ u3.heap.size; omega))
          have hb36 : Below u3.heap.size u3 u6 := (Below.drew (Below.refl _ _)).trans h6
          replace ho1 := own_below ho1 hb36
          rw [← hm.out] at ho1 ho2
          have hRa : Recs u6 u6.heap.size AA1 57 Pq.cells (P.map Pz.q) := Recs.of_own pq_length (by decide) ho1
          have hRb : Recs u6 u6.heap.size AA2 57 Pq.cells (P.map Pz.q) := Recs.of_own pq_length (by decide) ho2
          rw [pz_q_map, List.length_map] at ho1
          have hRp : Recs u6 u6.heap.size AA1 57 Pz.cells P := Recs.of_own pz_length (by decide) ho1
          clear ho1 ho2 hb36 h6 hS0 hS1 hb3 hR h2 hX7 hB7 hL7 hX8
          obtain ⟨la, hla⟩ : ∃ la, leastF P 0 = la := ⟨_, rfl⟩
          obtain ⟨mo, hmo⟩ : ∃ mo, mostF P 0 0 = mo := ⟨_, rfl⟩
          rw [hla, hmo] at hP3
          replace hla := hid hla
          replace hmo := hid hmo
          have g1 : decide (la ≤ mo) = true := decide_eq_true hP3
          clear hP3
          have hsame := same_m (P.map Pz.q) m AA1 AA2 cc1 cc2 u6 hm.out (by omega) hP2.out hRa hRb
          clear hRa hRb
          go_wp2_with fail
          refine hsame.mono ?_
          clear hsame
          rintro e v1 ⟨rfl, hd1⟩
          have hB9 := hB8.trans (hd1.below _)
          have hRp1 : Recs v1 v1.heap.size AA1 57 Pz.cells P := by
            have h1 := hRp.below (hd1.below u6.heap.size)
            have h2 : u6.heap.size ≤ v1.heap.size := (hd1.below 0).size
            exact h1.more h2
          clear hRp hd1 hB8
          have hleast := least_m P m AA1 cc1 v1 hmP.out (by omega) hRp1
          rw [hla.out] at hleast
          go_wp2_with fail
          refine hleast.mono ?_
          clear hleast
          rintro e v2 ⟨rfl, hb2⟩
          have hB10 := hB9.trans (hb2.mono hB9.size)
          have hRp2 := (hRp1.below hb2).more hb2.size
          clear hRp1 hb2 hB9
          have hmost := most_m P m AA1 cc1 v2 hmP.out (by omega) hRp2
          rw [hmo.out] at hmost
          go_wp2_with fail
          refine hmost.mono ?_
          clear hmost
          rintro e v3 ⟨rfl, hb2⟩
          have hB11 := hB10.trans (hb2.mono hB10.size)
          clear hRp2 hb2 hB10
          go_wp2_with fail
          refine (known14 _).mono ?_
          rintro e v4 ⟨rfl, hb⟩
          go_wp2_with fail
          go_ret
          exact ⟨rfl, hB11.trans (hb.mono hB11.size)⟩
        · have k3 : ((runesBytes (runesOf S)).toList == S.toList) = false := by
            have : ¬ (runesBytes (runesOf S)).toList = S.toList := fun h => hq (toList_inj h)
            simpa using this
          clear hq
          go_wp2_with fail
          refine (known14 _).mono ?_
          rintro e w3 ⟨rfl, hb⟩
          go_wp2_with fail
          go_ret
          exact ⟨rfl, hB2.trans (hb.mono hB2.size)⟩
end Go.Proofs.Yteghacdpfhohoaa
