/-
  The cutter's text.
-/
import Derived.Test.YteghacdpfhohoaaTextD
namespace Go.Proofs.Yteghacdpfhohoaa
open Go.RowKit Num Mem Opn
set_option linter.unusedVariables false
set_option linter.unusedSimpArgs false
set_option linter.unusedSimpArgs false
namespace Num
def blankR (r : Nat) : Bool := (r == 9) || (r == 10) || (r == 12) || (r == 32)
def sp1 : ByteArray := ⟨#[32]⟩
def wordF (l : List Int) (x : Bx) (from_ : Int) (till : Nat) (out : List Pz) : List Pz := if 0 ≤ from_ then putF l x 1 (x.text.extract from_.toNat till) out else out
def midF (l : List Int) (x : Bx) (bl : Bool) (r : Nat) (out : List Pz) : List Pz :=
  if x.pre = true ∧ r = 10 then putF l x 3 ByteArray.empty out else if x.pre = true ∨ bl = false then putF l x 2 sp1 out else out
/-- the pieces of a text from a place on. -/
def cutF (l : List Int) (x : Bx) : Nat → Nat → Int → Bool → List Pz → List Pz
  | 0, _, from_, _, out => wordF l x from_ x.text.size out
  | k + 1, pos, from_, bl, out => if pos < x.text.size then
      (if blankR (Utf8.decode x.text pos).1 = false then cutF l x k (pos + (Utf8.decode x.text pos).2) (if from_ < 0 then pos else from_) false out
       else cutF l x k (pos + (Utf8.decode x.text pos).2) (-1) true (midF l x bl (Utf8.decode x.text pos).1 (wordF l x from_ pos out)))
    else wordF l x from_ x.text.size out
theorem cutF_fuel (l : List Int) (x : Bx) : ∀ {k k' pos : Nat} {from_ : Int} {bl : Bool} {out : List Pz}, x.text.size ≤ pos + k → x.text.size ≤ pos + k' → cutF l x k pos from_ bl out = cutF l x k' pos from_ bl out := by
  intro k
  induction k with
  | zero =>
    intro k' pos f bl out h h'
    cases k' with
    | zero => rfl
    | succ k' => simp only [cutF]; rw [if_neg (by omega)]
  | succ k ih =>
    intro k' pos f bl out h h'
    cases k' with
    | zero => simp only [cutF]; rw [if_neg (by omega)]
    | succ k' =>
      simp only [cutF]
      by_cases hp : pos < x.text.size
      · have hw := width_pos x.text pos hp
        rw [if_pos hp, if_pos hp]
        split
        · exact ih (by omega) (by omega)
        · exact ih (by omega) (by omega)
      · rw [if_neg hp, if_neg hp]
theorem putF_len (l : List Int) (x : Bx) (k : Int) (s : ByteArray) (out : List Pz) : (putF l x k s out).length ≤ out.length + 1 := by
  unfold putF
  have := trimF_len out
  split
  · simp; omega
  · split <;> simp
theorem wordF_len (l : List Int) (x : Bx) (f : Int) (till : Nat) (out : List Pz) : (wordF l x f till out).length ≤ out.length + 1 := by
  unfold wordF
  split
  · exact putF_len _ _ _ _ _
  · omega
end Num
theorem decode_end (s : ByteArray) (pos : Nat) (h : pos < s.size) : pos + (Utf8.decode s pos).2 ≤ s.size := by
  simp only [Utf8.decode]
  repeat' split
  all_goals simp_all
  all_goals omega
theorem Cu.bump {w : World} {g base c b pos p : Nat} {ew eh : Int} {l : List Int} {A : Option Addr} {out : List Pz} {v : Value} {s : ByteArray} (h : Cu w g base ew eh l A c out v) (hi : IterAt w b s pos) (hgb : g < b) : Cu (w.bump b s p) g base ew eh l A c out v :=
  ⟨h.blk.chg (bump_chg w b s p) (by omega), own_keep h.own (fun q hq _ => (bump_chg w b s p).other q (by
    rintro rfl
    unfold IterAt at hi
    rcases h.own.2 with ⟨rfl, _⟩ | ⟨q2, cap, cur, rfl, _, hh, _⟩
    · simp [Value.ownBlock] at hq
    · simp only [Value.ownBlock, Option.some.injEq] at hq
      subst hq
      rw [hh] at hi
      simp at hi)), h.adv.below ((bump_chg w b s p).below (by omega)), h.gb⟩
theorem CuKeep.bump {w0 w : World} {g base b p : Nat} {s : ByteArray} (h : CuKeep w0 w g base) (hb : w0.heap.size ≤ b) : CuKeep w0 (w.bump b s p) g base :=
  ⟨fun B h1 h2 h3 => (h.below B h1 h2 h3).trans ((bump_chg w b s p).below (by omega)), fun hk h1 h2 => (h.blk hk h1 h2).chg (bump_chg w b s p) (by have := hk.lt; omega), fun {k pos s'} hi => by
    have hlt := (Array.getElem?_eq_some_iff.1 hi).1
    have h2 := h.iter hi
    unfold IterAt at *
    rw [(bump_chg w b s p).other k (by omega)]
    exact h2, by rw [(bump_chg w b s p).size]; exact h.size⟩
set_option maxRecDepth 100000 in
set_option maxHeartbeats 4000000 in
theorem cutter_text (g base : Nat) (ew eh : Int) (l : List Int) (A : Option Addr) (c : Nat) (x : Bx) (out : List Pz) (v : Value) (w : World) (hn : out.length + 2 * x.text.size + 4 ≤ 100000) (hl : l.length ≤ 1000000) (hbase : base ≤ w.heap.size) (hc : Cu w g base ew eh l A c out v) :
    Calls Try.prog 67 #[.pointer (some ⟨g, 0, none⟩), .agg x.arr] w fun e w' => e = .returned (.tuple #[]) ∧ (∃ v', Cu w' g base ew eh l A c (cutF l x x.text.size 0 (-1) false out) v') ∧ CuKeep w w' g base := by
  obtain ⟨R, hR⟩ : ∃ R, cutF l x x.text.size 0 (-1) false out = R := ⟨_, rfl⟩
  have HR : Hid (cutF l x (x.text.size - 0) 0 (-1) false out = R) := hid hR
  rw [hR]
  clear hR
  have hX : Blk ((w.alloc (.cells x.arr 64)).iter x.text 0) w.heap.size 64 x.arr := (Blk.new _ _ _).alloc _
  have hI : IterAt ((w.alloc (.cells x.arr 64)).iter x.text 0) (w.heap.size + 1) x.text 0 := by
    have := World.iter_heap (w.alloc (.cells x.arr 64)) x.text 0
    simpa [IterAt] using this
  have hB : Below w.heap.size w ((w.alloc (.cells x.arr 64)).iter x.text 0) := ((Below.refl _ _).alloc (Nat.le_refl _) _).alloc (by simp) _
  have hne : w.heap.size ≠ g := by have := hc.blk.lt; omega
  have c55 : (w.alloc (.cells x.arr 64)).cell? ⟨w.heap.size, 55, none⟩ = some (.string x.text) := (Blk.new w 64 x.arr).cell 55
  have hC := hc.below hB
  have hkp : CuKeep w ((w.alloc (.cells x.arr 64)).iter x.text 0) g base := CuKeep.of_below hB
  have hbs : base ≤ ((w.alloc (.cells x.arr 64)).iter x.text 0).heap.size := by have := hB.size; omega
  have hrange := run_range_string (P := Try.prog) (w.alloc (.cells x.arr 64)) 9 x.text Try.underlying9
  go_enter Try.func67, Try.ntmps67
  go_wp2_with fail
  clear hrange c55 hB
  generalize (w.alloc (.cells x.arr 64)).iter x.text 0 = w1 at *
  obtain ⟨bb, hbb⟩ : ∃ bb, w.heap.size = bb := ⟨_, rfl⟩
  rw [hbb] at hX hI hne ⊢
  replace hbb := hid hbb
  have hgl : g < bb := by have := hc.blk.lt; have := hbb.out; omega
  generalize hT : x.text = T at *
  replace hT := hid hT
  obtain ⟨m, hm⟩ : ∃ m, out.length = m := ⟨_, rfl⟩
  go_loopg [4, 5] (T.size - 0) (fun g' s4 s5 wr => ∃ (pos : Nat) (f : Int) (bl : Bool) (o : List Pz) (vo : Value), g' = T.size - pos ∧ s4 = .int .i64 f ∧ s5 = .bool bl ∧ (f = -1 ∨ 0 ≤ f) ∧ f ≤ pos ∧ pos ≤ T.size ∧ IterAt wr (bb + 1) T pos ∧ Blk wr bb 64 x.arr ∧ Cu wr g base ew eh l A c o vo ∧ CuKeep w wr g base ∧ base ≤ wr.heap.size ∧ o.length ≤ m + 2 * pos ∧ Hid (cutF l x (T.size - pos) pos f bl o = R))
  case atStart => exact ⟨0, -1, false, out, v, rfl, rfl, rfl, .inl rfl, by omega, Nat.zero_le _, hI, hX, hC, hkp, hbs, by omega, HR⟩
  case round =>
    clear hI hX hC hkp hbs HR
    obtain ⟨pos, f, bl, o, vo, rfl, rfl, rfl, hf, hfp, hps, hI, hX, hC, hkp, hbs, hol, HR⟩ := hrel
    by_cases hp : pos < T.size
    · have hw := width_pos T pos hp
      have hdl := decode_le T pos
      have hnx : ∀ ty, (Instr.next (.pointer (some ⟨bb + 1, 0, none⟩)) true ty).run Try.prog wr = _ := fun ty => run_next_at hI hp ty
      have hc := bump_chg wr (bb + 1) T (pos + (Utf8.decode T pos).2)
      have hI2 := bump_iter (p' := pos + (Utf8.decode T pos).2) hI
      have hX2 := hX.chg hc (by omega)
      have hC2 := hC.bump (p := pos + (Utf8.decode T pos).2) hI (by omega)
      have hkp2 := hkp.bump (b := bb + 1) (p := pos + (Utf8.decode T pos).2) (s := T) (by have := hbb.out; omega)
      have hbs2 : base ≤ (wr.bump (bb + 1) T (pos + (Utf8.decode T pos).2)).heap.size := by rw [hc.size]; exact hbs
      have hle := decode_end T pos hp
      have HR1 : Hid ((if blankR (Utf8.decode T pos).1 = false then cutF l x (T.size - (pos + (Utf8.decode T pos).2)) (pos + (Utf8.decode T pos).2) (if f < 0 then (pos : Int) else f) false o
          else cutF l x (T.size - (pos + (Utf8.decode T pos).2)) (pos + (Utf8.decode T pos).2) (-1) true (midF l x bl (Utf8.decode T pos).1 (wordF l x f pos o))) = R) := hid (by
        have h1 := HR.out
        obtain ⟨k, hk⟩ : ∃ k, T.size - pos = k + 1 := ⟨T.size - pos - 1, by omega⟩
        rw [hk, cutF, hT.out, if_pos hp] at h1
        rw [← h1]
        split
        · exact cutF_fuel l x (by rw [hT.out]; omega) (by rw [hT.out]; omega)
        · exact cutF_fuel l x (by rw [hT.out]; omega) (by rw [hT.out]; omega))
      clear hI hX hC hkp hbs HR hc
      have hsd : T.size - (pos + (Utf8.decode T pos).2) < T.size - pos := by omega
      replace hsd := hid hsd
      obtain ⟨p', hp'⟩ : ∃ p', pos + (Utf8.decode T pos).2 = p' := ⟨_, rfl⟩
      obtain ⟨rv, hrv⟩ : ∃ rv, (Utf8.decode T pos).1 = rv := ⟨_, rfl⟩
      rw [hp'] at hnx hI2 hX2 hC2 hkp2 hbs2 HR1 hsd hle
      rw [hrv] at hnx HR1 hdl
      have hpp : pos < p' := by omega
      have hp's : p' ≤ T.size := hle
      clear hp' hrv hw
      obtain ⟨q, hq⟩ : ∃ q, blankR rv = q := ⟨_, rfl⟩
      rw [hq] at HR1
      have HQ := hid hq
      clear hq
      go_upto_region 6 with fail
      clear hnx
      generalize wr.bump (bb + 1) T p' = w2 at *
      go_cut [28] (fun s28 wz => s28 = .bool (!q) ∧ w2 = wz)
      case first =>
        by_cases h9 : rv = 9
        · have g9 : ((rv : Int) != 9) = false := by simp [h9]
          have HZ : Hid (q = true) := hid (by rw [← HQ.out]; simp [blankR, h9])
          clear h9
          go_wp2_with fail
          go_meet
          exact ⟨by rw [HZ.out]; rfl, rfl⟩
        · have g9 : ((rv : Int) != 9) = true := by simp; omega
          by_cases h10 : rv = 10
          · have g10 : ((rv : Int) != 10) = false := by simp [h10]
            have HZ : Hid (q = true) := hid (by rw [← HQ.out]; simp [blankR, h10])
            clear h10
            go_wp2_with fail
            go_meet
            exact ⟨by rw [HZ.out]; rfl, rfl⟩
          · have g10 : ((rv : Int) != 10) = true := by simp; omega
            by_cases h12 : rv = 12
            · have g12 : ((rv : Int) != 12) = false := by simp [h12]
              have HZ : Hid (q = true) := hid (by rw [← HQ.out]; simp [blankR, h12])
              clear h12
              go_wp2_with fail
              go_meet
              exact ⟨by rw [HZ.out]; rfl, rfl⟩
            · have g12 : ((rv : Int) != 12) = true := by simp; omega
              by_cases h32 : rv = 32
              · have g32 : ((rv : Int) != 32) = false := by simp [h32]
                have HZ : Hid (q = true) := hid (by rw [← HQ.out]; simp [blankR, h32])
                clear h32
                go_wp2_with fail
                go_meet
                exact ⟨by rw [HZ.out]; rfl, rfl⟩
              · have g32 : ((rv : Int) != 32) = true := by simp; omega
                have HZ : Hid (q = false) := hid (by rw [← HQ.out]; simp [blankR, h9, h10, h12, h32])
                go_wp2_with fail
                go_meet
                exact ⟨by rw [HZ.out]; rfl, rfl⟩
      case rest =>
      obtain ⟨rfl, rfl⟩ := hcut
      clear HQ
      have hX := hX2
      have hI := hI2
      have hC := hC2
      have hkp := hkp2
      have hbs := hbs2
      clear hX2 hI2 hC2 hkp2 hbs2
      cases q
      · have HR2 : Hid (cutF l x (T.size - p') p' (if f < 0 then (pos : Int) else f) false o = R) := hid (by simpa using HR1.out)
        clear HR1
        by_cases h0 : f < 0
        · have g0 : decide (f < 0) = true := by simpa using h0
          rw [if_pos h0] at HR2
          clear h0
          go_wp2_with fail
          go_roundg (T.size - p')
          case rel => exact ⟨p', (pos : Int), false, _, _, rfl, rfl, rfl, .inr (by omega), by omega, hp's, hI, hX, hC, hkp, hbs, by omega, HR2⟩
          case measure => exact hsd.out
        · have g0 : decide (f < 0) = false := by simpa using h0
          rw [if_neg h0] at HR2
          go_wp2_with fail
          go_roundg (T.size - p')
          case rel => exact ⟨p', f, false, _, _, rfl, rfl, rfl, hf, by omega, hp's, hI, hX, hC, hkp, hbs, by omega, HR2⟩
          case measure => exact hsd.out
      · have HR3 : Hid (cutF l x (T.size - p') p' (-1) true (midF l x bl rv (wordF l x f pos o)) = R) := hid (by simpa using HR1.out)
        clear HR1
        have hwl := wordF_len l x f pos o
        obtain ⟨W, hW⟩ : ∃ W, wordF l x f pos o = W := ⟨_, rfl⟩
        rw [hW] at HR3 hwl
        have HW := hid hW
        clear hW
        go_upto_if 33 with fail
        go_cut [4] (fun s4 wz => s4 = .int .i64 (-1) ∧ (∃ v', Cu wz g base ew eh l A c W v') ∧ Blk wz bb 64 x.arr ∧ IterAt wz (bb + 1) T p' ∧ CuKeep w wz g base ∧ base ≤ wz.heap.size)
        case first =>
          by_cases h0 : 0 ≤ f
          · have g0 : decide (0 ≤ f) = true := by simpa using h0
            obtain ⟨p, rfl⟩ : ∃ p : Nat, f = p := ⟨f.toNat, by omega⟩
            have HW2 : Hid (putF l x 1 (T.extract p pos) o = W) := hid (by
              have h1 := HW.out
              unfold wordF at h1
              rw [if_pos h0, hT.out] at h1
              exact h1)
            have c55 : w2.drew.cell? ⟨bb, 55, none⟩ = some (.string T) := by
              have : w2.cell? ⟨bb, 55, none⟩ = some (.string x.text) := hX.cell 55
              rw [hT.out] at this
              exact this
            have s1 : (0 : Int) ≤ (p : Int) := by omega
            have s2 : (p : Int) ≤ (pos : Int) := by omega
            have s3 : (pos : Int) ≤ (T.size : Int) := by omega
            have s4 : p ≤ pos := by omega
            have s5 : pos ≤ T.size := by omega
            clear h0 hf
            go_upto_region 11 with fail
            refine wp_region_noPanic ?_
            refine Ord.region_Q (S := fun Z : World => Blk Z bb 64 x.arr ∧ Z.cell? ⟨bb, 55, none⟩ = some (.string T)) 999 (.one 0 true (.one 1 true (.one 2 true (.one 3 true (.one 4 true (.one 5 true (.one 6 true (.one 7 false .nil)))))))) (by kernel_rfl) (by kernel_rfl) (by kernel_rfl) (by decide) (fun _ _ _ _ _ h => h) (⟨hX.drew, c55⟩) (fun hS0 => ?_)
            simp only [Ord.layT, List.getElem?_cons_zero, List.getElem?_cons_succ]
            (refine Ord.takeQ (v := ?_) (Or.inl ⟨rfl, ?_⟩) ?_; rotate_left; (intro w hSw; (try dsimp only at hSw); go_simp; try (with_reducible rfl)); (try simp only [Act.put, List.setIfInBounds_toArray, List.set_cons_zero, List.set_cons_succ]))
            (refine Ord.takeQ (yieldsIf_load_mid rfl _ _ rfl bb 0 rfl _ _ (fun w' h => h.1.range) Try.underlying64 rfl (info_bx_list _)) ?_; (try simp only [Act.put, List.setIfInBounds_toArray, List.set_cons_zero, List.set_cons_succ]))
            (refine Ord.takeQ (v := ?_) (Or.inl ⟨rfl, ?_⟩) ?_; rotate_left; (intro w hSw; (try dsimp only at hSw); go_simp; try (with_reducible rfl)); (try simp only [Act.put, List.setIfInBounds_toArray, List.set_cons_zero, List.set_cons_succ]))
            (refine Ord.takeQ (v := ?_) (Or.inl ⟨rfl, ?_⟩) ?_; rotate_left; (intro w hSw; (try dsimp only at hSw); go_simp; try (with_reducible rfl)); (try simp only [Act.put, List.setIfInBounds_toArray, List.set_cons_zero, List.set_cons_succ]))
            (refine Ord.takeQ (v := ?_) (Or.inl ⟨rfl, ?_⟩) ?_; rotate_left; (intro w hSw; (try dsimp only at hSw); go_simp; try (with_reducible rfl)); (try simp only [Act.put, List.setIfInBounds_toArray, List.set_cons_zero, List.set_cons_succ]))
            (refine Ord.takeQ (v := ?_) (Or.inl ⟨rfl, ?_⟩) ?_; rotate_left; (intro w hSw; (try dsimp only at hSw); go_simp; try (with_reducible rfl)); (try simp only [Act.put, List.setIfInBounds_toArray, List.set_cons_zero, List.set_cons_succ]))
            (refine Ord.takeQ (v := ?_) (Or.inl ⟨rfl, ?_⟩) ?_; rotate_left; (intro w hSw; (try dsimp only at hSw); go_simp; try (with_reducible rfl)); (try simp only [Act.put, List.setIfInBounds_toArray, List.set_cons_zero, List.set_cons_succ]))
            refine Ord.aloneQ rfl rfl (fun K hK => ?_)
            go_simp
            refine (cutter_put g base ew eh l A c x 1 (T.extract p pos) o _ w2.drew (by omega) hl (by simp; omega) hC.drew).mono ?_
            rintro e w5 ⟨rfl, ⟨v5, hC5⟩, hk5⟩
            have hS5 : w5.cell? ⟨bb, 55, none⟩ = some (.string T) := by
              have h5 : w5.cell? ⟨bb, 55, none⟩ = some (.string x.text) := (hk5.blk hS0.1 hne (by decide)).cell 55
              rw [hT.out] at h5
              exact h5
            go_wp2_with fail
            (try simp only [Act.put, List.setIfInBounds_toArray, List.set_cons_zero, List.set_cons_succ])
            refine hK.out _ _ (⟨hk5.blk hS0.1 hne (by decide), hS5⟩) (fun _ => ?_)
            clear hK K
            refine Ord.doneQ (NoPanic.normal ?_)
            have hX5 := hk5.blk hX.drew hne (by decide)
            have hI5 := hk5.iter (show IterAt w2.drew (bb + 1) T p' from hI)
            have hkp5 := (hkp.on ((Drawn.refl _).drew.below _)).trans hk5
            have hbs5 : base ≤ w5.heap.size := Nat.le_trans (by simpa using hbs) hk5.size
            clear hX hI hkp hbs hC hk5 c55 hS0
            go_wp2_with fail
            go_meet
            exact ⟨rfl, ⟨_, by rw [← HW2.out]; exact hC5⟩, hX5, hI5, hkp5, hbs5⟩
          · have g0 : decide (0 ≤ f) = false := by simpa using h0
            have HW2 : Hid (o = W) := hid (by
              have h1 := HW.out
              unfold wordF at h1
              rw [if_neg h0] at h1
              exact h1)
            obtain rfl : f = -1 := by omega
            clear h0
            go_wp2_with fail
            go_meet
            exact ⟨rfl, ⟨_, by rw [← HW2.out]; exact hC⟩, hX, hI, hkp, hbs⟩
        case rest =>
        clear hX hI hC hkp hbs HW
        obtain ⟨rfl, ⟨vw, hC⟩, hX, hI, hkp, hbs⟩ := hcut
        obtain ⟨w3, rfl⟩ : ∃ z, z = wc := ⟨_, rfl⟩
        have c44 : w3.cell? ⟨bb, 44, none⟩ = some (.bool x.pre) := hX.cell 44
        obtain ⟨pr, hpr⟩ : ∃ pr, x.pre = pr := ⟨_, rfl⟩
        rw [hpr] at c44
        cases pr
        · cases bl
          · have HR2 : Hid (cutF l x (T.size - p') p' (-1) true (putF l x 2 sp1 W) = R) := hid (by have h1 := HR3.out; unfold midF at h1; simpa [hpr] using h1)
            have hml := putF_len l x 2 sp1 W
            clear HR3 hpr
            go_wp2_with (refine stop_load 64 _ rfl rfl ?_)
            refine ⟨?_⟩
            refine wl_load rfl 64 _ rfl _ rfl _ _ _ hX Try.underlying64 rfl (info_bx_arr _) ?_
            (try simp only [Act.put, List.setIfInBounds_toArray, List.set_cons_zero, List.set_cons_succ])
            go_wp2_with fail
            refine (cutter_put g base ew eh l A c x 2 sp1 W _ _ (by omega) hl hbs hC).mono ?_
            rintro e w6 ⟨rfl, ⟨v6, hC6⟩, hk6⟩
            have hX6 := hk6.blk hX hne (by decide)
            have hI6 := hk6.iter hI
            have hkp6 := hkp.trans hk6
            have hbs6 := Nat.le_trans hbs hk6.size
            clear hX hI hC hkp hk6
            go_wp2_with fail
            go_roundg (T.size - p')
            case rel => exact ⟨p', -1, true, _, _, rfl, rfl, rfl, .inl rfl, by omega, hp's, hI6, hX6, hC6, hkp6, by omega, by omega, HR2⟩
            case measure => exact hsd.out
          · have HR2 : Hid (cutF l x (T.size - p') p' (-1) true W = R) := hid (by have h1 := HR3.out; unfold midF at h1; simpa [hpr] using h1)
            clear HR3 hpr
            go_wp2_with fail
            go_roundg (T.size - p')
            case rel => exact ⟨p', -1, true, _, _, rfl, rfl, rfl, .inl rfl, by omega, hp's, hI, hX, hC, hkp, hbs, by omega, HR2⟩
            case measure => exact hsd.out
        · by_cases h10 : rv = 10
          · have g10 : ((rv : Int) == 10) = true := by simp [h10]
            have HR2 : Hid (cutF l x (T.size - p') p' (-1) true (putF l x 3 ByteArray.empty W) = R) := hid (by have h1 := HR3.out; unfold midF at h1; simpa [hpr, h10] using h1)
            have hml := putF_len l x 3 ByteArray.empty W
            clear HR3 hpr h10
            go_wp2_with (refine stop_load 64 _ rfl rfl ?_)
            refine ⟨?_⟩
            refine wl_load rfl 64 _ rfl _ rfl _ _ _ hX Try.underlying64 rfl (info_bx_arr _) ?_
            (try simp only [Act.put, List.setIfInBounds_toArray, List.set_cons_zero, List.set_cons_succ])
            go_wp2_with fail
            refine (cutter_put g base ew eh l A c x 3 ByteArray.empty W _ _ (by omega) hl hbs hC).mono ?_
            rintro e w6 ⟨rfl, ⟨v6, hC6⟩, hk6⟩
            have hX6 := hk6.blk hX hne (by decide)
            have hI6 := hk6.iter hI
            have hkp6 := hkp.trans hk6
            have hbs6 := Nat.le_trans hbs hk6.size
            clear hX hI hC hkp hk6
            go_wp2_with fail
            go_roundg (T.size - p')
            case rel => exact ⟨p', -1, true, _, _, rfl, rfl, rfl, .inl rfl, by omega, hp's, hI6, hX6, hC6, hkp6, by omega, by omega, HR2⟩
            case measure => exact hsd.out
          · have g10 : ((rv : Int) == 10) = false := by simp; omega
            have HR2 : Hid (cutF l x (T.size - p') p' (-1) true (putF l x 2 sp1 W) = R) := hid (by have h1 := HR3.out; unfold midF at h1; simpa [hpr, h10] using h1)
            have hml := putF_len l x 2 sp1 W
            clear HR3 hpr
            go_wp2_with (refine stop_load 64 _ rfl rfl ?_)
            refine ⟨?_⟩
            refine wl_load rfl 64 _ rfl _ rfl _ _ _ hX Try.underlying64 rfl (info_bx_arr _) ?_
            (try simp only [Act.put, List.setIfInBounds_toArray, List.set_cons_zero, List.set_cons_succ])
            go_wp2_with fail
            refine (cutter_put g base ew eh l A c x 2 sp1 W _ _ (by omega) hl hbs hC).mono ?_
            rintro e w6 ⟨rfl, ⟨v6, hC6⟩, hk6⟩
            have hX6 := hk6.blk hX hne (by decide)
            have hI6 := hk6.iter hI
            have hkp6 := hkp.trans hk6
            have hbs6 := Nat.le_trans hbs hk6.size
            clear hX hI hC hkp hk6
            go_wp2_with fail
            go_roundg (T.size - p')
            case rel => exact ⟨p', -1, true, _, _, rfl, rfl, rfl, .inl rfl, by omega, hp's, hI6, hX6, hC6, hkp6, by omega, by omega, HR2⟩
            case measure => exact hsd.out
    · obtain rfl : pos = T.size := by omega
      have hnx : ∀ ty, (Instr.next (.pointer (some ⟨bb + 1, 0, none⟩)) true ty).run Try.prog wr = _ := fun ty => run_next_none hI hp ty
      have HR2 : Hid (wordF l x f T.size o = R) := hid (by
        have h1 := HR.out
        rw [Nat.sub_self, cutF, hT.out] at h1
        exact h1)
      clear HR
      by_cases h0 : 0 ≤ f
      · have g0 : decide (0 ≤ f) = true := by simpa using h0
        obtain ⟨p, rfl⟩ : ∃ p : Nat, f = p := ⟨f.toNat, by omega⟩
        have HW2 : Hid (putF l x 1 (T.extract p T.size) o = R) := hid (by
          have h1 := HR2.out
          unfold wordF at h1
          rw [if_pos h0, hT.out] at h1
          exact h1)
        have c55 : wr.drew.cell? ⟨bb, 55, none⟩ = some (.string T) := by
          have : wr.cell? ⟨bb, 55, none⟩ = some (.string x.text) := hX.cell 55
          rw [hT.out] at this
          exact this
        have s1 : (0 : Int) ≤ (p : Int) := by omega
        have s2 : (p : Int) ≤ (T.size : Int) := by omega
        have s4 : p ≤ T.size := by omega
        clear h0 hf HR2
        go_upto_region 19 with fail
        refine wp_region_noPanic ?_
        refine Ord.region_Q (S := fun Z : World => Blk Z bb 64 x.arr ∧ Z.cell? ⟨bb, 55, none⟩ = some (.string T)) 999 (.one 0 true (.one 1 true (.one 2 true (.one 3 true (.one 4 true (.one 5 true (.one 6 false .nil))))))) (by kernel_rfl) (by kernel_rfl) (by kernel_rfl) (by decide) (fun _ _ _ _ _ h => h) (⟨hX.drew, c55⟩) (fun hS0 => ?_)
        simp only [Ord.layT, List.getElem?_cons_zero, List.getElem?_cons_succ]
        (refine Ord.takeQ (v := ?_) (Or.inl ⟨rfl, ?_⟩) ?_; rotate_left; (intro w hSw; (try dsimp only at hSw); go_simp; try (with_reducible rfl)); (try simp only [Act.put, List.setIfInBounds_toArray, List.set_cons_zero, List.set_cons_succ]))
        (refine Ord.takeQ (yieldsIf_load_mid rfl _ _ rfl bb 0 rfl _ _ (fun w' h => h.1.range) Try.underlying64 rfl (info_bx_list _)) ?_; (try simp only [Act.put, List.setIfInBounds_toArray, List.set_cons_zero, List.set_cons_succ]))
        (refine Ord.takeQ (v := ?_) (Or.inl ⟨rfl, ?_⟩) ?_; rotate_left; (intro w hSw; (try dsimp only at hSw); go_simp; try (with_reducible rfl)); (try simp only [Act.put, List.setIfInBounds_toArray, List.set_cons_zero, List.set_cons_succ]))
        (refine Ord.takeQ (v := ?_) (Or.inl ⟨rfl, ?_⟩) ?_; rotate_left; (intro w hSw; (try dsimp only at hSw); go_simp; try (with_reducible rfl)); (try simp only [Act.put, List.setIfInBounds_toArray, List.set_cons_zero, List.set_cons_succ]))
        (refine Ord.takeQ (v := ?_) (Or.inl ⟨rfl, ?_⟩) ?_; rotate_left; (intro w hSw; (try dsimp only at hSw); go_simp; try (with_reducible rfl)); (try simp only [Act.put, List.setIfInBounds_toArray, List.set_cons_zero, List.set_cons_succ]))
        (refine Ord.takeQ (v := ?_) (Or.inl ⟨rfl, ?_⟩) ?_; rotate_left; (intro w hSw; (try dsimp only at hSw); go_simp; try (with_reducible rfl)); (try simp only [Act.put, List.setIfInBounds_toArray, List.set_cons_zero, List.set_cons_succ]))
        refine Ord.aloneQ rfl rfl (fun K hK => ?_)
        go_simp
        refine (cutter_put g base ew eh l A c x 1 (T.extract p T.size) o _ wr.drew (by omega) hl (by simp; omega) hC.drew).mono ?_
        rintro e w5 ⟨rfl, ⟨v5, hC5⟩, hk5⟩
        have hS5 : w5.cell? ⟨bb, 55, none⟩ = some (.string T) := by
          have h5 : w5.cell? ⟨bb, 55, none⟩ = some (.string x.text) := (hk5.blk hS0.1 hne (by decide)).cell 55
          rw [hT.out] at h5
          exact h5
        go_wp2_with fail
        (try simp only [Act.put, List.setIfInBounds_toArray, List.set_cons_zero, List.set_cons_succ])
        refine hK.out _ _ (⟨hk5.blk hS0.1 hne (by decide), hS5⟩) (fun _ => ?_)
        clear hK K
        refine Ord.doneQ (NoPanic.normal ?_)
        have hkp5 := (hkp.on ((Drawn.refl _).drew.below _)).trans hk5
        clear hX hI hkp hbs hC hk5 c55 hS0
        go_wp2_with fail
        exact bodyPost_end (results_none rfl _ _ _) rfl ⟨rfl, ⟨_, by rw [← HW2.out]; exact hC5⟩, hkp5⟩
      · have g0 : decide (0 ≤ f) = false := by simpa using h0
        have HW2 : Hid (o = R) := hid (by
          have h1 := HR2.out
          unfold wordF at h1
          rw [if_neg h0] at h1
          exact h1)
        clear HR2 h0
        go_wp2_with fail
        exact bodyPost_end (results_none rfl _ _ _) rfl ⟨rfl, ⟨_, by rw [← HW2.out]; exact hC⟩, hkp⟩
end Go.Proofs.Yteghacdpfhohoaa
