/-
  The cutter's all; Pieces.
-/
import Derived.Test.YteghacdpfhohoaaTextE
namespace Go.Proofs.Yteghacdpfhohoaa
open Go.RowKit Num Mem Opn
set_option linter.unusedVariables false
set_option linter.unusedSimpArgs false
set_option linter.unusedSimpArgs false
namespace Num
def Bx.cells (x : Bx) : List Value := x.arr.toList
def boxF (l : List Int) (x : Bx) (out : List Pz) : List Pz := if x.kind = 7 then cutF l x x.text.size 0 (-1) false out else putF l x 3 ByteArray.empty out
def allF (l : List Int) : List Bx → List Pz → List Pz
  | [], out => out
  | x :: t, out => allF l t (boxF l x out)
def piecesF (l : List Int) (xs : List Bx) : List Pz := trimF (allF l xs [])
theorem midF_len (l : List Int) (x : Bx) (bl : Bool) (r : Nat) (out : List Pz) : (midF l x bl r out).length ≤ out.length + 1 := by
  unfold midF
  split
  · exact putF_len _ _ _ _ _
  · split
    · exact putF_len _ _ _ _ _
    · omega
theorem cutF_len (l : List Int) (x : Bx) : ∀ (k pos : Nat) (f : Int) (bl : Bool) (out : List Pz), (cutF l x k pos f bl out).length ≤ out.length + 2 * k + 1 := by
  intro k
  induction k with
  | zero => intro pos f bl out; have := wordF_len l x f x.text.size out; simpa [cutF] using this
  | succ k ih =>
    intro pos f bl out
    rw [cutF]
    split
    · split
      · have := ih (pos + (Utf8.decode x.text pos).2) (if f < 0 then (pos : Int) else f) false out; omega
      · have h1 := ih (pos + (Utf8.decode x.text pos).2) (-1) true (midF l x bl (Utf8.decode x.text pos).1 (wordF l x f pos out))
        have h2 := midF_len l x bl (Utf8.decode x.text pos).1 (wordF l x f pos out)
        have h3 := wordF_len l x f pos out
        omega
    · have := wordF_len l x f x.text.size out; omega
theorem boxF_len (l : List Int) (x : Bx) (out : List Pz) (h : x.text.size ≤ 4000) : (boxF l x out).length ≤ out.length + 9000 := by
  unfold boxF
  split
  · have := cutF_len l x x.text.size 0 (-1) false out; omega
  · have := putF_len l x 3 ByteArray.empty out; omega
end Num
theorem bxc_length (x : Bx) : x.cells.length = 57 := rfl
theorem cutter_all_nil (g : Nat) (w : World) : Calls Try.prog 59 #[.pointer (some ⟨g, 0, none⟩), .slice none 0 0] w fun e w' => e = .returned (.tuple #[]) ∧ w = w' := by
  go_enter Try.func59, Try.ntmps59
  go_wp2_with fail
  go_loopw [8] (fun s8 wr => s8 = .int .i64 0 ∧ w = wr) (fun _ _ => 0)
  case atStart => exact ⟨rfl, rfl⟩
  case round =>
    obtain ⟨rfl, rfl⟩ := hrel
    go_wp2_with fail
    exact bodyPost_end (results_none rfl _ _ _) rfl ⟨rfl, rfl⟩
set_option maxRecDepth 100000 in
set_option maxHeartbeats 4000000 in
theorem cutter_all (g base : Nat) (ew eh : Int) (l : List Int) (A : Option Addr) (c : Nat) (xs : List Bx) (A2 : Option Addr) (c2 : Nat) (out : List Pz) (v : Value) (w : World) (hx : ∀ x ∈ xs, (x.kind = 7 ∨ x.kind = 8) ∧ x.text.size ≤ 4000) (hn : out.length + 9000 * xs.length ≤ 90000) (hl : l.length ≤ 1000000)
    (hbase : base ≤ w.heap.size) (hA2 : Recs w g A2 57 Bx.cells xs) (hc : Cu w g base ew eh l A c out v) :
    Calls Try.prog 59 #[.pointer (some ⟨g, 0, none⟩), .slice A2 xs.length c2] w fun e w' => e = .returned (.tuple #[]) ∧ (∃ v', Cu w' g base ew eh l A c (allF l xs out) v') ∧ CuKeep w w' g base := by
  obtain ⟨R, hR⟩ : ∃ R, allF l xs out = R := ⟨_, rfl⟩
  have HR : Hid (allF l (xs.drop 0) out = R) := hid (by simpa using hR)
  rw [hR]
  clear hR
  have hgw := hc.blk.lt
  have hgb := hc.gb
  replace hx := hid hx
  go_enter Try.func59, Try.ntmps59
  go_wp2_with fail
  go_loopw [8] (fun s8 wr => ∃ (k : Nat) (o : List Pz) (vo : Value), k ≤ xs.length ∧ s8 = .int .i64 k ∧ Cu wr g base ew eh l A c o vo ∧ CuKeep w wr g base ∧ base ≤ wr.heap.size ∧ o.length + 9000 * (xs.length - k) ≤ 90000 ∧ Hid (allF l (xs.drop k) o = R)) (fun i _ => xs.length - (intOf i).toNat)
  case atStart => exact ⟨0, out, v, Nat.zero_le _, rfl, hc, CuKeep.of_below (Below.refl _ _), hbase, by simpa using hn, HR⟩
  case round =>
    clear HR
    obtain ⟨k, o, vo, hk, rfl, hC, hkp, hbs, hol, HR⟩ := hrel
    by_cases hlt : k < xs.length
    · have dk : decide ((k : Int) < (xs.length : Int)) = true := decide_eq_true (by omega)
      obtain ⟨b, off, x, rfl, hb, hxk, hcells⟩ := (hA2.below (hkp.below g (Nat.le_refl _) (by omega) (by omega))).at_ hlt
      have hrg : wr.rangeAt b (off + k * 57) x.arr.toList := fun j u hj => hcells j u hj
      obtain ⟨hkind, hsz⟩ := hx.out x (List.mem_of_getElem? hxk.out)
      have HR2 : Hid (allF l (xs.drop (k + 1)) (boxF l x o) = R) := hid (by
        have h1 := HR.out
        rw [List.drop_eq_getElem_cons hlt] at h1
        have h2 : xs[k] = x := by have := hxk.out; rw [List.getElem?_eq_getElem hlt] at this; exact Option.some.inj this
        rw [h2, allF] at h1
        exact h1)
      have hbl := boxF_len l x o hsz
      have hzz := hC.blk.lt
      clear HR hcells
      go_wp2_with (first | refine stop_load 64 _ rfl rfl ?_ | refine stop_store 64 _ _ rfl rfl ?_)
      refine ⟨?_⟩
      refine wl_load_at rfl 64 _ rfl b (off + k * 57) rfl x.arr _ hrg Try.underlying64 rfl (info_bx_arr _) ?_
      (try simp only [Act.put, List.setIfInBounds_toArray, List.set_cons_zero, List.set_cons_succ])
      go_wp2_with (first | refine stop_load 64 _ rfl rfl ?_ | refine stop_store 64 _ _ rfl rfl ?_)
      refine ⟨?_⟩
      refine wl_store rfl 64 _ _ rfl wr.heap.size x.arr rfl rfl 64 zeroB (Blk.new _ _ _) rfl (info_bx_arr _) (bx_one _) ?_
      intro w2 hX hch
      (try simp only [Act.put, List.setIfInBounds_toArray, List.set_cons_zero, List.set_cons_succ])
      have hb2 : Below wr.heap.size wr w2 := ((Below.refl wr.heap.size wr).alloc (Nat.le_refl _) _).trans (hch.below (Nat.le_refl _))
      have hC2 := hC.below hb2
      have hkp2 := hkp.on hb2
      have hbs2 := Nat.le_trans hbs hb2.size
      have hne : wr.heap.size ≠ g := by omega
      clear hC hkp hbs hb2 hch hrg
      generalize wr.heap.size = bb at *
      have c0 : w2.cell? ⟨bb, 0, none⟩ = some (.int .i64 x.kind) := hX.cell 0
      by_cases h7 : x.kind = 7
      · have e7 : (x.kind == 7) = true := by simpa using h7
        have HB : Hid (boxF l x o = cutF l x x.text.size 0 (-1) false o) := hid (by unfold boxF; rw [if_pos h7])
        rw [HB.out] at HR2 hbl
        clear h7 HB hkind
        go_wp2_with (first | refine stop_load 64 _ rfl rfl ?_ | refine stop_store 64 _ _ rfl rfl ?_)
        refine ⟨?_⟩
        refine wl_load rfl 64 _ rfl _ rfl _ _ _ hX Try.underlying64 rfl (info_bx_arr _) ?_
        (try simp only [Act.put, List.setIfInBounds_toArray, List.set_cons_zero, List.set_cons_succ])
        go_wp2_with fail
        refine (cutter_text g base ew eh l A c x o _ _ (by omega) hl hbs2 hC2).mono ?_
        rintro e w3 ⟨rfl, ⟨v3, hC3⟩, hk3⟩
        have hX3 := hk3.blk hX hne (by decide)
        have c56 : w3.cell? ⟨bb, 56, none⟩ = some (.slice none 0 0) := hX3.cell 56
        have hkp3 := hkp2.trans hk3
        have hbs3 := Nat.le_trans hbs2 hk3.size
        clear hX c0 hC2 hkp2 hbs2 hk3
        go_wp2_with fail
        refine (cutter_all_nil g _).mono ?_
        rintro e w4 ⟨rfl, rfl⟩
        go_wp2_with fail
        go_roundw
        case rel => exact ⟨k + 1, _, _, by omega, by go_num, hC3, hkp3, hbs3, by omega, HR2⟩
        case measure => simp [intOf]; omega
      · have e7 : (x.kind == 7) = false := by simpa using h7
        have h8 : x.kind = 8 := by omega
        have e8 : (x.kind == 8) = true := by simpa using h8
        have HB : Hid (boxF l x o = putF l x 3 ByteArray.empty o) := hid (by unfold boxF; rw [if_neg h7])
        rw [HB.out] at HR2 hbl
        clear h7 h8 HB hkind
        go_wp2_with (first | refine stop_load 64 _ rfl rfl ?_ | refine stop_store 64 _ _ rfl rfl ?_)
        refine ⟨?_⟩
        refine wl_load rfl 64 _ rfl _ rfl _ _ _ hX Try.underlying64 rfl (info_bx_arr _) ?_
        (try simp only [Act.put, List.setIfInBounds_toArray, List.set_cons_zero, List.set_cons_succ])
        go_wp2_with fail
        refine (cutter_put g base ew eh l A c x 3 ByteArray.empty o _ _ (by omega) hl hbs2 hC2).mono ?_
        rintro e w3 ⟨rfl, ⟨v3, hC3⟩, hk3⟩
        have hX3 := hk3.blk hX hne (by decide)
        have c56 : w3.cell? ⟨bb, 56, none⟩ = some (.slice none 0 0) := hX3.cell 56
        have hkp3 := hkp2.trans hk3
        have hbs3 := Nat.le_trans hbs2 hk3.size
        clear hX c0 hC2 hkp2 hbs2 hk3
        go_wp2_with fail
        refine (cutter_all_nil g _).mono ?_
        rintro e w4 ⟨rfl, rfl⟩
        go_wp2_with fail
        go_roundw
        case rel => exact ⟨k + 1, _, _, by omega, by go_num, hC3, hkp3, hbs3, by omega, HR2⟩
        case measure => simp [intOf]; omega
    · obtain rfl : k = xs.length := by omega
      have dk : decide ((xs.length : Int) < (xs.length : Int)) = false := by simp
      have HZ : Hid (o = R) := hid (by have := HR.out; rw [List.drop_of_length_le (Nat.le_refl _), allF] at this; exact this)
      go_wp2_with fail
      exact bodyPost_end (results_none rfl _ _ _) rfl ⟨rfl, ⟨_, by rw [← HZ.out]; exact hC⟩, hkp⟩
set_option maxRecDepth 100000 in
set_option maxHeartbeats 4000000 in
theorem text_Pieces (ew eh : Int) (l : List Int) (A : Option Addr) (c : Nat) (xs : List Bx) (A2 : Option Addr) (c2 : Nat) (w : World) (hx : ∀ x ∈ xs, (x.kind = 7 ∨ x.kind = 8) ∧ x.text.size ≤ 4000) (hn : xs.length ≤ 9) (hl : l.length ≤ 1000000)
    (hA : Ints w w.heap.size A l) (hA2 : Recs w w.heap.size A2 57 Bx.cells xs) :
    Calls Try.prog 31 #[.agg #[.int .i64 ew, .int .i64 eh, .slice A l.length c], .slice A2 xs.length c2] w fun e w' => ∃ v', e = .returned v' ∧ Below w.heap.size w w' ∧ w'.ownsRow w.heap.size 59 57 v' (piecesF l xs).length ((piecesF l xs).flatMap Pz.cells) := by
  have hC : Cu ((w.alloc (.cells #[.int .i64 ew, .int .i64 eh, .slice A l.length c] 36)).alloc (.cells #[.int .i64 ew, .int .i64 eh, .slice A l.length c, .slice none 0 0] 102)) (w.heap.size + 1) (w.heap.size + 2) ew eh l A c [] (.slice none 0 0) :=
    ⟨Blk.newAt _ _ _ (by simp), own_nil _ _ _ _, (hA.below (((Below.refl w.heap.size w).alloc (Nat.le_refl _) _).alloc (by simp) _)).more (by omega), by omega⟩
  have hB : Below w.heap.size w ((w.alloc (.cells #[.int .i64 ew, .int .i64 eh, .slice A l.length c] 36)).alloc (.cells #[.int .i64 ew, .int .i64 eh, .slice A l.length c, .slice none 0 0] 102)) := ((Below.refl w.heap.size w).alloc (Nat.le_refl _) _).alloc (by simp) _
  have hz : Hid (((w.alloc (.cells #[.int .i64 ew, .int .i64 eh, .slice A l.length c] 36)).alloc (.cells #[.int .i64 ew, .int .i64 eh, .slice A l.length c, .slice none 0 0] 102)).heap.size = w.heap.size + 2) := hid (by simp)
  go_enter Try.func31, Try.ntmps31
  go_wp2_with fail
  generalize (w.alloc (.cells #[.int .i64 ew, .int .i64 eh, .slice A l.length c] 36)).alloc (.cells #[.int .i64 ew, .int .i64 eh, .slice A l.length c, .slice none 0 0] 102) = w1 at *
  refine (cutter_all _ (w.heap.size + 2) ew eh l A c xs A2 c2 [] _ w1 hx (by simp; omega) hl (by have := hz.out; omega) ((hA2.below hB).more (by omega)) hC).mono ?_
  rintro e w2 ⟨rfl, ⟨v2, hC2⟩, hk2⟩
  have hB2 := hB.trans (hk2.below w.heap.size (by omega) (by omega) (by have := hz.out; omega))
  have hz2 := hk2.size
  have hlen : (allF l xs []).length ≤ 1000000 := by
    have : ∀ (t : List Bx) (o : List Pz), (∀ x ∈ t, x.text.size ≤ 4000) → (allF l t o).length ≤ o.length + 9000 * t.length := by
      intro t
      induction t with
      | nil => intro o _; simp [allF]
      | cons x t ih =>
        intro o h
        have h1 := ih (boxF l x o) (fun y hy => h y (by simp [hy]))
        have h2 := boxF_len l x o (h x (by simp))
        simp only [allF, List.length_cons]
        omega
    have := this xs [] (fun x hx' => (hx x hx').2)
    simp at this
    omega
  clear hC hk2 hB
  go_wp2_with fail
  refine (cutter_trim _ (w.heap.size + 2) ew eh l A c (allF l xs []) _ w2 hlen hC2).mono ?_
  rintro e w3 ⟨rfl, ⟨v3, hC3⟩, hk3⟩
  have hB3 := hB2.trans (hk3.below w.heap.size (by omega) (by omega) (by have := hz.out; omega))
  have c3 : w3.cell? ⟨w.heap.size + 1, 3, none⟩ = some v3 := hC3.blk.cell 3
  have ho := hC3.own
  obtain ⟨A4, c4, rfl, -⟩ := own_some ho
  go_wp2_with fail
  go_ret
  refine ⟨_, rfl, hB3, ?_⟩
  refine ⟨ho.1, ?_⟩
  rcases ho.2 with h | ⟨q, cap, cur, e1, h1, rest⟩
  · exact .inl h
  · exact .inr ⟨q, cap, cur, e1, by omega, rest⟩
end Go.Proofs.Yteghacdpfhohoaa
