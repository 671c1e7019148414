/-
  The walks of casementref16's smaller functions.
-/
import Derived.Test.YtkkabnkhdhlhkaaPlaceG
namespace Go.Proofs.Ytkkabnkhdhlhkaa
open Go.RowKit Num Mem Opn
set_option linter.unusedVariables false
set_option linter.unusedSimpArgs false
namespace Num
def Sd.arr (x : Sd) : Array Value := #[.int .i64 x.t, .int .i64 x.r, .int .i64 x.b, .int .i64 x.l]
def Sd.zero : Sd := ⟨0, 0, 0, 0⟩
def fours (k0 n0 k1 n1 k2 n2 k3 n3 room : Int) : Sd := ⟨len k0 n0 room, len k1 n1 room, len k2 n2 room, len k3 n3 room⟩
def Sty.rmargin (s : Sty) (room : Int) : Sd := fours s.m0k s.m0n s.m1k s.m1n s.m2k s.m2n s.m3k s.m3n room
def Fr.racross (f : Fr) : Int := sums [f.p.l, f.p.r, f.b.l, f.b.r] 4
def Fr.rdown (f : Fr) : Int := sums [f.p.t, f.p.b, f.b.t, f.b.b] 4
end Num
theorem info_sd (x : Sd) : (Try.prog.info? 56).map (·.size) = some x.arr.size := by kernel_rfl
theorem sd_one (x : Sd) : x.arr.all (·.oneCell') = true := by simp [Sd.arr, Value.oneCell']
theorem info_rf' : (Try.prog.info? 58).map (·.size) = some 13 := by kernel_rfl
theorem info_rf (f : Fr) : (Try.prog.info? 58).map (·.size) = some f.arr.size := info_rf'
theorem rsum4 (a b c d : Int) (W : World) (g : Nat) (hb : Blk W g 2 #[.int .i64 a, .int .i64 b, .int .i64 c, .int .i64 d]) : Calls Try.prog 57 #[.slice (some ⟨g, 0, none⟩) 4 4] W fun e w' => e = .returned (.int .i64 (sums [a, b, c, d] 4)) ∧ W = w' :=
  ref_Sum [a, b, c, d] _ 4 (g + 1) W (by simp) (Ints.ofBlk (l := [a, b, c, d]) hb (by omega))
theorem rsum3 (a b c : Int) (W : World) (g : Nat) (hb : Blk W g 2 #[.int .i64 a, .int .i64 b, .int .i64 c]) : Calls Try.prog 57 #[.slice (some ⟨g, 0, none⟩) 3 3] W fun e w' => e = .returned (.int .i64 (sums [a, b, c] 3)) ∧ W = w' :=
  ref_Sum [a, b, c] _ 3 (g + 1) W (by simp) (Ints.ofBlk (l := [a, b, c]) hb (by omega))
theorem rsum5 (a b c d f : Int) (W : World) (g : Nat) (hb : Blk W g 2 #[.int .i64 a, .int .i64 b, .int .i64 c, .int .i64 d, .int .i64 f]) : Calls Try.prog 57 #[.slice (some ⟨g, 0, none⟩) 5 5] W fun e w' => e = .returned (.int .i64 (sums [a, b, c, d, f] 5)) ∧ W = w' :=
  ref_Sum [a, b, c, d, f] _ 5 (g + 1) W (by simp) (Ints.ofBlk (l := [a, b, c, d, f]) hb (by omega))
theorem ref_Length (k n room : Int) (w : World) : Calls Try.prog 50 #[.agg #[.int .i64 k, .int .i64 n], .int .i64 room] w fun e w' =>
    e = .returned (.tuple #[.int .i64 (len k n room), .bool (given k)]) ∧ Below w.heap.size w w' := by
  by_cases h1 : k = 1
  · subst h1
    go_enter Try.func50, Try.ntmps50
    go_wp2_with fail
    go_returns
    exact ⟨rfl, by go_grown⟩
  · by_cases h2 : k = 2
    · subst h2
      go_enter Try.func50, Try.ntmps50
      go_wp2_with fail
      refine (ref_Part room n 6400 _).mono ?_
      rintro e w1 ⟨rfl, rfl⟩
      go_wp2_with fail
      go_returns
      exact ⟨rfl, by go_grown⟩
    · have e1 : (k == 1) = false := by simpa using h1
      have e2 : (k == 2) = false := by simpa using h2
      have HL : Hid (len k n room = 0 ∧ given k = false) := by show _ ∧ _; unfold len given; simp [h1, h2]
      clear h1 h2
      go_enter Try.func50, Try.ntmps50
      go_wp2_with fail
      go_returns
      exact ⟨by rw [HL.out.1, HL.out.2]; rfl, by go_grown⟩
theorem ref_Up (n : Int) (w : World) : Calls Try.prog 68 #[.int .i64 n] w fun e w' => e = .returned (.int .i64 (max n 0)) ∧ w = w' := by
  rcases Int.lt_or_le n 0 with h | h
  · have HM : Hid (max n 0 = 0) := by show _ = _; omega
    go_enter Try.func68, Try.ntmps68
    go_wp2_with fail
    go_ret
    exact ⟨ret_int (by rw [HM.out]), rfl⟩
  · have HM : Hid (max n 0 = n) := by show _ = _; omega
    go_enter Try.func68, Try.ntmps68
    go_wp2_with fail
    go_ret
    exact ⟨ret_int (by rw [HM.out]), rfl⟩
set_option maxRecDepth 100000 in
theorem ref_four (k0 n0 k1 n1 k2 n2 k3 n3 room : Int) (w : World) : Calls Try.prog 67 #[.agg #[.int .i64 k0, .int .i64 n0, .int .i64 k1, .int .i64 n1, .int .i64 k2, .int .i64 n2, .int .i64 k3, .int .i64 n3], .int .i64 room] w fun e w' =>
    e = .returned (.agg (fours k0 n0 k1 n1 k2 n2 k3 n3 room).arr) ∧ Below w.heap.size w w' := by
  have hS : Blk ((w.alloc (.cells #[.int .i64 k0, .int .i64 n0, .int .i64 k1, .int .i64 n1, .int .i64 k2, .int .i64 n2, .int .i64 k3, .int .i64 n3] 24)).alloc (.cells Sd.zero.arr 56)) w.heap.size 24 #[.int .i64 k0, .int .i64 n0, .int .i64 k1, .int .i64 n1, .int .i64 k2, .int .i64 n2, .int .i64 k3, .int .i64 n3] := (Blk.new _ _ _).alloc _
  have hR : Blk ((w.alloc (.cells #[.int .i64 k0, .int .i64 n0, .int .i64 k1, .int .i64 n1, .int .i64 k2, .int .i64 n2, .int .i64 k3, .int .i64 n3] 24)).alloc (.cells Sd.zero.arr 56)) (w.heap.size + 1) 56 Sd.zero.arr := Blk.newAt _ _ _ (by simp)
  have hg : Below w.heap.size w ((w.alloc (.cells #[.int .i64 k0, .int .i64 n0, .int .i64 k1, .int .i64 n1, .int .i64 k2, .int .i64 n2, .int .i64 k3, .int .i64 n3] 24)).alloc (.cells Sd.zero.arr 56)) := by go_grown
  go_enter Try.func67, Try.ntmps67
  go_upto_region 1 with fail
  refine wp_forget (fun W => Below w.heap.size w W ∧ Blk W w.heap.size 24 #[.int .i64 k0, .int .i64 n0, .int .i64 k1, .int .i64 n1, .int .i64 k2, .int .i64 n2, .int .i64 k3, .int .i64 n3] ∧ Blk W (w.heap.size + 1) 56 Sd.zero.arr) ⟨hg, hS, hR⟩ ?_
  clear hg hS hR
  rintro w0 ⟨hg, hS, hR⟩
  have c0 : w0.cell? ⟨w.heap.size, 0, none⟩ = some (.int .i64 k0) := hS.cell 0
  have c1 : w0.cell? ⟨w.heap.size, 1, none⟩ = some (.int .i64 n0) := hS.cell 1
  go_wp2_with fail
  refine (ref_Length k0 n0 room _).mono ?_
  rintro e w1 ⟨rfl, hb⟩
  replace hS := hS.below hb hS.lt
  replace hR := hR.below hb hR.lt
  replace hg := hg.trans (hb.mono hg.size)
  clear hb c0 c1
  have c2 : w1.cell? ⟨w.heap.size, 2, none⟩ = some (.int .i64 k1) := hS.cell 2
  have c3 : w1.cell? ⟨w.heap.size, 3, none⟩ = some (.int .i64 n1) := hS.cell 3
  go_wp2_with fail
  refine (ref_Length k1 n1 room _).mono ?_
  rintro e w2 ⟨rfl, hb⟩
  replace hS := hS.below hb hS.lt
  replace hR := hR.below hb hR.lt
  replace hg := hg.trans (hb.mono hg.size)
  clear hb c2 c3
  have c4 : w2.cell? ⟨w.heap.size, 4, none⟩ = some (.int .i64 k2) := hS.cell 4
  have c5 : w2.cell? ⟨w.heap.size, 5, none⟩ = some (.int .i64 n2) := hS.cell 5
  go_wp2_with fail
  refine (ref_Length k2 n2 room _).mono ?_
  rintro e w3 ⟨rfl, hb⟩
  replace hS := hS.below hb hS.lt
  replace hR := hR.below hb hR.lt
  replace hg := hg.trans (hb.mono hg.size)
  clear hb c4 c5
  have c6 : w3.cell? ⟨w.heap.size, 6, none⟩ = some (.int .i64 k3) := hS.cell 6
  have c7 : w3.cell? ⟨w.heap.size, 7, none⟩ = some (.int .i64 n3) := hS.cell 7
  go_wp2_with fail
  refine (ref_Length k3 n3 room _).mono ?_
  rintro e w4 ⟨rfl, hb⟩
  replace hS := hS.below hb hS.lt
  replace hR := hR.below hb hR.lt
  replace hg := hg.trans (hb.mono hg.size)
  clear hb c6 c7
  go_wp2_with (first | (first | refine stop_load 56 _ rfl rfl ?_ | refine stop_store 56 _ _ rfl rfl ?_))
  refine ⟨?_⟩
  refine wl_store rfl 56 _ _ rfl (w.heap.size + 1) (fours k0 n0 k1 n1 k2 n2 k3 n3 room).arr rfl rfl 56 Sd.zero.arr hR rfl (info_sd _) (sd_one _) ?_
  intro w5 hQ hc
  replace hg := hg.trans (hc.below (by omega))
  clear hS hR hc
  (try simp only [Act.put, List.setIfInBounds_toArray, List.set_cons_zero, List.set_cons_succ])
  go_wp2_with fail
  refine bodyPost_ret (results_row 4 56 _ rfl rfl hQ _ rfl rfl (info_sd _)) rfl ?_
  exact ⟨rfl, hg⟩
set_option maxRecDepth 100000 in
theorem ref_Margin (s : Sty) (room : Int) (w : World) : Calls Try.prog 51 #[.agg s.arr, .int .i64 room] w fun e w' => e = .returned (.agg (s.rmargin room).arr) ∧ Below w.heap.size w w' := by
  have hS : Blk ((w.alloc (.cells s.arr 28)).alloc (.cells Sd.zero.arr 56)) w.heap.size 28 s.arr := (Blk.new _ _ _).alloc _
  have hR : Blk ((w.alloc (.cells s.arr 28)).alloc (.cells Sd.zero.arr 56)) (w.heap.size + 1) 56 Sd.zero.arr := Blk.newAt _ _ _ (by simp)
  have hg : Below w.heap.size w ((w.alloc (.cells s.arr 28)).alloc (.cells Sd.zero.arr 56)) := by go_grown
  go_enter Try.func51, Try.ntmps51
  go_upto_region 1 with fail
  refine wp_forget (fun W => Below w.heap.size w W ∧ Blk W w.heap.size 28 s.arr ∧ Blk W (w.heap.size + 1) 56 Sd.zero.arr) ⟨hg, hS, hR⟩ ?_
  clear hg hS hR
  rintro w0 ⟨hg, hS, hR⟩
  have c0 : w0.cell? ⟨w.heap.size, 8, none⟩ = some (.int .i64 s.m0k) := hS.cell 8
  have c1 : w0.cell? ⟨w.heap.size, 9, none⟩ = some (.int .i64 s.m0n) := hS.cell 9
  have c2 : w0.cell? ⟨w.heap.size, 10, none⟩ = some (.int .i64 s.m1k) := hS.cell 10
  have c3 : w0.cell? ⟨w.heap.size, 11, none⟩ = some (.int .i64 s.m1n) := hS.cell 11
  have c4 : w0.cell? ⟨w.heap.size, 12, none⟩ = some (.int .i64 s.m2k) := hS.cell 12
  have c5 : w0.cell? ⟨w.heap.size, 13, none⟩ = some (.int .i64 s.m2n) := hS.cell 13
  have c6 : w0.cell? ⟨w.heap.size, 14, none⟩ = some (.int .i64 s.m3k) := hS.cell 14
  have c7 : w0.cell? ⟨w.heap.size, 15, none⟩ = some (.int .i64 s.m3n) := hS.cell 15
  go_wp2_with (first | (first | refine stop_load 56 _ rfl rfl ?_ | refine stop_store 56 _ _ rfl rfl ?_))
  refine (ref_four s.m0k s.m0n s.m1k s.m1n s.m2k s.m2n s.m3k s.m3n room _).mono ?_
  rintro e w1 ⟨rfl, hb⟩
  replace hR := hR.below hb hR.lt
  replace hg := hg.trans (hb.mono hg.size)
  clear hb hS c0 c1 c2 c3 c4 c5 c6 c7
  go_wp2_with (first | (first | refine stop_load 56 _ rfl rfl ?_ | refine stop_store 56 _ _ rfl rfl ?_))
  refine ⟨?_⟩
  refine wl_store rfl 56 _ _ rfl (w.heap.size + 1) (s.rmargin room).arr rfl rfl 56 Sd.zero.arr hR rfl (info_sd _) (sd_one _) ?_
  intro w5 hQ hc
  replace hg := hg.trans (hc.below (by omega))
  clear hR hc
  (try simp only [Act.put, List.setIfInBounds_toArray, List.set_cons_zero, List.set_cons_succ])
  go_wp2_with fail
  refine bodyPost_ret (results_row 4 56 _ rfl rfl hQ _ rfl rfl (info_sd _)) rfl ?_
  exact ⟨rfl, hg⟩
end Go.Proofs.Ytkkabnkhdhlhkaa
