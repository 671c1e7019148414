/-
  What the walks of TextKept and TextBlanks share.
-/
import Derived.Test.YteghacdpfhohoaaTextP
import Derived.Test.YteghacdpfhohoaaTextO
import Derived.Test.YteghacdpfhohoaaSameP
namespace Go.Proofs.Yteghacdpfhohoaa
open Go.RowKit Num Mem Opn Go.Deep
set_option linter.unusedVariables false
set_option linter.unusedSimpArgs false
set_option linter.unusedSimpArgs false
theorem textPieces_m (ew eh : Int) (l : List Int) (n : Nat) (A : Option Addr) (c : Nat) (s : ByteArray) (A2 : Option Addr) (w : World) (hn : l.length = n) (hl : n ≤ 1000000) (hs : s.size ≤ 4000)
    (hA : Ints w w.heap.size A l) (hA2 : Recs w w.heap.size A2 57 Bx.cells [⟨7, 1, false, s⟩]) :
    Calls Try.prog 31 #[.agg #[.int .i64 ew, .int .i64 eh, .slice A n c], .slice A2 1 1] w fun e w' => ∃ v', e = .returned v' ∧ Below w.heap.size w w' ∧ w'.ownsRow w.heap.size 59 57 v' ((piecesF l [⟨7, 1, false, s⟩]).map Pz.q).length (((piecesF l [⟨7, 1, false, s⟩]).map Pz.q).flatMap Pq.cells) := by
  subst hn
  rw [List.length_map, pz_q_map]
  exact text_Pieces ew eh l A c [⟨7, 1, false, s⟩] A2 1 w (fun x hx => by rw [List.mem_singleton.1 hx]; exact ⟨.inl rfl, hs⟩) (by simp) hl hA hA2
theorem pieces_len (l : List Int) (s : ByteArray) (hs : s.size ≤ 4000) : ((piecesF l [⟨7, 1, false, s⟩]).map Pz.q).length ≤ 9001 := by
  rw [List.length_map]
  have h1 := boxF_len l ⟨7, 1, false, s⟩ [] hs
  have h2 : ∀ out : List Pz, (trimF out).length ≤ out.length := by
    intro out
    unfold trimF
    split
    · exact Nat.le_refl _
    · split
      · rw [List.length_dropLast]; omega
      · exact Nat.le_refl _
  have h3 := h2 (boxF l ⟨7, 1, false, s⟩ [])
  show (trimF (boxF l ⟨7, 1, false, s⟩ [])).length ≤ 9001
  simp only [List.length_nil] at h1
  omega
theorem pieces_ok (l : List Int) (s : ByteArray) (hs : s.size ≤ 4000) : ∀ y ∈ (piecesF l [⟨7, 1, false, s⟩]).map Pz.q, okP y := by
  intro y hy
  obtain ⟨p, hp, rfl⟩ := List.mem_map.1 hy
  obtain ⟨k, t, h1, h3, ht, rfl⟩ := piecesF_mem l ⟨7, 1, false, s⟩ rfl p hp
  have hw := width_lim l t
  dsimp only at ht
  exact ⟨⟨by show _ ≤ k; omega, by show k ≤ _; omega⟩, ⟨by show _ ≤ (1 : Int); omega, by show (1 : Int) ≤ _; omega⟩, by show t.size ≤ maxLen; unfold maxLen; omega, ⟨by show _ ≤ width l t 1024; omega, by show width l t 1024 ≤ _; omega⟩, ⟨by show _ ≤ (1280 : Int); omega, by show (1280 : Int) ≤ _; omega⟩⟩
theorem pieces_lm (l : List Int) (s : ByteArray) : leastF (piecesF l [⟨7, 1, false, s⟩]) 0 ≤ mostF (piecesF l [⟨7, 1, false, s⟩]) 0 0 :=
  least_most _ 0 0 0 (fun p hp => by
    obtain ⟨k, t, -, -, -, rfl⟩ := piecesF_mem l ⟨7, 1, false, s⟩ rfl p hp
    exact width_lim l t) (by omega) (by omega) (Int.le_refl _)
theorem recs_box (w : World) (s : ByteArray) : Recs (w.alloc (.cells (Bx.arr ⟨7, 1, false, s⟩) 64)) (w.alloc (.cells (Bx.arr ⟨7, 1, false, s⟩) 64)).heap.size (some ⟨w.heap.size, 0, none⟩) 57 Bx.cells [⟨7, 1, false, s⟩] :=
  Recs.blk (fl := Bx.cells) bxc_length (Blk.new w 64 (Bx.arr ⟨7, 1, false, s⟩)) (by simp [Bx.cells]) (by simp)
def markQ (i j : Nat) : Pq := ⟨-100 - (i : Int), -(j : Int), ByteArray.empty, 0, 0, none⟩
theorem markq_ok (i j : Nat) (hi : i ≤ 3001) (hj : j ≤ maxLen) : okP (markQ i j) := by
  unfold maxLen at hj
  exact ⟨⟨by show _ ≤ -100 - (i : Int); omega, by show -100 - (i : Int) ≤ _; omega⟩, ⟨by show _ ≤ -(j : Int); omega, by show -(j : Int) ≤ _; omega⟩, by show 0 ≤ maxLen; omega, ⟨by show _ ≤ (0 : Int); omega, by show (0 : Int) ≤ _; omega⟩, ⟨by show _ ≤ (0 : Int); omega, by show (0 : Int) ≤ _; omega⟩⟩
theorem mark14 (i j : Nat) (w : World) (hi : i ≤ 3001) (hj : j ≤ maxLen) : Calls Try.prog 34 #[.int .i64 i, .int .i64 j] w fun e w' => e = .returned (.agg (markQ i j).arr) ∧ Below w.heap.size w w' := by
  unfold maxLen at hj
  have h1 : IntKind.i64.wrap (-100 - (i : Int)) = -100 - (i : Int) := IntWalk.i64_in _ (by omega)
  have h2 : IntKind.i64.wrap (-(j : Int)) = -(j : Int) := IntWalk.i64_in _ (by omega)
  have hR : Blk (w.alloc (.cells zeroP 59)) w.heap.size 59 zeroP := Blk.new _ _ _
  have hB : Below w.heap.size w (w.alloc (.cells zeroP 59)) := (Below.refl _ _).alloc (Nat.le_refl _) _
  go_enter Try.func34, Try.ntmps34
  go_upto_region 1 with fail
  refine wp_forget (fun Z => Blk Z w.heap.size 59 zeroP ∧ Below w.heap.size w Z) ⟨hR, hB⟩ ?_
  clear hR hB
  rintro w1 ⟨hR, hB⟩
  go_wp2_with (refine stop_build _ _ rfl ?_)
  refine ⟨?_⟩
  refine wl_exec rfl (.agg (markQ i j).arr) (by kernel_rfl) ?_
  (try simp only [Act.put, List.setIfInBounds_toArray, List.set_cons_zero, List.set_cons_succ])
  go_wp2_with (first | refine stop_load 59 _ rfl rfl ?_ | refine stop_store 59 _ _ rfl rfl ?_)
  refine ⟨?_⟩
  refine wl_store rfl 59 _ _ rfl w.heap.size (markQ i j).arr rfl rfl 59 zeroP hR rfl info_pz (pq_one _) ?_
  intro w2 hR2 hC
  (try simp only [Act.put, List.setIfInBounds_toArray, List.set_cons_zero, List.set_cons_succ])
  go_wp2_with fail
  refine bodyPost_ret (results_row 4 59 w.heap.size rfl rfl hR2 _ Try.underlying59 rfl info_pz) rfl ?_
  exact ⟨rfl, hB.trans (hC.below (Nat.le_refl _))⟩
end Go.Proofs.Yteghacdpfhohoaa
