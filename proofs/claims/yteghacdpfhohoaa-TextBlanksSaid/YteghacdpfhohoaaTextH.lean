/-
  law14's known.
-/
import Derived.Test.YteghacdpfhohoaaTextG
namespace Go.Proofs.Yteghacdpfhohoaa
open Go.RowKit Num Mem Opn
set_option linter.unusedVariables false
set_option linter.unusedSimpArgs false
def abS : ByteArray := { data := #[32, 97, 32, 32, 98, 32] }
set_option maxRecDepth 100000 in
theorem kn_said : saidF (piecesF [] [⟨7, 1, false, abS⟩]) ByteArray.empty = { data := #[97, 95, 98] } := by decide +kernel
theorem kn_small : ∀ p ∈ piecesF [] [⟨7, 1, false, abS⟩], p.text.size ≤ 10000 := by decide +kernel
theorem kn_len : (piecesF [] [⟨7, 1, false, abS⟩]).length ≤ 1000000 := by decide +kernel
theorem kn_width : width [] { data := #[97, 98] } 1024 = 1024 := by decide +kernel
theorem Mem.Recs.blk {α : Type} {w : World} {g B sz : Nat} {t : TypeId} {cs : Array Value} {fl : α → List Value} {l : List α} (hfl : ∀ x, (fl x).length = sz) (h : Blk w g t cs) (hcs : cs.toList = l.flatMap fl) (hB : g < B) : Recs w B (some ⟨g, 0, none⟩) sz fl l := fun _ =>
  ⟨g, 0, rfl, hB, fun i x hx j v hv => by rw [Nat.zero_add, h.cell, ← Array.getElem?_toList, hcs]; exact flat_get hfl hx hv⟩
set_option maxRecDepth 100000 in
set_option maxHeartbeats 4000000 in
theorem known14 (w : World) : Calls Try.prog 28 #[] w fun e w' => e = .returned (.bool true) ∧ Below w.heap.size w w' := by
  go_enter Try.func28, Try.ntmps28
  go_wp2_with fail
  refine (law14_box _ _ _).mono ?_
  rintro e w1 ⟨rfl, hb1⟩
  have hB2 : Below w.heap.size w (w1.alloc (.cells (Bx.arr ⟨7, 1, false, abS⟩) 64)) := hb1.alloc hb1.size _
  have hR := Recs.blk (l := [(⟨7, 1, false, abS⟩ : Bx)]) (B := (w1.alloc (.cells (Bx.arr ⟨7, 1, false, abS⟩) 64)).heap.size) (fl := Bx.cells) bxc_length (Blk.new w1 64 (Bx.arr ⟨7, 1, false, abS⟩)) (by simp [Bx.cells]) (Blk.new w1 64 _).lt
  have hS := text_Pieces 0 0 [] none 0 [⟨7, 1, false, abS⟩] (some ⟨w1.heap.size, 0, none⟩) 1 _ (by intro x hx; simp at hx; subst hx; exact ⟨.inl rfl, by decide⟩) (by decide) (by decide) (fun h => absurd rfl h) hR
  obtain ⟨P, hP⟩ : ∃ P, piecesF [] [⟨7, 1, false, abS⟩] = P := ⟨_, rfl⟩
  have k1 := kn_said
  have k2 := kn_small
  have k3 := kn_len
  rw [hP] at hS k1 k2 k3
  clear hP
  go_wp2_with fail
  generalize hW : w1.alloc _ = W
  have eW : W = w1.alloc (.cells (Bx.arr ⟨7, 1, false, abS⟩) 64) := hW.symm.trans (by kernel_rfl)
  clear hW
  subst eW
  refine hS.mono ?_
  clear hS hR
  rintro e w2 ⟨v2, rfl, hb2, ho⟩
  have hB := hB2.trans (hb2.mono (by have := hB2.size; omega))
  obtain ⟨A2, c2, rfl, -⟩ := own_some ho
  have hRp := Recs.of_own pz_length (by decide) ho
  clear hB2 hb2 ho
  go_wp2_with fail
  refine (law14_said _ P A2 c2 w2 k2 k3 hRp).mono ?_
  rintro e w3 ⟨rfl, rfl⟩
  rw [k1]
  clear hRp k1 k2 k3
  go_wp2_with fail
  refine (text_Width 0 0 [] none 0 _ 1024 w2 (by decide) (fun h => absurd rfl h)).mono ?_
  rintro e w4 ⟨rfl, hb4⟩
  rw [kn_width]
  replace hB := hB.trans (hb4.mono hB.size)
  clear hb4
  go_wp2_with fail
  refine (law14_initial w4).mono ?_
  rintro e w5 ⟨rfl, hb5⟩
  replace hB := hB.trans (hb5.mono hB.size)
  clear hb5
  go_wp2_with fail
  refine (text_Height false w5).mono ?_
  rintro e w6 ⟨rfl, hb6⟩
  replace hB := hB.trans (hb6.mono hB.size)
  clear hb6
  go_wp2_with fail
  go_ret
  exact ⟨rfl, hB⟩
end Go.Proofs.Yteghacdpfhohoaa
