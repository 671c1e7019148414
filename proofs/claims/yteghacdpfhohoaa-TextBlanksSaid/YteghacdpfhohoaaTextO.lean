/-
  Runes of a text in memory.
-/
import Derived.Test.YteghacdpfhohoaaTextN
import Derived.Test.YteghacdpfhohoaaTextM
import Derived.Test.YteghacdpfhohoaaTextH
import Derived.Laws.IdiomStrings
import Derived.Laws.Runes
namespace Go.Proofs.Yteghacdpfhohoaa
open Go.RowKit Num Mem Opn
set_option linter.unusedVariables false
set_option linter.unusedSimpArgs false
theorem runesFrom_eq (s : ByteArray) : ∀ k pos (acc : Array Value), Conv.runesFrom s k pos acc = acc ++ ((rns s k pos).map (Value.int .i32)).toArray := by
  intro k
  induction k with
  | zero => intro pos acc; simp [Conv.runesFrom, rns]
  | succ k ih =>
    intro pos acc
    unfold Conv.runesFrom
    simp only [rns]
    by_cases hp : pos < s.size
    · rw [if_pos hp, if_pos hp, ih]
      simp
    · rw [if_neg hp, if_neg hp]
      simp
/-- what '[]rune(s)' makes. -/
def rcells (w : World) (s : ByteArray) : Array Value := ((runesOf s).map (Value.int .i32)).toArray ++ Array.replicate (grownCap w (runesOf s).length 0 21 - (runesOf s).length) (.int .i32 0)
theorem conv_runes (s : ByteArray) (h : s.size ≤ 4000) (w : World) : (convert 9 51 (.string s)).run Try.prog w =
    .ok (.slice (some ⟨w.heap.size, 0, none⟩) (runesOf s).length (grownCap w (runesOf s).length 0 21)) (w.drew.alloc (.cells (rcells w s) 21)) := by
  have h1 : Conv.runesFrom s s.size 0 #[] = ((runesOf s).map (Value.int .i32)).toArray := by rw [runesFrom_eq]; simp [runesOf]
  have h2 := runes_len s
  have h3 := run_runes_of_string (P := Try.prog) w 9 51 21 s Try.underlying9 Try.underlying51 Try.underlying21 (by rw [h1]; simp; omega)
  rw [h1] at h3
  simpa [rcells] using h3
theorem conv_back (s : ByteArray) (w : World) (c : Nat) : (convert 51 9 (.slice (some ⟨w.heap.size, 0, none⟩) (runesOf s).length c)).run Try.prog (w.drew.alloc (.cells (rcells w s) 21)) =
    .ok (.string (runesBytes (runesOf s))) (w.drew.alloc (.cells (rcells w s) 21)) := by
  have h := run_convert_runes (P := Try.prog) (w.drew.alloc (.cells (rcells w s) 21)) 51 9 21 ⟨w.heap.size, 0, none⟩ (runesOf s).length c (runesOf s) (Nat.le_refl _) Try.underlying51 Try.underlying21 Try.underlying9 (fun j hj => by
    have h1 := (Blk.new w.drew 21 (rcells w s)).cell j
    rw [Addr.add_mid, Nat.zero_add]
    refine h1.trans ?_
    have h2 : (((runesOf s).map (Value.int .i32)).toArray)[j]? = some (.int .i32 ((runesOf s).getD j 0)) := by simp [hj]
    unfold rcells
    rw [Array.getElem?_append_left (by simp [hj])]
    exact h2)
  rw [List.take_length] at h
  exact h
theorem toList_inj {a b : ByteArray} (h : a.toList = b.toList) : a = b := by
  rw [ByteArray.toList_eq, ByteArray.toList_eq] at h
  obtain ⟨x⟩ := a
  obtain ⟨y⟩ := b
  exact congrArg ByteArray.mk (Array.toList_inj.1 h)
end Go.Proofs.Yteghacdpfhohoaa
