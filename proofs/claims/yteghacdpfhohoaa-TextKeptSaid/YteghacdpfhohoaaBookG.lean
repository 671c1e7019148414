/-
  A book over another book's Keep.
-/
import Derived.Test.YteghacdpfhohoaaBookF
namespace Go.Proofs.Yteghacdpfhohoaa
open Go.RowKit Num Mem
set_option linter.unusedVariables false
namespace Mem
variable {α : Type} {bt lt ty lt' : TypeId} {sz : Nat} {fl : α → List Value} {ok : α → Prop} {w w' : World} {g g' B B' S n : Nat}
theorem BookAt.over (h : BookAt bt lt ty sz fl ok w g B S n) (hk : BookKeep lt' w w' g' B') (h1 : bt ≠ lt') (h2 : lt ≠ lt') (h3 : ty ≠ lt') (hg : g ≠ g') (hB : g' < B) : BookAt bt lt ty sz fl ok w' g B S n := by
  obtain ⟨Ls, v1, v2, held, hn, hb⟩ := h.ex
  exact ⟨Ls, v1, v2, held, hn, hb.map (fun _ hc => hk.blk hc hg h1) (fun k hkB _ _ hc => hk.blk hc (by omega) h2) (fun k hkB _ _ hc => hk.blk hc (by omega) h3) hk.size⟩
/-- a row over a book's Keep. -/
theorem own_over {base z m : Nat} {v : Value} {xs : List Value} (h : w.ownsRow base ty z v m xs) (hk : BookKeep lt' w w' g' B') (h3 : ty ≠ lt') (hB : g' < base) : w'.ownsRow base ty z v m xs :=
  own_map h fun k hq _ _ hc => hk.blk hc (by have := (h.lt k hq).1; omega) h3
end Mem
end Go.Proofs.Yteghacdpfhohoaa
