/-
  What the place laws hold: a tamed style's box and a room's.
-/
import Derived.Test.YtkkabnkhdhlhkaaPlaceF
namespace Go.Proofs.Ytkkabnkhdhlhkaa
open Go.RowKit Num Mem Opn
set_option linter.unusedVariables false
structure Pl (w W : World) (T : Sty) (x y wd ht : Int) : Prop where
  below : Below w.heap.size w W
  sty : Blk W w.heap.size 28 T.arr
  rct : Blk W (w.heap.size + 1) 48 #[.int .i64 x, .int .i64 y, .int .i64 wd, .int .i64 ht]
section
variable {w W W' : World} {T : Sty} {x y wd ht : Int}
theorem Pl.on (h : Pl w W T x y wd ht) (hb : Below W.heap.size W W') : Pl w W' T x y wd ht :=
  ⟨h.below.trans (hb.mono h.below.size), h.sty.below hb h.sty.lt, h.rct.below hb h.rct.lt⟩
theorem Pl.drew (h : Pl w W T x y wd ht) : Pl w W.drew T x y wd ht := h.on (by go_grown)
theorem Pl.chg {g : Nat} (h : Pl w W T x y wd ht) (hc : Chg g W W') (hg : w.heap.size + 1 < g) : Pl w W' T x y wd ht :=
  ⟨h.below.trans (hc.below (by omega)), h.sty.chg hc (by omega), h.rct.chg hc (by omega)⟩
theorem Pl.room (h : Pl w W T x y wd ht) (a b c d : Int) : Pl w ((((W.setCell ⟨w.heap.size + 1, 0, none⟩ (.int .i64 a)).setCell ⟨w.heap.size + 1, 1, none⟩ (.int .i64 b)).setCell ⟨w.heap.size + 1, 2, none⟩ (.int .i64 c)).setCell ⟨w.heap.size + 1, 3, none⟩ (.int .i64 d)) T a b c d :=
  ⟨(((h.below.trans ((Chg.setCell _ ⟨w.heap.size + 1, 0, none⟩ _).below (by simp))).trans ((Chg.setCell _ ⟨w.heap.size + 1, 1, none⟩ _).below (by simp))).trans ((Chg.setCell _ ⟨w.heap.size + 1, 2, none⟩ _).below (by simp))).trans ((Chg.setCell _ ⟨w.heap.size + 1, 3, none⟩ _).below (by simp)),
    (((h.sty.far (by simp) _).far (by simp) _).far (by simp) _).far (by simp) _, (((h.rct.put 0 _).put 1 _).put 2 _).put 3 _⟩
/-- one cell of the style's box is stored. -/
theorem Pl.one {i : Nat} {v : Value} {T' : Sty} (h : Pl w W T x y wd ht) (hT : Blk (W.setCell ⟨w.heap.size, i, none⟩ v) w.heap.size 28 T'.arr) : Pl w (W.setCell ⟨w.heap.size, i, none⟩ v) T' x y wd ht :=
  ⟨h.below.trans ((Chg.setCell W ⟨w.heap.size, i, none⟩ v).below (Nat.le_refl _)), hT, h.rct.far (by simp) _⟩
end
theorem style_put30k {W : World} {g : Nat} {t : TypeId} {s : Sty} (h : Blk W g t s.arr) (k : Int) : Blk (W.setCell ⟨g, 30, none⟩ (.int .i64 k)) g t (Sty.arr { s with o3k := k }) := h.put 30 _
theorem style_put26k {W : World} {g : Nat} {t : TypeId} {s : Sty} (h : Blk W g t s.arr) (k : Int) : Blk (W.setCell ⟨g, 26, none⟩ (.int .i64 k)) g t (Sty.arr { s with o1k := k }) := h.put 26 _
theorem style_put28k {W : World} {g : Nat} {t : TypeId} {s : Sty} (h : Blk W g t s.arr) (k : Int) : Blk (W.setCell ⟨g, 28, none⟩ (.int .i64 k)) g t (Sty.arr { s with o2k := k }) := h.put 28 _
theorem style_put4a {W : World} {g : Nat} {t : TypeId} {s : Sty} (h : Blk W g t s.arr) (k : Int) : Blk (W.setCell ⟨g, 4, none⟩ (.int .i64 k)) g t (Sty.arr { s with wk := k }) := h.put 4 _
theorem style_put5a {W : World} {g : Nat} {t : TypeId} {s : Sty} (h : Blk W g t s.arr) (k : Int) : Blk (W.setCell ⟨g, 5, none⟩ (.int .i64 k)) g t (Sty.arr { s with wn := k }) := h.put 5 _
theorem Ord.twoM {P : Program} {ops : Array Oper} {Q : Exit → Act → World → Prop} {S : World → Prop} {n i j : Nat} {r s : Ord.Lay} {a : Act} {w : World} {o p : Oper} (ho : ops[i]? = some o) (hw : Region.wanted o (yielded ops a.tmps) = true) (ho' : ops[j]? = some p) (hw' : Region.wanted p (yielded ops a.tmps) = true)
    (h : ∀ K' : Act → World → Prop, Shut (∀ a w, S w → (S w → Ord.wpM P ops Q S n r a w) → K' a w) → Oper.wp P o a w K' Q)
    (h' : ∀ K' : Act → World → Prop, Shut (∀ a w, S w → (S w → Ord.wpM P ops Q S n s a w) → K' a w) → Oper.wp P p a w K' Q) :
    Ord.wpM P ops Q S n (.two i (some o) r j (some p) s) a w :=
  ⟨wpOp_step ho (fun K' hK => by rw [if_pos hw]; exact h K' (fun a w hS hW => hK a w ⟨fun _ => hS, hW hS⟩)), wpOp_step ho' (fun K' hK => by rw [if_pos hw']; exact h' K' (fun a w hS hW => hK a w ⟨fun _ => hS, hW hS⟩))⟩
end Go.Proofs.Ytkkabnkhdhlhkaa
