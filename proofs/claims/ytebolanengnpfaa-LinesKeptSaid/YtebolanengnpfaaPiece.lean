/-
  Pieces in memory; the walks of thin and loose.
-/
import Derived.Test.YtebolanengnpfaaMid
import Derived.Test.YtebolanengnpfaaLinesD
import Derived.Test.YtebolanengnpfaaRect0
import Derived.Test.YtebolanengnpfaaRecs
namespace Go.Proofs.Ytebolanengnpfaa
open Go.RowKit Num Mem
set_option linter.unusedVariables false
namespace Num
/-- the cells of a style that is pre, or not, and nothing else. -/
def styArr (b : Bool) : Array Value := #[.int .i64 0, .int .i64 0, .int .i64 0, .int .i64 0, .int .i64 0, .int .i64 0, .int .i64 0, .int .i64 0, .int .i64 0, .int .i64 0, .int .i64 0, .int .i64 0, .int .i64 0, .int .i64 0, .int .i64 0, .int .i64 0, .int .i64 0, .int .i64 0, .int .i64 0, .int .i64 0, .int .i64 0, .int .i64 0, .int .i64 0, .int .i64 0, .int .i64 0, .int .i64 0, .int .i64 0, .int .i64 0, .int .i64 0, .int .i64 0, .int .i64 0, .int .i64 0, .int .i64 0, .int .i64 0, .int .i64 0, .int .i64 0, .int .u32 0, .int .u32 0, .int .i64 0, .int .i64 0, .int .i64 0, .bool b, .bool false, .bool false, .bool false, .int .i64 0, .int .i64 0, .int .i64 0, .int .i64 0, .int .i64 0, .int .i64 0, .bool false]
/-- a piece's cells. -/
def Pc.arr (p : Pc) : Array Value := #[.int .i64 p.kind, .int .i64 p.node, .string ByteArray.empty, .int .i64 p.width, .int .i64 p.height, .int .i64 0, .int .i64 0, .int .i64 0, .int .i64 0, .int .i64 0, .int .i64 0, .int .i64 0, .int .i64 0, .int .i64 0, .int .i64 0, .int .i64 0, .int .i64 0, .int .i64 0, .int .i64 0, .int .i64 0, .int .i64 0, .int .i64 0, .int .i64 0, .int .i64 0, .int .i64 0, .int .i64 0, .int .i64 0, .int .i64 0, .int .i64 0, .int .i64 0, .int .i64 0, .int .i64 0, .int .i64 0, .int .i64 0, .int .i64 0, .int .i64 0, .int .i64 0, .int .i64 0, .int .i64 0, .int .i64 0, .int .i64 0, .int .u32 0, .int .u32 0, .int .i64 0, .int .i64 0, .int .i64 0, .bool p.pre, .bool false, .bool false, .bool false, .int .i64 0, .int .i64 0, .int .i64 0, .int .i64 0, .int .i64 0, .int .i64 0, .bool false]
def Pc.cells (p : Pc) : List Value := p.arr.toList
theorem Pc.cells_length (p : Pc) : p.cells.length = 57 := rfl
theorem Pc.one (p : Pc) : p.arr.all (·.oneCell') = true := by simp [Pc.arr, Value.oneCell']
theorem sty_one (b : Bool) : (styArr b).all (·.oneCell') = true := by simp [styArr, Value.oneCell']
theorem Pc.size (p : Pc) : p.arr.size = 57 := rfl
end Num
theorem info_piece : (Try.prog.info? 36).map (·.size) = some 57 := by kernel_rfl
theorem info_rpiece : (Try.prog.info? 80).map (·.size) = some 57 := by kernel_rfl
theorem info_sty : (Try.prog.info? 34).map (·.size) = some 52 := by kernel_rfl
/-- pieces that lie somewhere. -/
abbrev Pcs (w : World) (B : Nat) (A : Option Addr) (l : List Pc) : Prop := Recs w B A 57 Pc.cells l
theorem Pcs.get {w : World} {B : Nat} {A : Option Addr} {l : List Pc} (h : Pcs w B A l) {k : Nat} (hk : k < l.length) :
    ∃ b off p, A = some ⟨b, off, none⟩ ∧ b < B ∧ Hid (l[k]? = some p) ∧ w.rangeAt b (off + k * 57) p.arr.toList := by
  obtain ⟨b, off, p, e, hb, hp, hc⟩ := h.at_ hk
  exact ⟨b, off, p, e, hb, hp, fun j v hv => hc j v hv⟩
theorem Pcs.here {w : World} {B b off : Nat} {l : List Pc} (h : Pcs w B (some ⟨b, off, none⟩) l) {k : Nat} (hk : k < l.length) :
    ∃ p, b < B ∧ Hid (l[k]? = some p) ∧ w.rangeAt b (off + k * 57) p.arr.toList := by
  obtain ⟨b', off', p, e, hb, hp, hc⟩ := h.at_ hk
  injection e with e
  injection e with e1 e2 e3
  subst e1 e2
  exact ⟨p, hb, hp, fun j v hv => hc j v hv⟩
@[go_sem high] theorem build_sty (b : Bool) (w : World) : (Instr.build 34 #[(15, .bool b)]).run Try.prog w = .ok (.agg (styArr b)) w := by kernel_rfl
@[go_sem high] theorem build_piece (k n wd ht : Int) (b : Bool) (w : World) : (Instr.build 36 #[(0, .int .i64 k), (1, .int .i64 n), (3, .int .i64 wd), (4, .int .i64 ht), (5, .agg (styArr b))]).run Try.prog w = .ok (.agg (Pc.arr ⟨k, n, wd, ht, b⟩)) w := by kernel_rfl
@[go_sem high] theorem build_rpiece (k n wd ht : Int) (b : Bool) (w : World) : (Instr.build 80 #[(0, .int .i64 k), (1, .int .i64 n), (3, .int .i64 wd), (4, .int .i64 ht), (5, .agg (styArr b))]).run Try.prog w = .ok (.agg (Pc.arr ⟨k, n, wd, ht, b⟩)) w := by kernel_rfl
theorem thin_eq (p : Pc) : p.thin = (p.kind == 2 && !p.pre) := rfl
set_option maxRecDepth 100000 in
set_option maxHeartbeats 1000000 in
theorem lines_thin (p : Pc) (w : World) : Calls Try.prog 30 #[.agg p.arr] w fun e w' => e = .returned (.bool p.thin) ∧ Below w.heap.size w w' := by
  have h0 : Blk (w.alloc (.cells p.arr 36)) w.heap.size 36 p.arr := Blk.new _ _ _
  have c0 := h0.cell 0
  have c46 := h0.cell 46
  have HB : Below w.heap.size w (w.alloc (.cells p.arr 36)) := (Below.refl _ _).alloc (Nat.le_refl _) _
  obtain ⟨k, hk⟩ : ∃ k, p.kind = k := ⟨_, rfl⟩
  obtain ⟨b, hb⟩ : ∃ b, p.pre = b := ⟨_, rfl⟩
  replace c0 : (w.alloc (.cells p.arr 36)).cell? ⟨w.heap.size, 0, none⟩ = some (.int .i64 k) := by rw [c0, ← hk]; rfl
  replace c46 : (w.alloc (.cells p.arr 36)).cell? ⟨w.heap.size, 46, none⟩ = some (.bool b) := by rw [c46, ← hb]; rfl
  have HT : Hid (p.thin = (k == 2 && !b)) := by show _ = _; rw [thin_eq, hk, hb]
  clear hk hb h0
  cases b
  · by_cases h2 : k = 2
    · have h2' : (k == 2) = true := by simp [h2]
      clear h2
      go_enter Try.func30, Try.ntmps30
      go_wp2_with fail
      go_ret
      exact ⟨by rw [HT.out]; simp [h2'], HB⟩
    · have h2' : (k == 2) = false := by simp [h2]
      clear h2
      go_enter Try.func30, Try.ntmps30
      go_wp2_with fail
      go_ret
      exact ⟨by rw [HT.out]; simp [h2'], HB⟩
  · by_cases h2 : k = 2
    · have h2' : (k == 2) = true := by simp [h2]
      clear h2
      go_enter Try.func30, Try.ntmps30
      go_wp2_with fail
      go_ret
      exact ⟨by rw [HT.out]; simp [h2'], HB⟩
    · have h2' : (k == 2) = false := by simp [h2]
      clear h2
      go_enter Try.func30, Try.ntmps30
      go_wp2_with fail
      go_ret
      exact ⟨by rw [HT.out]; simp [h2'], HB⟩
set_option maxRecDepth 100000 in
set_option maxHeartbeats 1000000 in
theorem ref_loose (p : Pc) (w : World) : Calls Try.prog 33 #[.agg p.arr] w fun e w' => e = .returned (.bool p.thin) ∧ Below w.heap.size w w' := by
  have h0 : Blk (w.alloc (.cells p.arr 80)) w.heap.size 80 p.arr := Blk.new _ _ _
  have c0 := h0.cell 0
  have c46 := h0.cell 46
  have HB : Below w.heap.size w (w.alloc (.cells p.arr 80)) := (Below.refl _ _).alloc (Nat.le_refl _) _
  obtain ⟨k, hk⟩ : ∃ k, p.kind = k := ⟨_, rfl⟩
  obtain ⟨b, hb⟩ : ∃ b, p.pre = b := ⟨_, rfl⟩
  replace c0 : (w.alloc (.cells p.arr 80)).cell? ⟨w.heap.size, 0, none⟩ = some (.int .i64 k) := by rw [c0, ← hk]; rfl
  replace c46 : (w.alloc (.cells p.arr 80)).cell? ⟨w.heap.size, 46, none⟩ = some (.bool b) := by rw [c46, ← hb]; rfl
  have HT : Hid (p.thin = (k == 2 && !b)) := by show _ = _; rw [thin_eq, hk, hb]
  clear hk hb h0
  cases b
  · by_cases h2 : k = 2
    · have h2' : (k == 2) = true := by simp [h2]
      clear h2
      go_enter Try.func33, Try.ntmps33
      go_wp2_with fail
      go_ret
      exact ⟨by rw [HT.out]; simp [h2'], HB⟩
    · have h2' : (k == 2) = false := by simp [h2]
      clear h2
      go_enter Try.func33, Try.ntmps33
      go_wp2_with fail
      go_ret
      exact ⟨by rw [HT.out]; simp [h2'], HB⟩
  · by_cases h2 : k = 2
    · have h2' : (k == 2) = true := by simp [h2]
      clear h2
      go_enter Try.func33, Try.ntmps33
      go_wp2_with fail
      go_ret
      exact ⟨by rw [HT.out]; simp [h2'], HB⟩
    · have h2' : (k == 2) = false := by simp [h2]
      clear h2
      go_enter Try.func33, Try.ntmps33
      go_wp2_with fail
      go_ret
      exact ⟨by rw [HT.out]; simp [h2'], HB⟩
end Go.Proofs.Ytebolanengnpfaa
