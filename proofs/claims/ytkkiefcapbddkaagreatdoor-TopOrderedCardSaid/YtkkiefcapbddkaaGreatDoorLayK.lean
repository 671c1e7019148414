/-
  Decode, Right, the sort; what the letters stand for; the contract of Render.
-/
import Derived.Test.YtkkiefcapbddkaaGreatDoorLayG
import Derived.Test.YtkkiefcapbddkaaGreatDoorSeatB
import Derived.Test.YtkkiefcapbddkaaGreatDoorLayH
import Derived.Test.YtkkiefcapbddkaaGreatDoorLayE
import Derived.Test.YtkkiefcapbddkaaGreatDoorLayJ
import Derived.Laws.IdiomStrings
import Derived.Laws.RangeAny
set_option linter.all false
namespace Go.Abs
open Go.RowKit Go.Proofs Go.Proofs.YtkkiefcapbddkaaGreatDoor Mem
set_option maxRecDepth 100000
def IterAt (w : World) (b : Nat) (s : ByteArray) (pos : Nat) : Prop := w.heap[b]? = some (.stringIter s pos)
def bumpW (w : World) (b : Nat) (s : ByteArray) (pos : Nat) : World := { w with heap := w.heap.setIfInBounds b (.stringIter s pos) }
theorem bump_iter {w : World} {b pos p' : Nat} {s : ByteArray} (h : IterAt w b s pos) : IterAt (bumpW w b s p') b s p' := by
  have hlt := (Array.getElem?_eq_some_iff.1 h).1
  simp [IterAt, bumpW, Array.getElem?_setIfInBounds, hlt]
theorem bump_far (w : World) (b : Nat) (s : ByteArray) (p : Nat) {k : Nat} (hk : k ≠ b) : (bumpW w b s p).heap[k]? = w.heap[k]? := by
  simp [bumpW, Array.getElem?_setIfInBounds, Ne.symm hk]
theorem bump_below (w : World) (b : Nat) (s : ByteArray) (p : Nat) {B : Nat} (hB : B ≤ b) : Below B w (bumpW w b s p) :=
  ⟨rfl, rfl, rfl, by simp [bumpW], fun k hk => bump_far w b s p (by omega)⟩
theorem run_next_at {P : Program} {w : World} {b pos : Nat} {s : ByteArray} (hI : IterAt w b s pos) (h : pos < s.size) (ty : TypeId) :
    (Instr.next (.pointer (some ⟨b, 0, none⟩)) true ty).run P w = .ok (.tuple #[.bool true, .int .i64 pos, .int .i32 (Utf8.decode s pos).1]) (bumpW w b s (pos + (Utf8.decode s pos).2)) := by
  unfold IterAt at hI
  simp only [Instr.next, getObj, setObj, Sem.run_bind, Sem.run, hI, Result.andThen, h, if_true]
  simp [goInt, bumpW, Sem.run]
theorem run_next_none {P : Program} {w : World} {b pos : Nat} {s : ByteArray} (hI : IterAt w b s pos) (h : ¬ pos < s.size) (ty : TypeId) :
    (Instr.next (.pointer (some ⟨b, 0, none⟩)) true ty).run P w = .ok (.tuple #[.bool false]) w := by
  unfold IterAt at hI
  simp [Instr.next, getObj, Sem.run, hI, h]
theorem decode_plain (s : ByteArray) (i : Nat) (h : (s.get! i).toNat < 128) : Utf8.decode s i = ((s.get! i).toNat, 1) := by
  unfold Utf8.decode
  simp [h]
set_option maxHeartbeats 4000000 in
theorem decode_walk (b off cap : Nat) (xs : List UInt8) (w : World) (hl : xs.length ≤ 60000) (hx : ∀ u ∈ xs, 0 < u.toNat ∧ u.toNat < 128 ∧ u.toNat ≠ 13 ∧ u.toNat ≠ 10) (hc : ∀ j (hj : j < xs.length), w.cell? ((⟨b, off, none⟩ : Addr).add j) = some (.int .u8 (xs[j].toNat : Int))) :
    Calls Tryz.prog 17 #[.slice (some ⟨b, off, none⟩) xs.length cap] w fun e w' => ∃ v, e = .returned (.tuple #[v, .int .i64 0]) ∧ Below w.heap.size w w' ∧ w'.ownsRow w.heap.size 21 1 v xs.length (xs.map fun u => .int .i32 (u.toNat : Int)) := by
  obtain ⟨i0, hi, hz0, hz1, hz2⟩ := info_parts info_i32
  have d1 : decide ((65536 : Int) < (xs.length : Int)) = false := decide_eq_false (by omega)
  have hcv := run_convert_bytes_back (P := Tryz.prog) w 32 9 5 ⟨b, off, none⟩ cap xs Tryz.underlying32 Tryz.underlying5 Tryz.underlying9 hc
  have hrange := run_range_string (P := Tryz.prog) w 9 ⟨xs.toArray⟩ Tryz.underlying9
  have hI : IterAt (w.iter ⟨xs.toArray⟩ 0) w.heap.size ⟨xs.toArray⟩ 0 := by
    have := World.iter_heap w ⟨xs.toArray⟩ 0
    simpa [IterAt] using this
  have hB : Below w.heap.size w (w.iter ⟨xs.toArray⟩ 0) := (Below.refl _ _).alloc (Nat.le_refl _) _
  go_enter Tryz.func17, Tryz.ntmps17
  go_wp2_with fail
  have hz0' : w.heap.size + 1 ≤ (w.iter ⟨xs.toArray⟩ 0).heap.size := by simp [World.iter]
  generalize w.iter ⟨xs.toArray⟩ 0 = w1 at *
  go_loopg [4, 5] xs.length (fun g v s5 wr => ∃ (k : Nat) (last : Int), g = xs.length - k ∧ k ≤ xs.length ∧ s5 = .int .i32 last ∧ IterAt wr w.heap.size ⟨xs.toArray⟩ k ∧ wr.ownsRow (w.heap.size + 1) 21 1 v k ((xs.take k).map fun u => Value.int .i32 (u.toNat : Int)) ∧ Below w.heap.size w wr ∧ w.heap.size + 1 ≤ wr.heap.size)
  case atStart => exact ⟨0, 0, rfl, Nat.zero_le _, rfl, hI, own_nil _ _ _ _, hB, by omega⟩
  case round =>
    obtain ⟨k, last, rfl, hk, rfl, hIk, ho, hBk, hzk⟩ := hrel
    by_cases hlt : k < xs.length
    · have hsz : k < (⟨xs.toArray⟩ : ByteArray).size := hlt
      obtain ⟨u, hu⟩ : ∃ u, xs[k] = u := ⟨_, rfl⟩
      have hg : (⟨xs.toArray⟩ : ByteArray).get! k = u := by
        rw [← hu]
        show (xs.toArray)[k]! = _
        simp [hlt]
      have hux := hx u (by rw [← hu]; exact List.getElem_mem hlt)
      have hdec := decode_plain ⟨xs.toArray⟩ k (by rw [hg]; exact hux.2.1)
      rw [hg] at hdec
      have hnx : ∀ ty, (Instr.next (.pointer (some ⟨w.heap.size, 0, none⟩)) true ty).run Tryz.prog wr = .ok (.tuple #[.bool true, .int .i64 k, .int .i32 (u.toNat : Int)]) (bumpW wr w.heap.size ⟨xs.toArray⟩ (k + 1)) := fun ty => by
        have := run_next_at (P := Tryz.prog) hIk hsz ty
        rw [hdec] at this
        exact this
      have hI2 := bump_iter (p' := k + 1) hIk
      have hB2 : Below w.heap.size w (bumpW wr w.heap.size ⟨xs.toArray⟩ (k + 1)) := hBk.trans (bump_below _ _ _ _ (Nat.le_refl _))
      have hz2' : wr.heap.size ≤ (bumpW wr w.heap.size ⟨xs.toArray⟩ (k + 1)).heap.size := by simp [bumpW]
      obtain ⟨A2, q2, rfl, -⟩ := own_some ho
      have ho2 := own_keep (w' := bumpW wr w.heap.size ⟨xs.toArray⟩ (k + 1)) ho (fun g hg _ => bump_far _ _ _ _ (by have := (ho.lt g hg).1; omega))
      generalize bumpW wr w.heap.size ⟨xs.toArray⟩ (k + 1) = w2 at *
      obtain ⟨c, hc0⟩ : ∃ c : Int, (u.toNat : Int) = c := ⟨_, rfl⟩
      have e1 : (c == 10) = false := by simp; omega
      have e2 : (c == 13) = false := by simp; omega
      have e3 : (c == 0) = false := by simp; omega
      have ho3 := ho2.alloc (.cells #[.int .i32 c] 21)
      have hnw := news_at (Blk.new w2 21 #[.int .i32 c]) (news := [.int .i32 c]) rfl
      rw [hc0] at hnx
      go_upto_region 8 with fail
      go_wp2_with (refine stop_append _ _ _ _ rfl ?_)
      refine ⟨?_⟩
      refine (wpList_append_own _ rfl (.tmp 17) (.tmp 19) 54 rfl (w.heap.size + 1) 21 i0 (.int .i32 0) 1 4 Tryz.underlying54 hi hz0 hz1 hz2 rfl (by decide) (.slice A2 k q2) _ _ rfl ho3 ⟨w2.heap.size, 0, none⟩ 1 1 [.int .i32 c] rfl rfl hnw (by simp [Value.oneCell']) (by unfold maxLen; omega) (by omega) (by simp; omega) ?_)
      intro v' w3 ho4 hg4 _
      have hb3 : Below (w.heap.size + 1) w2 w3 := ((Below.refl _ _).alloc (by omega) _).trans (own_belowB ho3 hg4 (by simp; omega))
      (try simp only [Act.put, List.setIfInBounds_toArray, List.set_cons_zero, List.set_cons_succ])
      go_wp2_with fail
      go_roundg (xs.length - (k + 1))
      case measure => omega
      case rel =>
        refine ⟨k + 1, c, rfl, hlt, rfl, ?_, ?_, hB2.trans (hb3.mono (by omega)), by have := hb3.size; omega⟩
        · exact (hb3.block _ (by omega)).trans hI2
        · rw [List.take_add_one, List.getElem?_eq_getElem hlt, hu]
          simp only [Option.toList_some, List.map_append, List.map_cons, List.map_nil, hc0]
          exact ho4
    · have hkl : k = xs.length := by omega
      subst hkl
      have hnx : ∀ ty, (Instr.next (.pointer (some ⟨w.heap.size, 0, none⟩)) true ty).run Tryz.prog wr = .ok (.tuple #[.bool false]) wr := fun ty => run_next_none (P := Tryz.prog) hIk (by show ¬ xs.length < xs.length; omega) ty
      go_wp2_with fail
      go_ret2
      rw [List.take_length] at ho
      refine ⟨_, rfl, hBk, ho.1, ?_⟩
      rcases ho.2 with h | ⟨g, cp, cur, h1, h2, h3⟩
      · exact .inl h
      · exact .inr ⟨g, cp, cur, h1, by omega, h3⟩
end Go.Abs
namespace Go.Abs
open Go.RowKit Go.Proofs Go.Proofs.YtkkiefcapbddkaaGreatDoor Mem
set_option maxRecDepth 100000
set_option maxHeartbeats 4000000 in
theorem right_walk (ew eh : Int) (l : List Int) (A : Option Addr) (c : Nat) (w : World) (h0 : 0 ≤ ew) (h1 : ew ≤ 16777216) (h2 : 0 ≤ eh) (h3 : eh ≤ 16777216) (hl : l.length ≤ 256) (hx : ∀ x ∈ l, 0 ≤ x ∧ x ≤ 65536) (hA : Ints w w.heap.size A l) :
    Calls Tryz.prog 16 #[.agg #[.int .i64 ew, .int .i64 eh, .slice A l.length c]] w fun e w' => e = .returned (.int .i64 0) ∧ Below w.heap.size w w' := by
  have hX : Blk (w.alloc (.cells #[.int .i64 ew, .int .i64 eh, .slice A l.length c] 25)) w.heap.size 25 #[.int .i64 ew, .int .i64 eh, .slice A l.length c] := Blk.new _ _ _
  have hB : Below w.heap.size w (w.alloc (.cells #[.int .i64 ew, .int .i64 eh, .slice A l.length c] 25)) := (Below.refl _ _).alloc (Nat.le_refl _) _
  have d1 : decide (ew < 0) = false := decide_eq_false (by omega)
  have d2 : decide (67108864 < ew) = false := decide_eq_false (by omega)
  have d3 : decide (eh < 0) = false := decide_eq_false (by omega)
  have d4 : decide (67108864 < eh) = false := decide_eq_false (by omega)
  have d5 : decide ((256 : Int) < (l.length : Int)) = false := decide_eq_false (by omega)
  go_enter Tryz.func16, Tryz.ntmps16
  go_upto_region 1 with fail
  refine wp_forget (fun Z => Blk Z w.heap.size 25 #[.int .i64 ew, .int .i64 eh, .slice A l.length c] ∧ Below w.heap.size w Z) ⟨hX, hB⟩ ?_
  clear hX hB
  rintro w1 ⟨hX, hB⟩
  have c0 : w1.cell? ⟨w.heap.size, 0, none⟩ = some (.int .i64 ew) := hX.cell 0
  have c1 : w1.cell? ⟨w.heap.size, 1, none⟩ = some (.int .i64 eh) := hX.cell 1
  have c2 : w1.cell? ⟨w.heap.size, 2, none⟩ = some (.slice A l.length c) := hX.cell 2
  go_wp2_with fail
  go_loopw [32] (fun s wr => ∃ k : Nat, k ≤ l.length ∧ s = .int .i64 k ∧ wr = w1) (fun i _ => l.length - (Go.RowKit.intOf i).toNat)
  case atStart => exact ⟨0, Nat.zero_le _, rfl, rfl⟩
  case round =>
    obtain ⟨k, hk, rfl, rfl⟩ := hrel
    by_cases hlt : k < l.length
    · have e1 : decide ((k : Int) < (l.length : Int)) = true := decide_eq_true (by omega)
      obtain ⟨b, off, x, rfl, hb, hc, hxx⟩ := hA.at_ hlt
      have hcw : wr.cell? ⟨b, off + k, none⟩ = some (.int .i64 x) := (hB.cell hb).trans hc
      have hxb := hx (l.getD k 0) (by rw [List.getD_eq_getElem?_getD, List.getElem?_eq_getElem hlt]; exact List.getElem_mem hlt)
      rw [hxx.out] at hxb
      have e2 : decide (x < 0) = false := decide_eq_false (by omega)
      have e3 : decide (65536 < x) = false := decide_eq_false (by omega)
      go_wp2_with fail
      go_roundw
      case rel => exact ⟨k + 1, by omega, by go_num, trivial⟩
      case measure => simp [Go.RowKit.intOf]; omega
    · have e1 : decide ((k : Int) < (l.length : Int)) = false := decide_eq_false (by omega)
      go_wp2_with fail
      go_ret
      exact ⟨rfl, hB⟩
end Go.Abs
namespace Go.Abs
open Go.RowKit Go.Proofs Go.Shelf
set_option maxRecDepth 100000
def renO : Ren := ⟨fun i => bif Nat.beq i 20 then 337 else i, fun t => bif Nat.beq t 22 then 64 else bif Nat.beq t 24 then 66 else bif Nat.beq t 25 then 404 else t, fun x => x⟩
theorem insLay : SlLaysF0.n20 Tryz.prog renO where
  mixed := by decide +kernel
  f20 := ⟨ "slices.insertionSortCmpFunc[casement/boxes.Box]", by decide, by kernel_rfl⟩
  t0 := by kernel_rfl
  a0 := fun w => by kernel_rfl
  z0 := fun w => by kernel_rfl
  v0 := fun w => by kernel_rfl
  t3 := by kernel_rfl
  a3 := fun w => by kernel_rfl
  z3 := fun w => by kernel_rfl
  v3 := fun w => by kernel_rfl
  t4 := by kernel_rfl
  a4 := fun w => by kernel_rfl
  z4 := fun w => by kernel_rfl
  v4 := fun w => by kernel_rfl
  t22 := by kernel_rfl
  a22 := fun w => by kernel_rfl
  z22 := fun w => by kernel_rfl
  v22 := fun w => by kernel_rfl
  t25 := by kernel_rfl
  a25 := fun w => by kernel_rfl
  z25 := fun w => by kernel_rfl
  v25 := fun w => by kernel_rfl
def dvO : D → Value
  | .i k n => .int k n
  | .b x => .bool x
  | .s _ => .string ⟨#[]⟩
  | _ => .slice none 0 0
noncomputable def encO (p : Int × Int) : List Value := (boxPO (iN p.1) (iN p.2)).map dvO
theorem encO_len (p : Int × Int) : (encO p).length = 57 := rfl
theorem encO_one (p : Int × Int) : ∀ v ∈ encO p, v.oneCell' = true := by
  intro v hv
  obtain ⟨d, _, rfl⟩ := List.mem_map.1 hv
  cases d <;> rfl
theorem nan_walk (x : Int) (w : World) : Calls Tryz.prog 236 #[.int .i64 x] w fun e w' => e = .returned (.bool false) ∧ w = w' := by
  have e1 : (x != x) = false := by simp
  go_enter Tryz.func236, Tryz.ntmps236
  go_wp2_with fail
  go_ret
  exact ⟨rfl, rfl⟩
theorem cmp_walk (x y : Int) (w : World) : Calls Tryz.prog 152 #[.int .i64 x, .int .i64 y] w fun e w' => e = .returned (.int .i64 (if x < y then -1 else if y < x then 1 else 0)) ∧ w = w' := by
  by_cases h1 : x < y
  · have d1 : decide (x < y) = true := decide_eq_true h1
    rw [if_pos h1]
    go_enter Tryz.func152, Tryz.ntmps152
    go_wp2_with (go_at_call 236; refine (nan_walk _ _).mono ?_; rintro e w' ⟨rfl, rfl⟩)
    go_ret
    exact ⟨rfl, rfl⟩
  · have d1 : decide (x < y) = false := decide_eq_false h1
    rw [if_neg h1]
    by_cases h2 : y < x
    · have d2 : decide (y < x) = true := decide_eq_true h2
      rw [if_pos h2]
      go_enter Tryz.func152, Tryz.ntmps152
      go_wp2_with (go_at_call 236; refine (nan_walk _ _).mono ?_; rintro e w' ⟨rfl, rfl⟩)
      go_ret
      exact ⟨rfl, rfl⟩
    · have d2 : decide (y < x) = false := decide_eq_false h2
      rw [if_neg h2]
      go_enter Tryz.func152, Tryz.ntmps152
      go_wp2_with (go_at_call 236; refine (nan_walk _ _).mono ?_; rintro e w' ⟨rfl, rfl⟩)
      go_ret
      exact ⟨rfl, rfl⟩
theorem ord_walk (X Y : Array Value) (x y : Int) (hX : X[50]? = some (.int .i64 x)) (hY : Y[50]? = some (.int .i64 y)) (w : World) : Calls Tryz.prog 274 #[.agg X, .agg Y] w fun e w' => e = .returned (.int .i64 (if x < y then -1 else if y < x then 1 else 0)) ∧ w' = (w.alloc (.cells X 66)).alloc (.cells Y 66) := by
  have c1 : ((w.alloc (.cells X 66)).alloc (.cells Y 66)).cell? ⟨w.heap.size, 50, none⟩ = some (.int .i64 x) := by
    rw [World.cell?_alloc_lt _ _ _ (by simp)]
    rw [cell_of_row _ _ _ X 66 (0, 0) (heap_alloc_new w _)]
    exact hX
  have c2 : ((w.alloc (.cells X 66)).alloc (.cells Y 66)).cell? ⟨w.heap.size + 1, 50, none⟩ = some (.int .i64 y) := by
    have := cell_of_row ((w.alloc (.cells X 66)).alloc (.cells Y 66)) (w.alloc (.cells X 66)).heap.size 50 Y 66 (0, 0) (heap_alloc_new _ _)
    rw [← hY, ← this]
    simp
  obtain ⟨z, hz⟩ : ∃ z, (if x < y then (-1 : Int) else if y < x then 1 else 0) = z := ⟨_, rfl⟩
  have hc := fun w => cmp_walk x y w
  rw [hz] at hc ⊢
  go_enter Tryz.func274, Tryz.ntmps274
  go_wp2_with (go_at_call 152; refine (hc _).mono ?_; rintro e w' ⟨rfl, rfl⟩)
  go_ret
  exact ⟨rfl, rfl⟩
theorem encO_at (p : Int × Int) : (encO p).toArray[50]? = some (.int .i64 p.2) := rfl
theorem cmp_lays (blk off size : Nat) (w : World) : CmpLays Tryz.prog 274 #[] encO 57 cfO blk off size w := by
  intro m os dk hs x y
  refine (ord_walk _ _ _ _ (encO_at x) (encO_at y) _).mono fun e w' ⟨h1, h2⟩ => ⟨h1, 0, #[.cells (encO x).toArray 66, .cells (encO y).toArray 66], ?_⟩
  rw [h2]
  show _ = Sort.grow (sortWorldK encO 57 w blk off m dk os) _
  unfold Sort.grow World.alloc
  congr 1
section
variable [Val]
def Sim (d d0 : D) : Prop := ∀ (F : Nat → Nat) (w : World) (v : Value), RD F w d v ↔ v = dvO d0
theorem sim_i (k : IntKind) (n : Int) : Sim (.i k n) (.i k n) := fun F w v => ⟨fun h => by cases h; rfl, fun h => by subst h; exact .i _ _⟩
theorem sim_b (b : Bool) : Sim (.b b) (.b b) := fun F w v => ⟨fun h => by cases h; rfl, fun h => by subst h; exact .b _⟩
theorem sim_s : Sim (.s []) (.s []) := fun F w v => ⟨fun h => by
  cases h with
  | s _ b hb =>
    have hl := hb.len
    obtain ⟨⟨l⟩⟩ := b
    have : l = [] := List.eq_nil_of_length_eq_zero hl
    subst this
    rfl, fun h => by subst h; exact .s _ _ ⟨rfl, fun i x u h => by simp at h⟩⟩
theorem sim_z : Sim .z .z := fun F w v => ⟨fun h => by cases h; rfl, fun h => by subst h; exact .z⟩
theorem sim_x {k : IntKind} {e : Ex} {lo hi n : Int} (he : e.val = n) (h1 : lo ≤ n) (h2 : n ≤ hi) : Sim (.x k e lo hi) (.i k n) := fun F w v => ⟨fun h => by
  cases h
  rw [he]; rfl, fun h => by
  subst h
  have := RD.x (F := F) (w := w) k e lo hi (by rw [he]; exact h1) (by rw [he]; exact h2)
  rw [he] at this
  exact this⟩
structure SimL (L L0 : List D) : Prop where
  len : L.length = L0.length
  at_ : ∀ (j : Nat) d, L[j]? = some d → ∃ d0, L0[j]? = some d0 ∧ Sim d d0
theorem simL_nil : SimL [] [] := ⟨rfl, fun j d h => by simp at h⟩
theorem simL_cons {d d0 : D} {L L0 : List D} (h : Sim d d0) (hl : SimL L L0) : SimL (d :: L) (d0 :: L0) :=
  ⟨by simp [hl.len], fun j x hx => by
    cases j with
    | zero => simp at hx; subst hx; exact ⟨d0, rfl, h⟩
    | succ j => simp at hx; obtain ⟨y, h1, h2⟩ := hl.at_ j x hx; exact ⟨y, by simpa using h1, h2⟩⟩
theorem simL_box {nd nd0 o o0 : D} (h1 : Sim nd nd0) (h2 : Sim o o0) : SimL (boxPO nd o) (boxPO nd0 o0) := by
  unfold boxPO styPO iN
  simp only [List.append, List.cons_append, List.nil_append]
  repeat' first | exact simL_nil | refine simL_cons ?_ ?_
  all_goals first | exact h1 | exact h2 | exact sim_i _ _ | exact sim_b _ | exact sim_s | exact sim_z
structure Sorted (n : Nat) (os : List Int) : Prop where
  v : ∀ i, i < n → (Val.v i : Int) = oi os i
  s3 : ∀ j, j < n → (Val.f 3 j [] : Int) = (srt os n)[j]!.1
  s4 : ∀ j, j < n → (Val.f 4 j [] : Int) = (srt os n)[j]!.2
theorem simL_I {n : Nat} {os : List Int} (hS : Sorted n os) {i : Nat} (hi : i < n) : SimL (boxI i) (boxPO (iN ((i : Int) + 2)) (iN (oi os i))) := by
  have h := oi_in os i
  exact simL_box (sim_i _ _) (sim_x (hS.v i hi) h.1 h.2)
theorem simL_J {n : Nat} {os : List Int} (hS : Sorted n os) {j : Nat} (hj : j < n) : SimL (boxJ n j) (boxPO (iN (srt os n)[j]!.1) (iN (srt os n)[j]!.2)) := by
  obtain ⟨i, hi, e⟩ := srt_mem os hj
  have h := oi_in os i
  refine simL_box (sim_x (hS.s3 j hj) (by rw [e]; show (2 : Int) ≤ (i : Int) + 2; omega) (by rw [e]; show (i : Int) + 2 ≤ Int.ofNat (n + 1); simp only [Int.ofNat_eq_natCast]; omega)) (sim_x (hS.s4 j hj) (by rw [e]; exact h.1) (by rw [e]; exact h.2))
theorem list_get! {l : List Value} {j : Nat} {v : Value} (h : l[j]? = some v) : l[j]! = v := by
  rw [List.getElem!_eq_getElem?_getD, h]; rfl
theorem ins_ac {n : Nat} {os : List Int} (hn : 1 ≤ n) (hn2 : n ≤ 20) (hS : Sorted n os) {k : Nat} {h : Heap} (hk : h k = some (.row 57 (rowsI n) true)) (q : Nat) :
    AC Tryz.prog 337 [.v k 0 n, .d (.i .i64 0), .d (.i .i64 (Int.ofNat n)), .d (.f (.func 274) [] [])] h q fun x hh nn => x = .tu [] ∧ hh = up h k (some (.row 57 ((rowsN n).map (·.map .d)) true)) ∧ nn = q := by
  have hlI : (rowsI n).length = n := upN_lenO _ n
  have hlN : (rowsN n).length = n := upN_lenO _ n
  refine AC.of_put (rows' := rowsN n) hk (by rw [hlI, hlN]) (fun r hr => by obtain ⟨i, hi⟩ := List.getElem?_of_mem hr; rw [(upN_getO _ hi).2]; rfl) (fun e => by rw [e] at hlI; simp at hlI; omega) (fun g w vs b c t hr hg hs hb hc hv hx hF => ?_) q
  rw [hlI] at hc
  have hlt : b < w.heap.size := (Array.getElem?_eq_some_iff.1 hb).1
  have hlen := hg.len
  match vs, hlen with
  | [v0, v1, v2, v3], _ =>
    have g0 := hg.at_ 0 _ _ rfl rfl
    have g1 := (hg.at_ 1 _ _ rfl rfl).d_inv
    have g2 := (hg.at_ 2 _ _ rfl rfl).d_inv
    have g3 := (hg.at_ 3 _ _ rfl rfl).d_inv
    cases g1
    cases g2
    have e3 : v3 = .func (.func 274) #[] #[] := by
      cases g3 with
      | f _ _ _ vs us h1 h2 =>
        have : vs = [] := List.eq_nil_of_length_eq_zero h1
        have : us = [] := List.eq_nil_of_length_eq_zero h2
        subst vs; subst us
        rfl
    subst e3
    have e0 : ∃ cap, v0 = .slice (some ⟨b, 0, none⟩) n cap := by
      obtain ⟨_, h0 | h0 | ⟨b', sz, cap, c', t', fz, h1, h2, _⟩⟩ := g0.v_inv
      · omega
      · omega
      · rw [hs] at h1
        cases h1
        exact ⟨cap, by rw [h2]⟩
    obtain ⟨cap, rfl⟩ := e0
    have hsz : (bxs os n).size = n := bxs_size os n
    have hidx : ∀ tt, tt < n * 57 → tt / 57 < n ∧ tt % 57 < 57 ∧ tt / 57 * 57 + tt % 57 = tt := fun tt h => by
      refine ⟨by omega, by omega, by omega⟩
    have hH : Sort.HoldsK encO 57 w b 0 (bxs os n) := by
      intro tt htt
      rw [Sort.size_flatK, hsz] at htt
      obtain ⟨j1, j2, j3⟩ := hidx tt htt
      refine ⟨?_, frozen_of_row w b _ c t hb⟩
      rw [Sort.get_flatK _ _ _ tt (by rw [hsz]; exact htt), bxs_get os j1, Nat.zero_add, cell_of_row w b tt c t (0, 0) hb, Array.getElem?_eq_getElem (by omega)]
      have hrow : (rowsI n)[tt / 57]? = some ((boxI (tt / 57)).map .d) := upN_atO (fun j => (boxI j).map V.d) j1
      have hbl : (boxI (tt / 57)).length = 57 := rfl
      obtain ⟨d, hd⟩ : ∃ d, (boxI (tt / 57))[tt % 57]? = some d := ⟨_, List.getElem?_eq_getElem (by rw [hbl]; exact j2)⟩
      obtain ⟨d0, hd0, hsim⟩ := (simL_I hS j1).at_ _ d hd
      have hv := (hx (tt / 57) _ (tt % 57) (.d d) c[tt] hrow (by rw [List.getElem?_map, hd]; rfl) (by rw [j3]; exact Array.getElem?_eq_getElem (by omega))).d_inv
      rw [(hsim _ _ _).1 hv]
      congr 1
      show dvO d0 = (encO ((tt / 57 : Nat) + 2, oi os (tt / 57)))[tt % 57]!
      symm
      refine list_get! ?_
      unfold encO
      rw [List.getElem?_map, hd0]
      rfl
    have hins := AnyQ.insertionSortCmpFunc insLay 57 (fun w => by kernel_rfl) (fun w => by kernel_rfl) encO encO_len encO_one cfO 274 #[] b 0 cap 0 n (bxs os n) w (fun args w => rfl) (cmp_lays b 0 _ w) hH hlt (Nat.zero_le _) (by rw [hsz]; exact Nat.le_refl _) (by rw [hsz]; omega)
    rw [hsz] at hins
    refine hins.mono fun e w' ⟨e1, m, obs, e2⟩ => ?_
    have hss : (srt os n).size = n := srt_size os n
    have e2 : w' = sortWorldK encO 57 w b 0 m (srt os n) obs := e2
    obtain ⟨F, hF0⟩ : ∃ F, Sort.flatK encO 57 (srt os n) = F := ⟨_, rfl⟩
    have hFs : F.size = n * 57 := by rw [← hF0, Sort.size_flatK, hss]
    have hw : w' = Sort.grow (Sort.putRow id (Sort.ahead w m) b 0 F) obs := by rw [e2, ← hF0]; rfl
    have hheap : ∀ x, x < w.heap.size → w'.heap[x]? = (Sort.putRow id (Sort.ahead w m) b 0 F).heap[x]? := fun x hx => by
      rw [hw]
      show ((Sort.putRow id (Sort.ahead w m) b 0 F).heap ++ obs)[x]? = _
      rw [Array.getElem?_append_left (by rw [Sort.size_putRow]; exact hx)]
    have hbn : w'.heap[b]? = some (.cells (Sort.putCells id 0 F c) t (0, 0)) := by
      rw [hheap b hlt]
      show (w.heap.modify b (Sort.onCells (Sort.putCells id 0 F)))[b]? = _
      rw [Array.getElem?_modify, if_pos rfl, hb]
      rfl
    have hsize : w.heap.size ≤ w'.heap.size := by
      rw [hw]
      show _ ≤ ((Sort.putRow id (Sort.ahead w m) b 0 F).heap ++ obs).size
      rw [Array.size_append, Sort.size_putRow]
      exact Nat.le_add_right _ _
    refine ⟨_, Sort.putCells id 0 F c, fun x => if x < w.heap.size then g.F x else 0, e1, ⟨by rw [hw]; rfl, by rw [hw]; rfl, by rw [hw]; rfl, hsize, fun x hx hxb => ?_⟩, hbn, ?_, fun x hx => if_pos hx, fun x hx => if_neg (by omega), fun i r j d v a1 a2 a3 => ?_, .tu [] [] rfl GL.nil.at_⟩
    · rw [hheap x hx]
      show (w.heap.modify b (Sort.onCells (Sort.putCells id 0 F)))[x]? = _
      rw [Array.getElem?_modify, if_neg (Ne.symm hxb)]
    · simp [Sort.putCells]
    · obtain ⟨hi, rfl⟩ := upN_getO _ a1
      have hjl : j < 57 := (List.getElem?_eq_some_iff.1 a2).1
      obtain ⟨d0, hd0, hsim⟩ := (simL_J hS hi).at_ _ d a2
      refine (hsim _ _ _).2 ?_
      have htt : i * 57 + j < n * 57 := by omega
      simp only [Sort.putCells, Array.getElem?_mapIdx, Array.getElem?_eq_getElem (show i * 57 + j < c.size by omega), Option.map_some, Option.some.injEq] at a3
      rw [if_pos ⟨by omega, by omega⟩] at a3
      rw [← a3]
      show F[i * 57 + j - 0]! = _
      rw [Nat.sub_zero, ← hF0, Sort.get_flatK _ _ _ _ (by rw [hss]; exact htt), show (i * 57 + j) / 57 = i by omega, show (i * 57 + j) % 57 = j by omega]
      refine list_get! ?_
      unfold encO
      rw [List.getElem?_map, hd0]
      rfl
end
end Go.Abs
namespace Go.Abs
open Go.RowKit Go.Proofs Go.Proofs.YtkkiefcapbddkaaGreatDoor Mem
set_option maxRecDepth 100000
variable [Val]
theorem eqVss_ok : ∀ {a b : List (List V)}, eqVss a b = true → a = b
  | [], [], _ => rfl
  | x :: a, y :: b, h => by
    have h : (Bool.rec false (eqVss a b) (eqV1s x y) : Bool) = true := h
    obtain ⟨h1, h2⟩ := brec_ok h
    rw [eqV1s_ok h1, eqVss_ok h2]
  | [], _ :: _, h => by cases h
  | _ :: _, [], h => by cases h
theorem spIns_ok {n : Nat} {os : List Int} (hn2 : n ≤ 20) (hS : Sorted n os) {args : List V} {h : HL} {r : V × HL} (hs : spIns n args h = some r) : CallOk Tryz.prog 337 ∧ ∀ m, AC Tryz.prog 337 args (lko h) m fun x hh nn => x = r.1 ∧ hh = lko r.2 ∧ nn = m := by
  refine ⟨fun args w => rfl, ?_⟩
  unfold spIns at hs
  split at hs
  · next k m b =>
    obtain ⟨h1, hs⟩ := brec_ok' hs
    obtain ⟨h2, hs⟩ := brec_ok' hs
    have h1 := Nat.eq_of_beq_eq_true h1
    have h2 := Nat.eq_of_beq_eq_true h2
    subst h1; subst h2
    cases h3 : Nat.beq b 0 with
    | true => rw [h3] at hs; cases hs
    | false =>
      rw [h3] at hs
      have hb : 1 ≤ b := by
        rcases Nat.eq_zero_or_pos b with e | e
        · rw [e] at h3; cases h3
        · exact e
      have hs : (match lko h k with
        | some (.row 57 rows true) => Bool.rec none (some (.tu [], setN h k (.row 57 ((rowsN b).map (·.map .d)) true))) (eqVss rows (rowsI b))
        | _ => none : Option (V × HL)) = some r := hs
      split at hs
      · next rows hk =>
        obtain ⟨h4, hs⟩ := brec_ok' hs
        cases hs
        have h4 := eqVss_ok h4
        subst h4
        intro q
        rw [setN_eq hk]
        exact ins_ac hb hn2 hS hk q
      · cases hs
  · cases hs
theorem spLay_ok {n : Nat} {os : List Int} (hn2 : n ≤ 20) (hS : Sorted n os) : SpT2 Tryz.prog (spLay n) := by
  intro f args h r hs
  have hs : (Bool.rec (Bool.rec none (spSizes n args h) (Nat.beq f 279)) (spIns n args h) (Nat.beq f 337) : Option (V × HL)) = some r := hs
  cases h1 : Nat.beq f 337 with
  | true => rw [h1] at hs; have := Nat.eq_of_beq_eq_true h1; subst this; exact spIns_ok hn2 hS hs
  | false =>
    rw [h1] at hs
    cases h2 : Nat.beq f 279 with
    | true => rw [h2] at hs; have := Nat.eq_of_beq_eq_true h2; subst this; exact spSizes_ok hn2 hs
    | false => rw [h2] at hs; cases hs
theorem PC.of_belowV {f : FuncId} {args : List V} {r : V} (h0 : V.lts 0 args = true) (h1 : V.lt 0 r = true)
    (H : ∀ g w vs, Rel g (fun _ => none) w → GL g (fun _ => none) w args vs → Calls Tryz.prog f vs.toArray w fun e w' => ∃ v, e = .returned v ∧ Below w.heap.size w w' ∧ ∃ F' : Nat → Nat, (∀ b, b < w.heap.size → F' b = g.F b) ∧ (∀ b, w'.heap.size ≤ b → F' b = 0) ∧ GV { g with F := F' } (fun _ => none) w' r v) : PC Tryz.prog f args r := by
  refine ⟨h0, h1, fun g w vs hr hn hg => ((AC.of_belowV H 0) g w vs hr hn hg).mono fun e w' ⟨v, x, h', n', g', k1, k2, k3⟩ => ⟨v, x, h', n', g', k1, k2.1, k3⟩⟩
structure EnvIs (ew eh : Int) (l : List Int) : Prop where
  w0 : 0 ≤ ew
  w1 : ew ≤ 16777216
  h0 : 0 ≤ eh
  h1 : eh ≤ 16777216
  len : l.length ≤ 256
  adv : ∀ x ∈ l, 0 ≤ x ∧ x ≤ 65536
  v0 : (Val.v 100 : Int) = ew
  v1 : (Val.v 101 : Int) = eh
  d0 : Val.d 0 = .l 1 (l.map fun a => [.i .i64 a])
theorem ints_rd {F : Nat → Nat} {w : World} {l : List Int} {v : Value} (h : RD F w (.l 1 (l.map fun a => [.i .i64 a])) v) : ∃ A cap, v = .slice A l.length cap ∧ Ints w w.heap.size A l := by
  by_cases h0 : l = []
  · subst h0
    have h : RD F w (.l 1 []) v := h
    cases h with
    | lz => exact ⟨none, 0, rfl, fun e => absurd rfl e⟩
    | l _ _ b off cap => exact ⟨some ⟨b, off, none⟩, cap, rfl, fun e => absurd rfl e⟩
  · have hlen : (l.map fun a => [D.i .i64 a]).length = l.length := by simp
    obtain ⟨b, off, cap, rfl, h1, h2⟩ := rows_at h (by simpa using h0)
    refine ⟨some ⟨b, off, none⟩, cap, by rw [hlen], fun _ => ⟨b, off, rfl, h1, fun j hj => ?_⟩⟩
    have hj' : j < l.length := by simpa using hj
    obtain ⟨u, c1, d1⟩ := h2 j [.i .i64 l[j]] 0 _ (by rw [List.getElem?_map, List.getElem?_eq_getElem hj']; rfl) rfl
    cases d1
    rw [List.getElem?_map, List.getElem?_eq_getElem hj']
    rw [show off + j * 1 + 0 = off + j by omega] at c1
    exact c1
theorem right_pc {ew eh : Int} {l : List Int} (hE : EnvIs ew eh l) : CallOk Tryz.prog 16 ∧ PC Tryz.prog 16 [envO] (.d (iN 0)) := by
  refine ⟨fun args w => rfl, PC.of_belowV rfl rfl fun g w vs hr hg => ?_⟩
  obtain ⟨x, rfl, g1⟩ := hg.one
  obtain ⟨us, rfl, hl, ho, hu⟩ := g1.a_inv
  match us, hl with
  | [a, b, c], _ =>
    have h0 := hu 0 _ a rfl rfl
    have h1 := hu 1 _ b rfl rfl
    have h2 := rd_o (hu 2 _ c rfl rfl)
    rw [hE.d0] at h2
    obtain ⟨A, cap, rfl, hA⟩ := ints_rd h2
    cases h0
    cases h1
    have e0 : (Ex.v 100).val = ew := hE.v0
    have e1 : (Ex.v 101).val = eh := hE.v1
    rw [e0, e1]
    exact (right_walk ew eh l A cap w hE.w0 hE.w1 hE.h0 hE.h1 hE.len hE.adv hA).mono fun e w' ⟨r1, r2⟩ => ⟨_, r1, r2, g.F, fun _ _ => rfl, fun b hb => hr.fresh b (Nat.le_trans r2.size hb), .d _ _ (.i _ _)⟩
theorem rd_own {F : Nat → Nat} {w w' : World} {base : Nat} {v : Value} {n : Nat} {xs : List Value} {ds : List D} (ho : w'.ownsRow base 21 1 v n xs) (hb : w.heap.size ≤ base) (hl : ds.length = n)
    (hx : ∀ (i : Nat) d u, ds[i]? = some d → xs[i]? = some u → ∀ F w, RD F w d u) (hF : ∀ b, w.heap.size ≤ b → F b = 0) (hsz : w.heap.size ≤ w'.heap.size) :
    ∃ F' : Nat → Nat, (∀ b, b < w.heap.size → F' b = F b) ∧ (∀ b, w'.heap.size ≤ b → F' b = 0) ∧ RD F' w' (.l 1 (ds.map fun d => [d])) v := by
  rcases ho.2 with ⟨rfl, h0⟩ | ⟨g, cap, cur, rfl, h1, h2, h3, h4, h5, h6⟩
  · subst h0
    have : ds = [] := List.eq_nil_of_length_eq_zero hl
    subst this
    exact ⟨F, fun _ _ => rfl, fun b hb => hF b (by omega), .lz 1⟩
  · have hlt : g < w'.heap.size := (Array.getElem?_eq_some_iff.1 h2).1
    have hlx : xs.length = n * 1 := ho.1
    refine ⟨up F g n, fun b hb => up_ne _ _ _ (by omega), fun b hb => by rw [up_ne _ _ _ (by omega)]; exact hF b (by omega), ?_⟩
    have hlen : (ds.map fun d => [d]).length = n := by simp [hl]
    have := RD.l (F := up F g n) (w := w') 1 (ds.map fun d => [d]) g 0 cap cur 21 (0, 0) h2 (by rw [up_same, hlen]; omega) (by rw [up_same]; omega) (by omega) (by rw [hlen]; exact h3)
      (fun r hr => by obtain ⟨d, _, rfl⟩ := List.mem_map.1 hr; rfl)
      (fun i r j d u a1 a2 a3 => by
        rw [List.getElem?_map] at a1
        cases hq : ds[i]? with
        | none => rw [hq] at a1; cases a1
        | some d' =>
          rw [hq] at a1
          cases a1
          match j, a2 with
          | 0, a2 =>
            cases a2
            have hi := (List.getElem?_eq_some_iff.1 hq).1
            refine hx i d u hq ?_ _ _
            rw [← h6, List.getElem?_take_of_lt (by omega), Array.getElem?_toList]
            rw [show 0 + i * 1 + 0 = i by omega] at a3
            exact a3
          | j + 1, a2 => simp at a2)
    rw [hlen] at this
    exact this
theorem decode_pc {R : List Nat} (h50 : Val.d 50 = .l 1 (R.map fun c => [.i .i32 (Int.ofNat c)])) (h51 : Val.d 51 = .l 1 (R.map fun c => [.i .u8 (Int.ofNat c)])) (hne : R ≠ []) (hl : R.length ≤ 60000) (hR : ∀ u ∈ R, 0 < u ∧ u < 128 ∧ u ≠ 13 ∧ u ≠ 10) :
    CallOk Tryz.prog 17 ∧ PC Tryz.prog 17 [.d (.o 51)] (.tu [.d (.o 50), .d (iN 0)]) := by
  refine ⟨fun args w => rfl, PC.of_belowV rfl rfl fun g w vs hr hg => ?_⟩
  obtain ⟨x, rfl, g1⟩ := hg.one
  have g2 := rd_o g1.d_inv
  rw [h51] at g2
  have hlen : (R.map fun c => [D.i .u8 (Int.ofNat c)]).length = R.length := by simp
  obtain ⟨b, off, cap, rfl, h1, h2⟩ := rows_at g2 (by simpa using hne)
  obtain ⟨xs, hxs⟩ : ∃ xs, R.map UInt8.ofNat = xs := ⟨_, rfl⟩
  have hxl : xs.length = R.length := by rw [← hxs]; simp
  have hat : ∀ i (hi : i < R.length), ∃ u, xs[i]? = some u ∧ u.toNat = R[i] := fun i hi => by
    refine ⟨UInt8.ofNat R[i], by rw [← hxs, List.getElem?_map, List.getElem?_eq_getElem hi]; rfl, ?_⟩
    have := (hR R[i] (List.getElem_mem hi)).2.1
    simp only [UInt8.toNat_ofNat']
    omega
  have hw := decode_walk b off cap xs w (by rw [hxl]; exact hl) (fun u hu => by
    obtain ⟨i, hi⟩ := List.getElem?_of_mem hu
    have hil := (List.getElem?_eq_some_iff.1 hi).1
    obtain ⟨u', e1, e2⟩ := hat i (by omega)
    rw [hi] at e1
    cases e1
    have := hR R[i] (List.getElem_mem (by omega))
    rw [e2]
    exact this) (fun j hj => by
    obtain ⟨u', e1, e2⟩ := hat j (by omega)
    obtain ⟨u, c1, d1⟩ := h2 j [.i .u8 (Int.ofNat (R[j]'(by omega)))] 0 _ (by rw [List.getElem?_map, List.getElem?_eq_getElem (by omega)]; rfl) rfl
    cases d1
    rw [List.getElem?_eq_getElem hj] at e1
    cases e1
    rw [e2, Addr.add_lit]
    rw [show off + j * 1 + 0 = off + j by omega] at c1
    exact c1)
  rw [hlen, ← hxl]
  refine hw.mono fun e w' ⟨v, r1, r2, r3⟩ => ?_
  obtain ⟨F', f1, f2, f3⟩ := rd_own (F := g.F) (w := w) (ds := R.map fun c => D.i .i32 (Int.ofNat c)) r3 (Nat.le_refl _) (by simp [hxl]) (fun i d u a1 a2 F w => by
    rw [List.getElem?_map] at a1 a2
    cases hq : R[i]? with
    | none => rw [hq] at a1; cases a1
    | some c =>
      rw [hq] at a1
      cases a1
      have hi := (List.getElem?_eq_some_iff.1 hq).1
      obtain ⟨u', e1, e2⟩ := hat i hi
      rw [e1] at a2
      cases a2
      have hc : R[i] = c := (List.getElem?_eq_some_iff.1 hq).2
      rw [hc] at e2
      show RD F w (.i .i32 (Int.ofNat c)) (.int .i32 (u'.toNat : Int))
      rw [e2]
      exact .i _ _) hr.fresh r2.size
  rw [List.map_map] at f3
  refine ⟨_, r1, r2, F', f1, f2, gv_pair (.o _ _ ?_) (.i _ _)⟩
  rw [h50]
  exact f3
end Go.Abs
namespace Go.Abs
open Go.RowKit Go.Proofs
set_option maxRecDepth 100000
noncomputable def preO (os : List Int) (n : Nat) : Nat → List Nat
  | 0 => []
  | m + 1 => preO os n m ++ (pce n m ++ ordS (oi os m))
noncomputable def docO (os : List Int) (n : Nat) : List Nat := preO os n n ++ pce n n
theorem pce_cases (n m : Nat) : pce n m = cO ∨ pce n m = cA ∨ pce n m = cM ∨ pce n m = cZ := by
  unfold pce
  cases n with
  | zero => exact .inl rfl
  | succ n =>
    show (Bool.rec (Bool.rec cM cZ (Nat.beq m (n + 1))) cA (Nat.beq m 0) : List Nat) = cO ∨ (Bool.rec (Bool.rec cM cZ (Nat.beq m (n + 1))) cA (Nat.beq m 0) : List Nat) = cA ∨ (Bool.rec (Bool.rec cM cZ (Nat.beq m (n + 1))) cA (Nat.beq m 0) : List Nat) = cM ∨ (Bool.rec (Bool.rec cM cZ (Nat.beq m (n + 1))) cA (Nat.beq m 0) : List Nat) = cZ
    cases Nat.beq m 0 with
    | true => exact .inr (.inl rfl)
    | false => cases Nat.beq m (n + 1) with
      | true => exact .inr (.inr (.inr rfl))
      | false => exact .inr (.inr (.inl rfl))
theorem pce_ok (n m : Nat) : (pce n m).length ≤ 16 ∧ 0 < (pce n m).length ∧ ∀ u ∈ pce n m, 0 < u ∧ u < 128 ∧ u ≠ 13 ∧ u ≠ 10 := by
  rcases pce_cases n m with h | h | h | h <;> rw [h] <;> decide
theorem ordN_mem {o : Int} (h0 : -9 ≤ o) (h1 : o ≤ 9) : ∀ u ∈ ordN o, u = 45 ∨ (48 ≤ u ∧ u ≤ 57) := by
  intro u hu
  unfold ordN at hu
  rcases List.mem_append.1 hu with h | h
  · split at h
    · exact .inl (List.mem_singleton.1 h)
    · cases h
  · have := List.mem_singleton.1 h
    exact .inr (by omega)
theorem ordN_len (o : Int) : (ordN o).length ≤ 2 := by
  unfold ordN
  split <;> simp
theorem ordS_eq (o : Int) : ordS o = n_order ++ 58 :: ordN o := rfl
theorem ordS_ok {o : Int} (h0 : -9 ≤ o) (h1 : o ≤ 9) : (ordS o).length ≤ 8 ∧ 0 < (ordS o).length ∧ ∀ u ∈ ordS o, 0 < u ∧ u < 128 ∧ u ≠ 13 ∧ u ≠ 10 ∧ u ≠ 34 ∧ u ≠ 38 := by
  have hl := ordN_len o
  refine ⟨by rw [ordS_eq, List.length_append, List.length_cons]; show 5 + _ ≤ 8; omega, by rw [ordS_eq, List.length_append]; show 0 < 5 + _; omega, fun u hu => ?_⟩
  rw [ordS_eq] at hu
  rcases List.mem_append.1 hu with h | h
  · have : ∀ u ∈ n_order, 0 < u ∧ u < 128 ∧ u ≠ 13 ∧ u ≠ 10 ∧ u ≠ 34 ∧ u ≠ 38 := by decide
    exact this u h
  · rcases List.mem_cons.1 h with h | h
    · subst h; decide
    · have := ordN_mem h0 h1 u h
      omega
section
variable (os : List Int) (n : Nat)
theorem pre_len : ∀ m, (preO os n m).length ≤ 24 * m
  | 0 => Nat.le_refl _
  | m + 1 => by
    have h1 := pre_len m
    have h2 := (pce_ok n m).1
    have h3 := (ordS_ok (oi_in os m).1 (oi_in os m).2).1
    show (preO os n m ++ (pce n m ++ ordS (oi os m))).length ≤ _
    rw [List.length_append, List.length_append]
    omega
theorem pre_ok : ∀ m, ∀ u ∈ preO os n m, 0 < u ∧ u < 128 ∧ u ≠ 13 ∧ u ≠ 10
  | 0, u, h => by cases h
  | m + 1, u, h => by
    rcases List.mem_append.1 (show u ∈ preO os n m ++ (pce n m ++ ordS (oi os m)) from h) with h | h
    · exact pre_ok m u h
    · rcases List.mem_append.1 h with h | h
      · exact (pce_ok n m).2.2 u h
      · have := (ordS_ok (oi_in os m).1 (oi_in os m).2).2.2 u h
        exact ⟨this.1, this.2.1, this.2.2.1, this.2.2.2.1⟩
theorem pre_more (m : Nat) : ∀ k, ∃ rest, preO os n (m + k) = preO os n m ++ rest
  | 0 => ⟨[], by simp⟩
  | k + 1 => by
    obtain ⟨r, hr⟩ := pre_more m k
    refine ⟨r ++ (pce n (m + k) ++ ordS (oi os (m + k))), ?_⟩
    show preO os n (m + k) ++ _ = _
    rw [hr, List.append_assoc]
    rfl
theorem doc_from {m : Nat} (hm : m ≤ n) : ∃ rest, docO os n = preO os n m ++ rest := by
  obtain ⟨r, hr⟩ := pre_more os n m (n - m)
  rw [show m + (n - m) = n by omega] at hr
  exact ⟨r ++ pce n n, by unfold docO; rw [hr, List.append_assoc]⟩
theorem doc_own {m : Nat} (hm : m < n) : ∃ rest, docO os n = preO os n m ++ (pce n m ++ (ordS (oi os m) ++ rest)) := by
  obtain ⟨r, hr⟩ := doc_from os n (m := m + 1) hm
  exact ⟨r, by rw [hr]; show (preO os n m ++ (pce n m ++ ordS (oi os m))) ++ r = _; rw [List.append_assoc, List.append_assoc]⟩
theorem doc_len (hn : n ≤ 20) : (docO os n).length ≤ 600 := by
  have h1 := pre_len os n n
  have h2 := (pce_ok n n).1
  unfold docO
  rw [List.length_append]
  omega
theorem doc_ok : ∀ u ∈ docO os n, 0 < u ∧ u < 128 ∧ u ≠ 13 ∧ u ≠ 10 := by
  intro u h
  rcases List.mem_append.1 h with h | h
  · exact pre_ok os n n u h
  · exact (pce_ok n n).2.2 u h
@[reducible] noncomputable def valO (ew eh : Int) (l : List Int) : Val where
  v := fun i => if i = 100 then ew else if i = 101 then eh else oi os i
  f := fun a j _ => if a = 3 then (srt os n)[j]!.1 else if a = 4 then (srt os n)[j]!.2 else if a = 5 then ((preO os n j).length : Int) else (docO os n).length
  d := fun i => if i = 0 then .l 1 (l.map fun a => [.i .i64 a]) else if i = 50 then .l 1 ((docO os n).map fun c => [.i .i32 (Int.ofNat c)]) else if i = 51 then .l 1 ((docO os n).map fun c => [.i .u8 (Int.ofNat c)])
    else if i ≤ 20 then .s (kB (ordS (oi os (i - 1)))) else if i ≤ 120 then runC (ordS (oi os (i - 101))) else if i ≤ 220 then tokC (oi os (i - 201)) else decC (oi os (i - 301))
  G := gS
variable (ew eh : Int) (l : List Int)
theorem cuts_O (hn : n ≤ 20) : @Cuts (valO os n ew eh l) n (docO os n) (fun m => (preO os n m).length) := by
  letI := valO os n ew eh l
  refine { d50 := rfl, pos := fun m _ => rfl, p0 := rfl, tot := rfl, len := by have := doc_len os n hn; omega, chunk := fun m j c hm hc => ?_, fin := by unfold docO; rw [List.length_append], ne := ?_, own := fun m hm => ⟨ordS (oi os m), ?_⟩ }
  · have hj := (List.getElem?_eq_some_iff.1 hc).1
    show (docO os n)[(preO os n m).length + j]? = some c
    rcases Nat.lt_or_ge m n with hlt | hge
    · obtain ⟨r, hr⟩ := doc_own os n hlt
      rw [hr, List.getElem?_append_right (by omega), Nat.add_sub_cancel_left, List.getElem?_append_left hj]
      exact hc
    · have : m = n := by omega
      subst this
      unfold docO
      rw [List.getElem?_append_right (by omega), Nat.add_sub_cancel_left]
      exact hc
  · have := (pce_ok n n).2.1
    unfold docO
    rw [List.length_append]
    omega
  · have ho := ordS_ok (oi_in os m).1 (oi_in os m).2
    refine ⟨ho.2.1, ?_, fun u hu => ?_, ?_, fun i hi => ?_⟩
    · show (if m + 1 = 0 then _ else if m + 1 = 50 then _ else if m + 1 = 51 then _ else if m + 1 ≤ 20 then D.s (kB (ordS (oi os (m + 1 - 1)))) else _) = _
      rw [if_neg (by omega), if_neg (by omega), if_neg (by omega), if_pos (by omega), Nat.add_sub_cancel]
    · have := ho.2.2 u hu
      omega
    · show (preO os n m ++ (pce n m ++ ordS (oi os m))).length = _
      rw [List.length_append, List.length_append]
      omega
    · obtain ⟨r, hr⟩ := doc_own os n hm
      rw [hr, List.getElem?_append_right (by omega), show (preO os n m).length + (pce n m).length + i - (preO os n m).length = (pce n m).length + i by omega, List.getElem?_append_right (by omega), Nat.add_sub_cancel_left, List.getElem?_append_left hi]
theorem runesV_kB (s : List Nat) (h : ∀ u ∈ s, u < 128) : runesV (kB s) = some (s.map fun c => [.i .i32 (Int.ofNat c)]) := by
  induction s with
  | nil => rfl
  | cons a s ih =>
    have ih := ih fun u hu => h u (List.mem_cons_of_mem _ hu)
    have ha : a < 128 := h a List.mem_cons_self
    have h1 : runeD (.c a) = some (.i .i32 (Int.ofNat a)) := by
      show (bif Nat.ble 128 a then none else some (.i .i32 a) : Option D) = _
      rw [show Nat.ble 128 a = false by
        cases hb : Nat.ble 128 a with
        | false => rfl
        | true => have := Nat.le_of_ble_eq_true hb; omega]
      rfl
    show (Option.rec none (fun d => Option.rec none (fun l => some ([d] :: l)) (runesV (kB s))) (runeD (.c a)) : Option (List (List D))) = _
    rw [h1, ih]
    rfl
theorem txt_O {i : Nat} (h1 : 1 ≤ i) (h2 : i ≤ 20) : @Txt (valO os n ew eh l) i := by
  letI := valO os n ew eh l
  have ho := ordS_ok (oi_in os (i - 1)).1 (oi_in os (i - 1)).2
  refine ⟨_, ?_, _, runesV_kB _ (fun u hu => (ho.2.2 u hu).2.1), ?_⟩
  · show (if i = 0 then _ else if i = 50 then _ else if i = 51 then _ else if i ≤ 20 then D.s (kB (ordS (oi os (i - 1)))) else _) = _
    rw [if_neg (by omega), if_neg (by omega), if_neg (by omega), if_pos (by omega)]
  · show (if i + 100 = 0 then _ else if i + 100 = 50 then _ else if i + 100 = 51 then _ else if i + 100 ≤ 20 then _ else if i + 100 ≤ 120 then runC (ordS (oi os (i + 100 - 101))) else _) = _
    rw [if_neg (by omega), if_neg (by omega), if_neg (by omega), if_neg (by omega), if_pos (by omega), show i + 100 - 101 = i - 1 by omega]
    rfl
theorem own_O {i : Nat} (hi : i < 20) : @OwnO (valO os n ew eh l) i (oi os i) := by
  letI := valO os n ew eh l
  have ho := oi_in os i
  refine { lo := ho.1, hi := ho.2, v := ?_, d1 := ?_, d2 := ?_, d3 := ?_ }
  · show (if i = 100 then _ else if i = 101 then _ else oi os i) = _
    rw [if_neg (by omega), if_neg (by omega)]
  · show (if i + 101 = 0 then _ else if i + 101 = 50 then _ else if i + 101 = 51 then _ else if i + 101 ≤ 20 then _ else if i + 101 ≤ 120 then runC (ordS (oi os (i + 101 - 101))) else _) = _
    rw [if_neg (by omega), if_neg (by omega), if_neg (by omega), if_neg (by omega), if_pos (by omega), Nat.add_sub_cancel]
  · show (if i + 201 = 0 then _ else if i + 201 = 50 then _ else if i + 201 = 51 then _ else if i + 201 ≤ 20 then _ else if i + 201 ≤ 120 then _ else if i + 201 ≤ 220 then tokC (oi os (i + 201 - 201)) else _) = _
    rw [if_neg (by omega), if_neg (by omega), if_neg (by omega), if_neg (by omega), if_neg (by omega), if_pos (by omega), Nat.add_sub_cancel]
  · show (if i + 301 = 0 then _ else if i + 301 = 50 then _ else if i + 301 = 51 then _ else if i + 301 ≤ 20 then _ else if i + 301 ≤ 120 then _ else if i + 301 ≤ 220 then _ else decC (oi os (i + 301 - 301))) = _
    rw [if_neg (by omega), if_neg (by omega), if_neg (by omega), if_neg (by omega), if_neg (by omega), if_neg (by omega), Nat.add_sub_cancel]
theorem sorted_O (hn : n ≤ 20) : @Sorted (valO os n ew eh l) n os := by
  letI := valO os n ew eh l
  refine { v := fun i hi => ?_, s3 := fun j _ => rfl, s4 := fun j _ => rfl }
  show (if i = 100 then _ else if i = 101 then _ else oi os i) = _
  rw [if_neg (by omega), if_neg (by omega)]
theorem env_O (w0 : 0 ≤ ew) (w1 : ew ≤ 16777216) (h0 : 0 ≤ eh) (h1 : eh ≤ 16777216) (hl : l.length ≤ 256) (ha : ∀ x ∈ l, 0 ≤ x ∧ x ≤ 65536) : @EnvIs (valO os n ew eh l) ew eh l :=
  letI := valO os n ew eh l
  { w0 := w0, w1 := w1, h0 := h0, h1 := h1, len := hl, adv := ha, v0 := rfl, v1 := rfl, d0 := rfl }
end
end Go.Abs
namespace Go.Abs
open Go.RowKit Go.Proofs
set_option maxRecDepth 100000
structure RunsO : Prop where
  tok : ∀ n, n ≤ 20 → qTok n = true
  tree : ∀ n, n ≤ 20 → qTree n = true
  own : ∀ n, n ≤ 20 → qOwnA n = true
  mean : ∀ n, n ≤ 20 → qMeanA n = true
  sty : ∀ n, n ≤ 20 → qStyM n = true
  box : ∀ n, n ≤ 20 → qBox n = true
  lay : ∀ n, n ≤ 20 → qLay n = true
  lst : ∀ n, n ≤ 20 → qLst n = true
  all : ∀ n, n ≤ 20 → qAll n = true
  cssT : pcB (enQ []) 40 47 [runesN cssO] cssOT = true
  cssR : pcB (enQ []) 40 46 [cssOT] cssOR = true
theorem upN_memO {α : Type} {f : Nat → α} {x : α} {n : Nat} (h : x ∈ upN (fun i => [f i]) n 0) : ∃ k, k < n ∧ x = f k := by
  obtain ⟨i, hi⟩ := List.getElem?_of_mem h
  exact ⟨i, upN_getO f hi⟩
theorem render_pcO (hQ : RunsO) (os : List Int) {n : Nat} (hn : n ≤ 20) {ew eh : Int} {l : List Int} (w0 : 0 ≤ ew) (w1 : ew ≤ 16777216) (h0 : 0 ≤ eh) (h1 : eh ≤ 16777216) (hl : l.length ≤ 256) (ha : ∀ x ∈ l, 0 ≤ x ∧ x ≤ 65536) :
    @PC (valO os n ew eh l) Tryz.prog 9 [.d (.o 51), bytesN cssO, envO] (.tu [lstO n, .d (iN 0)]) := by
  letI := valO os n ew eh l
  have hG : Val.G = gS := rfl
  have hC := cuts_O os n ew eh l hn
  have hS := sorted_O os n ew eh l hn
  have hE := env_O os n ew eh l w0 w1 h0 h1 hl ha
  have hT : ∀ i, 1 ≤ i → i ≤ 20 → Txt i := fun i a b => txt_O os n ew eh l a b
  have hlen : ((docO os n).map fun c => [D.i .i32 (Int.ofNat c)]).length ≤ 1000000 := by
    have := doc_len os n hn
    rw [List.length_map]; omega
  have hP : ∀ {q : List (FuncId × (List V → Option V))}, (∀ p ∈ q, OrcT Tryz.prog p.1 p.2) → EnOk Tryz.prog (enP q) := fun hq => enP_ok hG hq hC.d50 hlen hT
  have orcOwn_ok : ∀ p ∈ orcOwn n, OrcT Tryz.prog p.1 p.2 := by
    intro p hp
    obtain ⟨i, hi, rfl⟩ := upN_memO hp
    have hr : qOwn n i = true := allU_ok (hQ.own n hn) i hi
    exact .one (pcB_ok (hP (orcWi_ok hG (own_O os n ew eh l (i := i) (by omega)))) (extO_rd _ rfl) hr)
  have orcMO_ok : ∀ p ∈ orcMO n, OrcT Tryz.prog p.1 p.2 := by
    intro p hp
    obtain ⟨i, hi, rfl⟩ := upN_memO hp
    have hr : qMean n i = true := allU_ok (hQ.mean n hn) i hi
    exact .one (pcH orcOwn_ok hG hr)
  have orcSO_ok : ∀ p ∈ List.append (orcMO n) orcRO, OrcT Tryz.prog p.1 p.2 := by
    intro p hp
    rcases List.mem_append.1 (show p ∈ orcMO n ++ orcRO from hp) with h | h
    · exact orcMO_ok p h
    · exact orcRO_ok hG p h
  have hne : docO os n ≠ [] := fun e => by
    have := hC.ne
    rw [e] at this
    cases this
  have orcNO_ok : ∀ p ∈ orcNO n, OrcT Tryz.prog p.1 p.2 := by
    intro p hp
    rcases List.mem_cons.1 hp with rfl | hp
    · exact .one (right_pc hE)
    rcases List.mem_cons.1 hp with rfl | hp
    · exact .one (decode_pc hC.d50 rfl hne (by have := doc_len os n hn; omega) (doc_ok os n))
    rcases List.mem_cons.1 hp with rfl | hp
    · exact .one (pcT_ok (hP no_orc) (extO_rd _ rfl) (spTok_ok hC) (hQ.tok n hn))
    rcases List.mem_cons.1 hp with rfl | hp
    · exact .one (pcQ no_orc hG (hQ.tree n hn))
    rcases List.mem_cons.1 hp with rfl | hp
    · exact .one (pcQ no_orc hG hQ.cssT)
    rcases List.mem_cons.1 hp with rfl | hp
    · exact .one (pcQ no_orc hG hQ.cssR)
    rcases List.mem_cons.1 hp with rfl | hp
    · exact .one (pcH orcSO_ok hG (hQ.sty n hn))
    rcases List.mem_cons.1 hp with rfl | hp
    · exact .one (pcH no_orc hG (hQ.box n hn))
    rcases List.mem_cons.1 hp with rfl | hp
    · exact .one (pcT_ok (enY_ok hG) (extF_rd _ rfl) (spLay_ok hn hS) (hQ.lay n hn))
    rcases List.mem_cons.1 hp with rfl | hp
    · exact .one (pcH no_orc hG (hQ.lst n hn))
    cases hp
  exact (pcH orcNO_ok hG (hQ.all n hn)).2
end Go.Abs
