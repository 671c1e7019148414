/-
  contracts of some functions of the library; the environments.
-/
import Derived.Test.YtkkiefcapbddkaaGreatDoorAbG
import Derived.Test.YtkkiefcapbddkaaGreatDoorTab
import Derived.Test.YtkkiefcapbddkaaGreatDoorOkE
import Derived.Test.YtkkiefcapbddkaaGreatDoorProg
import Derived.Lib.Builder
import Derived.Lib.Strings
import Derived.Lib.Slices
import Derived.Lib.Walk
import Derived.Lib.AppendStr
import Derived.Lib.UnsafeStr
import Derived.WalkKit
import Derived.Handy
import Derived.Laws.Externs
import Derived.Laws.AppendOwn
import Derived.Below
import Derived.BigRegion
import Derived.Deep.Draws
import Derived.Lib.MinMax
set_option linter.all false
namespace Go.Abs
open Go.RowKit Go.Proofs
theorem u_T : Tryz.prog.underlying 176 = some (.pointer 178) := by kernel_rfl
theorem u_U : Tryz.prog.underlying 373 = some .unsafePointer := by kernel_rfl
theorem u_S : Tryz.prog.underlying 32 = some (.slice 5) := by kernel_rfl
theorem u_P : Tryz.prog.underlying 276 = some (.pointer 5) := by kernel_rfl
theorem i_B : (Tryz.prog.info? 178).map (·.size) = some 2 := by kernel_rfl
theorem l_B : liesAt Tryz.prog Tryz.prog.depth 178 (2 / Tryz.prog.cellsOf 178) 0 178 1 = true := by kernel_rfl
theorem i_Y : (Tryz.prog.info? 5).map (fun i => (i.zero, i.size, i.bytes)) = some (some (.int .u8 0), 1, 1) := by kernel_rfl
theorem c_Y : Tryz.prog.cellsOf 5 = 1 := by kernel_rfl
set_option maxHeartbeats 1000000 in
set_option maxRecDepth 100000 in
theorem cc_used (b : Nat) (w : World) (h0 : w.cell? ⟨b, 0, none⟩ = some (.pointer (some ⟨b, 0, none⟩))) :
    Calls Tryz.prog 165 #[.pointer (some ⟨b, 0, none⟩)] w fun e w' => e = .returned (.tuple #[]) ∧ w' = w := by
  obtain ⟨j, hj, _⟩ := Option.map_eq_some_iff.1 i_B
  go_enter Tryz.func165, Tryz.ntmps165
  go_wp2
  rw [Lib.run_neq_ptr_same w _ u_T hj]
  go_wp2
  go_end0
  exact ⟨rfl, rfl⟩
set_option maxHeartbeats 1000000 in
set_option maxRecDepth 100000 in
theorem cc_fresh (b : Nat) (w : World) (h0 : w.cell? ⟨b, 0, none⟩ = some (.pointer none)) (hsh : w.shape? b = some (178, 2)) (hfz : w.frozen? ⟨b, 0, none⟩ = false) :
    Calls Tryz.prog 165 #[.pointer (some ⟨b, 0, none⟩)] w fun e w' => e = .returned (.tuple #[]) ∧ w' = w.setCell ⟨b, 0, none⟩ (.pointer (some ⟨b, 0, none⟩)) := by
  obtain ⟨j, hj, hjs⟩ := Option.map_eq_some_iff.1 i_B
  go_enter Tryz.func165, Tryz.ntmps165
  go_wp2
  rw [Lib.run_to_unsafe w ⟨b, 0, none⟩ u_T u_U hj (by rw [hjs]; decide) hsh (Nat.zero_lt_succ 1)]
  simp only [Result.andThen]
  rw [Oper.upon_value]
  go_wp2
  rw [run_callFunc_extern Tryz.func249 (by kernel_rfl) (by kernel_rfl) (by kernel_rfl) (e := Extern.AbiNoEscape.same) (by kernel_rfl)]
  rw [Lib.run_noEscape]
  simp only [Result.andThen]
  rw [Oper.upon_value]
  go_wp2
  rw [Lib.run_from_unsafe w ⟨b, 0, none⟩ u_U u_T hj hsh l_B]
  simp only [Result.andThen]
  rw [Oper.upon_value]
  go_wp2
  go_end0
  exact ⟨rfl, rfl⟩
theorem b_check (B b : Nat) (bs : List Value) (w : World) (h : Lib.IsBuilder 178 5 B b bs w) :
    Calls Tryz.prog 165 #[.pointer (some ⟨b, 0, none⟩)] w fun e w' => e = .returned (.tuple #[]) ∧ (Lib.BuilderAt 178 5 B b (.pointer (some ⟨b, 0, none⟩)) bs w' ∧ Below B w w') := by
  rcases h with h | h
  · refine (cc_fresh b w h.cell0 h.shape h.frozen0).mono ?_
    rintro e w' ⟨rfl, rfl⟩
    exact ⟨rfl, h.used _, (Below.refl B w).setCell (p := ⟨b, 0, none⟩) h.1 _⟩
  · refine (cc_used b w h.cell0).mono ?_
    rintro e w' ⟨rfl, rfl⟩
    exact ⟨rfl, h, Below.refl B _⟩
set_option maxHeartbeats 2000000 in
set_option maxRecDepth 100000 in
theorem b_byte (B b : Nat) (bs : List Value) (c : Int) (w : World) (h : Lib.IsBuilder 178 5 B b bs w) (hlen : bs.length + 1 ≤ 140737488355328) (hBw : B ≤ w.heap.size) :
    Calls Tryz.prog 82 #[.pointer (some ⟨b, 0, none⟩), .int .u8 c] w fun e w' => e = .returned .nilIface ∧ (Lib.BuilderAt 178 5 B b (.pointer (some ⟨b, 0, none⟩)) (bs ++ [.int .u8 c]) w' ∧ Below B w w') := by
  obtain ⟨i0, hi, hz0, hz1, hz2⟩ := info_parts i_Y
  go_enter Tryz.func82, Tryz.ntmps82
  go_wp2_with (go_at_call 165; refine (b_check B b bs _ h).mono ?_)
  rintro e w1 ⟨rfl, h1, hb1⟩
  obtain ⟨hB, v, hbk, hown, hne⟩ := h1
  have c0 : w1.cell? ⟨b, 0, none⟩ = some (.pointer (some ⟨b, 0, none⟩)) := by rw [Lib.cell_of_heap hbk]; rfl
  have c1 : w1.cell? ⟨b, 1, none⟩ = some v := by rw [Lib.cell_of_heap hbk]; rfl
  go_wp2_with (at_builtin; refine wpList_append_own _ rfl _ _ 32 rfl B 5 i0 (.int .u8 0) 1 1 u_S hi hz0 hz1 hz2 rfl (by decide) _ _ _ rfl (hown.alloc _) ⟨w1.heap.size, 0, none⟩ 1 1 [.int .u8 c] rfl rfl ?c1 ?c2 ?c3 ?c4 ?c5 ?_)
  case c1 =>
    intro j u hj
    match j, hj with
    | 0, hj => simp at hj; subst hj; simp [Addr.add]
  case c2 => intro u hu; simp at hu; subst hu; rfl
  case c3 => unfold maxLen; omega
  case c4 => omega
  case c5 => have := hb1.size; simp; omega
  intro v' w2 hown' hgrow _
  have hlt : b < w1.heap.size := by
    rcases Nat.lt_or_ge b w1.heap.size with h' | h'
    · exact h'
    · simp [Array.getElem?_eq_none h'] at hbk
  have hb2 : w2.heap[b]? = some (.cells #[.pointer (some ⟨b, 0, none⟩), v] 178 (0, 0)) := by
    rw [hgrow.block b (by simp; omega) (fun e => hne e.symm), Lib.alloc_old w1 _ b hlt]
    exact hbk
  have d0 : w2.cell? ⟨b, 0, none⟩ = some (.pointer (some ⟨b, 0, none⟩)) := by rw [Lib.cell_of_heap hb2]; rfl
  have d1 : w2.cell? ⟨b, 1, none⟩ = some v := by rw [Lib.cell_of_heap hb2]; rfl
  have f1 : w2.frozen? ⟨b, 1, none⟩ = false := Lib.frozen_of_heap hb2 1
  obtain ⟨g, cap, rfl⟩ : ∃ g cap, v' = .slice (some ⟨g, 0, none⟩) (bs.length + 1) cap := by
    rcases hown'.2 with ⟨_, h0⟩ | ⟨g, cap, cur, hv, _⟩
    · omega
    · exact ⟨g, cap, hv⟩
  go_wp2
  go_ret
  refine ⟨rfl, ?_, ?_⟩
  · exact Lib.BuilderAt.put (T := 178) (e := 5) hB hb2 (bs' := bs ++ [.int .u8 c]) (by simpa using hown') (by decide)
  · exact ((hb1.alloc (by have := hb1.size; omega) _).grown hgrow (by have := hb1.size; simp; omega) (fun k hk => (hown.lt k hk).1)).setCell (p := ⟨b, 1, none⟩) hB _
set_option maxHeartbeats 1000000 in
set_option maxRecDepth 100000 in
theorem b_string (B b : Nat) (l : List UInt8) (w : World) (h : Lib.IsBuilder 178 5 B b (Lib.byteCells l) w) (h0 : l ≠ []) :
    Calls Tryz.prog 83 #[.pointer (some ⟨b, 0, none⟩)] w fun e w' => e = .returned (.string ⟨l.toArray⟩) ∧ Below B w w' := by
  obtain ⟨p, hB, v, hbk, hown, hne⟩ : ∃ p, Lib.BuilderAt 178 5 B b p (Lib.byteCells l) w := by
    rcases h with h | h
    · exact ⟨_, h⟩
    · exact ⟨_, h⟩
  have hl0 : l.length ≠ 0 := by simpa using h0
  rw [Lib.byteCells_length] at hown
  obtain ⟨g, cap, cur, rfl, hbg, hg, hnc, hcm, hcs, htake⟩ : ∃ g cap cur, v = .slice (some ⟨g, 0, none⟩) l.length cap ∧ B ≤ g ∧ w.heap[g]? = some (.cells cur 5 (0, 0)) ∧ l.length ≤ cap ∧ cap ≤ maxLen ∧ cur.size = cap * 1 ∧ cur.toList.take (l.length * 1) = Lib.byteCells l := by
    rcases hown.2 with ⟨_, hz⟩ | ⟨g, cap, cur, hv, r⟩
    · exact absurd hz hl0
    · exact ⟨g, cap, cur, hv, r⟩
  have c1 : w.drew.cell? ⟨b, 1, none⟩ = some (.slice (some ⟨g, 0, none⟩) l.length cap) := by
    have : w.drew.heap[b]? = some (.cells #[p, .slice (some ⟨g, 0, none⟩) l.length cap] 178 (0, 0)) := hbk
    rw [Lib.cell_of_heap this]; rfl
  have hSD : (Builtin.unsafeSliceData_ #[32] 276 #[.slice (some ⟨g, 0, none⟩) l.length cap]).run Tryz.prog w.drew = .ok (.pointer (some ⟨g, 0, none⟩)) w.drew :=
    Lib.run_unsafeSliceData_row _ _ _ _ _ _ (by omega)
  have hUS : (Builtin.unsafeString_ #[276, 3] 9 #[.pointer (some ⟨g, 0, none⟩), .int .i64 l.length]).run Tryz.prog w.drew = .ok (.string ⟨l.toArray⟩) (w.drew.freeze ⟨g, 0, none⟩ l.length) := by
    refine Lib.run_unsafeString_row w.drew 276 3 9 5 u_P c_Y g cur.size (by have hg' : w.drew.heap[g]? = some (.cells cur 5 (0, 0)) := hg; simp [World.shape?, hg']) l h0 (by omega) (by unfold maxLen at hcm; omega) ?_
    intro j x hx
    have := hown.cells (g := g) rfl j (.int .u8 x.toNat) (by simp [Lib.byteCells, hx])
    exact this
  go_enter Tryz.func83, Tryz.ntmps83
  go_wp2
  go_region
  all_goals (go_wp2; go_ret; exact ⟨rfl, Lib.below_freeze (Below.drew (Below.refl B w)) (p := ⟨g, 0, none⟩) hbg _⟩)

end Go.Abs
namespace Go.Abs
open Go.RowKit Go.Proofs
set_option maxRecDepth 100000
def strSz : Value → Nat
  | .string s => s.size
  | _ => 0
theorem unesc_walk (s : ByteArray) (hs : Hid (∀ b ∈ s.data.toList, b.toNat ≠ 38)) (h0 : Hid (s.data.toList ≠ [])) (hl : s.size ≤ 140737488355328) (w : World) :
    Calls Tryz.prog 42 #[.string s] w fun e w' => e = .returned (.string s) ∧ Below w.heap.size w w' := by
  have hfr : Hid (Lib.IsBuilder 178 5 w.heap.size w.heap.size (Lib.byteCells []) (w.alloc (.cells #[.pointer none, .slice none 0 0] 178))) := Lib.fresh_isBuilder 178 5 w
  go_enter Tryz.func42, Tryz.ntmps42
  go_wp2_with fail
  go_loopw [0] (fun s0 wr => ∃ (t : ByteArray) (pre : List UInt8), s0 = .string t ∧ Hid (pre ++ t.data.toList = s.data.toList) ∧ Hid (Lib.IsBuilder 178 5 w.heap.size w.heap.size (Lib.byteCells pre) wr) ∧ Below w.heap.size w wr) (fun i _ => strSz i)
  case atStart => exact ⟨s, [], rfl, rfl, hfr, (Below.refl _ _).alloc (Nat.le_refl _) _⟩
  case round =>
    clear hfr
    obtain ⟨t, pre, rfl, HP, HB, hb⟩ := hrel
    have hbs := hb.size
    by_cases ht : t.data.toList = []
    · have : t = ByteArray.empty := by
        cases t with | mk d => cases d with | mk l => cases ht; rfl
      subst this
      have e0 : ByteArray.empty.toList.isEmpty = true := by rw [ByteArray.toList_eq]; rfl
      have hpre : pre = s.data.toList := by simpa using HP.out
      go_wp2_with (go_at_call 83; refine (b_string w.heap.size w.heap.size pre _ HB.out (by rw [hpre]; exact h0.out)).mono ?_)
      rintro e w2 ⟨rfl, hb2⟩
      go_wp2
      go_ret
      exact ⟨rfl, hb.trans hb2⟩
    · have hz : 0 < t.size := by
        have : t.size = t.data.toList.length := rfl
        rw [this]; exact List.length_pos_iff.2 ht
      have e0 : t.toList.isEmpty = false := by rw [ByteArray.toList_eq]; cases hq : t.data.toList with | nil => exact absurd hq ht | cons _ _ => rfl
      have hcons : t.data.toList = t[0] :: (t.extract 1 t.size).data.toList := by
        have h1 : (t.extract 1 t.size).data.toList = t.data.toList.drop 1 := by
          rw [ByteArray.data_extract, Array.toList_extract]
          simp only [List.extract]
          rw [List.take_of_length_le]
          rw [List.length_drop]; exact Nat.le_refl _
        have h2 : t.data.toList = t.data.toList[0]'hz :: t.data.toList.drop 1 := by
          rw [List.getElem_cons_drop, List.drop_zero]
        rw [h1]; exact h2
      have hmem : t[0] ∈ s.data.toList := by rw [← HP.out, hcons]; simp
      have hx : ((t[0].toNat : Int) == 38) = false := by
        have := hs.out _ hmem
        simp; omega
      have hlen : pre.length + t.size = s.size := by
        have := congrArg List.length HP.out
        rw [List.length_append] at this
        exact this
      have hsz1 : (t.extract 1 t.size).size = t.size - 1 := by simp
      have HP2 : Hid ((pre ++ [t[0]]) ++ (t.extract 1 t.size).data.toList = s.data.toList) := by
        show _ = _
        rw [← HP.out, hcons]; simp
      go_wp2_with (go_at_call 82; refine (b_byte w.heap.size w.heap.size (Lib.byteCells pre) _ _ HB.out (by rw [Lib.byteCells_length]; omega) hbs).mono ?_)
      rintro e w2 ⟨rfl, hB2, hb2⟩
      go_wp2
      go_roundw
      case rel => exact ⟨t.extract 1 t.size, pre ++ [t[0]], rfl, HP2, .inr (by simpa [Lib.byteCells] using hB2), hb.trans hb2⟩
      case measure => show strSz _ < strSz _; simp [strSz]; omega
variable [Val]
noncomputable def orcUnesc (args : List V) : Option V := match args with
  | [.d (.s s)] => ob (idxB (.c 38) s) fun n => Bool.rec none (Bool.rec (Bool.rec none (some (.d (.s s))) (Nat.ble (lenL s) 100000)) none (Nat.beq (lenL s) 0)) (eqI n (Int.negSucc 0))
  | _ => none
theorem mem_index {u : UInt8} : ∀ {l : List UInt8}, Lib.indexByte l u = -1 → ∀ b ∈ l, b ≠ u
  | [], _, b, hb => by cases hb
  | a :: l, h, b, hb => by
    unfold Lib.indexByte at h
    by_cases e : a = u
    · subst e; simp at h
    · have e1 : (a == u) = false := by simpa using e
      rw [e1] at h
      simp only [Bool.false_eq_true, if_false] at h
      have hl : Lib.indexByte l u = -1 := by
        by_cases q : (Lib.indexByte l u == -1) = true
        · simpa using q
        · rw [if_neg q] at h
          have := Lib.indexByte_ge l u
          simp at q
          omega
      rcases List.mem_cons.1 hb with rfl | hb
      · exact e
      · exact mem_index hl b hb
theorem orcUnesc_ok : OrcT Tryz.prog 42 orcUnesc := by
  intro args r h
  unfold orcUnesc at h
  split at h
  · next s =>
    obtain ⟨n, h1, h⟩ := ob_eq h
    obtain ⟨h2, h⟩ := brec_ok' h
    have h2 := eqI_ok h2
    cases h3 : Nat.beq (lenL s) 0 with
    | true => rw [h3] at h; cases h
    | false =>
      rw [h3] at h
      obtain ⟨h4, h⟩ := brec_ok' (show (Bool.rec none (some (.d (.s s))) (Nat.ble (lenL s) 100000) : Option V) = some r from h)
      have h4 := Nat.le_of_ble_eq_true h4
      rw [lenL_eq] at h4
      cases h
      refine .inl ⟨fun args w => rfl, ?_⟩
      refine PC.of_below (args := [.s s]) (r := .s s) fun F w vs hF hlen hvs => ?_
      match vs, hlen with
      | [v], _ =>
        have hv := hvs 0 _ _ rfl rfl
        cases hv with
        | s _ b hs =>
          have hidx : Lib.indexByte b.data.toList 38 = -1 := by
            rcases idxR_go (.c 38) 38 rfl s b.data.toList 0 n hs h1 with ⟨k1, k2⟩ | ⟨k1, k2⟩
            · exact k1
            · rw [h2] at k2; simp at k2; omega
          have hn : b.data.toList ≠ [] := by
            intro e
            have := hs.len
            rw [e] at this
            rw [lenL_eq, ← this] at h3
            simp at h3
          have hb : b.size ≤ 140737488355328 := by
            have h5 : b.size = b.data.toList.length := rfl
            rw [h5, hs.len]; omega
          · refine (unesc_walk b (fun x hx => ?_) hn hb w).mono ?_
            · have := mem_index hidx x hx
              intro e
              exact this (UInt8.toNat_inj.1 e)
            · rintro e w' ⟨rfl, hbl⟩
              exact ⟨_, rfl, hbl, F, fun _ _ => rfl, fun b hb => hF b (Nat.le_trans hbl.size hb), .s _ _ hs⟩
  · cases h
end Go.Abs
namespace Go.Abs
open Go.RowKit Go.Proofs
set_option maxRecDepth 100000
theorem idx_byte (s : ByteArray) (c : Int) (w : World) : Calls Tryz.prog 79 #[.string s, .int .u8 c] w fun e w' => e = .returned (.int .i64 (Lib.indexByte s.data.toList c.toNat.toUInt8)) ∧ w = w' := by
  have hx : (callFunc 247 #[.string s, .int .u8 c]).run Tryz.prog w = .ok (.value (.int .i64 (Lib.indexByte s.data.toList c.toNat.toUInt8))) w := by
    rw [run_callFunc_extern Tryz.func247 (by kernel_rfl) (by kernel_rfl) (by kernel_rfl) (e := Extern.BytealgIndexByte.indexByte) (by kernel_rfl), Lib.run_indexByteString]
    rfl
  go_enter Tryz.func79, Tryz.ntmps79
  go_wp2
  go_ret
  exact ⟨rfl, rfl⟩
theorem idx_rune (s : ByteArray) (r : Int) (h0 : 0 ≤ r) (h1 : r < 128) (w : World) : Calls Tryz.prog 258 #[.string s, .int .i32 r] w fun e w' => e = .returned (.int .i64 (Lib.indexByte s.data.toList r.toNat.toUInt8)) ∧ w = w' := by
  have d1 : decide (0 ≤ r) = true := decide_eq_true h0
  have d2 : decide (r < 128) = true := decide_eq_true h1
  have hw : IntKind.u8.wrap r = r := by
    unfold IntKind.wrap
    simp only [IntKind.bits, IntKind.signed, Bool.true_and, Bool.false_and]
    simp; omega
  go_enter Tryz.func258, Tryz.ntmps258
  go_wp2_with (go_at_call 79; refine (idx_byte _ _ _).mono ?_; rintro e w' ⟨rfl, rfl⟩)
  go_ret
  exact ⟨rfl, rfl⟩
theorem has_rune (s : ByteArray) (r : Int) (h0 : 0 ≤ r) (h1 : r < 128) (w : World) : Calls Tryz.prog 181 #[.string s, .int .i32 r] w fun e w' => e = .returned (.bool (decide (0 ≤ Lib.indexByte s.data.toList r.toNat.toUInt8))) ∧ w = w' := by
  go_enter Tryz.func181, Tryz.ntmps181
  go_wp2_with (go_at_call 258; refine (idx_rune _ _ h0 h1 _).mono ?_; rintro e w' ⟨rfl, rfl⟩)
  go_ret
  exact ⟨rfl, rfl⟩
variable [Val]
noncomputable def orcHas (args : List V) : Option V := match args with
  | [.d (.s s), .d c] => ob (runeB c) fun c => ob (idxB c s) fun n => some (.d (.b (leI 0 n)))
  | _ => none
theorem orcHas_ok : OrcT Tryz.prog 181 orcHas := by
  intro args r h
  unfold orcHas at h
  split at h
  · next s c =>
    obtain ⟨u, h1, h⟩ := ob_eq h
    obtain ⟨n, h2, h⟩ := ob_eq h
    cases h
    refine .inl ⟨fun args w => rfl, ?_⟩
    refine PC.of_below (args := [.s s, c]) (r := .b (leI 0 n)) fun F w vs hF hlen hvs => ?_
    match vs, hlen with
    | [v, x], _ =>
      have hv := hvs 0 _ _ rfl rfl
      obtain ⟨m, rfl, hu, m0, m1⟩ := runeB_rd h1 (hvs 1 _ _ rfl rfl)
      cases hv with
      | s _ b hs =>
        refine (has_rune b m m0 m1 w).mono ?_
        rintro e w' ⟨rfl, rfl⟩
        refine ⟨_, rfl, Below.refl _ _, F, fun _ _ => rfl, hF, ?_⟩
        have : decide (0 ≤ Lib.indexByte b.data.toList m.toNat.toUInt8) = leI 0 n := by
          rw [leI_eq]
          rcases idxR_go u _ hu s b.data.toList 0 n hs h2 with ⟨k1, k2⟩ | ⟨k1, k2⟩
          · have k1 : Lib.indexByte b.data.toList m.toNat.toUInt8 = -1 := k1
            rw [k1, k2]
          · have e : n = Lib.indexByte b.data.toList m.toNat.toUInt8 := by rw [k2]; simp
            rw [e]
        rw [this]
        exact .b _
  · cases h
end Go.Abs
namespace Go.Abs
open Go.RowKit Go.Proofs
set_option maxRecDepth 100000
noncomputable def spRow : List D := List.append (List.replicate 9 (.i .u8 0)) (List.append (List.replicate 5 (.i .u8 1)) (List.append (List.replicate 18 (.i .u8 0)) (.i .u8 1 :: List.replicate 223 (.i .u8 0))))
noncomputable def gS (k : Nat) : Option (Nat × List (List D)) := Bool.rec none (some (256, [spRow])) (Nat.beq k 3)
variable [Val]
noncomputable def orcE : List (FuncId × (List V → Option V)) := [(247, orcIdx), (42, orcUnesc), (181, orcHas)]
theorem orcE_ok : ∀ p ∈ orcE, OrcT Tryz.prog p.1 p.2 := by
  intro p hp
  rcases List.mem_cons.1 hp with rfl | hp
  · exact orcIdx_ok
  · rcases List.mem_cons.1 hp with rfl | hp
    · exact orcUnesc_ok
    · rcases List.mem_cons.1 hp with rfl | hp
      · exact orcHas_ok
      · cases hp
noncomputable def enL (l : List (FuncId × (List V → Option V))) : En := ⟨fnT.get, orcL (List.append l orcE), purF, extF (mkTI Tryz.prog), mkTI Tryz.prog, gS, 100000, 3⟩
noncomputable def enA (l : List (FuncId × (List V → Option V))) : En := ⟨fnT.get, orcL (List.append l orcE), purF, extB (mkTI Tryz.prog), tabNot (mkTI Tryz.prog) 387, gS, 100000, 3⟩
theorem prog_mo : Tryz.prog.follows .mixedOrders = true := by decide +kernel
theorem orcs_ok {l : List (FuncId × (List V → Option V))} (hl : ∀ p ∈ l, OrcT Tryz.prog p.1 p.2) : OrcOk Tryz.prog (orcL (List.append l orcE)) :=
  orcL_ok fun p hp => by
    rcases List.mem_append.1 (show p ∈ l ++ orcE from hp) with h | h
    · exact hl p h
    · exact orcE_ok p h
theorem enL_ok {l : List (FuncId × (List V → Option V))} (hl : ∀ p ∈ l, OrcT Tryz.prog p.1 p.2) (hG : Val.G = gS) : EnOk Tryz.prog (enL l) where
  fns := fun f q h => FT.get_ok fnT_all h
  tab := fun t ti h => h
  orc := orcs_ok hl
  ext := extF_ok fun t ti h => h
  mo := prog_mo
  G := hG.symm
theorem enA_ok {l : List (FuncId × (List V → Option V))} (hl : ∀ p ∈ l, OrcT Tryz.prog p.1 p.2) (hG : Val.G = gS) : EnOk Tryz.prog (enA l) where
  fns := fun f q h => FT.get_ok fnT_all h
  tab := tabNot_ok fun t ti h => h
  orc := orcs_ok hl
  ext := extB_ok fun t ti h => h
  mo := prog_mo
  G := hG.symm
theorem pcL {l : List (FuncId × (List V → Option V))} (hl : ∀ p ∈ l, OrcT Tryz.prog p.1 p.2) (hG : Val.G = gS) {k : Nat} {f : FuncId} {args : List V} {y : V} (h : pcB (enL l) k f args y = true) : CallOk Tryz.prog f ∧ PC Tryz.prog f args y :=
  pcB_ok (enL_ok hl hG) (extF_rd _ rfl) h
theorem pcA {l : List (FuncId × (List V → Option V))} (hl : ∀ p ∈ l, OrcT Tryz.prog p.1 p.2) (hG : Val.G = gS) {k : Nat} {f : FuncId} {args : List V} {y : V} (h : pcB (enA l) k f args y = true) : CallOk Tryz.prog f ∧ PC Tryz.prog f args y :=
  pcB_ok (enA_ok hl hG) (extB_rd _ rfl) h
end Go.Abs
namespace Go.Abs
open Go.RowKit Go.Proofs
set_option maxRecDepth 100000
noncomputable def orB (a b : Bool) : Bool := Bool.rec b true a
noncomputable def rgB (lo hi n : Nat) : Bool := Bool.rec false (Nat.ble n hi) (Nat.ble lo n)
noncomputable def pBlank (n : Nat) : Bool := orB (rgB 9 10 n) (orB (Nat.beq n 12) (Nat.beq n 32))
noncomputable def pDigit (n : Nat) : Bool := rgB 48 57 n
noncomputable def pLetter (n : Nat) : Bool := orB (rgB 97 122 n) (rgB 65 90 n)
noncomputable def pStart (n : Nat) : Bool := orB (pLetter n) (Nat.beq n 95)
noncomputable def pNamed (n : Nat) : Bool := orB (pStart n) (orB (pDigit n) (Nat.beq n 45))
noncomputable def runeN (v : V) : Option Nat := match v with
  | .d (.i .i32 n) => Int.rec (fun n => Bool.rec none (some n) (Nat.blt n 128)) (fun _ => none) n
  | _ => none
noncomputable def orcP (p : Nat → Bool) (args : List V) : Option V := List.rec none (fun v t _ => List.rec (ob (runeN v) fun n => some (.d (.b (p n)))) (fun _ _ _ => none) t) args
noncomputable def allB (f : FuncId) (p : Nat → Bool) : Nat → Bool := fun n => Nat.rec true (fun k ih => Bool.rec false ih (pcB (enL []) 40 f [.d (.i .i32 (Int.ofNat k))] (.d (.b (p k))))) n
theorem all_blank : allB 104 pBlank 128 = true := by decide +kernel
theorem all_digit : allB 175 pDigit 128 = true := by decide +kernel
theorem all_start : allB 177 pStart 128 = true := by decide +kernel
theorem all_named : allB 110 pNamed 128 = true := by decide +kernel
theorem all_mletter : allB 36 pLetter 128 = true := by decide +kernel
theorem all_mblank : allB 87 pBlank 128 = true := by decide +kernel
variable [Val]
theorem runeN_eq {v : V} {n : Nat} (h : runeN v = some n) : v = .d (.i .i32 (Int.ofNat n)) ∧ n < 128 := by
  unfold runeN at h
  split at h
  · next m =>
    cases m with
    | ofNat m =>
      obtain ⟨h1, h2⟩ := brec_ok' h
      cases h2
      exact ⟨rfl, by simpa using h1⟩
    | negSucc m => cases h
  · cases h
theorem allB_ok {f : FuncId} {p : Nat → Bool} : ∀ {n : Nat}, allB f p n = true → ∀ k, k < n → pcB (enL []) 40 f [.d (.i .i32 (Int.ofNat k))] (.d (.b (p k))) = true
  | 0, _, k, hk => by omega
  | n + 1, h, k, hk => by
    obtain ⟨h1, h2⟩ := brec_ok (show (Bool.rec false (allB f p n) (pcB (enL []) 40 f [.d (.i .i32 (Int.ofNat n))] (.d (.b (p n)))) : Bool) = true from h)
    by_cases e : k = n
    · subst e; exact h1
    · exact allB_ok h2 k (by omega)
theorem orcP_ok (hG : Val.G = gS) {f : FuncId} {p : Nat → Bool} (h : allB f p 128 = true) : OrcT Tryz.prog f (orcP p) := by
  intro args r hr
  match args, hr with
  | [v], hr =>
    obtain ⟨n, h1, hr⟩ := ob_eq (show (ob (runeN v) fun n => some (.d (.b (p n))) : Option V) = some r from hr)
    cases hr
    obtain ⟨rfl, hn⟩ := runeN_eq h1
    exact .inl (pcL (l := []) (fun p hp => by cases hp) hG (allB_ok h n hn))
  | [], hr => cases hr
  | _ :: _ :: _, hr => cases hr
noncomputable def orcQ : List (FuncId × (List V → Option V)) := [(104, orcP pBlank), (175, orcP pDigit), (177, orcP pStart), (110, orcP pNamed), (36, orcP pLetter), (87, orcP pBlank)]
theorem orcQ_ok (hG : Val.G = gS) : ∀ p ∈ orcQ, OrcT Tryz.prog p.1 p.2 := by
  intro p hp
  rcases List.mem_cons.1 hp with rfl | hp
  · exact orcP_ok hG all_blank
  rcases List.mem_cons.1 hp with rfl | hp
  · exact orcP_ok hG all_digit
  rcases List.mem_cons.1 hp with rfl | hp
  · exact orcP_ok hG all_start
  rcases List.mem_cons.1 hp with rfl | hp
  · exact orcP_ok hG all_named
  rcases List.mem_cons.1 hp with rfl | hp
  · exact orcP_ok hG all_mletter
  rcases List.mem_cons.1 hp with rfl | hp
  · exact orcP_ok hG all_mblank
  cases hp
noncomputable def enQ (l : List (FuncId × (List V → Option V))) : En := enL (List.append l orcQ)
theorem pcQ {l : List (FuncId × (List V → Option V))} (hl : ∀ p ∈ l, OrcT Tryz.prog p.1 p.2) (hG : Val.G = gS) {k : Nat} {f : FuncId} {args : List V} {y : V} (h : pcB (enQ l) k f args y = true) : CallOk Tryz.prog f ∧ PC Tryz.prog f args y :=
  pcL (fun p hp => by
    rcases List.mem_append.1 (show p ∈ l ++ orcQ from hp) with h | h
    · exact hl p h
    · exact orcQ_ok hG p h) hG h
end Go.Abs
