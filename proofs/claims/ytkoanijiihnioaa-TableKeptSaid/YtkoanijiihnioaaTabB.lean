/-
  The walk of table.Columns.
-/
import Derived.Test.YtkoanijiihnioaaTabA
import Derived.Deep.DeepCutAuto
namespace Go.Proofs.Ytkoanijiihnioaa
open Go.RowKit Num Mem Opn
set_option linter.unusedVariables false
set_option linter.unusedSimpArgs false
namespace Mem
theorem own_mono {w : World} {base base' sz n : Nat} {e : TypeId} {v : Value} {xs : List Value} (h : w.ownsRow base e sz v n xs) (hb : base' ≤ base) : w.ownsRow base' e sz v n xs :=
  ⟨h.1, h.2.imp id fun ⟨g, cap, cur, h1, h2, h3⟩ => ⟨g, cap, cur, h1, Nat.le_trans hb h2, h3⟩⟩
theorem own_block {w : World} {base sz n : Nat} {e : TypeId} {v : Value} {xs : List Value} (h : w.ownsRow base e sz v n xs) (hn : 0 < n) : ∃ g cap, v = .slice (some ⟨g, 0, none⟩) n cap ∧ base ≤ g ∧ n ≤ cap ∧ g < w.heap.size := by
  rcases h.2 with ⟨rfl, h1⟩ | ⟨g, cap, cur, rfl, hg, hh, hnc, _⟩
  · omega
  · exact ⟨g, cap, rfl, hg, hnc, Blk.lt (t := e) (cs := cur) hh⟩
/-- a block that is too small is not the row's. -/
theorem own_bigger {w : World} {base sz n gx : Nat} {e t : TypeId} {v : Value} {xs : List Value} {cs : Array Value} (h : w.ownsRow base e sz v n xs) (hX : Blk w gx t cs) (hs : cs.size < n * sz) : v.ownBlock ≠ some gx := by
  intro hq
  rcases h.2 with ⟨rfl, h1⟩ | ⟨g, cap, cur, rfl, hg, hh, hnc, _, hcs, _⟩
  · simp [Value.ownBlock] at hq
  · simp only [Value.ownBlock, Option.some.injEq] at hq
    subst hq
    rw [hX] at hh
    injection hh with hh
    injection hh with h1 _
    subst h1
    have := Nat.mul_le_mul_right sz hnc
    omega
end Mem
namespace Num
/-- a column more, if the row reaches past the last one. -/
def ext (out : List Nd) (k : Nat) : List Nd := if k = out.length then out ++ [nd0] else out
theorem ext_length {out : List Nd} {k : Nat} (hk : k ≤ out.length) : k < (ext out k).length := by
  unfold ext
  split
  · simp; omega
  · omega
theorem put1_ext {out : List Nd} {k : Nat} {n : Nd} (hk : k ≤ out.length) : put1 out k n = (ext out k).set k (merge ((ext out k).getD k nd0) n) := by
  unfold put1 ext
  split
  · rename_i h
    subst h
    simp [List.getD_eq_getElem?_getD, List.set_append]
  · rfl
theorem flat_set2 (l : List Nd) {k : Nat} (hk : k < l.length) (y : Nd) : (l.set k y).flatMap Nd.cells = ((l.flatMap Nd.cells).set (k * 2) (.int .i64 y.least)).set (k * 2 + 1) (.int .i64 y.most) := by
  induction l generalizing k with
  | nil => simp at hk
  | cons x l ih =>
    cases k with
    | zero => simp [Nd.cells]
    | succ k =>
      simp only [List.set_cons_succ, List.flatMap_cons]
      rw [ih (by simpa using hk)]
      rw [show (k + 1) * 2 = k * 2 + 1 + 1 by omega]
      simp [Nd.cells]
theorem flat_at {l : List Nd} {k : Nat} (hk : k < l.length) : (l.flatMap Nd.cells)[k * 2]? = some (.int .i64 (l.getD k nd0).least) ∧ (l.flatMap Nd.cells)[k * 2 + 1]? = some (.int .i64 (l.getD k nd0).most) := by
  have hx : l[k]? = some l[k] := List.getElem?_eq_getElem hk
  have e : l.getD k nd0 = l[k] := by simp [List.getD_eq_getElem?_getD, hk]
  rw [e]
  exact ⟨flat_get nd_length hx (j := 0) rfl, flat_get nd_length hx (j := 1) rfl⟩
end Num
theorem set_same {α : Type} {l : List α} {i : Nat} {v : α} (h : l[i]? = some v) : l.set i v = l := by
  have hlt := (List.getElem?_eq_some_iff.1 h).1
  have h2 : l[i] = v := (List.getElem?_eq_some_iff.1 h).2
  rw [← h2]
  exact List.set_getElem_self hlt
def nd2 (a b : Int) : Array Value := #[.int .i64 a, .int .i64 b]
theorem info_nd2 (a b : Int) : (Try.prog.info? 58).map (·.size) = some (nd2 a b).size := by kernel_rfl
theorem nd_one (a b : Int) : (nd2 a b).all (·.oneCell') = true := by simp [nd2, Value.oneCell']
theorem need_range {w : World} {B : Nat} {A : Option Addr} {l : List Nd} (h : Recs w B A 2 Nd.cells l) {k : Nat} (hk : k < l.length) :
    ∃ b off x, A = some ⟨b, off, none⟩ ∧ b < B ∧ Hid (l[k]? = some x) ∧ w.rangeAt b (off + k * 2) (nd2 x.least x.most).toList := by
  obtain ⟨b, off, e, hb, hc⟩ := h (by rintro rfl; simp at hk)
  have hx : l[k]? = some l[k] := List.getElem?_eq_getElem hk
  exact ⟨b, off, l[k], e, hb, hid hx, fun j v hv => hc k _ hx j v hv⟩
theorem drop_more {α : Type} {l : List α} {k : Nat} {x : α} (h : l[k]? = some x) : l.drop k = x :: l.drop (k + 1) := by
  have hlt := (List.getElem?_eq_some_iff.1 h).1
  have h2 : l[k] = x := (List.getElem?_eq_some_iff.1 h).2
  rw [List.drop_eq_getElem_cons hlt, h2]
/-- the last pass: the most is no less than the least. -/
def finK (l : List Nd) (k : Nat) : List Nd := (l.take k).map fin ++ l.drop k
theorem finK_length (l : List Nd) (k : Nat) : (finK l k).length = l.length := by simp [finK]; omega
theorem finK_get {l : List Nd} {k : Nat} (hk : k < l.length) : (finK l k).getD k nd0 = l.getD k nd0 := by
  simp only [finK, List.getD_eq_getElem?_getD]
  rw [List.getElem?_append_right (by simp; omega), List.getElem?_drop]
  congr 2
  simp
  omega
theorem finK_set {l : List Nd} {k : Nat} (hk : k < l.length) : (finK l k).set k (fin (l.getD k nd0)) = finK l (k + 1) := by
  have hx : l[k]? = some l[k] := List.getElem?_eq_getElem hk
  have e : l.getD k nd0 = l[k] := by simp [List.getD_eq_getElem?_getD, hk]
  unfold finK
  rw [e, drop_more hx, take_more hx, List.set_append_right _ _ (by simp; omega), List.length_map, List.length_take, show k - min k l.length = 0 by omega]
  simp only [List.set_cons_zero, List.map_append, List.map_cons, List.map_nil, List.append_assoc, List.cons_append, List.nil_append]
theorem finK_all (l : List Nd) : finK l l.length = l.map fin := by simp [finK]
set_option maxRecDepth 100000 in
set_option maxHeartbeats 8000000 in
theorem table_Columns (ls : List (List Nd)) (vs : List Value) (A : Option Addr) (c : Nat) (w : World) (hl : ls.length ≤ 4611686018427387904) (hA : Rows2 w w.heap.size A 2 Nd.cells vs ls) (hw : ∀ r ∈ ls, r.length ≤ 1000) :
    Calls Try.prog 26 #[.slice A ls.length c] w fun e w' => ∃ v, e = .returned v ∧ Below w.heap.size w w' ∧ w'.ownsRow w.heap.size 58 2 v (cols ls).length ((cols ls).flatMap Nd.cells) := by
  obtain ⟨i1, hi1, hz1, hs1, hb1⟩ := info_parts info_need
  obtain ⟨T, hT⟩ : ∃ T, mrows [] ls = T := ⟨_, rfl⟩
  have HT := hid hT
  have hTC : cols ls = T.map fin := by rw [← hT]; rfl
  rw [hTC]
  clear hT hTC
  replace hw := hid hw
  go_enter Try.func26, Try.ntmps26
  go_wp2_with fail
  go_loopw [3, 11] (fun s3 s11 wr => ∃ (k : Nat) (D : List Nd), k ≤ ls.length ∧ s11 = .int .i64 k ∧ D.length ≤ 1000 ∧ Hid (mrows D (ls.drop k) = T) ∧ (D.length = 0 → s3 = .slice none 0 0) ∧ wr.ownsRow w.heap.size 58 2 s3 D.length (D.flatMap Nd.cells) ∧ Below w.heap.size w wr) (fun _ i _ => ls.length - (intOf i).toNat)
  case atStart => exact ⟨0, [], Nat.zero_le _, rfl, by simp, HT, fun _ => rfl, own_nil _ _ _ _, Below.refl _ _⟩
  case round =>
    obtain ⟨k, D, hk, rfl, hDl, HD, hnil, ho, hB⟩ := hrel
    replace hnil := hid hnil
    by_cases hlt : k < ls.length
    · obtain ⟨b, off, A', c', r, rfl, hb, HR, cr, hrc, hRr⟩ := Rows2.at_ (hA.below hB) hlt
      have hrl := hw.out r (List.mem_of_getElem? HR.out)
      have HD2 : Hid (mrows (mrow 0 D r) (ls.drop (k + 1)) = T) := hid (by rw [← HD.out, drop_more HR.out]; rfl)
      obtain ⟨M, hM⟩ : ∃ M, mrow 0 D r = M := ⟨_, rfl⟩
      rw [hM] at HD2
      have HM := hid hM
      have hML : M.length ≤ 1000 := by rw [← hM, mrow_length (Nat.zero_le _)]; omega
      clear hM HD
      obtain ⟨wo, rfl⟩ : ∃ wo : World, wo = wr := ⟨_, rfl⟩
      go_wp2_with fail
      clear cr
      go_loopw [3, 17] (fun s3 s17 wr => ∃ (j : Nat) (E : List Nd), j ≤ r.length ∧ s17 = .int .i64 j ∧ j ≤ E.length ∧ E.length ≤ 1000 ∧ Hid (mrow j E (r.drop j) = M) ∧ (E.length = 0 → s3 = .slice none 0 0) ∧ wr.ownsRow w.heap.size 58 2 s3 E.length (E.flatMap Nd.cells) ∧ Below w.heap.size w wr ∧ Below w.heap.size wo wr) (fun _ i _ => r.length - (intOf i).toNat)
      case atStart => exact ⟨0, D, Nat.zero_le _, rfl, Nat.zero_le _, hDl, HM, hnil.out, ho, hB, Below.refl _ _⟩
      case round =>
        clear ho hB hnil hDl
        obtain ⟨j, E, hj, rfl, hjE, hEl, HE, hnil, ho, hB, hBo⟩ := hrel
        have hz := hB.size
        obtain ⟨A3, c3, rfl, hc3⟩ := own_some ho
        replace hnil := hid hnil
        by_cases hlt2 : j < r.length
        · obtain ⟨bi, oi, x, rfl, hbi, HX, hrg⟩ := need_range (hRr.below hBo) hlt2
          have HE2 : Hid (mrow (j + 1) (put1 E j x) (r.drop (j + 1)) = M) := hid (by rw [← HE.out, drop_more HX.out]; rfl)
          have hml := hid (mrow_length (r := r.drop j) hjE)
          clear HE
          go_wp2_with (first | refine stop_load 58 _ rfl rfl ?_ | refine stop_store 58 _ _ rfl rfl ?_)
          refine ⟨?_⟩
          refine wl_load_at rfl 58 _ rfl bi (oi + j * 2) rfl (nd2 x.least x.most) _ hrg Try.underlying58 rfl (info_nd2 _ _) ?_
          (try simp only [Act.put, List.setIfInBounds_toArray, List.set_cons_zero, List.set_cons_succ])
          go_wp2_with (first | refine stop_load 58 _ rfl rfl ?_ | refine stop_store 58 _ _ rfl rfl ?_)
          refine ⟨?_⟩
          refine wl_store rfl 58 _ _ rfl wr.heap.size (nd2 x.least x.most) rfl rfl 58 _ (Blk.new _ _ _) rfl (info_nd2 _ _) (nd_one _ _) ?_
          intro w2 hX hC
          (try simp only [Act.put, List.setIfInBounds_toArray, List.set_cons_zero, List.set_cons_succ])
          have hbb : Below wr.heap.size wr w2 := ((Below.refl wr.heap.size wr).alloc (Nat.le_refl _) _).trans (hC.below (Nat.le_refl _))
          have ho2 := own_below ho hbb
          have hB2 := hB.trans (hbb.mono hz)
          have hBo2 := hBo.trans (hbb.mono hz)
          have hgx := hX.lt
          have hown_lt : ∀ q, (Value.slice A3 E.length c3).ownBlock = some q → q < wr.heap.size := fun q hq => own_lt ho hq
          replace hown_lt := hid hown_lt
          have hzz := hbb.size
          clear hrg hC hbb hB hBo ho
          generalize hgxe : wr.heap.size = gx at *
          obtain ⟨qb, hqb⟩ : ∃ qb, (j == E.length) = qb := ⟨_, rfl⟩
          have hqb' : ((j : Int) == (E.length : Int)) = qb := by rw [← hqb, Bool.eq_iff_iff, beq_iff_eq, beq_iff_eq]; omega
          go_upto_if 25 with fail
          go_cut [3] (fun s3 wx => ∃ v, v = s3 ∧ wx.ownsRow w.heap.size 58 2 v (ext E j).length ((ext E j).flatMap Nd.cells) ∧ Blk wx gx 58 (nd2 x.least x.most) ∧ Below w.heap.size w wx ∧ Below w.heap.size wo wx ∧ v.ownBlock ≠ some gx)
          case first =>
            by_cases hjl : j = E.length
            · have HXT : Hid (ext E j = E ++ [nd0]) := hid (by unfold ext; rw [if_pos hjl])
              have hqt : qb = true := by rw [← hqb]; simpa using hjl
              subst hqt
              obtain ⟨B', hb1', hb2', hb3', hown0⟩ : ∃ B', w.heap.size ≤ B' ∧ B' ≤ w2.heap.size ∧ (E.length = 0 → gx < B') ∧ w2.ownsRow B' 58 2 (.slice A3 E.length c3) E.length (E.flatMap Nd.cells) := by
                rcases Nat.eq_zero_or_pos E.length with h0 | h0
                · have hE0 : E = [] := List.length_eq_zero_iff.1 h0
                  refine ⟨w2.heap.size, hB2.size, Nat.le_refl _, fun _ => hgx, ?_⟩
                  rw [hnil.out h0, h0, hE0]
                  exact own_nil _ _ _ _
                · exact ⟨w.heap.size, Nat.le_refl _, hB2.size, fun h => by omega, ho2⟩
              have hown := hown0.alloc (.cells #[.int .i64 0, .int .i64 0] 58)
              have hba : Below w2.heap.size w2 (w2.alloc (.cells #[.int .i64 0, .int .i64 0] 58)) := (Below.refl w2.heap.size w2).alloc (Nat.le_refl _) _
              have hX2 := hX.alloc (.cells #[.int .i64 0, .int .i64 0] 58)
              have hB20 := hB2.size
              clear hown0
              replace hjl := hid hjl
              go_wp2_with (refine stop_append _ _ _ _ rfl ?_)
              refine ⟨?_⟩
              refine wpList_append_own _ rfl _ _ 53 rfl B' 58 i1 (.agg #[.int .i64 0, .int .i64 0]) 2 16 Try.underlying53 hi1 hz1 hs1 hb1 rfl (by decide) (.slice A3 E.length c3) _ _ rfl hown ⟨w2.heap.size, 0, none⟩ 1 1 [.int .i64 0, .int .i64 0] rfl rfl (news19 (Blk.new w2 58 #[.int .i64 0, .int .i64 0]) rfl) (by simp [Value.oneCell']) (by unfold maxLen; omega) (by omega) (by simp; omega) ?_
              intro v4 w4 ho4 hg4 _
              (try simp only [Act.put, List.setIfInBounds_toArray, List.set_cons_zero, List.set_cons_succ])
              have hX4 : Blk w4 gx 58 (nd2 x.least x.most) := (hg4.block gx hX2.lt (fun hq => by have := hown_lt.out gx hq.symm; omega)).trans hX2
              have hne : v4.ownBlock ≠ some gx := by
                rcases Nat.eq_zero_or_pos E.length with h0 | h0
                · intro hq
                  have h1 := hb3' h0
                  have h2 := (ho4.lt gx hq).1
                  omega
                · exact own_bigger ho4 hX4 (by simp [nd2]; omega)
              have ho5 : w4.ownsRow w.heap.size 58 2 v4 (ext E j).length ((ext E j).flatMap Nd.cells) := by
                rw [HXT.out]
                have := own_mono ho4 hb1'
                simpa [Nd.cells, nd0] using this
              have hB4 : Below w.heap.size w w4 := (hB2.trans (hba.mono hB20)).trans ((own_belowB hown hg4 (by simp; omega)).mono hb1')
              have hBo4 : Below w.heap.size wo w4 := (hBo2.trans (hba.mono hB20)).trans ((own_belowB hown hg4 (by simp; omega)).mono hb1')
              clear hown hba hX2 hg4 ho4 hX ho2 hB2 hBo2
              go_wp2_with fail
              go_meet
              exact ⟨_, rfl, ho5, hX4, hB4, hBo4, hne⟩
            · have HXT : Hid (ext E j = E) := hid (by unfold ext; rw [if_neg hjl])
              have hqt : qb = false := by rw [← hqb]; simpa using hjl
              subst hqt
              go_wp2_with fail
              go_meet
              exact ⟨_, rfl, by rw [HXT.out]; exact ho2, hX, hB2, hBo2, fun hq => by have := hown_lt.out gx hq; omega⟩
          case rest =>
          clear hX ho2 hB2 hBo2 hown_lt hnil hqb hqb'
          obtain ⟨v, hvs, ho, hX, hB, hBo, hne⟩ := hcut
          have hxl := ext_length hjE
          have hpl := put1_length (n := x) hjE
          have HPX := hid (put1_ext (n := x) hjE)
          obtain ⟨g, cap, rfl, hbg, hnc, hgl⟩ := own_block ho (by omega)
          subst hvs
          have hgne : gx ≠ g := by intro e; exact hne (by simp [Value.ownBlock, e])
          generalize ext E j = X at *
          obtain ⟨f1, f2⟩ := flat_at hxl
          obtain ⟨o, hoe⟩ : ∃ o, X.getD j nd0 = o := ⟨_, rfl⟩
          rw [hoe] at f1 f2 HPX
          have c0 : wc.cell? ⟨g, j * 2, none⟩ = some (.int .i64 o.least) := (ho.cellAt (j * 2) (by omega)).trans f1
          have z0 := ho.frozenAt (j * 2)
          have x0 : wc.cell? ⟨gx, 0, none⟩ = some (.int .i64 x.least) := hX.cell 0
          have hSQ : (fun Z : World => Z.cell? ⟨g, j * 2, none⟩ = some (.int .i64 o.least) ∧ Z.cell? ⟨gx, 0, none⟩ = some (.int .i64 x.least) ∧ Z.frozen? ⟨g, j * 2, none⟩ = false) wc.drew := ⟨c0, x0, z0⟩
          have HFX : Hid ((put1 E j x).flatMap Nd.cells = ((X.flatMap Nd.cells).set (j * 2) (.int .i64 (max o.least (sat x.least)))).set (j * 2 + 1) (.int .i64 (max o.most (sat x.most)))) := hid (by rw [HPX.out, flat_set2 X hxl]; rfl)
          have HXL : Hid ((put1 E j x).length = X.length) := hid (by rw [HPX.out, List.length_set])
          replace hpl := hid hpl
          clear c0 z0 x0 hoe
          go_upto_region 10 with fail
          refine wp_region_noPanic ?_
          refine Ord.region_Q (S := fun Z : World => Z.cell? ⟨g, j * 2, none⟩ = some (.int .i64 o.least) ∧ Z.cell? ⟨gx, 0, none⟩ = some (.int .i64 x.least) ∧ Z.frozen? ⟨g, j * 2, none⟩ = false) 13 (.one 0 true (.one 1 true (.one 2 true (.one 3 true (.one 4 true (.one 5 true (.one 6 true (.one 7 true (.one 8 true (.one 9 true (.one 10 true (.one 11 true (.one 12 true (.one 13 false .nil)))))))))))))) (by kernel_rfl) (by kernel_rfl) (by kernel_rfl) (by decide) (fun _ _ _ _ _ h => h) (hSQ) (fun hS0 => ?_)
          simp only [Ord.layT, List.getElem?_cons_zero, List.getElem?_cons_succ]
          (refine Ord.takeQ (v := ?_) (Or.inl ⟨rfl, ?_⟩) ?_; rotate_left; (intro w hSw; (try dsimp only at hSw); go_simp; try (with_reducible rfl)); (try simp only [Act.put, List.setIfInBounds_toArray, List.set_cons_zero, List.set_cons_succ]))
          (refine Ord.takeQ (v := ?_) (Or.inl ⟨rfl, ?_⟩) ?_; rotate_left; (intro w hSw; (try dsimp only at hSw); go_simp; try (with_reducible rfl)); (try simp only [Act.put, List.setIfInBounds_toArray, List.set_cons_zero, List.set_cons_succ]))
          (refine Ord.takeQ (v := ?_) (Or.inl ⟨rfl, ?_⟩) ?_; rotate_left; (intro w hSw; (try dsimp only at hSw); go_simp; try (with_reducible rfl)); (try simp only [Act.put, List.setIfInBounds_toArray, List.set_cons_zero, List.set_cons_succ]))
          (refine Ord.takeQ (v := ?_) (Or.inl ⟨rfl, ?_⟩) ?_; rotate_left; (intro w hSw; (try dsimp only at hSw); go_simp; try (with_reducible rfl)); (try simp only [Act.put, List.setIfInBounds_toArray, List.set_cons_zero, List.set_cons_succ]))
          (refine Ord.takeQ (v := ?_) (Or.inl ⟨rfl, ?_⟩) ?_; rotate_left; (intro w hSw; (try dsimp only at hSw); go_simp; try (with_reducible rfl)); (try simp only [Act.put, List.setIfInBounds_toArray, List.set_cons_zero, List.set_cons_succ]))
          (refine Ord.takeQ (v := ?_) (Or.inl ⟨rfl, ?_⟩) ?_; rotate_left; (intro w hSw; (try dsimp only at hSw); go_simp; try (with_reducible rfl)); (try simp only [Act.put, List.setIfInBounds_toArray, List.set_cons_zero, List.set_cons_succ]))
          (refine Ord.takeQ (v := ?_) (Or.inl ⟨rfl, ?_⟩) ?_; rotate_left; (intro w hSw; (try dsimp only at hSw); go_simp; try (with_reducible rfl)); (try simp only [Act.put, List.setIfInBounds_toArray, List.set_cons_zero, List.set_cons_succ]))
          (refine Ord.takeQ (v := ?_) (Or.inl ⟨rfl, ?_⟩) ?_; rotate_left; (intro w hSw; (try dsimp only at hSw); go_simp; try (with_reducible rfl)); (try simp only [Act.put, List.setIfInBounds_toArray, List.set_cons_zero, List.set_cons_succ]))
          (refine Ord.takeQ (v := ?_) (Or.inl ⟨rfl, ?_⟩) ?_; rotate_left; (intro w hSw; (try dsimp only at hSw); go_simp; try (with_reducible rfl)); (try simp only [Act.put, List.setIfInBounds_toArray, List.set_cons_zero, List.set_cons_succ]))
          (refine Ord.takeC 48 #[.int .i64 x.least] rfl (fun _ _ => by kernel_rfl) (fun w hSw => fixed_Sat _ _) ?_; (try simp only [Act.put, List.setIfInBounds_toArray, List.set_cons_zero, List.set_cons_succ]))
          (refine Ord.takeQ (v := ?_) (Or.inl ⟨rfl, ?_⟩) ?_; rotate_left; (intro w hSw; (try dsimp only at hSw); go_simp; try (with_reducible rfl)); (try simp only [Act.put, List.setIfInBounds_toArray, List.set_cons_zero, List.set_cons_succ]))
          (refine Ord.takeQ (v := ?_) (Or.inl ⟨rfl, ?_⟩) ?_; rotate_left; (intro w hSw; (try dsimp only at hSw); go_simp; try (with_reducible rfl)); (try simp only [Act.put, List.setIfInBounds_toArray, List.set_cons_zero, List.set_cons_succ]))
          (refine Ord.takeQ (v := ?_) (Or.inl ⟨rfl, ?_⟩) ?_; rotate_left; (intro w hSw; (try dsimp only at hSw); go_simp; try (with_reducible rfl)); (try simp only [Act.put, List.setIfInBounds_toArray, List.set_cons_zero, List.set_cons_succ]))
          refine Ord.lastQ rfl rfl (fun K hK => ?_)
          obtain ⟨hq1, hq2, hq3⟩ := hSQ
          go_simp
          (try simp only [Act.put, List.setIfInBounds_toArray, List.set_cons_zero, List.set_cons_succ])
          refine hK.out _ _ ?_
          clear hK K
          refine Ord.doneQ (NoPanic.normal ?_)
          go_upto_region 11 with fail
          have hst := (own_drew ho).stored (j * 2) (.int .i64 (max o.least (sat x.least)))
          have hzb := hB.size
          refine wp_forget (fun Z => Z.ownsRow w.heap.size 58 2 (.slice (some ⟨g, 0, none⟩) X.length cap) X.length ((X.flatMap Nd.cells).set (j * 2) (.int .i64 (max o.least (sat x.least)))) ∧ Blk Z gx 58 (nd2 x.least x.most) ∧ Below w.heap.size w Z ∧ Below w.heap.size wo Z) ⟨hst.1, (hX.drew).far (p := ⟨g, j * 2, none⟩) hgne _, (hB.drew).setCell hbg _, (hBo.drew).setCell hbg _⟩ ?_
          clear ho hX hB hBo hst
          rintro wd ⟨ho, hX, hB, hBo⟩
          have c1 : wd.cell? ⟨g, j * 2 + 1, none⟩ = some (.int .i64 o.most) := by
            rw [ho.cellAt (j * 2 + 1) (by omega), List.getElem?_set_ne (by omega)]
            exact f2
          have z1 := ho.frozenAt (j * 2 + 1)
          have x1 : wd.cell? ⟨gx, 1, none⟩ = some (.int .i64 x.most) := hX.cell 1
          have hSQ : (fun Z : World => Z.cell? ⟨g, j * 2 + 1, none⟩ = some (.int .i64 o.most) ∧ Z.cell? ⟨gx, 1, none⟩ = some (.int .i64 x.most) ∧ Z.frozen? ⟨g, j * 2 + 1, none⟩ = false) wd.drew := ⟨c1, x1, z1⟩
          clear c1 z1 x1
          refine wp_region_noPanic ?_
          refine Ord.region_Q (S := fun Z : World => Z.cell? ⟨g, j * 2 + 1, none⟩ = some (.int .i64 o.most) ∧ Z.cell? ⟨gx, 1, none⟩ = some (.int .i64 x.most) ∧ Z.frozen? ⟨g, j * 2 + 1, none⟩ = false) 13 (.one 0 true (.one 1 true (.one 2 true (.one 3 true (.one 4 true (.one 5 true (.one 6 true (.one 7 true (.one 8 true (.one 9 true (.one 10 true (.one 11 true (.one 12 true (.one 13 false .nil)))))))))))))) (by kernel_rfl) (by kernel_rfl) (by kernel_rfl) (by decide) (fun _ _ _ _ _ h => h) (hSQ) (fun hS0 => ?_)
          simp only [Ord.layT, List.getElem?_cons_zero, List.getElem?_cons_succ]
          (refine Ord.takeQ (v := ?_) (Or.inl ⟨rfl, ?_⟩) ?_; rotate_left; (intro w hSw; (try dsimp only at hSw); go_simp; try (with_reducible rfl)); (try simp only [Act.put, List.setIfInBounds_toArray, List.set_cons_zero, List.set_cons_succ]))
          (refine Ord.takeQ (v := ?_) (Or.inl ⟨rfl, ?_⟩) ?_; rotate_left; (intro w hSw; (try dsimp only at hSw); go_simp; try (with_reducible rfl)); (try simp only [Act.put, List.setIfInBounds_toArray, List.set_cons_zero, List.set_cons_succ]))
          (refine Ord.takeQ (v := ?_) (Or.inl ⟨rfl, ?_⟩) ?_; rotate_left; (intro w hSw; (try dsimp only at hSw); go_simp; try (with_reducible rfl)); (try simp only [Act.put, List.setIfInBounds_toArray, List.set_cons_zero, List.set_cons_succ]))
          (refine Ord.takeQ (v := ?_) (Or.inl ⟨rfl, ?_⟩) ?_; rotate_left; (intro w hSw; (try dsimp only at hSw); go_simp; try (with_reducible rfl)); (try simp only [Act.put, List.setIfInBounds_toArray, List.set_cons_zero, List.set_cons_succ]))
          (refine Ord.takeQ (v := ?_) (Or.inl ⟨rfl, ?_⟩) ?_; rotate_left; (intro w hSw; (try dsimp only at hSw); go_simp; try (with_reducible rfl)); (try simp only [Act.put, List.setIfInBounds_toArray, List.set_cons_zero, List.set_cons_succ]))
          (refine Ord.takeQ (v := ?_) (Or.inl ⟨rfl, ?_⟩) ?_; rotate_left; (intro w hSw; (try dsimp only at hSw); go_simp; try (with_reducible rfl)); (try simp only [Act.put, List.setIfInBounds_toArray, List.set_cons_zero, List.set_cons_succ]))
          (refine Ord.takeQ (v := ?_) (Or.inl ⟨rfl, ?_⟩) ?_; rotate_left; (intro w hSw; (try dsimp only at hSw); go_simp; try (with_reducible rfl)); (try simp only [Act.put, List.setIfInBounds_toArray, List.set_cons_zero, List.set_cons_succ]))
          (refine Ord.takeQ (v := ?_) (Or.inl ⟨rfl, ?_⟩) ?_; rotate_left; (intro w hSw; (try dsimp only at hSw); go_simp; try (with_reducible rfl)); (try simp only [Act.put, List.setIfInBounds_toArray, List.set_cons_zero, List.set_cons_succ]))
          (refine Ord.takeQ (v := ?_) (Or.inl ⟨rfl, ?_⟩) ?_; rotate_left; (intro w hSw; (try dsimp only at hSw); go_simp; try (with_reducible rfl)); (try simp only [Act.put, List.setIfInBounds_toArray, List.set_cons_zero, List.set_cons_succ]))
          (refine Ord.takeC 48 #[.int .i64 x.most] rfl (fun _ _ => by kernel_rfl) (fun w hSw => fixed_Sat _ _) ?_; (try simp only [Act.put, List.setIfInBounds_toArray, List.set_cons_zero, List.set_cons_succ]))
          (refine Ord.takeQ (v := ?_) (Or.inl ⟨rfl, ?_⟩) ?_; rotate_left; (intro w hSw; (try dsimp only at hSw); go_simp; try (with_reducible rfl)); (try simp only [Act.put, List.setIfInBounds_toArray, List.set_cons_zero, List.set_cons_succ]))
          (refine Ord.takeQ (v := ?_) (Or.inl ⟨rfl, ?_⟩) ?_; rotate_left; (intro w hSw; (try dsimp only at hSw); go_simp; try (with_reducible rfl)); (try simp only [Act.put, List.setIfInBounds_toArray, List.set_cons_zero, List.set_cons_succ]))
          (refine Ord.takeQ (v := ?_) (Or.inl ⟨rfl, ?_⟩) ?_; rotate_left; (intro w hSw; (try dsimp only at hSw); go_simp; try (with_reducible rfl)); (try simp only [Act.put, List.setIfInBounds_toArray, List.set_cons_zero, List.set_cons_succ]))
          refine Ord.lastQ rfl rfl (fun K hK => ?_)
          obtain ⟨hq1, hq2, hq3⟩ := hSQ
          go_simp
          (try simp only [Act.put, List.setIfInBounds_toArray, List.set_cons_zero, List.set_cons_succ])
          refine hK.out _ _ ?_
          clear hK K
          refine Ord.doneQ (NoPanic.normal ?_)
          have hst := (own_drew ho).stored (j * 2 + 1) (.int .i64 (max o.most (sat x.most)))
          have hB3 := (hB.drew).setCell (p := ⟨g, j * 2 + 1, none⟩) hbg (.int .i64 (max o.most (sat x.most)))
          have hBo3 := (hBo.drew).setCell (p := ⟨g, j * 2 + 1, none⟩) hbg (.int .i64 (max o.most (sat x.most)))
          clear ho hX hB hBo
          go_wp2_with fail
          go_roundw
          case rel =>
            have hp := hpl.out
            refine ⟨j + 1, put1 E j x, by omega, by go_num, by omega, by omega, HE2, fun h => by omega, ?_, hB3, hBo3⟩
            rw [HFX.out, HXL.out]
            exact hst.1
          case measure => simp [intOf]; omega
        · obtain rfl : j = r.length := by omega
          have HEM : Hid (E = M) := hid (by have := HE.out; rw [List.drop_length] at this; exact this)
          go_wp2_with fail
          go_roundw
          case rel => exact ⟨k + 1, E, by omega, by go_num, hEl, by rw [HEM.out]; exact HD2, hnil.out, ho, hB⟩
          case measure => simp [intOf]; omega
    · obtain rfl : k = ls.length := by omega
      have HDT : D = T := by have := HD.out; rw [List.drop_length] at this; exact this
      subst HDT
      have HFA := hid (finK_all D)
      obtain ⟨A3, c3, rfl, hc3⟩ := own_some ho
      have ho2 : wr.ownsRow w.heap.size 58 2 (.slice A3 D.length c3) D.length ((finK D 0).flatMap Nd.cells) := by simpa [finK] using ho
      clear ho hnil HD
      go_wp2_with fail
      go_loopw [60] (fun s60 wr => ∃ j : Nat, j ≤ D.length ∧ s60 = .int .i64 j ∧ wr.ownsRow w.heap.size 58 2 (.slice A3 D.length c3) D.length ((finK D j).flatMap Nd.cells) ∧ Below w.heap.size w wr) (fun i _ => D.length - (intOf i).toNat)
      case atStart => exact ⟨0, Nat.zero_le _, rfl, ho2, hB⟩
      case round =>
        clear ho2 hB
        obtain ⟨j, hj, rfl, ho, hB⟩ := hrel
        by_cases hlt2 : j < D.length
        · obtain ⟨g, cap, hv, hbg, hnc, hgl⟩ := own_block ho (by omega)
          injection hv with a1 a2 a3
          subst a1 a3
          have hxl : j < (finK D j).length := by rw [finK_length]; exact hlt2
          obtain ⟨f1, f2⟩ := flat_at hxl
          rw [finK_get hlt2] at f1 f2
          obtain ⟨o, hoe⟩ : ∃ o, D.getD j nd0 = o := ⟨_, rfl⟩
          rw [hoe] at f1 f2
          have c0 : wr.cell? ⟨g, j * 2, none⟩ = some (.int .i64 o.least) := (ho.cellAt (j * 2) (by omega)).trans f1
          have c1 : wr.cell? ⟨g, j * 2 + 1, none⟩ = some (.int .i64 o.most) := (ho.cellAt (j * 2 + 1) (by omega)).trans f2
          have z1 := ho.frozenAt (j * 2 + 1)
          have HFX : Hid ((finK D (j + 1)).flatMap Nd.cells = ((finK D j).flatMap Nd.cells).set (j * 2 + 1) (.int .i64 (max o.most o.least))) := hid (by
            rw [← finK_set hlt2, hoe, flat_set2 _ hxl]
            show ((List.flatMap Nd.cells (finK D j)).set (j * 2) (.int .i64 o.least)).set (j * 2 + 1) (.int .i64 (max o.most o.least)) = _
            congr 1
            exact set_same f1)
          have hSQ : (fun Z : World => Z.cell? ⟨g, j * 2, none⟩ = some (.int .i64 o.least) ∧ Z.cell? ⟨g, j * 2 + 1, none⟩ = some (.int .i64 o.most) ∧ Z.frozen? ⟨g, j * 2 + 1, none⟩ = false) wr.drew := ⟨c0, c1, z1⟩
          clear c0 c1 z1 hoe
          go_upto_region 17 with fail
          refine wp_region_noPanic ?_
          refine Ord.region_Q (S := fun Z : World => Z.cell? ⟨g, j * 2, none⟩ = some (.int .i64 o.least) ∧ Z.cell? ⟨g, j * 2 + 1, none⟩ = some (.int .i64 o.most) ∧ Z.frozen? ⟨g, j * 2 + 1, none⟩ = false) 15 (.one 0 true (.one 1 true (.one 2 true (.one 3 true (.one 4 true (.one 5 true (.one 6 true (.one 7 true (.one 8 true (.one 9 true (.one 10 true (.one 11 true (.one 12 true (.one 13 true (.one 14 true (.one 15 false .nil)))))))))))))))) (by kernel_rfl) (by kernel_rfl) (by kernel_rfl) (by decide) (fun _ _ _ _ _ h => h) (hSQ) (fun hS0 => ?_)
          simp only [Ord.layT, List.getElem?_cons_zero, List.getElem?_cons_succ]
          (refine Ord.takeQ (v := ?_) (Or.inl ⟨rfl, ?_⟩) ?_; rotate_left; (intro w hSw; (try dsimp only at hSw); go_simp; try (with_reducible rfl)); (try simp only [Act.put, List.setIfInBounds_toArray, List.set_cons_zero, List.set_cons_succ]))
          (refine Ord.takeQ (v := ?_) (Or.inl ⟨rfl, ?_⟩) ?_; rotate_left; (intro w hSw; (try dsimp only at hSw); go_simp; try (with_reducible rfl)); (try simp only [Act.put, List.setIfInBounds_toArray, List.set_cons_zero, List.set_cons_succ]))
          (refine Ord.takeQ (v := ?_) (Or.inl ⟨rfl, ?_⟩) ?_; rotate_left; (intro w hSw; (try dsimp only at hSw); go_simp; try (with_reducible rfl)); (try simp only [Act.put, List.setIfInBounds_toArray, List.set_cons_zero, List.set_cons_succ]))
          (refine Ord.takeQ (v := ?_) (Or.inl ⟨rfl, ?_⟩) ?_; rotate_left; (intro w hSw; (try dsimp only at hSw); go_simp; try (with_reducible rfl)); (try simp only [Act.put, List.setIfInBounds_toArray, List.set_cons_zero, List.set_cons_succ]))
          (refine Ord.takeQ (v := ?_) (Or.inl ⟨rfl, ?_⟩) ?_; rotate_left; (intro w hSw; (try dsimp only at hSw); go_simp; try (with_reducible rfl)); (try simp only [Act.put, List.setIfInBounds_toArray, List.set_cons_zero, List.set_cons_succ]))
          (refine Ord.takeQ (v := ?_) (Or.inl ⟨rfl, ?_⟩) ?_; rotate_left; (intro w hSw; (try dsimp only at hSw); go_simp; try (with_reducible rfl)); (try simp only [Act.put, List.setIfInBounds_toArray, List.set_cons_zero, List.set_cons_succ]))
          (refine Ord.takeQ (v := ?_) (Or.inl ⟨rfl, ?_⟩) ?_; rotate_left; (intro w hSw; (try dsimp only at hSw); go_simp; try (with_reducible rfl)); (try simp only [Act.put, List.setIfInBounds_toArray, List.set_cons_zero, List.set_cons_succ]))
          (refine Ord.takeQ (v := ?_) (Or.inl ⟨rfl, ?_⟩) ?_; rotate_left; (intro w hSw; (try dsimp only at hSw); go_simp; try (with_reducible rfl)); (try simp only [Act.put, List.setIfInBounds_toArray, List.set_cons_zero, List.set_cons_succ]))
          (refine Ord.takeQ (v := ?_) (Or.inl ⟨rfl, ?_⟩) ?_; rotate_left; (intro w hSw; (try dsimp only at hSw); go_simp; try (with_reducible rfl)); (try simp only [Act.put, List.setIfInBounds_toArray, List.set_cons_zero, List.set_cons_succ]))
          (refine Ord.takeQ (v := ?_) (Or.inl ⟨rfl, ?_⟩) ?_; rotate_left; (intro w hSw; (try dsimp only at hSw); go_simp; try (with_reducible rfl)); (try simp only [Act.put, List.setIfInBounds_toArray, List.set_cons_zero, List.set_cons_succ]))
          (refine Ord.takeQ (v := ?_) (Or.inl ⟨rfl, ?_⟩) ?_; rotate_left; (intro w hSw; (try dsimp only at hSw); go_simp; try (with_reducible rfl)); (try simp only [Act.put, List.setIfInBounds_toArray, List.set_cons_zero, List.set_cons_succ]))
          (refine Ord.takeQ (v := ?_) (Or.inl ⟨rfl, ?_⟩) ?_; rotate_left; (intro w hSw; (try dsimp only at hSw); go_simp; try (with_reducible rfl)); (try simp only [Act.put, List.setIfInBounds_toArray, List.set_cons_zero, List.set_cons_succ]))
          (refine Ord.takeQ (v := ?_) (Or.inl ⟨rfl, ?_⟩) ?_; rotate_left; (intro w hSw; (try dsimp only at hSw); go_simp; try (with_reducible rfl)); (try simp only [Act.put, List.setIfInBounds_toArray, List.set_cons_zero, List.set_cons_succ]))
          (refine Ord.takeQ (v := ?_) (Or.inl ⟨rfl, ?_⟩) ?_; rotate_left; (intro w hSw; (try dsimp only at hSw); go_simp; try (with_reducible rfl)); (try simp only [Act.put, List.setIfInBounds_toArray, List.set_cons_zero, List.set_cons_succ]))
          (refine Ord.takeQ (v := ?_) (Or.inl ⟨rfl, ?_⟩) ?_; rotate_left; (intro w hSw; (try dsimp only at hSw); go_simp; try (with_reducible rfl)); (try simp only [Act.put, List.setIfInBounds_toArray, List.set_cons_zero, List.set_cons_succ]))
          refine Ord.lastQ rfl rfl (fun K hK => ?_)
          obtain ⟨hq1, hq2, hq3⟩ := hSQ
          go_simp
          (try simp only [Act.put, List.setIfInBounds_toArray, List.set_cons_zero, List.set_cons_succ])
          refine hK.out _ _ ?_
          clear hK K
          refine Ord.doneQ (NoPanic.normal ?_)
          have hst := (own_drew ho).stored (j * 2 + 1) (.int .i64 (max o.most o.least))
          have hB3 := (hB.drew).setCell (p := ⟨g, j * 2 + 1, none⟩) hbg (.int .i64 (max o.most o.least))
          clear ho hB
          go_wp2_with fail
          go_roundw
          case rel => exact ⟨j + 1, by omega, by go_num, by rw [HFX.out]; exact hst.1, hB3⟩
          case measure => simp [intOf]; omega
        · obtain rfl : j = D.length := by omega
          go_wp2_with fail
          go_ret
          rw [HFA.out] at ho
          exact ⟨_, rfl, hB, by rw [List.length_map]; exact ho⟩
end Go.Proofs.Ytkoanijiihnioaa
