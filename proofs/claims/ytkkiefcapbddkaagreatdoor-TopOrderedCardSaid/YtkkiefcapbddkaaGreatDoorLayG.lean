/-
  a cursor over runes, walked.
-/
import Derived.Test.YtkkiefcapbddkaaGreatDoorLayF
import Derived.Test.YtkkiefcapbddkaaGreatDoorSeatB
import Derived.WalkMore
import Derived.Laws.Cover4
set_option linter.all false
namespace Go.Abs
open Go.RowKit Go.Proofs Go.Proofs.YtkkiefcapbddkaaGreatDoor Mem
set_option maxRecDepth 100000
structure RunesAt (w : World) (a o : Nat) (R : List Int) : Prop where
  at_ : ∀ (i : Nat) c, R[i]? = some c → w.cell? ⟨a, o + i, none⟩ = some (.int .i32 c)
structure CurAt (w : World) (b : Nat) (t : TypeId) (a o : Nat) (R : List Int) (cap p : Nat) : Prop where
  blk : Blk w b t #[.slice (some ⟨a, o, none⟩) R.length cap, .int .i64 p]
  row : RunesAt w a o R
  ne : a ≠ b
  lt : a < w.heap.size
section
variable {w w' : World} {b : Nat} {t : TypeId} {a o : Nat} {R : List Int} {cap p : Nat}
theorem RunesAt.keep (h : RunesAt w a o R) (hb : w'.heap[a]? = w.heap[a]?) : RunesAt w' a o R :=
  ⟨fun i c hi => by rw [← h.at_ i c hi]; simp only [World.cell?, hb]⟩
theorem CurAt.below (h : CurAt w b t a o R cap p) (hb : Below w.heap.size w w') : CurAt w' b t a o R cap p :=
  ⟨h.blk.below hb h.blk.lt, h.row.keep (hb.block a h.lt), h.ne, Nat.lt_of_lt_of_le h.lt hb.size⟩
theorem info_i32 : (Tryz.prog.info? 21).map (fun i => (i.zero, i.size, i.bytes)) = some (some (.int .i32 0), 1, 4) := by kernel_rfl
set_option maxHeartbeats 2000000 in
theorem left_walk (h : CurAt w b t a o R cap p) (hl : R.length ≤ 1000000) (hp : p ≤ 1000000) : Calls Tryz.prog 34 #[.pointer (some ⟨b, 0, none⟩)] w fun e w' => e = .returned (.int .i64 ((R.length : Int) - p)) ∧ Drawn w w' := by
  have c0 : w.cell? ⟨b, 0, none⟩ = some (.slice (some ⟨a, o, none⟩) R.length cap) := h.blk.cell 0
  have c1 : w.cell? ⟨b, 1, none⟩ = some (.int .i64 p) := h.blk.cell 1
  have e1 : IntKind.i64.wrap ((R.length : Int) - p) = (R.length : Int) - p := IntWalk.i64_in _ (by omega)
  go_enter Tryz.func34, Tryz.ntmps34
  go_wp2_with fail
  go_quiet (fail)
  go_wp2_with fail
  go_ret
  exact ⟨rfl, nq, rfl⟩
theorem CurAt.drawn (h : CurAt w b t a o R cap p) (hd : Drawn w w') : CurAt w' b t a o R cap p := h.below (hd.below _)
set_option maxHeartbeats 2000000 in
theorem peek_walk (h : CurAt w b t a o R cap p) (hl : R.length ≤ 1000000) {k : Nat} {c : Int} (hR : R[p + k]? = some c) : Calls Tryz.prog 78 #[.pointer (some ⟨b, 0, none⟩), .int .i64 k] w fun e w' => e = .returned (.tuple #[.int .i32 c, .bool true]) ∧ Drawn w w' := by
  have hlt : p + k < R.length := (List.getElem?_eq_some_iff.1 hR).1
  have d1 : decide ((k : Int) < 0) = false := decide_eq_false (by omega)
  have d2 : decide ((R.length : Int) - p ≤ (k : Int)) = false := decide_eq_false (by omega)
  have e1 : IntKind.i64.wrap ((p : Int) + k) = ((p + k : Nat) : Int) := by rw [IntWalk.i64_in _ (by omega)]; omega
  have HC := h
  go_enter Tryz.func78, Tryz.ntmps78
  go_wp2_with (go_at_call 34; refine (left_walk h hl (by omega)).mono ?_; rintro e w1 ⟨rfl, hd⟩)
  have c0 : w1.cell? ⟨b, 0, none⟩ = some (.slice (some ⟨a, o, none⟩) R.length cap) := (h.drawn hd).blk.cell 0
  have c1 : w1.cell? ⟨b, 1, none⟩ = some (.int .i64 p) := (h.drawn hd).blk.cell 1
  have c2 : w1.cell? ⟨a, o + (p + k), none⟩ = some (.int .i32 c) := (h.drawn hd).row.at_ _ _ hR
  have c3 : p + k < R.length := hlt
  go_wp2_with fail
  go_quiet (fail)
  go_wp2_with fail
  go_ret2
  exact ⟨rfl, hd.more nq⟩
set_option maxHeartbeats 2000000 in
theorem peek_end (h : CurAt w b t a o R cap p) (hl : R.length ≤ 1000000) {k : Nat} (hp : p ≤ 1000000) (hR : R.length ≤ p + k) : Calls Tryz.prog 78 #[.pointer (some ⟨b, 0, none⟩), .int .i64 k] w fun e w' => e = .returned (.tuple #[.int .i32 0, .bool false]) ∧ Drawn w w' := by
  have d1 : decide ((k : Int) < 0) = false := decide_eq_false (by omega)
  have d2 : decide ((R.length : Int) - p ≤ (k : Int)) = true := decide_eq_true (by omega)
  go_enter Tryz.func78, Tryz.ntmps78
  go_wp2_with (go_at_call 34; refine (left_walk h hl hp).mono ?_; rintro e w1 ⟨rfl, hd⟩)
  go_wp2_with fail
  go_ret2
  exact ⟨rfl, hd⟩
structure CurMove (w w' : World) (b : Nat) (t : TypeId) (a o : Nat) (R : List Int) (cap p' : Nat) : Prop where
  put : PutAt w w' b
  cur : CurAt w' b t a o R cap p'
set_option maxHeartbeats 2000000 in
theorem next_walk (h : CurAt w b t a o R cap p) (hl : R.length ≤ 1000000) {c : Int} (hR : R[p]? = some c) : Calls Tryz.prog 41 #[.pointer (some ⟨b, 0, none⟩)] w fun e w' => e = .returned (.tuple #[.int .i32 c, .bool true]) ∧ CurMove w w' b t a o R cap (p + 1) := by
  have hlt : p < R.length := (List.getElem?_eq_some_iff.1 hR).1
  have e1 : IntKind.i64.wrap ((p : Int) + 1) = (p : Int) + 1 := IntWalk.i64_in _ (by omega)
  go_enter Tryz.func41, Tryz.ntmps41
  go_wp2_with (go_at_call 78; refine (peek_walk h hl (k := 0) hR).mono ?_; rintro e w1 ⟨rfl, hd⟩; have h1 := h.drawn hd; have c1 : w1.cell? ⟨b, 1, none⟩ = some (.int .i64 p) := h1.blk.cell 1; have f1 : w1.frozen? ⟨b, 1, none⟩ = false := h1.blk.free 1)
  go_ret2
  refine ⟨rfl, ?_⟩
  obtain ⟨n, rfl⟩ := hd
  exact ⟨⟨rfl, rfl, rfl, by simp, fun k hk hkb => heap_setCell_other _ _ _ _ hkb⟩, h1.blk.put 1 _, h1.row.keep (heap_setCell_other _ _ _ _ h.ne), h.ne, by simpa using h1.lt⟩
theorem PutAt.refl (w : World) (b : Nat) : PutAt w w b := ⟨rfl, rfl, rfl, Nat.le_refl _, fun _ _ _ => rfl⟩
theorem PutAt.trans {w1 w2 : World} (x : PutAt w w1 b) (y : PutAt w1 w2 b) : PutAt w w2 b :=
  ⟨y.os.trans x.os, y.tape.trans x.tape, y.output.trans x.output, Nat.le_trans x.size y.size, fun k hk hb => (y.far k (Nat.lt_of_lt_of_le hk x.size) hb).trans (x.far k hk hb)⟩
theorem PutAt.of_below {w1 : World} (x : Below w.heap.size w w1) : PutAt w w1 b := ⟨x.os, x.tape, x.output, x.size, fun k hk _ => x.block k hk⟩
theorem blk_putAt {w1 : World} {g : Nat} {tg : TypeId} {cs : Array Value} (h : Blk w g tg cs) (x : PutAt w w1 b) (hg : g ≠ b) : Blk w1 g tg cs := (x.far g h.lt hg).trans h
theorem CurMove.on {w1 w2 : World} {p1 p2 : Nat} (x : CurMove w w1 b t a o R cap p1) (y : CurMove w1 w2 b t a o R cap p2) : CurMove w w2 b t a o R cap p2 := ⟨x.put.trans y.put, y.cur⟩
theorem CurMove.below {w1 w2 : World} {p1 : Nat} (x : CurMove w w1 b t a o R cap p1) (y : Below w1.heap.size w1 w2) : CurMove w w2 b t a o R cap p1 := ⟨x.put.trans (.of_below y), x.cur.below y⟩
theorem CurMove.far {w1 w2 : World} {p0 p1 : Nat} (x : CurMove w w1 b t a o R cap p1) (h : CurAt w b t a o R cap p0) (y : Below w.heap.size w1 w2) : CurMove w w2 b t a o R cap p1 :=
  ⟨⟨y.os.trans x.put.os, y.tape.trans x.put.tape, y.output.trans x.put.output, Nat.le_trans x.put.size y.size, fun k hk hb => (y.block k hk).trans (x.put.far k hk hb)⟩,
    x.cur.blk.below y h.blk.lt, x.cur.row.keep (y.block a h.lt), h.ne, Nat.lt_of_lt_of_le x.cur.lt y.size⟩
theorem CurMove.refl (h : CurAt w b t a o R cap p) : CurMove w w b t a o R cap p := ⟨PutAt.refl _ _, h⟩
theorem quote_walk {q : Nat} {tq : TypeId} (hq : Blk w q tq #[.int .i32 34]) (c : Int) : Calls Tryz.prog 167 #[.int .i32 c, .pointer (some ⟨q, 0, none⟩)] w fun e w' => e = .returned (.bool (c != 34)) ∧ Drawn w w' := by
  have c0 : w.cell? ⟨q, 0, none⟩ = some (.int .i32 34) := hq.cell 0
  go_enter Tryz.func167, Tryz.ntmps167
  go_wp2_with fail
  go_ret
  exact ⟨rfl, Drawn.refl _⟩
set_option maxHeartbeats 2000000 in
theorem peekx_walk (h : CurAt w b t a o R cap p) (hl : R.length ≤ 1000000) {k : Nat} {c : Int} (hR : R[p + k]? = some c) {x : Nat} {tx : TypeId} {ov : Value} (hx : Blk w x tx #[.pointer (some ⟨b, 0, none⟩), ov]) :
    Calls Tryz.prog 37 #[.pointer (some ⟨x, 0, none⟩), .int .i64 k] w fun e w' => e = .returned (.int .i32 c) ∧ Drawn w w' := by
  have c0 : w.cell? ⟨x, 0, none⟩ = some (.pointer (some ⟨b, 0, none⟩)) := hx.cell 0
  go_enter Tryz.func37, Tryz.ntmps37
  go_wp2_with (go_at_call 78; refine (peek_walk h hl hR).mono ?_; rintro e w1 ⟨rfl, hd⟩)
  go_ret
  exact ⟨rfl, hd⟩
set_option maxHeartbeats 4000000 in
theorem while_walk (h : CurAt w b t a o R cap p) (hl : R.length ≤ 1000000) {x : Nat} {tx : TypeId} {ov : Value} (hx : Blk w x tx #[.pointer (some ⟨b, 0, none⟩), ov]) (hxb : x ≠ b) {q : Nat} {tq : TypeId} (hq : Blk w q tq #[.int .i32 34]) (hqb : q ≠ b) {L : Nat}
    (hL : ∀ i, i < L → ∃ c, R[p + i]? = some c ∧ c ≠ 34) (hZ : R[p + L]? = some 34) :
    Calls Tryz.prog 85 #[.pointer (some ⟨x, 0, none⟩), .func (.func 167) #[] #[.pointer (some ⟨q, 0, none⟩)]] w fun e w' => ∃ v, e = .returned v ∧ CurMove w w' b t a o R cap (p + L) ∧ w'.ownsRow w.heap.size 21 1 v L (((R.drop p).take L).map (Value.int .i32)) := by
  obtain ⟨i0, hi, hz0, hz1, hz2⟩ := info_parts info_i32
  have hlen : p + L < R.length := (List.getElem?_eq_some_iff.1 hZ).1
  have first : ∃ c, R[p + 0]? = some c := by
    rcases Nat.eq_zero_or_pos L with e | e
    · subst e; exact ⟨34, hZ⟩
    · obtain ⟨c, h1, _⟩ := hL 0 e; exact ⟨c, h1⟩
  obtain ⟨cf, hcf⟩ := first
  have hxc : w.cell? ⟨x, 0, none⟩ = some (.pointer (some ⟨b, 0, none⟩)) := hx.cell 0
  go_enter Tryz.func85, Tryz.ntmps85
  go_wp2_with (first | (go_at_call 78; refine (peek_walk h hl hcf).mono ?_; rintro e w1 ⟨rfl, hd⟩))
  go_loopg [5, 6, 7] L (fun g v s6 s7 wr => ∃ (k : Nat) (c : Int), g = L - k ∧ k ≤ L ∧ s6 = .int .i32 c ∧ s7 = .bool true ∧ R[p + k]? = some c ∧ CurMove w wr b t a o R cap (p + k) ∧ wr.ownsRow w.heap.size 21 1 v k (((R.drop p).take k).map (Value.int .i32)))
  case atStart => exact ⟨0, cf, rfl, Nat.zero_le _, rfl, rfl, hcf, (CurMove.refl h).below (hd.below _), own_nil _ _ _ _⟩
  case round =>
    obtain ⟨k, c, rfl, hk, rfl, rfl, hc, hM, ho⟩ := hrel
    have hx1 := blk_putAt hx hM.put hxb
    have hq1 := blk_putAt hq hM.put hqb
    have hsz := hM.put.size
    have cx : wr.cell? ⟨x, 0, none⟩ = some (.pointer (some ⟨b, 0, none⟩)) := hx1.cell 0
    by_cases hlt : k < L
    · obtain ⟨c', h1, h2⟩ := hL k hlt
      rw [hc] at h1
      cases h1
      have e1 : (c != 34) = true := by simpa using h2
      have hRk : (R.drop p)[k]? = some c := by rw [List.getElem?_drop]; exact hc
      have hnx : ∃ c2, R[p + (k + 1)]? = some c2 := by
        rcases Nat.lt_or_ge (k + 1) L with e | e
        · obtain ⟨c2, h1, _⟩ := hL (k + 1) e; exact ⟨c2, h1⟩
        · have : k + 1 = L := by omega
          rw [this]; exact ⟨34, hZ⟩
      obtain ⟨c2, hc2⟩ := hnx
      go_upto_region 5 with (go_at_call 167; refine (quote_walk hq1 c).mono ?_; rintro e w2 ⟨rfl, hd2⟩; rw [e1])
      obtain ⟨A2, q2, rfl, -⟩ := own_some ho
      have ho2 := (own_below ho (hd2.below _)).alloc (.cells #[.int .i32 c] 21)
      have hz2' : w.heap.size ≤ w2.heap.size := by rw [hd2.heap]; exact hsz
      have hM2 : CurMove w w2 b t a o R cap (p + k) := hM.below (hd2.below _)
      have hnw := news_at (Blk.new w2 21 #[.int .i32 c]) (news := [.int .i32 c]) rfl
      go_wp2_with (first | (at_builtin; refine wpList_append_own _ rfl (.tmp 30) (.tmp 32) 54 rfl w.heap.size 21 i0 (.int .i32 0) 1 4 Tryz.underlying54 hi hz0 hz1 hz2 rfl (by decide) (.slice A2 k q2) _ _ rfl ho2 ⟨w2.heap.size, 0, none⟩ 1 1 [.int .i32 c] rfl rfl hnw (by simp [Value.oneCell']) (by unfold maxLen; omega) (by omega) (by simp; omega) ?_))
      intro v' w3 ho3 hg3 _
      have hM3 : CurMove w w3 b t a o R cap (p + k) := hM2.far h (((Below.refl _ _).alloc hz2' _).trans (own_belowB ho2 hg3 (by simp; omega)))
      have hx3 := blk_putAt hx hM3.put hxb
      have cx3 : w3.cell? ⟨x, 0, none⟩ = some (.pointer (some ⟨b, 0, none⟩)) := hx3.cell 0
      (try simp only [Act.put, List.setIfInBounds_toArray, List.set_cons_zero, List.set_cons_succ])
      go_wp2_with (first | (go_at_call 41; refine (next_walk hM3.cur hl hc).mono ?_; rintro e w4 ⟨rfl, hm4⟩; have hM4 := hM3.on hm4; have hx4 := blk_putAt hx hM4.put hxb; have cx4 : w4.cell? ⟨x, 0, none⟩ = some (.pointer (some ⟨b, 0, none⟩)) := hx4.cell 0) | (go_at_call 78; refine (peek_walk hM4.cur hl (k := 0) (c := c2) hc2).mono ?_; rintro e w5 ⟨rfl, hd5⟩))
      go_roundg (L - (k + 1))
      case measure => omega
      case rel =>
        refine ⟨k + 1, c2, rfl, hlt, rfl, rfl, hc2, hM4.below (hd5.below _), ?_⟩
        have ho4 : w4.ownsRow w.heap.size 21 1 v' (k + 1) _ := own_keep ho3 (fun g hg hlt' => hm4.put.far g hlt' (fun e => by have := (ho3.lt g hg).1; have := h.blk.lt; omega))
        rw [List.take_add_one, hRk]
        simpa using own_below ho4 (hd5.below _)
    · have hkL : k = L := by omega
      subst hkL
      rw [hZ] at hc
      cases hc
      have e1 : ((34 : Int) != 34) = false := by decide
      go_wp2_with (go_at_call 167; refine (quote_walk hq1 34).mono ?_; rintro e w2 ⟨rfl, hd2⟩; rw [e1])
      go_ret
      exact ⟨_, rfl, hM.below (hd2.below _), own_below ho (hd2.below _)⟩
set_option maxHeartbeats 4000000 in
theorem value_walk (h : CurAt w b t a o R cap p) (hl : R.length ≤ 1000000) {x : Nat} {tx : TypeId} {ov : Value} (hx : Blk w x tx #[.pointer (some ⟨b, 0, none⟩), ov]) (hxb : x ≠ b) {L : Nat} (hL0 : 0 < L) (hQ : R[p]? = some 34)
    (hL : ∀ i, i < L → ∃ c, R[(p + 1) + i]? = some c ∧ c ≠ 34) (hZ : R[(p + 1) + L]? = some 34) :
    Calls Tryz.prog 89 #[.pointer (some ⟨x, 0, none⟩)] w fun e w' => e = .returned (.tuple #[.string (runesBytes ((R.drop (p + 1)).take L)), .bool true]) ∧ CurMove w w' b t a o R cap (p + 1 + L + 1) := by
  have hxc : w.cell? ⟨x, 0, none⟩ = some (.pointer (some ⟨b, 0, none⟩)) := hx.cell 0
  go_enter Tryz.func89, Tryz.ntmps89
  go_upto_region 2 with (go_at_call 37; refine (peekx_walk h hl (k := 0) hQ hx).mono ?_; rintro e w1 ⟨rfl, hd⟩)
  have hsz1 : w.heap.size = w1.heap.size := by rw [hd.heap]
  have hq : Blk (w1.alloc (.cells #[.int .i32 34] 21)) w1.heap.size 21 #[.int .i32 34] := Blk.new _ _ _
  have hM : CurMove w (w1.alloc (.cells #[.int .i32 34] 21)) b t a o R cap p := ((CurMove.refl h).below (hd.below _)).below ((Below.refl _ _).alloc (Nat.le_refl _) _)
  have hlb := h.blk.lt
  refine wp_forget (fun Z => Blk Z w1.heap.size 21 #[.int .i32 34] ∧ CurMove w Z b t a o R cap p) ⟨hq, hM⟩ ?_
  clear hq hM
  rintro w2 ⟨hq, hM⟩
  have hqb : w1.heap.size ≠ b := by omega
  generalize w1.heap.size = q at *
  have hx2 := blk_putAt hx hM.put hxb
  have cx2 : w2.cell? ⟨x, 0, none⟩ = some (.pointer (some ⟨b, 0, none⟩)) := hx2.cell 0
  have cq2 : w2.cell? ⟨q, 0, none⟩ = some (.int .i32 34) := hq.cell 0
  go_upto_region 6 with (first
    | (go_at_call 41; refine (next_walk hM.cur hl hQ).mono ?_; rintro e w3 ⟨rfl, hm3⟩; have hM3 := hM.on hm3; have hx3 := blk_putAt hx hM3.put hxb; have hq3 := blk_putAt hq hm3.put hqb)
    | (go_at_call 85; refine (while_walk hM3.cur hl hx3 hxb hq3 hqb hL hZ).mono ?_; rintro e w4 ⟨v, rfl, hm4, ho⟩))
  have hM4 := hM3.on hm4
  have hx4 := blk_putAt hx hM4.put hxb
  have cx4 : w4.cell? ⟨x, 0, none⟩ = some (.pointer (some ⟨b, 0, none⟩)) := hx4.cell 0
  go_upto_region 7 with (first | (go_at_call 41; refine (next_walk hM4.cur hl hZ).mono ?_; rintro e w5 ⟨rfl, hm5⟩))
  have hM5 := hM4.on hm5
  have ho5 : w5.ownsRow w3.heap.size 21 1 v L _ := own_keep ho (fun g hg hlt' => hm5.put.far g hlt' (fun e => by have := (ho.lt g hg).1; have := hM3.cur.blk.lt; omega))
  have hxl : ((R.drop (p + 1)).take L).length = L := by
    have := (List.getElem?_eq_some_iff.1 hZ).1
    rw [List.length_take, List.length_drop]; omega
  have hcv : (convert 54 9 v).run Tryz.prog w5 = .ok (.string (runesBytes ((R.drop (p + 1)).take L))) w5 := by
    rcases ho5.2 with ⟨rfl, h0⟩ | ⟨g, cp, cur, rfl, hg⟩
    · omega
    · have := run_convert_runes (P := Tryz.prog) w5 54 9 21 ⟨g, 0, none⟩ L cp ((R.drop (p + 1)).take L) (by omega) Tryz.underlying54 Tryz.underlying21 Tryz.underlying9 (fun j hj => by
        refine ho5.cells (g := g) rfl j _ ?_
        rw [List.getElem?_map, List.getD_eq_getElem?_getD, List.getElem?_eq_getElem hj]
        rfl)
      rw [this]
      congr 3
      rw [List.take_of_length_le (by omega)]
  go_wp2_with fail
  go_ret2
  exact ⟨rfl, hM5⟩
end
end Go.Abs
