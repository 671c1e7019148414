/-
  from the machine to the words of the kit; awake.
-/
import Derived.Test.YtkkiefcapbddkaaGreatDoorLayJ
import Derived.Test.YtkkiefcapbddkaaGreatDoorLayD
import Derived.Test.YtkkiefcapbddkaaGreatDoorLayE
import Derived.Lib.SlBytesConst
import Derived.Lib.ConvBytes
import Derived.Laws.IdiomStrings
set_option linter.all false
namespace Go.Abs
open Go.RowKit Go.Proofs
set_option maxRecDepth 100000
def gF (F : Nat → Nat) : Gh := ⟨fun _ => none, fun _ => none, F, fun _ => false⟩
def SpAt (w : World) : Prop := ∃ c t fz, w.heap[3]? = some (.cells c t fz) ∧ 256 ≤ c.size ∧ ∀ (j : Nat) d v, spRow[j]? = some d → c[j]? = some v → ∃ n, d = .i .u8 n ∧ v = .int .u8 n
theorem spRow_len : spRow.length = 256 := by decide +kernel
theorem SpAt.below {w w' : World} {B : Nat} (h : SpAt w) (hb : Below B w w') (h3 : 3 < B) : SpAt w' := by
  obtain ⟨c, t, fz, h1, h2⟩ := h
  exact ⟨c, t, fz, (hb.block 3 h3).trans h1, h2⟩
theorem SpAt.heap {w w' : World} (h : SpAt w) (hb : w'.heap[3]? = w.heap[3]?) : SpAt w' := by
  obtain ⟨c, t, fz, h1, h2⟩ := h
  exact ⟨c, t, fz, hb.trans h1, h2⟩
theorem SpAt.lt {w : World} (h : SpAt w) : 3 < w.heap.size := by
  obtain ⟨c, t, fz, h1, h2⟩ := h
  exact (Array.getElem?_eq_some_iff.1 h1).1
variable [Val]
theorem SpAt.glob {w : World} (h : SpAt w) {F : Nat → Nat} (hF : F 3 = 256) : RD F w (.q 256 [spRow] 0 0) (.pointer (some ⟨3, 0, none⟩)) := by
  obtain ⟨c, t, fz, h1, h2, h3⟩ := h
  refine RD.q 256 [spRow] 0 0 3 0 c t fz h1 (by rw [hF]; simp) (by rw [hF]; exact h2) (fun r hr => by rw [List.mem_singleton.1 hr]; exact spRow_len) fun i r j d v a1 a2 a3 => ?_
  match i, a1 with
  | 0, a1 =>
    cases a1
    obtain ⟨n, rfl, rfl⟩ := h3 j d v a2 (by simpa using a3)
    exact .i _ _
  | i + 1, a1 => simp at a1
theorem rel_gF {w : World} (hG : Val.G = gS) (hs : SpAt w) {F : Nat → Nat} (hF : F 3 = 256) (hfr : ∀ b, w.heap.size ≤ b → F b = 0) : Rel (gF F) (fun _ => none) w where
  glob := fun k sz rows hk => by
    rw [hG] at hk
    unfold gS at hk
    obtain ⟨h1, h2⟩ := brec_ok' hk
    have h1 := Nat.eq_of_beq_eq_true h1
    subst h1
    cases h2
    exact hs.glob hF
  inj := fun k k' b h1 h2 => by simp [blk] at h1
  lt := fun b ⟨k, hb⟩ => by rcases hb with ⟨sz, hb⟩ | hb <;> cases hb
  fresh := hfr
  top := fun k _ => ⟨rfl, rfl, rfl⟩
  obj := fun k o ho => by cases ho
theorem PC.kit {P : Program} {f : FuncId} {args : List V} {r : V} (hp : PC P f args r) (hG : Val.G = gS) {w : World} (hs : SpAt w) {F : Nat → Nat} (hF : F 3 = 256) (hfr : ∀ b, w.heap.size ≤ b → F b = 0) {vs : List Value} (hvs : GL (gF F) (fun _ => none) w args vs) :
    Calls P f vs.toArray w fun e w' => ∃ v g', e = .returned v ∧ GV g' (fun _ => none) w' r v ∧ Below w.heap.size w w' := by
  refine (hp.over (rel_gF hG hs hF hfr) hvs).mono fun e w' ⟨v, g', k1, k2, k3, k4⟩ => ⟨v, _, k1, k2, ?_⟩
  refine ⟨k4.os, k4.tape, k4.output, k4.size, fun k hk => (k4.out k hk ?_).1⟩
  rintro ⟨j, hj⟩
  rcases hj with ⟨sz, hj⟩ | hj <;> cases hj
theorem rd_bytes {l : List Sb} {bs : List UInt8} (hs : SR l bs) {F : Nat → Nat} {w : World} {b : Nat} {c : Array Value} {t : TypeId} {fz : Nat × Nat} {cap : Nat} (hb : w.heap[b]? = some (.cells c t fz)) (hF : F b = bs.length) (h1 : bs.length ≤ cap) (h2 : cap ≤ c.size)
    (hc : ∀ (j : Nat) u, bs[j]? = some u → c[j]? = some (.int .u8 u.toNat)) (g : Gh) (hg : g.F = F) (h : Heap) : GV g h w (bytesB l) (.slice (some ⟨b, 0, none⟩) bs.length cap) := by
  refine .d _ _ ?_
  rw [hg]
  have hlen := hs.len
  have := RD.l (F := F) (w := w) 1 (l.map fun x => match x with | .c n => [D.i .u8 (Int.ofNat n)] | .x e lo hi => [D.x .u8 e (Int.ofNat lo) (Int.ofNat hi)]) b 0 cap c t fz hb
    (by rw [List.length_map, ← hlen, hF]; omega) (by rw [hF]; omega) (by omega) (by rw [List.length_map, ← hlen]; exact h1)
    (fun r hr => by
      obtain ⟨x, _, rfl⟩ := List.mem_map.1 hr
      cases x <;> rfl)
    (fun i r j d v a1 a2 a3 => by
      rw [List.getElem?_map] at a1
      cases hx : l[i]? with
      | none => rw [hx] at a1; cases a1
      | some x =>
        rw [hx] at a1
        have hi : i < bs.length := by rw [hlen]; exact (List.getElem?_eq_some_iff.1 hx).1
        have hu := List.getElem?_eq_getElem hi
        have hok := hs.at_ i x _ hx hu
        have hrow : r = [sbD x] := by
          cases x <;> (cases a1; rfl)
        subst hrow
        match j, a2 with
        | 0, a2 =>
          cases a2
          rw [show 0 + i * 1 + 0 = i by omega, hc i _ hu] at a3
          cases a3
          exact sbD_rd hok
        | j + 1, a2 => simp at a2)
  rw [List.length_map, ← hlen] at this
  exact this
theorem bytesN_eq (l : List Nat) : bytesN l = bytesB (l.map .c) := by
  unfold bytesN bytesB
  rw [List.map_map]
  rfl
theorem sr_lit (l : List UInt8) : SR (l.map fun u => .c u.toNat) l := SR.lit l
end Go.Abs
namespace Go.Abs
open Go Go.Proofs
set_option maxRecDepth 1000000
def envV : V := .a [iN 6400, iN 6400, .z]
def awH : List Nat := [60, 112, 62, 97]
def awC : List Nat := [112, 32, 123, 32, 99, 111, 108, 111, 114, 58, 32, 114, 101, 100, 32, 125]
def awRow : List D := [iN 3, iN 2, iN 0, iN 1024, iN 512, iN 1280, .i .u32 4278190335, .s [.c 97], iN 1024, .b false, iN 0, iN 0, iN 0, iN 0]
theorem rAwake : pcB (enH []) 40 9 [bytesN awH, bytesN awC, envV] (.tu [.d (.l 14 [awRow]), .d (iN 0)]) = true := by decide +kernel
theorem awake_pc [Val] (hG : Val.G = gS) : PC Tryz.prog 9 [bytesN awH, bytesN awC, envV] (.tu [.d (.l 14 [awRow]), .d (iN 0)]) := (pcH no_orc hG rAwake).2
end Go.Abs
namespace Go.Abs
open Go.RowKit Go.Proofs
set_option maxRecDepth 100000
variable [Val]
theorem GL.three {g : Gh} {h : Heap} {w : World} {x y z : V} {a b c : Value} (h1 : GV g h w x a) (h2 : GV g h w y b) (h3 : GV g h w z c) : GL g h w [x, y, z] [a, b, c] :=
  ⟨rfl, fun i p v e1 e2 => by
    match i, e1, e2 with
    | 0, e1, e2 => cases e1; cases e2; exact h1
    | 1, e1, e2 => cases e1; cases e2; exact h2
    | 2, e1, e2 => cases e1; cases e2; exact h3
    | i + 3, e1, e2 => simp at e1⟩
theorem env_gv (F : Nat → Nat) (h : Heap) (w : World) : GV (gF F) h w envV (.agg #[.int .i64 6400, .int .i64 6400, .slice none 0 0]) := by
  refine GV.a (g := gF F) (h := h) (w := w) [iN 6400, iN 6400, .z] [.int .i64 6400, .int .i64 6400, .slice none 0 0] rfl (fun v hv => ?_) (fun i x v e1 e2 => ?_)
  · rcases List.mem_cons.1 hv with rfl | hv
    · rfl
    rcases List.mem_cons.1 hv with rfl | hv
    · rfl
    rcases List.mem_cons.1 hv with rfl | hv
    · rfl
    cases hv
  · match i, e1, e2 with
    | 0, e1, e2 => cases e1; cases e2; exact .i _ _
    | 1, e1, e2 => cases e1; cases e2; exact .i _ _
    | 2, e1, e2 => cases e1; cases e2; exact .z
    | i + 3, e1, e2 => simp at e1
theorem pair_gv {g : Gh} {h : Heap} {w : World} {d : D} {v : Value} (hv : GV g h w (.tu [.d d, .d (iN 0)]) v) : ∃ a, v = .tuple #[a, .int .i64 0] ∧ RD g.F w d a := by
  cases hv with
  | tu _ vs hl hx =>
    match vs, hl with
    | [a, b], _ =>
      have h1 := (hx 0 _ a rfl rfl).d_inv
      have h2 := (hx 1 _ b rfl rfl).d_inv
      cases h2
      exact ⟨a, rfl, h1⟩
theorem render_at (hG : Val.G = gS) {l1 l2 : List Sb} {bs1 bs2 : List UInt8} {d : D} (hp : PC Tryz.prog 9 [bytesB l1, bytesB l2, envV] (.tu [.d d, .d (iN 0)])) (h1 : SR l1 bs1) (h2 : SR l2 bs2)
    {W : World} (hs : SpAt W) {b1 b2 : Nat} {c1 c2 : Array Value} {t1 t2 : TypeId} {f1 f2 : Nat × Nat} {cap1 cap2 : Nat} (hb1 : W.heap[b1]? = some (.cells c1 t1 f1)) (hb2 : W.heap[b2]? = some (.cells c2 t2 f2))
    (hne : b1 ≠ b2) (n1 : b1 ≠ 3) (n2 : b2 ≠ 3) (k1 : bs1.length ≤ cap1) (k2 : bs2.length ≤ cap2) (q1 : cap1 ≤ c1.size) (q2 : cap2 ≤ c2.size)
    (hc1 : ∀ (j : Nat) u, bs1[j]? = some u → c1[j]? = some (.int .u8 u.toNat)) (hc2 : ∀ (j : Nat) u, bs2[j]? = some u → c2[j]? = some (.int .u8 u.toNat)) :
    Calls Tryz.prog 9 #[.slice (some ⟨b1, 0, none⟩) bs1.length cap1, .slice (some ⟨b2, 0, none⟩) bs2.length cap2, .agg #[.int .i64 6400, .int .i64 6400, .slice none 0 0]] W
      fun e w' => ∃ a F', e = .returned (.tuple #[a, .int .i64 0]) ∧ RD F' w' d a ∧ Below W.heap.size W w' := by
  have e1 : b1 < W.heap.size := (Array.getElem?_eq_some_iff.1 hb1).1
  have e2 : b2 < W.heap.size := (Array.getElem?_eq_some_iff.1 hb2).1
  have e3 := hs.lt
  let F : Nat → Nat := fun b => if b = b1 then bs1.length else if b = b2 then bs2.length else if b = 3 then 256 else 0
  have F1 : F b1 = bs1.length := by simp [F]
  have F2 : F b2 = bs2.length := by simp [F, Ne.symm hne]
  have F3 : F 3 = 256 := by simp [F, Ne.symm n1, Ne.symm n2]
  have F4 : ∀ b, W.heap.size ≤ b → F b = 0 := fun b hb => by
    have a1 : b ≠ b1 := by omega
    have a2 : b ≠ b2 := by omega
    have a3 : b ≠ 3 := by omega
    simp [F, a1, a2, a3]
  refine (hp.kit hG hs F3 F4 (GL.three (rd_bytes h1 hb1 F1 k1 q1 hc1 _ rfl _) (rd_bytes h2 hb2 F2 k2 q2 hc2 _ rfl _) (env_gv F _ _))).mono fun e w' ⟨v, g', r1, r2, r3⟩ => ?_
  obtain ⟨a, rfl, r4⟩ := pair_gv r2
  exact ⟨a, _, r1, r4, r3⟩
theorem sr_nat (l : List Nat) (h : ∀ n ∈ l, n < 256) : SR (l.map .c) (l.map UInt8.ofNat) :=
  ⟨by simp, fun i x u h1 h2 => by
    rw [List.getElem?_map] at h1 h2
    cases hq : l[i]? with
    | none => rw [hq] at h1; cases h1
    | some n =>
      rw [hq] at h1 h2
      cases h1; cases h2
      show (UInt8.ofNat n).toNat = n
      have := h n (List.mem_of_getElem? hq)
      simp only [UInt8.toNat_ofNat']
      omega⟩
theorem cells_of {bs : List UInt8} {rest : List Value} {c : Array Value} (h : c.toList = bs.map (fun u => Value.int .u8 u.toNat) ++ rest) : ∀ (j : Nat) u, bs[j]? = some u → c[j]? = some (.int .u8 u.toNat) := fun j u hu => by
  rw [← Array.getElem?_toList, h, List.getElem?_append_left (by rw [List.length_map]; exact (List.getElem?_eq_some_iff.1 hu).1), List.getElem?_map, hu]
  rfl
def awA : Array Value := #[.int .u8 60, .int .u8 112, .int .u8 62, .int .u8 97]
def awB : Array Value := #[.int .u8 112, .int .u8 32, .int .u8 123, .int .u8 32, .int .u8 99, .int .u8 111, .int .u8 108, .int .u8 111, .int .u8 114, .int .u8 58, .int .u8 32, .int .u8 114, .int .u8 101, .int .u8 100, .int .u8 32, .int .u8 125]
theorem awake_render (hG : Val.G = gS) (w : World) (hs : SpAt w) :
    Calls Tryz.prog 9 #[.slice (some ⟨w.heap.size, 0, none⟩) 4 4, .slice (some ⟨w.heap.size + 1, 0, none⟩) 16 16, .agg #[.int .i64 6400, .int .i64 6400, .slice none 0 0]]
      ((w.alloc (.cells awA 5 (4, 5))).alloc (.cells awB 5 (16, 17)))
      fun e w' => ∃ b off cap, e = .returned (.tuple #[.slice (some ⟨b, off, none⟩) 1 cap, .int .i64 0]) ∧ Below w.heap.size w w' ∧ w'.cell? ⟨b, off + 7, none⟩ = some (.string ⟨#[97]⟩) ∧ w'.cell? ⟨b, off + 6, none⟩ = some (.int .u32 4278190335) ∧
        w'.cell? ⟨b, off + 2, none⟩ = some (.int .i64 0) ∧ w'.cell? ⟨b, off + 3, none⟩ = some (.int .i64 1024) ∧ w'.cell? ⟨b, off + 4, none⟩ = some (.int .i64 512) ∧ w'.cell? ⟨b, off + 5, none⟩ = some (.int .i64 1280) := by
  have hlt := hs.lt
  have hp := awake_pc hG
  rw [bytesN_eq, bytesN_eq] at hp
  have hb : Below w.heap.size w ((w.alloc (.cells awA 5 (4, 5))).alloc (.cells awB 5 (16, 17))) :=
    ((Below.refl _ w).alloc (Nat.le_refl _) _).alloc (by simp) _
  have hb1 : ((w.alloc (.cells awA 5 (4, 5))).alloc (.cells awB 5 (16, 17))).heap[w.heap.size]? = some (.cells awA 5 (4, 5)) := (((Below.refl _ (w.alloc (.cells awA 5 (4, 5)))).alloc (Nat.le_refl _) (.cells awB 5 (16, 17))).block w.heap.size (by simp)).trans (heap_alloc_new w _)
  have hb2 : ((w.alloc (.cells awA 5 (4, 5))).alloc (.cells awB 5 (16, 17))).heap[w.heap.size + 1]? = some (.cells awB 5 (16, 17)) := by
    have := heap_alloc_new (w.alloc (.cells awA 5 (4, 5))) (.cells awB 5 (16, 17))
    simpa using this
  have := render_at (cap1 := 4) (cap2 := 16) hG hp (sr_nat awH (by decide)) (sr_nat awC (by decide)) (hs.below hb hlt) hb1 hb2
    (by omega) (by omega) (by omega) (by decide) (by decide) (by decide) (by decide) (cells_of (rest := []) (by rfl)) (cells_of (rest := []) (by rfl))
  refine this.mono fun e w' ⟨a, F', r1, r2, r3⟩ => ?_
  obtain ⟨b, off, cap, rfl, r4, r5⟩ := rows_at r2 (by simp)
  have r3 := hb.trans (r3.mono (by simp; omega))
  have at_ : ∀ (j : Nat) (d : D), awRow[j]? = some d → ∃ v, w'.cell? ⟨b, off + j, none⟩ = some v ∧ RD F' w' d v := fun j d hd => by
    have := r5 0 awRow j d rfl hd
    simpa using this
  obtain ⟨v7, c7, d7⟩ := at_ 7 _ rfl
  obtain ⟨v6, c6, d6⟩ := at_ 6 _ rfl
  obtain ⟨v2, c2, d2⟩ := at_ 2 _ rfl
  obtain ⟨v3, c3, d3⟩ := at_ 3 _ rfl
  obtain ⟨v4, c4, d4⟩ := at_ 4 _ rfl
  obtain ⟨v5, c5, d5⟩ := at_ 5 _ rfl
  cases d6; cases d2; cases d3; cases d4; cases d5
  cases d7 with
  | s _ t ht =>
    have : t = ⟨#[97]⟩ := by
      have hl := ht.len
      match t, hl with
      | ⟨⟨[u]⟩⟩, _ =>
        have h0 : u.toNat = 97 := ht.at_ 0 (.c 97) u rfl rfl
        have : u = 97 := UInt8.toNat_inj.1 (h0.trans rfl)
        rw [this]
    subst this
    exact ⟨b, off, cap, r1, r3, c7, c6, c2, c3, c4, c5⟩
theorem awake_walk (hG : Val.G = gS) (w : World) (hs : SpAt w) : Calls Tryz.prog 11 #[] w fun e w' => e = .returned (.bool true) ∧ Below w.heap.size w w' := by
  have kc := fun (w : World) (C : Array Value) (n c : Nat) => Lib.run_convert_bytes_const (P := Tryz.prog) w 32 5 C n c Tryz.underlying32 Tryz.underlying5
  have kc2 : ∀ (w : World) (o : Obj) (C : Array Value) (n c : Nat), (convert 32 32 (.slice (some ⟨w.heap.size + 1, 0, none⟩) n c)).run Tryz.prog ((w.alloc o).alloc (.cells C 5)) = .ok (.slice (some ⟨w.heap.size + 1, 0, none⟩) n c) ((w.alloc o).alloc (.cells C 5 (C.size, C.size + 1))) := fun w o C n c => by
    have := kc (w.alloc o) C n c
    simpa using this
  go_enter Tryz.func11, Tryz.ntmps11
  go_wp2_with (go_at_call 9; refine (awake_render hG w hs).mono ?_)
  rintro e w2 ⟨b, off, cap, rfl, hb, c7, c6, c2, c3, c4, c5⟩
  go_wp2_with fail
  go_ret
  exact ⟨rfl, hb⟩
end Go.Abs
