/-
  Render of a row of ordered boxes; the text of the law.
-/
import Derived.Test.YtkkiefcapbddkaaGreatDoorLayL
import Derived.Test.YtkkiefcapbddkaaGreatDoorLayK
import Derived.Test.YtkkiefcapbddkaaGreatDoorSeatC
import Derived.Test.YtkkiefcapbddkaaGreatDoorLayE
set_option linter.all false
namespace Go.Abs
open Go.RowKit Go.Proofs Go.Proofs.YtkkiefcapbddkaaGreatDoor Mem
set_option maxRecDepth 100000
def ItemsO (w : World) (a : Value) (n : Nat) (S : Array (Int × Int)) : Prop :=
  ∃ A cap, a = .slice A n cap ∧ ∀ j, j < n → ∃ b off, A = some ⟨b, off, none⟩ ∧ w.cell? ⟨b, off + j * 14 + 1, none⟩ = some (.int .i64 S[j]!.1) ∧ w.cell? ⟨b, off + j * 14 + 2, none⟩ = some (.int .i64 (128 * (j : Int))) ∧
    w.cell? ⟨b, off + j * 14 + 3, none⟩ = some (.int .i64 0) ∧ w.cell? ⟨b, off + j * 14 + 4, none⟩ = some (.int .i64 128) ∧ w.cell? ⟨b, off + j * 14 + 5, none⟩ = some (.int .i64 192)
theorem itemsO_of (os : List Int) {n : Nat} (ew eh : Int) (l : List Int) {F : Nat → Nat} {w : World} {a : Value} {d : D} (hd : lstO n = .d d) (h : @RD (valO os n ew eh l) F w d a) : ItemsO w a n (srt os n) := by
  letI := valO os n ew eh l
  cases n with
  | zero =>
    have : lstO 0 = .d .z := rfl
    rw [this] at hd
    cases hd
    cases h
    exact ⟨none, 0, rfl, fun i hi => by omega⟩
  | succ n =>
    have : lstO (n + 1) = .d (.l 14 (upN (fun j => [itemJ (n + 1) j]) (n + 1) 0)) := rfl
    rw [this] at hd
    cases hd
    have hlen : (upN (fun j => [itemJ (n + 1) j]) (n + 1) 0).length = n + 1 := upN_lenO _ _
    obtain ⟨b, off, cap, rfl, h1, h2⟩ := rows_at h (by intro e; rw [e] at hlen; simp at hlen)
    refine ⟨some ⟨b, off, none⟩, cap, by rw [hlen], fun j hj => ⟨b, off, rfl, ?_⟩⟩
    have hrow := upN_atO (fun j => itemJ (n + 1) j) hj
    obtain ⟨v1, c1, d1⟩ := h2 j _ 1 _ hrow rfl
    obtain ⟨v2, c2, d2⟩ := h2 j _ 2 _ hrow rfl
    obtain ⟨v3, c3, d3⟩ := h2 j _ 3 _ hrow rfl
    obtain ⟨v4, c4, d4⟩ := h2 j _ 4 _ hrow rfl
    obtain ⟨v5, c5, d5⟩ := h2 j _ 5 _ hrow rfl
    refine ⟨?_, ?_, ?_, ?_, ?_⟩
    · rw [c1]
      have d1 : RD _ w (.x .i64 (.fn 3 j []) 2 (Int.ofNat (n + 1 + 1))) v1 := d1
      cases d1
      rfl
    · rw [c2]
      cases d2
      congr 2
    · rw [c3]; cases d3; rfl
    · rw [c4]; cases d4; rfl
    · rw [c5]; cases d5; rfl
theorem adv_rd [Val] {F : Nat → Nat} {w : World} {base : Nat} {v : Value} {l : List Int} (ho : w.ownsRow base 2 1 v l.length (ints l).toList) (hF : ∀ g, v.ownBlock = some g → F g = l.length) : RD F w (.l 1 (l.map fun a => [.i .i64 a])) v := by
  rcases ho.2 with ⟨rfl, h0⟩ | ⟨g, cap, cur, rfl, h1, h2, h3, h4, h5, h6⟩
  · have : l = [] := by simpa [ints] using h0
    subst this
    exact .lz 1
  · have hFg := hF g rfl
    have hlen : (l.map fun a => [D.i .i64 a]).length = l.length := by simp
    have := RD.l (F := F) (w := w) 1 (l.map fun a => [D.i .i64 a]) g 0 cap cur 2 (0, 0) h2 (by rw [hFg, hlen]; omega) (by rw [hFg]; omega) (by omega) (by rw [hlen]; exact h3)
      (fun r hr => by obtain ⟨d, _, rfl⟩ := List.mem_map.1 hr; rfl)
      (fun i r j d u a1 a2 a3 => by
        rw [List.getElem?_map] at a1
        cases hq : l[i]? with
        | none => rw [hq] at a1; cases a1
        | some x =>
          rw [hq] at a1
          cases a1
          match j, a2 with
          | 0, a2 =>
            cases a2
            have hi := (List.getElem?_eq_some_iff.1 hq).1
            rw [show 0 + i * 1 + 0 = i by omega] at a3
            have : (ints l).toList[i]? = some u := by
              rw [← h6, List.getElem?_take_of_lt (by omega), Array.getElem?_toList]; exact a3
            have e : (ints l).toList[i]? = some (.int .i64 x) := by simp [ints, hq]
            rw [e] at this
            cases this
            exact .i _ _
          | j + 1, a2 => simp at a2)
    rw [hlen] at this
    exact this
theorem render_atO (hQ : RunsO) (os : List Int) {n : Nat} (hn : n ≤ 20) {ew eh : Int} {l : List Int} (w0 : 0 ≤ ew) (w1 : ew ≤ 16777216) (h0 : 0 ≤ eh) (h1 : eh ≤ 16777216) (hl : l.length ≤ 256) (ha : ∀ x ∈ l, 0 ≤ x ∧ x ≤ 65536)
    {W : World} (hs : SpAt W) {bs1 : List UInt8} (hbs1 : bs1 = (docO os n).map UInt8.ofNat) {b1 b2 base : Nat} {c1 c2 : Array Value} {t1 t2 : TypeId} {f1 f2 : Nat × Nat} {cap1 cap2 : Nat} (hb1 : W.heap[b1]? = some (.cells c1 t1 f1)) (hb2 : W.heap[b2]? = some (.cells c2 t2 f2))
    (hne : b1 ≠ b2) (n1 : b1 ≠ 3) (n2 : b2 ≠ 3) (k1 : bs1.length ≤ cap1) (k2 : cssO.length ≤ cap2) (q1 : cap1 ≤ c1.size) (q2 : cap2 ≤ c2.size) (m1 : b1 < base) (m2 : b2 < base) (m3 : 3 < base)
    (hc1 : ∀ (j : Nat) u, bs1[j]? = some u → c1[j]? = some (.int .u8 u.toNat)) (hc2 : ∀ (j : Nat) u, (cssO.map UInt8.ofNat)[j]? = some u → c2[j]? = some (.int .u8 u.toNat)) {v : Value} (hv : W.ownsRow base 2 1 v l.length (ints l).toList) :
    Calls Tryz.prog 9 #[.slice (some ⟨b1, 0, none⟩) bs1.length cap1, .slice (some ⟨b2, 0, none⟩) cssO.length cap2, .agg #[.int .i64 ew, .int .i64 eh, v]] W
      fun e w' => ∃ a, e = .returned (.tuple #[a, .int .i64 0]) ∧ ItemsO w' a n (srt os n) ∧ Below W.heap.size W w' := by
  letI := valO os n ew eh l
  have hG : Val.G = gS := rfl
  have e1 : b1 < W.heap.size := (Array.getElem?_eq_some_iff.1 hb1).1
  have e2 : b2 < W.heap.size := (Array.getElem?_eq_some_iff.1 hb2).1
  have e3 := hs.lt
  have hcl : (cssO.map UInt8.ofNat).length = cssO.length := by simp
  let F : Nat → Nat := fun b => if b = b1 then bs1.length else if b = b2 then cssO.length else if b = 3 then 256 else if some b = v.ownBlock then l.length else 0
  have F1 : F b1 = bs1.length := by simp [F]
  have F2 : F b2 = (cssO.map UInt8.ofNat).length := by rw [hcl]; simp [F, Ne.symm hne]
  have F3 : F 3 = 256 := by simp [F, Ne.symm n1, Ne.symm n2]
  have F5 : ∀ g, v.ownBlock = some g → F g = l.length := fun g hg => by
    have := hv.lt g hg
    have a1 : g ≠ b1 := by omega
    have a2 : g ≠ b2 := by omega
    have a3 : g ≠ 3 := by omega
    simp [F, a1, a2, a3, hg]
  have F4 : ∀ b, W.heap.size ≤ b → F b = 0 := fun b hb => by
    have a1 : b ≠ b1 := by omega
    have a2 : b ≠ b2 := by omega
    have a3 : b ≠ 3 := by omega
    have a4 : ¬ some b = v.ownBlock := fun e => by have := (hv.lt b e.symm).2; omega
    simp [F, a1, a2, a3, a4]
  obtain ⟨d, hd⟩ : ∃ d, lstO n = .d d := ⟨_, rfl⟩
  have hp := render_pcO hQ os hn w0 w1 h0 h1 hl ha
  rw [hd] at hp
  have s1 : SR (kB (docO os n)) bs1 := by rw [hbs1]; exact sr_kB _ fun u hu => (doc_ok os n u hu).2.1
  have g1 : GV (gF F) (fun _ => none) W (.d (.o 51)) (.slice (some ⟨b1, 0, none⟩) bs1.length cap1) := by
    refine .d _ _ (.o _ _ ?_)
    have e : Val.d 51 = .l 1 ((docO os n).map fun c => [.i .u8 (Int.ofNat c)]) := rfl
    rw [e]
    have e2 : (bytesB (kB (docO os n))) = .d (.l 1 ((docO os n).map fun c => [.i .u8 (Int.ofNat c)])) := (bytesN_eq (docO os n)).symm
    have h3 : GV (gF F) (fun _ => none) W (bytesB (kB (docO os n))) (.slice (some ⟨b1, 0, none⟩) bs1.length cap1) := rd_bytes (h := fun _ => none) s1 hb1 F1 k1 q1 hc1 (gF F) rfl
    rw [e2] at h3
    exact h3.d_inv
  have g2 : GV (gF F) (fun _ => none) W (bytesN cssO) (.slice (some ⟨b2, 0, none⟩) cssO.length cap2) := by
    rw [bytesN_eq]
    have := rd_bytes (h := fun _ => none) (sr_nat cssO (by decide +kernel)) hb2 F2 (by rw [hcl]; exact k2) q2 hc2 (gF F) rfl
    rw [hcl] at this
    exact this
  have g3 : GV (gF F) (fun _ => none) W envO (.agg #[.int .i64 ew, .int .i64 eh, v]) := by
    have hv0 : RD F W (.o 0) v := .o _ _ (by
      have e : Val.d 0 = .l 1 (l.map fun a => [.i .i64 a]) := rfl
      rw [e]; exact adv_rd hv F5)
    refine GV.a (g := gF F) (h := fun _ => none) (w := W) [.x .i64 (.v 100) 0 16777216, .x .i64 (.v 101) 0 16777216, .o 0] [.int .i64 ew, .int .i64 eh, v] rfl (fun u hu => ?_) (fun i x u a1 a2 => ?_)
    · rcases List.mem_cons.1 hu with rfl | hu
      · rfl
      rcases List.mem_cons.1 hu with rfl | hu
      · rfl
      rcases List.mem_cons.1 hu with rfl | hu
      · exact hv0.one
      cases hu
    · match i, a1, a2 with
      | 0, a1, a2 => cases a1; cases a2; exact .x .i64 (.v 100) 0 16777216 w0 w1
      | 1, a1, a2 => cases a1; cases a2; exact .x .i64 (.v 101) 0 16777216 h0 h1
      | 2, a1, a2 => cases a1; cases a2; exact hv0
      | i + 3, a1, a2 => simp at a1
  refine (hp.kit hG hs F3 F4 (GL.three g1 g2 g3)).mono fun e w' ⟨r, g', r1, r2, r3⟩ => ?_
  obtain ⟨a, rfl, r4⟩ := pair_gv r2
  exact ⟨a, r1, itemsO_of os ew eh l hd r4, r3⟩
end Go.Abs
namespace Go.Abs
open Go.RowKit Go.Proofs
set_option maxRecDepth 100000
def kP : ByteArray := ⟨#[60, 112, 32, 115, 116, 121, 108, 101, 61, 34, 111, 114, 100, 101, 114, 58]⟩
def kT : ByteArray := ⟨#[34, 62, 60, 47, 112, 62]⟩
def kD : ByteArray := ⟨#[60, 100, 105, 118, 62]⟩
def kE : ByteArray := ⟨#[60, 47, 100, 105, 118, 62]⟩
def nxtO (o : ByteArray) (g : Int) : ByteArray := ((o ++ kP) ++ ordT g) ++ kT
def htmlAO (os : List Int) : Nat → ByteArray
  | 0 => ⟨#[]⟩
  | k + 1 => nxtO (htmlAO os k) (oi os k)
def htmlSO (os : List Int) (n : Nat) : ByteArray := (kD ++ htmlAO os n) ++ kE
theorem ordT_size (g : Int) : (ordT g).size ≤ 2 := by
  unfold ordT
  split
  · rw [ByteArray.size_append]; exact Nat.le_refl _
  · show 1 ≤ 2; omega
theorem nxtO_size (o : ByteArray) (g : Int) : (nxtO o g).size ≤ o.size + 24 := by
  have := ordT_size g
  unfold nxtO
  rw [ByteArray.size_append, ByteArray.size_append, ByteArray.size_append]
  show o.size + 16 + _ + 6 ≤ _
  omega
theorem htmlAO_size (os : List Int) : ∀ k : Nat, (htmlAO os k).size ≤ 24 * k
  | 0 => Nat.le_refl _
  | k + 1 => by
    have h1 := htmlAO_size os k
    have h2 := nxtO_size (htmlAO os k) (oi os k)
    show (nxtO _ _).size ≤ _
    omega
theorem data_app (a b : ByteArray) : (a ++ b).data.toList = a.data.toList ++ b.data.toList := by
  rw [ByteArray.data_append, Array.toList_append]
def sL : List Nat := [60, 112, 32, 115, 116, 121, 108, 101, 61, 34]
def tL : List Nat := [34, 62, 60, 47, 112, 62]
def dL : List Nat := [60, 100, 105, 118, 62]
def eL : List Nat := [60, 47, 100, 105, 118, 62]
def itL (os : List Int) : Nat → List Nat
  | 0 => []
  | k + 1 => itL os k ++ (sL ++ (ordS (oi os k) ++ tL))
theorem ordT_list {o : Int} (h0 : -9 ≤ o) (h1 : o ≤ 9) : (ordT o).data.toList = (ordN o).map UInt8.ofNat := by
  obtain rfl | rfl | rfl | rfl | rfl | rfl | rfl | rfl | rfl | rfl | rfl | rfl | rfl | rfl | rfl | rfl | rfl | rfl | rfl : o = -9 ∨ o = -8 ∨ o = -7 ∨ o = -6 ∨ o = -5 ∨ o = -4 ∨ o = -3 ∨ o = -2 ∨ o = -1 ∨ o = 0 ∨ o = 1 ∨ o = 2 ∨ o = 3 ∨ o = 4 ∨ o = 5 ∨ o = 6 ∨ o = 7 ∨ o = 8 ∨ o = 9 := by omega
  all_goals decide
theorem html_list (os : List Int) : ∀ k : Nat, (htmlAO os k).data.toList = (itL os k).map UInt8.ofNat
  | 0 => rfl
  | k + 1 => by
    have ih := html_list os k
    have ho := oi_in os k
    show (nxtO (htmlAO os k) (oi os k)).data.toList = (itL os k ++ (sL ++ (ordS (oi os k) ++ tL))).map UInt8.ofNat
    unfold nxtO
    rw [data_app, data_app, data_app, ih, ordT_list ho.1 ho.2, ordS_eq]
    simp only [List.map_append, List.map_cons, List.append_assoc]
    rfl
theorem pre_items (os : List Int) {n : Nat} : ∀ m : Nat, 1 ≤ m → m ≤ n → preO os n m ++ tL = dL ++ itL os m
  | 0, h, _ => by omega
  | 1, _, hn => by
    have hp : pce n 0 = dL ++ sL := by
      match n, hn with
      | n + 1, _ => rfl
    show ([] ++ (pce n 0 ++ ordS (oi os 0))) ++ tL = dL ++ ([] ++ (sL ++ (ordS (oi os 0) ++ tL)))
    rw [hp]
    simp only [List.nil_append, List.append_assoc]
  | m + 2, _, hn => by
    have ih := pre_items os (n := n) (m + 1) (by omega) (by omega)
    have hp : pce n (m + 1) = tL ++ sL := by
      match n, hn with
      | n + 1, hn =>
        show (Bool.rec (Bool.rec cM cZ (Nat.beq (m + 1) (n + 1))) cA (Nat.beq (m + 1) 0) : List Nat) = _
        rw [show Nat.beq (m + 1) 0 = false from rfl]
        have : Nat.beq (m + 1) (n + 1) = false := by
          cases hb : Nat.beq (m + 1) (n + 1) with
          | false => rfl
          | true => have := Nat.eq_of_beq_eq_true hb; omega
        rw [this]
        rfl
    show (preO os n (m + 1) ++ (pce n (m + 1) ++ ordS (oi os (m + 1)))) ++ tL = dL ++ (itL os (m + 1) ++ (sL ++ (ordS (oi os (m + 1)) ++ tL)))
    rw [hp, ← List.append_assoc dL, ← ih]
    simp only [List.append_assoc]
theorem doc_items (os : List Int) (n : Nat) : docO os n = dL ++ (itL os n ++ eL) := by
  unfold docO
  match n with
  | 0 => rfl
  | n + 1 =>
    have h := pre_items os (n := n + 1) (n + 1) (by omega) (Nat.le_refl _)
    have hp : pce (n + 1) (n + 1) = tL ++ eL := by
      show (Bool.rec (Bool.rec cM cZ (Nat.beq (n + 1) (n + 1))) cA (Nat.beq (n + 1) 0) : List Nat) = _
      rw [show Nat.beq (n + 1) 0 = false from rfl, Nat.beq_refl]
      rfl
    rw [hp, ← List.append_assoc, h, List.append_assoc]
theorem htmlSO_doc (os : List Int) (n : Nat) : (htmlSO os n).data.toList = (docO os n).map UInt8.ofNat := by
  unfold htmlSO
  rw [data_app, data_app, html_list, doc_items]
  simp only [List.map_append, List.append_assoc]
  rfl
end Go.Abs
namespace Go.Abs
open Go.RowKit Go.Proofs Go.Proofs.YtkkiefcapbddkaaGreatDoor Mem Num
set_option maxRecDepth 100000
theorem hidO {p : Prop} (h : p) : Hid p := h
def cssA : Array Value := #[.int .u8 100, .int .u8 105, .int .u8 118, .int .u8 32, .int .u8 123, .int .u8 32, .int .u8 100, .int .u8 105, .int .u8 115, .int .u8 112, .int .u8 108, .int .u8 97, .int .u8 121, .int .u8 58, .int .u8 32, .int .u8 102, .int .u8 108, .int .u8 101, .int .u8 120, .int .u8 32, .int .u8 125, .int .u8 32, .int .u8 112, .int .u8 32, .int .u8 123, .int .u8 32, .int .u8 109, .int .u8 97, .int .u8 114, .int .u8 103, .int .u8 105, .int .u8 110, .int .u8 58, .int .u8 32, .int .u8 48, .int .u8 59, .int .u8 32, .int .u8 102, .int .u8 108, .int .u8 101, .int .u8 120, .int .u8 45, .int .u8 115, .int .u8 104, .int .u8 114, .int .u8 105, .int .u8 110, .int .u8 107, .int .u8 58, .int .u8 32, .int .u8 48, .int .u8 59, .int .u8 32, .int .u8 119, .int .u8 105, .int .u8 100, .int .u8 116, .int .u8 104, .int .u8 58, .int .u8 32, .int .u8 50, .int .u8 112, .int .u8 120, .int .u8 59, .int .u8 32, .int .u8 104, .int .u8 101, .int .u8 105, .int .u8 103, .int .u8 104, .int .u8 116, .int .u8 58, .int .u8 32, .int .u8 51, .int .u8 112, .int .u8 120, .int .u8 59, .int .u8 32, .int .u8 98, .int .u8 97, .int .u8 99, .int .u8 107, .int .u8 103, .int .u8 114, .int .u8 111, .int .u8 117, .int .u8 110, .int .u8 100, .int .u8 58, .int .u8 32, .int .u8 114, .int .u8 101, .int .u8 100, .int .u8 32, .int .u8 125]
theorem bytesWorld_belowO (w : World) (s : ByteArray) : Below w.heap.size w (Lib.bytesWorld w 5 s) :=
  ⟨rfl, rfl, rfl, by rw [Lib.bytesWorld_size]; omega, fun k hk => Lib.bytesWorld_at_old w 5 s k hk⟩
theorem bytes_cellsO (w : World) (s : ByteArray) : (Lib.bytesCells w 5 s).toList = s.data.toList.map (fun u => Value.int .u8 u.toNat) ++ List.replicate (grownCap w s.size 0 5 - s.size) (.int .u8 0) := by
  unfold Lib.bytesCells
  simp
theorem ordered_render (hQ : RunsO) (os : List Int) {k : Nat} (hk : k ≤ 20) {ew eh : Int} {l : List Int} {w w4 : World} (hs : SpAt w) {sH : ByteArray} (hH : htmlSO os k = sH)
    (hb4 : Below ((Lib.bytesWorld w 5 sH).alloc (.cells cssA 5 (95, 96))).heap.size ((Lib.bytesWorld w 5 sH).alloc (.cells cssA 5 (95, 96))) w4) {v : Value}
    (hv : w4.ownsRow ((Lib.bytesWorld w 5 sH).alloc (.cells cssA 5 (95, 96))).heap.size 2 1 v (envl l).length (ints (envl l)).toList) :
    Calls Tryz.prog 9 #[.slice (some ⟨w.heap.size, 0, none⟩) sH.size (grownCap w sH.size 0 5), .slice (some ⟨(Lib.bytesWorld w 5 sH).heap.size, 0, none⟩) 95 95, .agg #[.int .i64 (inn ew 16777216), .int .i64 (inn eh 16777216), v]] w4
      fun e w' => ∃ a, e = .returned (.tuple #[a, .int .i64 0]) ∧ Below w.heap.size w w' ∧ ItemsO w' a k (srt os k) := by
  have hlt := hs.lt
  have b1 := bytesWorld_belowO w sH
  have hsz := Lib.bytesWorld_size w 5 sH
  have b2 : Below w.heap.size w ((Lib.bytesWorld w 5 sH).alloc (.cells cssA 5 (95, 96))) := b1.alloc (by omega) _
  have hsz2 : ((Lib.bytesWorld w 5 sH).alloc (.cells cssA 5 (95, 96))).heap.size = (Lib.bytesWorld w 5 sH).heap.size + 1 := by simp
  have b3 := b2.trans (hb4.mono (by omega))
  have e1 : sH.size = sH.data.toList.length := rfl
  have hb1 : w4.heap[w.heap.size]? = some (.cells (Lib.bytesCells w 5 sH) 5 ((Lib.bytesCells w 5 sH).size, (Lib.bytesCells w 5 sH).size + 1)) :=
    (hb4.block _ (by omega)).trans ((((Below.refl _ (Lib.bytesWorld w 5 sH)).alloc (Nat.le_refl _) (.cells cssA 5 (95, 96))).block w.heap.size (by omega)).trans (Lib.bytesWorld_at_new w 5 sH))
  have hb2 : w4.heap[(Lib.bytesWorld w 5 sH).heap.size]? = some (.cells cssA 5 (95, 96)) := (hb4.block _ (by omega)).trans (heap_alloc_new _ _)
  have l1 := congrArg List.length (bytes_cellsO w sH)
  simp only [Array.length_toList, List.length_append, List.length_map, List.length_replicate, ← e1] at l1
  have g1 := grownCap_ge w sH.size 0 5
  letI := valO os k 0 0 []
  have hI := inn_lim (n := ew) (top := 16777216) (by omega)
  have hJ := inn_lim (n := eh) (top := 16777216) (by omega)
  have := render_atO (cap1 := grownCap w sH.size 0 5) (cap2 := 95) hQ os hk (ew := inn ew 16777216) (eh := inn eh 16777216) (l := envl l) hI.1 hI.2 hJ.1 hJ.2 (envl_len l) (envl_mem l) (hs.below b3 hlt) (bs1 := sH.data.toList) (by rw [← hH]; exact htmlSO_doc os k) hb1 hb2
    (by omega) (by omega) (by omega) (by rw [← e1]; omega) (by decide) (by rw [l1]; omega) (by decide) (by omega) (by omega) (by omega) (cells_of (bytes_cellsO _ _)) (cells_of (rest := []) (by rfl)) hv
  rw [← e1] at this
  exact this.mono fun e w' ⟨a, r1, r2, r3⟩ => ⟨a, r1, b3.trans (r3.mono (by have := b3.size; omega)), r2⟩
end Go.Abs
