/-
  The program's place and the document's, with no program in sight.
-/
import Derived.Test.YtkkabnkhdhlhkaaRefF
import Derived.Test.YtkkabnkhdhlhkaaRefG
import Derived.Test.YtkkabnkhdhlhkaaPlainC
namespace Go.Proofs.Ytkkabnkhdhlhkaa
open Go.RowKit Num Mem Opn
set_option linter.unusedVariables false
set_option linter.unusedSimpArgs false
namespace Num
/-- a frame's sides above and below, all small. -/
structure Fr.LimV (f : Fr) : Prop where
  mt : Num.Lim 17179869184 f.m.t
  mb : Num.Lim 17179869184 f.m.b
  pt : 0 ≤ f.p.t ∧ f.p.t ≤ 17179869184
  pb : 0 ≤ f.p.b ∧ f.p.b ≤ 17179869184
  bt : 0 ≤ f.b.t ∧ f.b.t ≤ 17179869184
  bb : 0 ≤ f.b.b ∧ f.b.b ≤ 17179869184
theorem framed_limV {s : Sty} {room : Int} (hr : Lim 1073741824 room) (h : ∀ x ∈ s.nums, Lim 1073741824 x) : (s.framed room).LimV := by
  have l0 := len_lim (k := s.m0k) (h s.m0n (by simp [Sty.nums, Sty.twelve])) hr
  have l1 := len_lim (k := s.m2k) (h s.m2n (by simp [Sty.nums, Sty.twelve])) hr
  have l2 := len_lim (k := s.p0k) (h s.p0n (by simp [Sty.nums, Sty.twelve])) hr
  have l3 := len_lim (k := s.p2k) (h s.p2n (by simp [Sty.nums, Sty.twelve])) hr
  have l4 := h s.b0 (by simp [Sty.nums, Sty.twelve])
  have l5 := h s.b2 (by simp [Sty.nums, Sty.twelve])
  unfold Num.Lim at l0 l1 l2 l3 l4 l5
  refine ⟨?_, ?_, ?_, ?_, ?_, ?_⟩ <;> simp only [Sty.framed, Sty.margin, Sty.padding, Sty.border, Num.Lim] <;> omega
theorem down_lim {f : Fr} (h : f.LimV) : f.down = f.p.t + f.p.b + (f.b.t + f.b.b) := by
  obtain ⟨⟨a1, a2⟩, ⟨b1, b2⟩, ⟨c1, c2⟩, ⟨d1, d2⟩, ⟨e1, e2⟩, ⟨g1, g2⟩⟩ := h
  unfold Fr.down
  rw [add_lim (a := f.p.t) (b := f.p.b) (by unfold Lim; omega) (by unfold Lim; omega), add_lim (a := f.b.t) (b := f.b.b) (by unfold Lim; omega) (by unfold Lim; omega), add_lim (by unfold Lim; omega) (by unfold Lim; omega)]
theorem down_limV {f : Fr} (h : f.LimV) : f.rdown = f.p.t + f.p.b + (f.b.t + f.b.b) := by
  obtain ⟨⟨a1, a2⟩, ⟨b1, b2⟩, ⟨c1, c2⟩, ⟨d1, d2⟩, ⟨e1, e2⟩, ⟨g1, g2⟩⟩ := h
  have e : f.rdown = add (add (add (add 0 f.p.t) f.p.b) f.b.t) f.b.b := rfl
  rw [e, add_lim (a := 0) (by unfold Lim; omega) (by unfold Lim; omega), add_lim (a := 0 + f.p.t) (by unfold Lim; omega) (by unfold Lim; omega), add_lim (a := 0 + f.p.t + f.p.b) (by unfold Lim; omega) (by unfold Lim; omega), add_lim (by unfold Lim; omega) (by unfold Lim; omega)]
  omega
theorem racross_lim {f : Fr} (h : f.Lim) : f.racross = f.p.l + f.p.r + (f.b.l + f.b.r) := by
  obtain ⟨⟨a1, a2⟩, ⟨b1, b2⟩, ⟨c1, c2⟩, ⟨d1, d2⟩, ⟨e1, e2⟩, ⟨g1, g2⟩⟩ := h
  have e : f.racross = add (add (add (add 0 f.p.l) f.p.r) f.b.l) f.b.r := rfl
  rw [e, add_lim (a := 0) (by unfold Lim; omega) (by unfold Lim; omega), add_lim (a := 0 + f.p.l) (by unfold Lim; omega) (by unfold Lim; omega), add_lim (a := 0 + f.p.l + f.p.r) (by unfold Lim; omega) (by unfold Lim; omega), add_lim (by unfold Lim; omega) (by unfold Lim; omega)]
  omega
theorem sums3 {a b c : Int} (ha : Lim 137438953472 a) (hb : Lim 137438953472 b) (hc : Lim 137438953472 c) : sums [a, b, c] 3 = a + b + c := by
  have e : sums [a, b, c] 3 = add (add (add 0 a) b) c := rfl
  unfold Lim at ha hb hc
  rw [e, add_lim (a := 0) (by unfold Lim; omega) (by unfold Lim; omega), add_lim (a := 0 + a) (by unfold Lim; omega) (by unfold Lim; omega), add_lim (by unfold Lim; omega) (by unfold Lim; omega)]
  omega
theorem sums4 {a b c d : Int} (ha : Lim 137438953472 a) (hb : Lim 137438953472 b) (hc : Lim 137438953472 c) (hd : Lim 137438953472 d) : sums [a, b, c, d] 4 = a + b + c + d := by
  have e : sums [a, b, c, d] 4 = add (add (add (add 0 a) b) c) d := rfl
  unfold Lim at ha hb hc hd
  rw [e, add_lim (a := 0) (by unfold Lim; omega) (by unfold Lim; omega), add_lim (a := 0 + a) (by unfold Lim; omega) (by unfold Lim; omega), add_lim (a := 0 + a + b) (by unfold Lim; omega) (by unfold Lim; omega), add_lim (by unfold Lim; omega) (by unfold Lim; omega)]
  omega
theorem sums5 {a b c d f : Int} (ha : Lim 137438953472 a) (hb : Lim 137438953472 b) (hc : Lim 137438953472 c) (hd : Lim 137438953472 d) (hf : Lim 137438953472 f) : sums [a, b, c, d, f] 5 = a + b + c + d + f := by
  have e : sums [a, b, c, d, f] 5 = add (add (add (add (add 0 a) b) c) d) f := rfl
  unfold Lim at ha hb hc hd hf
  rw [e, add_lim (a := 0) (by unfold Lim; omega) (by unfold Lim; omega), add_lim (a := 0 + a) (by unfold Lim; omega) (by unfold Lim; omega), add_lim (a := 0 + a + b) (by unfold Lim; omega) (by unfold Lim; omega), add_lim (a := 0 + a + b + c) (by unfold Lim; omega) (by unfold Lim; omega), add_lim (by unfold Lim; omega) (by unfold Lim; omega)]
  omega
theorem Lim.more {m n a : Int} (h : Lim m a) (hm : m ≤ n) : Lim n a := by unfold Lim at *; omega
theorem prt_lim24 {a n : Int} (ha : Lim 16777216 a) : Lim 268435456 (prt a n 6400) := by
  unfold prt
  have hc : clip 6400 1 65536 = 6400 := by decide
  have h0 := clip_lo n 0 65536 (by omega)
  have h1 := clip_hi n 0 65536
  have hs : sat a = a := by unfold sat Lim at *; omega
  rw [hc, hs]
  generalize clip n 0 65536 = c at *
  have hm : -1099511627776 ≤ a * c ∧ a * c ≤ 1099511627776 := by
    constructor
    · calc (-1099511627776 : Int) ≤ -16777216 * c := by omega
        _ ≤ a * c := Int.mul_le_mul_of_nonneg_right ha.1 h0
    · calc a * c ≤ 16777216 * c := Int.mul_le_mul_of_nonneg_right ha.2 h0
        _ ≤ 1099511627776 := by omega
  generalize a * c = m at *
  unfold sat Lim
  omega
theorem len_lim24 {k n room : Int} (hn : Lim 16777216 n) (hr : Lim 16777216 room) : Lim 268435456 (len k n room) := by
  unfold len
  split
  · unfold Lim at *; omega
  · split
    · exact prt_lim24 hr
    · unfold Lim; omega
theorem len_none {k n room : Int} (h : given k = false) : len k n room = 0 := by
  unfold given at h
  unfold len
  simp at h
  rw [if_neg h.1, if_neg h.2]
theorem framed_eq {s : Sty} {room : Int} (hr : Lim 1073741824 room) (h : ∀ x ∈ s.nums, Lim 1073741824 x) : s.framed room = s.rframed room := by
  have l0 := len_lim (k := s.m0k) (h s.m0n (by simp [Sty.nums, Sty.twelve])) hr
  have l1 := len_lim (k := s.m1k) (h s.m1n (by simp [Sty.nums, Sty.twelve])) hr
  have l2 := len_lim (k := s.m2k) (h s.m2n (by simp [Sty.nums, Sty.twelve])) hr
  have l3 := len_lim (k := s.m3k) (h s.m3n (by simp [Sty.nums, Sty.twelve])) hr
  unfold Num.Lim at l0 l1 l2 l3
  have e : s.margin room = s.rmargin room := by
    unfold Sty.margin Sty.rmargin fours
    congr 1 <;> omega
  unfold Sty.framed Sty.rframed
  rw [e]
theorem clampw_eq (x least most : Int) : clampw x least most = max least (min most x) := by
  unfold clampw
  split <;> split <;> omega
theorem fit_eq {s : Sty} {room least most : Int} (hk : s.wk = 0) (hr : Lim 1073741824 room) (h : ∀ x ∈ s.nums, Lim 1073741824 x) : (s.fit room least most).w = (s.rfit0 room least most).w := by
  have hf := framed_lim hr h
  have hl := left_lim hr hf
  have ha := racross_lim hf
  obtain ⟨⟨a1, a2⟩, ⟨b1, b2⟩, ⟨c1, c2⟩, ⟨d1, d2⟩, ⟨e1, e2⟩, ⟨g1, g2⟩⟩ := hf
  obtain ⟨r1, r2⟩ := hr
  have hs : s.raround room = (s.framed room).m.l + (s.framed room).m.r + (s.framed room).racross := by
    unfold Sty.raround
    rw [← framed_eq ⟨r1, r2⟩ h]
    exact sums3 (by unfold Lim; omega) (by unfold Lim; omega) (by unfold Lim; omega)
  have hg : given s.wk = false := by rw [hk]; rfl
  simp only [Sty.fit, Sty.rfit0, Sty.rsolve0, hg, Bool.false_eq_true, if_false, reduceIte, clampw_eq]
  rw [hl, hs, ha, sub_lim (by unfold Lim; omega) (by unfold Lim; omega)]
  have : room - ((s.framed room).m.l + (s.framed room).m.r) - ((s.framed room).p.l + (s.framed room).p.r + ((s.framed room).b.l + (s.framed room).b.r)) = room - ((s.framed room).m.l + (s.framed room).m.r + ((s.framed room).p.l + (s.framed room).p.r + ((s.framed room).b.l + (s.framed room).b.r))) := by omega
  rw [this]
theorem aw_eq {s : Sty} {wd least most : Int} (hn : ∀ x ∈ s.nums, Lim 16777216 x) (h3 : Lim 16777216 s.o3n) (h1 : Lim 16777216 s.o1n) (hw : Lim 16777216 wd) : s.aw wd least most = s.raw wd least most := by
  have hn30 : ∀ x ∈ s.nums, Lim 1073741824 x := fun x hx => (hn x hx).more (by decide)
  have hw30 : Lim 1073741824 wd := hw.more (by decide)
  have hL := len_lim24 (k := s.o3k) h3 hw
  have hR := len_lim24 (k := s.o1k) h1 hw
  have hf := framed_lim hw30 hn30
  have hac := across_lim hf
  have hra := racross_lim hf
  unfold Sty.aw Sty.raw
  rw [← framed_eq hw30 hn30]
  by_cases gc : given s.wk = true
  · rw [if_pos gc, if_pos gc]
  rw [if_neg gc, if_neg gc]
  by_cases gb : (given s.o3k && given s.o1k) = true
  · rw [if_pos gb, if_pos gb]
    obtain ⟨⟨a1, a2⟩, ⟨b1, b2⟩, ⟨c1, c2⟩, ⟨d1, d2⟩, ⟨e1, e2⟩, ⟨g1, g2⟩⟩ := hf
    have e1' : s.left wd = len s.o3k s.o3n wd := rfl
    have e2' : s.right wd = len s.o1k s.o1n wd := rfl
    rw [e1', e2']
    generalize len s.o3k s.o3n wd = L at *
    generalize len s.o1k s.o1n wd = R at *
    obtain ⟨l1, l2⟩ := hL
    obtain ⟨r1, r2⟩ := hR
    obtain ⟨w1, w2⟩ := hw
    have es : (s.framed wd).sum false = add (add (s.framed wd).m.l (s.framed wd).m.r) (s.framed wd).across := rfl
    rw [es, hac, hra, add_lim (a := (s.framed wd).m.l) (by unfold Lim; omega) (by unfold Lim; omega), add_lim (by unfold Lim; omega) (by unfold Lim; omega),
      sums5 (by unfold Lim; omega) (by unfold Lim; omega) (by unfold Lim; omega) (by unfold Lim; omega) (by unfold Lim; omega),
      sub_lim (a := wd) (b := L) (by unfold Lim; omega) (by unfold Lim; omega), sub_lim (a := wd - L) (by unfold Lim; omega) (by unfold Lim; omega), sub_lim (a := wd - L - R) (by unfold Lim; omega) (by unfold Lim; omega), sub_lim (a := wd) (by unfold Lim; omega) (by unfold Lim; omega)]
    congr 1
    omega
  · rw [if_neg gb, if_neg gb]
    have er : sub (sub wd (s.left wd)) (s.right wd) = s.rroom wd ∧ Lim 1073741824 (s.rroom wd) := by
      unfold Sty.rroom
      have e1' : s.left wd = len s.o3k s.o3n wd := rfl
      have e2' : s.right wd = len s.o1k s.o1n wd := rfl
      rw [e1', e2']
      obtain ⟨l1, l2⟩ := hL
      obtain ⟨r1, r2⟩ := hR
      obtain ⟨w1, w2⟩ := hw
      cases g3 : given s.o3k <;> cases g1 : given s.o1k
      · rw [len_none g3, len_none g1, sub_lim (a := wd) (b := 0) (by unfold Lim; omega) (by unfold Lim; omega), sub_lim (by unfold Lim; omega) (by unfold Lim; omega)]
        exact ⟨by simp, by unfold Lim; simp; omega⟩
      · rw [len_none g3, sub_lim (a := wd) (b := 0) (by unfold Lim; omega) (by unfold Lim; omega), Int.sub_zero]
        refine ⟨by simp, ?_⟩
        simp only [if_true, Bool.false_eq_true, if_false, reduceIte]
        rw [sub_lim (by unfold Lim; omega) (by unfold Lim; omega)]
        unfold Lim; omega
      · rw [len_none g1, sub_lim (a := wd) (by unfold Lim; omega) (by unfold Lim; omega), sub_lim (b := 0) (by unfold Lim; omega) (by unfold Lim; omega)]
        refine ⟨by simp, ?_⟩
        simp only [if_true, Bool.false_eq_true, if_false, reduceIte]
        unfold Lim; omega
      · exact absurd (by rw [g3, g1]; rfl) gb
    rw [er.1]
    have hm : Lim 1073741824 (max (s.rroom wd) 0) := by have := er.2; unfold Lim at *; omega
    refine fit_eq rfl hm (fun x hx => ?_)
    have hx' : x ∈ s.twelve ∨ x = 0 := by
      rcases List.mem_append.1 hx with h | h
      · exact .inl h
      · exact .inr (by simpa using h)
    rcases hx' with h | rfl
    · exact hn30 x (List.mem_append.2 (.inl h))
    · unfold Lim; omega
/-- the frames are one. -/
theorem aframe_eq {s : Sty} {wd least most : Int} (hn : ∀ x ∈ s.nums, Lim 16777216 x) (h3 : Lim 16777216 s.o3n) (h1 : Lim 16777216 s.o1n) (hw : Lim 16777216 wd) : s.aframe wd least most = s.raframe wd least most := by
  unfold Sty.aframe Sty.raframe
  rw [aw_eq hn h3 h1 hw, framed_eq (hw.more (by decide)) (fun x hx => (hn x hx).more (by decide))]
theorem raw_lim {s : Sty} {wd least most : Int} (hn : ∀ x ∈ s.nums, Lim 16777216 x) (h3 : Lim 16777216 s.o3n) (h1 : Lim 16777216 s.o1n) (hw : Lim 16777216 wd) (hl : Lim 16777216 least) (hm : Lim 16777216 most) : Lim 137438953472 (s.aw wd least most) := by
  have hn30 : ∀ x ∈ s.nums, Lim 1073741824 x := fun x hx => (hn x hx).more (by decide)
  have hw30 : Lim 1073741824 wd := hw.more (by decide)
  have hL := len_lim24 (k := s.o3k) h3 hw
  have hR := len_lim24 (k := s.o1k) h1 hw
  have hW := len_lim24 (k := s.wk) (hn s.wn (by simp [Sty.nums])) hw
  have hf := framed_lim hw30 hn30
  have hac := across_lim hf
  obtain ⟨⟨a1, a2⟩, ⟨b1, b2⟩, ⟨c1, c2⟩, ⟨d1, d2⟩, ⟨e1, e2⟩, ⟨g1, g2⟩⟩ := hf
  obtain ⟨l1, l2⟩ := hL
  obtain ⟨r1, r2⟩ := hR
  obtain ⟨w1, w2⟩ := hw
  obtain ⟨z1, z2⟩ := hW
  obtain ⟨m1, m2⟩ := hm
  obtain ⟨k1, k2⟩ := hl
  have e1' : s.left wd = len s.o3k s.o3n wd := rfl
  have e2' : s.right wd = len s.o1k s.o1n wd := rfl
  unfold Sty.aw
  split
  · unfold Lim; omega
  · split
    · have es : (s.framed wd).sum false = add (add (s.framed wd).m.l (s.framed wd).m.r) (s.framed wd).across := rfl
      rw [es, hac, e1', e2', add_lim (a := (s.framed wd).m.l) (by unfold Lim; omega) (by unfold Lim; omega), add_lim (by unfold Lim; omega) (by unfold Lim; omega),
        sub_lim (a := wd) (by unfold Lim; omega) (by unfold Lim; omega), sub_lim (b := len s.o1k s.o1n wd) (by unfold Lim; omega) (by unfold Lim; omega), sub_lim (by unfold Lim; omega) (by unfold Lim; omega)]
      unfold Lim; omega
    · have hg : given (0 : Int) = false := rfl
      simp only [Sty.fit, hg, Bool.false_eq_true, if_false, reduceIte]
      unfold Lim; omega
theorem ax_eq {s : Sty} {x wd at' : Int} {F : Fr} (hF : F.Lim) (hW : Lim 137438953472 F.w) (h1 : Lim 16777216 s.o1n) (hx : Lim 16777216 x) (hw : Lim 16777216 wd) : s.ax x wd at' F = s.rax x wd at' F := by
  have hR := len_lim24 (k := s.o1k) h1 hw
  have hac := across_lim hF
  have hra := racross_lim hF
  obtain ⟨⟨a1, a2⟩, ⟨b1, b2⟩, ⟨c1, c2⟩, ⟨d1, d2⟩, ⟨e1, e2⟩, ⟨g1, g2⟩⟩ := hF
  obtain ⟨r1, r2⟩ := hR
  obtain ⟨w1, w2⟩ := hw
  obtain ⟨x1, x2⟩ := hx
  obtain ⟨z1, z2⟩ := hW
  unfold Sty.ax Sty.rax
  split
  · rfl
  · split
    · have e2' : s.right wd = len s.o1k s.o1n wd := rfl
      rw [e2', hac, hra, sums4 (by unfold Lim; omega) (by unfold Lim; omega) (by unfold Lim; omega) (by unfold Lim; omega), add_lim (by unfold Lim; omega) (by unfold Lim; omega),
        sub_lim (a := x + wd) (b := len s.o1k s.o1n wd) (by unfold Lim; omega) (by unfold Lim; omega), sub_lim (b := F.m.r) (by unfold Lim; omega) (by unfold Lim; omega), sub_lim (b := F.p.l + F.p.r + (F.b.l + F.b.r)) (by unfold Lim; omega) (by unfold Lim; omega), sub_lim (b := F.w) (by unfold Lim; omega) (by unfold Lim; omega), sub_lim (by unfold Lim; omega) (by unfold Lim; omega)]
      omega
    · rfl
theorem dh_eq {s : Sty} {ht content : Int} {F : Fr} (hF : F.LimV) (h0 : Lim 16777216 s.o0n) (h2 : Lim 16777216 s.o2n) (hh : Lim 16777216 s.hn) (ht' : Lim 16777216 ht) (hc : Lim 16777216 content) : s.dh ht content F = s.rdh ht content F ∧ Lim 137438953472 (s.dh ht content F) := by
  have hT := len_lim24 (k := s.o0k) h0 ht'
  have hB := len_lim24 (k := s.o2k) h2 ht'
  have hH := len_lim24 (k := s.hk) hh ht'
  have hac := down_lim hF
  have hra := down_limV hF
  obtain ⟨⟨a1, a2⟩, ⟨b1, b2⟩, ⟨c1, c2⟩, ⟨d1, d2⟩, ⟨e1, e2⟩, ⟨g1, g2⟩⟩ := hF
  obtain ⟨l1, l2⟩ := hT
  obtain ⟨r1, r2⟩ := hB
  obtain ⟨w1, w2⟩ := ht'
  obtain ⟨z1, z2⟩ := hH
  obtain ⟨y1, y2⟩ := hc
  have e1' : s.top ht = len s.o0k s.o0n ht := rfl
  have e2' : s.bottom ht = len s.o2k s.o2n ht := rfl
  unfold Sty.dh Sty.rdh
  split
  · exact ⟨rfl, by unfold Lim; omega⟩
  · split
    · have es : F.sum true = add (add F.m.t F.m.b) F.down := rfl
      rw [es, hac, hra, e1', e2', add_lim (a := F.m.t) (by unfold Lim; omega) (by unfold Lim; omega), add_lim (by unfold Lim; omega) (by unfold Lim; omega),
        sums5 (by unfold Lim; omega) (by unfold Lim; omega) (by unfold Lim; omega) (by unfold Lim; omega) (by unfold Lim; omega),
        sub_lim (a := ht) (b := len s.o0k s.o0n ht) (by unfold Lim; omega) (by unfold Lim; omega), sub_lim (b := len s.o2k s.o2n ht) (by unfold Lim; omega) (by unfold Lim; omega), sub_lim (b := F.m.t + F.m.b + (F.p.t + F.p.b + (F.b.t + F.b.b))) (by unfold Lim; omega) (by unfold Lim; omega), sub_lim (by unfold Lim; omega) (by unfold Lim; omega)]
      refine ⟨?_, by unfold Lim; omega⟩
      congr 1
      omega
    · exact ⟨rfl, by unfold Lim; omega⟩
theorem dy_eq {s : Sty} {y ht at' c : Int} {F : Fr} (hF : F.LimV) (hc : Lim 137438953472 c) (h2 : Lim 16777216 s.o2n) (hy : Lim 16777216 y) (ht' : Lim 16777216 ht) : s.dy y ht at' c F = s.rdy y ht at' c F := by
  have hB := len_lim24 (k := s.o2k) h2 ht'
  have hac := down_lim hF
  have hra := down_limV hF
  obtain ⟨⟨a1, a2⟩, ⟨b1, b2⟩, ⟨c1, c2⟩, ⟨d1, d2⟩, ⟨e1, e2⟩, ⟨g1, g2⟩⟩ := hF
  obtain ⟨r1, r2⟩ := hB
  obtain ⟨w1, w2⟩ := ht'
  obtain ⟨x1, x2⟩ := hy
  obtain ⟨z1, z2⟩ := hc
  unfold Sty.dy Sty.rdy
  split
  · rfl
  · split
    · have e2' : s.bottom ht = len s.o2k s.o2n ht := rfl
      rw [e2', hac, hra, sums4 (by unfold Lim; omega) (by unfold Lim; omega) (by unfold Lim; omega) (by unfold Lim; omega), add_lim (by unfold Lim; omega) (by unfold Lim; omega),
        sub_lim (a := y + ht) (b := len s.o2k s.o2n ht) (by unfold Lim; omega) (by unfold Lim; omega), sub_lim (b := F.m.b) (by unfold Lim; omega) (by unfold Lim; omega), sub_lim (b := F.p.t + F.p.b + (F.b.t + F.b.b)) (by unfold Lim; omega) (by unfold Lim; omega), sub_lim (b := c) (by unfold Lim; omega) (by unfold Lim; omega), sub_lim (by unfold Lim; omega) (by unfold Lim; omega)]
      omega
    · rfl
theorem sub_zero_zero : sub 0 0 = 0 := by decide
theorem rshift_one (k n k' n' room : Int) : rshift k n k' n' room true = oneOf (len k n room, given k) (len k' n' room, given k') := by
  unfold rshift oneOf counts
  simp only [Bool.true_or, Bool.and_true]
  split
  · rfl
  · split
    · rfl
    · rename_i h
      rw [len_none (by simpa using h)]
      exact sub_zero_zero.symm
theorem rshift_upTo (k n k' n' room : Int) (sure : Bool) : rshift k n k' n' room sure = oneOf (upTo k n room sure) (upTo k' n' room sure) := by
  cases sure
  · unfold rshift oneOf counts upTo
    simp only [Bool.false_or, and_true]
    by_cases h2 : k = 2
    · subst h2
      by_cases h2' : k' = 2
      · subst h2'
        simp [given, sub_zero_zero]
      · simp only [bne_self_eq_false, Bool.and_false, Bool.false_eq_true, if_false, if_true, reduceIte, if_neg h2']
        have : (k' != 2) = true := by simpa using h2'
        rw [this, Bool.and_true]
        split
        · rfl
        · rename_i h
          rw [len_none (by simpa using h)]
          exact sub_zero_zero.symm
    · have hk : (k != 2) = true := by simpa using h2
      rw [hk, Bool.and_true, if_neg h2]
      by_cases hg : given k = true
      · rw [if_pos hg, if_pos hg]
      · rw [if_neg hg, if_neg hg]
        by_cases h2' : k' = 2
        · subst h2'
          simp [sub_zero_zero]
        · have : (k' != 2) = true := by simpa using h2'
          rw [this, Bool.and_true, if_neg h2']
          split
          · rfl
          · rename_i h
            rw [len_none (by simpa using h)]
            exact sub_zero_zero.symm
  · rw [rshift_one]
    unfold upTo
    simp
theorem shift_eq (s : Sty) (wd ht : Int) (sure : Bool) : s.shift wd ht sure = s.rShift wd ht sure := by
  unfold Sty.shift Sty.rShift
  rw [rshift_one, rshift_upTo]
theorem t32_nums (s : Sty) : ∀ x ∈ s.t32.nums, Lim 16777216 x := by
  have hf : ∀ n, Lim 16777216 (few n) := fun n => by have := few_lo n; have := few_hi n; unfold Lim; omega
  intro x hx
  simp only [Sty.nums, Sty.twelve, Sty.t32, List.cons_append, List.nil_append, List.mem_cons, List.not_mem_nil, or_false] at hx
  rcases hx with rfl | rfl | rfl | rfl | rfl | rfl | rfl | rfl | rfl | rfl | rfl | rfl | rfl <;> exact hf _
end Num
end Go.Proofs.Ytkkabnkhdhlhkaa
