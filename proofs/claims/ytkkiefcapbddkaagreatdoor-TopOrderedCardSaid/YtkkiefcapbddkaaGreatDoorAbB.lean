/-
  the machine: operations on values and objects.
-/
import Derived.Test.YtkkiefcapbddkaaGreatDoorAbA
import Derived.Great.FillDense
import Derived.Laws.Tables
import Derived.Laws.CopyRow
import Derived.Deep.AppendSrc
set_option linter.all false
namespace Go.Abs
open Go.RowKit
variable [Val]

def evs (ev : Operand → Option V) : List Operand → Option (List V)
  | [] => some []
  | x :: xs => match ev x, evs ev xs with
    | some v, some vs => some (v :: vs)
    | _, _ => none
def pickV (c : V) (a b : Option V) : Option V :=
  match c with
  | .d (.b x) => match a, b with
    | some (.d (.b y)), some (.d (.b z)) => some (.d (.b (bif x then y else z)))
    | a, b => bif x then a else b
  | _ => none
noncomputable def unV (op : UnOp) (x : V) : Option V :=
  match op, x with
  | .neg, .d (.i k n) => some (.d (.i k (k.wrap (0 - n))))
  | .neg, .d (.x k e lo hi) => (mkN k (.sub (.c 0) e) (Int.sub 0 hi) (Int.sub 0 lo)).map .d
  | .xor, .d (.i k n) => some (.d (.i k (k.wrap (BitVec.ofInt k.bits (if k.signed then -1 else k.max) ^^^ BitVec.ofInt k.bits n).toNat)))
  | .not, .d (.b x) => some (.d (.b !x))
  | _, _ => none
def segV (agg : Bool) (size : Nat) (r : List V) (j : Nat) : Option V :=
  bif agg then (if j + size ≤ r.length then some (normG ((r.drop j).take size)) else none) else r[j]?
def segD (agg : Bool) (size : Nat) (r : List D) (j : Nat) : Option V :=
  bif agg then (if j + size ≤ r.length then some (.a ((r.drop j).take size)) else none) else (r[j]?).map .d
def loadV (tab : Tab) (h : Heap) (t : TypeId) (a : V) : Option V :=
  (tab t).bind fun ti => match a with
  | .p k i j => match h k with
    | some (.row _ rows _) => (rows[i]?).bind fun r => segV ti.kind.agg ti.size r j
    | _ => none
  | .d (.q _ rows i j) => (rows[i]?).bind fun r => segD ti.kind.agg ti.size r j
  | _ => none
def fieldV (tab : Tab) (t : TypeId) (x : V) (f : Nat) : Option V :=
  match tab t, x with
  | some ⟨.st fs, _, _, _⟩, .g cells => (fs[f]?).bind fun u => (tab u.1).bind fun ti => segV ti.kind.agg ti.size cells u.2
  | some ⟨.st fs, _, _, _⟩, .a cells => (fs[f]?).bind fun u => (tab u.1).bind fun ti => segD ti.kind.agg ti.size cells u.2
  | _, _ => none
def fieldA (tab : Tab) (s : TypeId) (a : V) (f : Nat) : Option V :=
  match tab s with
  | some ⟨.st fs, _, _, _⟩ => (fs[f]?).bind fun u => (tab u.1).bind fun ti => bif Nat.beq ti.size 0 then none else
    match a with
    | .p k i j => some (.p k i (j + u.2))
    | .d (.q sz rows i j) => some (.d (.q sz rows i (j + u.2)))
    | _ => none
  | _ => none
def indexA (tab : Tab) (h : Heap) (t : TypeId) (x ix : V) : Option V :=
  match tab t, ix with
  | some ⟨.sl e, _, _, _⟩, .d (.i _ i) => (tab e).bind fun te =>
    match x with
    | .d (.l sz rows) => if (0 ≤ i ∧ i < rows.length) ∧ te.size = sz then some (.d (.q sz rows i.toNat 0)) else none
    | .t _ _ sz rows => if (0 ≤ i ∧ i < rows.length) ∧ te.size = sz then some (.d (.q sz rows i.toNat 0)) else none
    | .v k lo n => match h k with
      | some (.row sz _ _) => if (0 ≤ i ∧ i < n) ∧ te.size = sz then some (.p k (lo + i.toNat) 0) else none
      | _ => none
    | _ => none
  | some ⟨.arr n e, _, _, _⟩, .d (.i _ i) => (tab e).bind fun te => if 0 ≤ i ∧ i < n then
    match x with
    | .p k r j => some (.p k r (j + i.toNat * te.size))
    | .d (.q sz rows r j) => some (.d (.q sz rows r (j + i.toNat * te.size)))
    | _ => none
    else none
  | _, _ => none
def sbD : Sb → D
  | .c n => .i .u8 n
  | .x e lo hi => .x .u8 e lo hi
theorem sbD_rd {x : Sb} {u : UInt8} (h : x.ok u) {F : Nat → Nat} {w : World} : RD F w (sbD x) (.int .u8 u.toNat) := by
  cases x with
  | c n => have h : u.toNat = n := h
           rw [h]; exact .i _ _
  | x e lo hi =>
    obtain ⟨h1, h2, h3⟩ := h
    rw [h1]; exact .x _ _ _ _ (by omega) (by omega)
def indexV (tab : Tab) (t : TypeId) (x ix : V) : Option V :=
  match x, ix with
  | .d (.s s), .d (.i _ i) => match tab t with
    | some ⟨.str, _, _, _⟩ => if 0 ≤ i then (s[i.toNat]?).map fun b => .d (sbD b) else none
    | _ => none
  | .g cells, .d (.i _ i) => match tab t with
    | some ⟨.arr n e, _, _, _⟩ => (tab e).bind fun te => if 0 ≤ i ∧ i < n then segV te.kind.agg te.size cells (i.toNat * te.size) else none
    | _ => none
  | .a cells, .d (.i _ i) => match tab t with
    | some ⟨.arr n e, _, _, _⟩ => (tab e).bind fun te => if 0 ≤ i ∧ i < n then segD te.kind.agg te.size cells (i.toNat * te.size) else none
    | _ => none
  | _, _ => none
def lenV (tab : Tab) (t : TypeId) (x : V) : Option V :=
  match tab t, x with
  | some ⟨.str, _, _, _⟩, .d (.s s) => some (.d (.i .i64 s.length))
  | some ⟨.sl _, _, _, _⟩, .d .z => some (.d (.i .i64 0))
  | some ⟨.sl _, _, _, _⟩, .d (.l _ rows) => some (.d (.i .i64 rows.length))
  | some ⟨.sl _, _, _, _⟩, .t _ _ _ rows => some (.d (.i .i64 rows.length))
  | some ⟨.sl _, _, _, _⟩, .v _ _ n => some (.d (.i .i64 n))
  | some ⟨.arr n _, _, _, _⟩, _ => some (.d (.i .i64 n))
  | _, _ => none
noncomputable def max2D (x y : D) : Option D := match x, y with
  | .i k a, .i _ b => some (.i k (bif ltI a b then b else a))
  | x, y => match num x, num y with
    | some (k, a, lo, hi), some (_, b, lo', hi') => bif leI hi' lo then mkN k a lo hi else bif leI hi lo' then mkN k b lo' hi' else mkN k (.max a b) (bif leI lo lo' then lo' else lo) (bif leI hi hi' then hi' else hi)
    | _, _ => none
noncomputable def min2D (x y : D) : Option D := match x, y with
  | .i k a, .i _ b => some (.i k (bif ltI b a then b else a))
  | x, y => match num x, num y with
    | some (k, a, lo, hi), some (_, b, lo', hi') => bif leI hi lo' then mkN k a lo hi else bif leI hi' lo then mkN k b lo' hi' else mkN k (.min a b) (bif leI lo lo' then lo else lo') (bif leI hi hi' then hi else hi')
    | _, _ => none
theorem max2D_rd {x y d : D} (h : max2D x y = some d) {F : Nat → Nat} {w : World} {v u : Value} (hx : RD F w x v) (hy : RD F w y u) {P : Program} : ∃ r, (Builtin.max2 v u).run P w = .ok r w ∧ RD F w d r := by
  unfold max2D at h
  split at h
  · cases h; cases hx; cases hy
    refine ⟨_, rfl, ?_⟩
    rw [ltI_eq]
    split
    · next h => rw [decide_eq_true h]; exact .i _ _
    · next h => rw [decide_eq_false h]; exact .i _ _
  · split at h
    · next k a lo hi k' b lo' hi' hn hm =>
      obtain ⟨rfl, a1, a2⟩ := num_rd hn hx
      obtain ⟨rfl, b1, b2⟩ := num_rd hm hy
      refine ⟨_, rfl, ?_⟩
      simp only [leI_eq, cond_eq_ite, decide_eq_true_eq] at h
      split at h
      · next hc =>
        obtain ⟨_, k2⟩ := mkN_rd h a1 a2
        rw [if_neg (by omega)]; exact k2 F w
      · split at h
        · next hc =>
          obtain ⟨_, k2⟩ := mkN_rd h b1 b2
          have : (if b.val > a.val then b.val else a.val) = b.val := by split <;> omega
          rw [this]; exact k2 F w
        · have e : (Ex.max a b).val = if b.val > a.val then b.val else a.val := rfl
          have h1 : (if lo ≤ lo' then lo' else lo) ≤ (Ex.max a b).val := by rw [e]; split <;> split <;> omega
          have h2 : (Ex.max a b).val ≤ (if hi ≤ hi' then hi' else hi) := by rw [e]; split <;> split <;> omega
          obtain ⟨_, k2⟩ := mkN_rd h h1 h2
          exact k2 F w
    · cases h
theorem min2D_rd {x y d : D} (h : min2D x y = some d) {F : Nat → Nat} {w : World} {v u : Value} (hx : RD F w x v) (hy : RD F w y u) {P : Program} : ∃ r, (Builtin.min2 v u).run P w = .ok r w ∧ RD F w d r := by
  unfold min2D at h
  split at h
  · cases h; cases hx; cases hy
    refine ⟨_, rfl, ?_⟩
    rw [ltI_eq]
    split
    · next h => rw [decide_eq_true h]; exact .i _ _
    · next h => rw [decide_eq_false h]; exact .i _ _
  · split at h
    · next k a lo hi k' b lo' hi' hn hm =>
      obtain ⟨rfl, a1, a2⟩ := num_rd hn hx
      obtain ⟨rfl, b1, b2⟩ := num_rd hm hy
      refine ⟨_, rfl, ?_⟩
      simp only [leI_eq, cond_eq_ite, decide_eq_true_eq] at h
      split at h
      · next hc =>
        obtain ⟨_, k2⟩ := mkN_rd h a1 a2
        rw [if_neg (by omega)]; exact k2 F w
      · split at h
        · next hc =>
          obtain ⟨_, k2⟩ := mkN_rd h b1 b2
          have : (if b.val < a.val then b.val else a.val) = b.val := by split <;> omega
          rw [this]; exact k2 F w
        · have e : (Ex.min a b).val = if b.val < a.val then b.val else a.val := rfl
          have h1 : (if lo ≤ lo' then lo else lo') ≤ (Ex.min a b).val := by rw [e]; split <;> split <;> omega
          have h2 : (Ex.min a b).val ≤ (if hi ≤ hi' then hi else hi') := by rw [e]; split <;> split <;> omega
          obtain ⟨_, k2⟩ := mkN_rd h h1 h2
          exact k2 F w
    · cases h
noncomputable def maxF : D → List V → Option V
  | x, [] => some (.d x)
  | x, .d y :: r => (max2D x y).bind fun z => maxF z r
  | _, _ => none
noncomputable def minF : D → List V → Option V
  | x, [] => some (.d x)
  | x, .d y :: r => (min2D x y).bind fun z => minF z r
  | _, _ => none
noncomputable def maxV : List V → Option V
  | .d x :: r => maxF x r
  | _ => none
noncomputable def minV : List V → Option V
  | .d x :: r => minF x r
  | _ => none
noncomputable def runeS : D → Option (List Sb)
  | .i _ n => bif leI 0 n && ltI n 128 then some [.c n.toNat] else none
  | .x _ e lo hi => bif leI 0 lo && ltI hi 128 then some [.x e lo.toNat hi.toNat] else none
  | _ => none
theorem encode_small {n : Int} (h0 : 0 ≤ n) (h1 : n < 128) : (Utf8.encode n).data.toList = [UInt8.ofNat n.toNat] := by
  have hv : Utf8.valid n = true := by unfold Utf8.valid; simp; omega
  unfold Utf8.encode
  simp only [hv, if_true]
  rw [if_pos (by omega)]
theorem runeS_rd {d : D} {l : List Sb} (h : runeS d = some l) {F : Nat → Nat} {w : World} {v : Value} (hv : RD F w d v) : ∃ k n, v = .int k n ∧ SR l (Utf8.encode n).data.toList ∧ 0 ≤ n ∧ n < 128 := by
  have small : ∀ n : Int, 0 ≤ n → n < 128 → (UInt8.ofNat n.toNat).toNat = n.toNat := fun n h0 h1 => by
    simp only [UInt8.toNat_ofNat']; omega
  unfold runeS at h
  split at h
  · next k n =>
    cases hv
    cases hc : (leI 0 n && ltI n 128) with
    | false => rw [hc] at h; cases h
    | true =>
      rw [hc] at h; cases h
      simp only [Bool.and_eq_true, leI_eq, ltI_eq, decide_eq_true_eq] at hc
      refine ⟨_, _, rfl, ?_, hc.1, hc.2⟩
      rw [encode_small hc.1 hc.2]
      refine ⟨rfl, fun i x u h1 h2 => ?_⟩
      have hi : i = 0 := by have := (List.getElem?_eq_some_iff.1 h1).1; simp at this; omega
      subst hi
      cases h1; cases h2
      exact small n hc.1 hc.2
  · next k e lo hi =>
    cases hv with | x _ _ _ _ a1 a2 =>
    cases hc : (leI 0 lo && ltI hi 128) with
    | false => rw [hc] at h; cases h
    | true =>
      rw [hc] at h; cases h
      simp only [Bool.and_eq_true, leI_eq, ltI_eq, decide_eq_true_eq] at hc
      refine ⟨_, _, rfl, ?_, by omega, by omega⟩
      rw [encode_small (by omega) (by omega)]
      refine ⟨rfl, fun i x u h1 h2 => ?_⟩
      have hi : i = 0 := by have := (List.getElem?_eq_some_iff.1 h1).1; simp at this; omega
      subst hi
      cases h1; cases h2
      have := small e.val (by omega) (by omega)
      exact ⟨by omega, by omega, by omega⟩
  · cases h
noncomputable def convV (tab : Tab) (src dst : TypeId) (x : V) : Option V :=
  match tab src, tab dst, x with
  | some ⟨.int _, _, _, _⟩, some ⟨.int k, _, _, _⟩, .d (.i _ n) => some (.d (.i k (k.wrap n)))
  | some ⟨.int _, _, _, _⟩, some ⟨.int k, _, _, _⟩, .d (.x _ e lo hi) => (mkN k e lo hi).map .d
  | some ⟨.int _, _, _, _⟩, some ⟨.str, _, _, _⟩, .d d => (runeS d).map fun l => .d (.s l)
  | some ⟨.str, _, _, _⟩, some ⟨.str, _, _, _⟩, .d (.s s) => some (.d (.s s))
  | _, _, _ => none

section
variable {P : Program} {g : Gh} {h : Heap} {w : World} {tab : Tab}
theorem evs_gl {ev : Operand → Option V} {ρ : Operand → Value} (he : ∀ o x, ev o = some x → GV g h w x (ρ o)) : ∀ {l : List Operand} {xs : List V}, evs ev l = some xs → GL g h w xs (l.map ρ)
  | [], xs, hx => by cases hx; exact GL.nil
  | o :: l, xs, hx => by
    unfold evs at hx
    split at hx
    · next v vs h1 h2 => cases hx; exact GL.cons (he o v h1) (evs_gl he h2)
    · cases hx
theorem pick_run {c : V} {a b : Option V} {x : V} (hp : pickV c a b = some x) {vc va vb : Value} (hc : GV g h w c vc) (ha : ∀ y, a = some y → GV g h w y va) (hb : ∀ y, b = some y → GV g h w y vb) :
    ∃ v, (do pure (Next.value (if ← asBool vc then va else vb)) : Sem Next).run P w = .ok (.value v) w ∧ GV g h w x v := by
  unfold pickV at hp
  split at hp
  · next t =>
    cases hc; rename_i hx; cases hx
    refine ⟨if t then va else vb, rfl, ?_⟩
    split at hp
    · next y z =>
      cases hp
      have h1 := ha _ rfl
      have h2 := hb _ rfl
      cases h1; rename_i h1; cases h1
      cases h2; rename_i h2; cases h2
      cases t <;> exact .d _ _ (.b _)
    · cases t
      · exact hb _ hp
      · exact ha _ hp
  · cases hp
theorem un_run {op : UnOp} {x y : V} (hu : unV op x = some y) {v : Value} (hv : GV g h w x v) : ∃ u, (Op.unary op v).run P w = .ok u w ∧ GV g h w y u := by
  unfold unV at hu
  split at hu
  · cases hu; cases hv; rename_i hx; cases hx; exact ⟨_, rfl, .d _ _ (by constructor)⟩
  · next k e lo hi =>
    cases hm : mkN k (.sub (.c 0) e) (Int.sub 0 hi) (Int.sub 0 lo) with
    | none => rw [hm] at hu; cases hu
    | some d =>
      rw [hm] at hu; cases hu
      cases hv with | d _ _ hx =>
      cases hx with | x _ _ _ _ a1 a2 =>
      have e0 : (Ex.sub (.c 0) e).val = 0 - e.val := rfl
      obtain ⟨k1, k2⟩ := mkN_rd hm (by rw [e0]; show 0 - hi ≤ _; omega) (by rw [e0]; show _ ≤ 0 - lo; omega)
      rw [e0] at k1 k2
      refine ⟨.int k (k.wrap (0 - e.val)), rfl, .d _ _ ?_⟩
      rw [k1]; exact k2 _ _
  · cases hu; cases hv; rename_i hx; cases hx; exact ⟨_, rfl, .d _ _ (by constructor)⟩
  · cases hu; cases hv; rename_i hx; cases hx; exact ⟨_, rfl, .d _ _ (by constructor)⟩
  · cases hu
theorem part_run {u : TypeId} {ti : TI} (ht : mkTI P u = some ti) {cells : List V} {vs : List Value} (hg : GL g h w cells vs) (ho : ∀ x ∈ cells, x.one = true) {off : Nat} {x : V}
    (hx : segV ti.kind.agg ti.size cells off = some x) : ∃ v, (part u vs.toArray off).run P w = .ok v w ∧ GV g h w x v := by
  unfold segV at hx
  unfold part
  simp only [Sem.run_bind, run_agg ht, Result.andThen_ok]
  cases hk : ti.kind.agg with
  | true =>
    rw [hk] at hx
    simp only [cond_true] at hx
    split at hx
    · next hle =>
      cases hx
      simp only [if_true, Sem.run_bind, run_size ht, Result.andThen_ok]
      refine ⟨.agg ((vs.drop off).take ti.size).toArray, ?_, ?_⟩
      · simp [pure, List.take_drop, Nat.add_sub_cancel_left]
      · have h1 := (hg.drop off).take ti.size
        exact (GV.g _ _ h1.len (fun y hy => ho y (List.mem_of_mem_drop (List.mem_of_mem_take hy))) h1.at_).norm
    · cases hx
  | false =>
    rw [hk] at hx
    simp only [cond_false] at hx
    obtain ⟨v, h1, h2⟩ := hg.get hx
    refine ⟨v, ?_, h2⟩
    simp only [Bool.false_eq_true, if_false]
    have : vs.toArray[off]? = some v := by simpa using h1
    rw [this]; rfl
theorem partD_run {u : TypeId} {ti : TI} (ht : mkTI P u = some ti) {cells : List D} {vs : List Value} (hl : vs.length = cells.length) (ho : ∀ v ∈ vs, v.oneCell' = true) (hg : ∀ (i : Nat) x v, cells[i]? = some x → vs[i]? = some v → RD g.F w x v) {off : Nat} {x : V}
    (hx : segD ti.kind.agg ti.size cells off = some x) : ∃ v, (part u vs.toArray off).run P w = .ok v w ∧ GV g h w x v := by
  unfold segD at hx
  unfold part
  simp only [Sem.run_bind, run_agg ht, Result.andThen_ok]
  cases hk : ti.kind.agg with
  | true =>
    rw [hk] at hx
    simp only [cond_true] at hx
    split at hx
    · next hle =>
      cases hx
      simp only [if_true, Sem.run_bind, run_size ht, Result.andThen_ok]
      refine ⟨.agg ((vs.drop off).take ti.size).toArray, ?_, ?_⟩
      · simp [pure, List.take_drop, Nat.add_sub_cancel_left]
      · refine .a _ _ (by simp [hl]) (fun v hv => ho v (List.mem_of_mem_drop (List.mem_of_mem_take hv))) fun i x v h1 h2 => ?_
        rw [List.getElem?_take] at h1 h2
        split at h1
        · next hi =>
          rw [if_pos hi, List.getElem?_drop] at h2
          rw [List.getElem?_drop] at h1
          exact hg _ x v h1 h2
        · cases h1
    · cases hx
  | false =>
    rw [hk] at hx
    simp only [cond_false] at hx
    cases hd : cells[off]? with
    | none => rw [hd] at hx; cases hx
    | some d =>
      rw [hd] at hx
      cases hx
      have hlt := (List.getElem?_eq_some_iff.1 hd).1
      have hv : vs[off]? = some vs[off] := List.getElem?_eq_getElem (by omega)
      refine ⟨vs[off], ?_, .d _ _ (hg off d _ hd hv)⟩
      simp only [Bool.false_eq_true, if_false]
      have : vs.toArray[off]? = some vs[off] := by simpa using hv
      rw [this]; rfl
theorem field_run (htab : TabOk P tab) {t : TypeId} {x y : V} {f : Nat} (hf : fieldV tab t x f = some y) {v : Value} (hv : GV g h w x v) : ∃ u, (Instr.field t v f).run P w = .ok u w ∧ GV g h w y u := by
  unfold fieldV at hf
  split at hf
  · next fs size bytes zero cells ht =>
    obtain ⟨vs, rfl, hg, ho⟩ := hv.agg_inv
    obtain ⟨d, hd, hk, hdu⟩ := run_und (htab t _ ht) w
    clear hdu
    cases hfs : fs[f]? with
    | none => rw [hfs] at hf; cases hf
    | some u =>
      rw [hfs] at hf
      simp only [Option.bind_some] at hf
      cases hti : tab u.1 with
      | none => rw [hti] at hf; cases hf
      | some ti =>
        rw [hti] at hf
        simp only [Option.bind_some] at hf
        cases d <;> simp [descK] at hk
        next fields =>
        subst hk
        rw [List.getElem?_map] at hfs
        cases hff : fields[f]? with
        | none => rw [← Array.getElem?_toList] at hff; rw [hff] at hfs; cases hfs
        | some fd =>
          rw [← Array.getElem?_toList] at hff
          rw [hff] at hfs
          simp only [Option.map_some, Option.some.injEq] at hfs
          subst hfs
          obtain ⟨r, h1, h2⟩ := part_run (P := P) (htab _ _ hti) hg ho hf
          refine ⟨r, ?_, h2⟩
          unfold Instr.field
          rw [Array.getElem?_toList] at hff
          simp only [Sem.run_bind, hd, Result.andThen_ok, hff, asAgg, Sem.run_pure]
          exact h1
  · next fs size bytes zero cells ht =>
    obtain ⟨vs, rfl, hvl, ho, hg⟩ := hv.a_inv
    obtain ⟨d, hd, hk, hdu⟩ := run_und (htab t _ ht) w
    clear hdu
    cases hfs : fs[f]? with
    | none => rw [hfs] at hf; cases hf
    | some u =>
      rw [hfs] at hf
      simp only [Option.bind_some] at hf
      cases hti : tab u.1 with
      | none => rw [hti] at hf; cases hf
      | some ti =>
        rw [hti] at hf
        simp only [Option.bind_some] at hf
        cases d <;> simp [descK] at hk
        next fields =>
        subst hk
        rw [List.getElem?_map] at hfs
        cases hff : fields[f]? with
        | none => rw [← Array.getElem?_toList] at hff; rw [hff] at hfs; cases hfs
        | some fd =>
          rw [← Array.getElem?_toList] at hff
          rw [hff] at hfs
          simp only [Option.map_some, Option.some.injEq] at hfs
          subst hfs
          obtain ⟨r, h1, h2⟩ := partD_run (P := P) (h := h) (htab _ _ hti) hvl ho hg hf
          refine ⟨r, ?_, h2⟩
          unfold Instr.field
          rw [Array.getElem?_toList] at hff
          simp only [Sem.run_bind, hd, Result.andThen_ok, hff, asAgg, Sem.run_pure]
          exact h1
  · cases hf
end
end Go.Abs
namespace Go.Abs
open Go.RowKit
variable [Val]
section
variable {P : Program} {g : Gh} {h : Heap} {w : World} {tab : Tab}

def Lies (w : World) (v : Value) (vs : List Value) : Prop := ∃ b off c t fz, v = .pointer (some ⟨b, off, none⟩) ∧ w.heap[b]? = some (.cells c t fz) ∧ off + vs.length ≤ c.size ∧ ∀ (j : Nat) x, vs[j]? = some x → c[off + j]? = some x

theorem add_mid (b off j : Nat) : (⟨b, off, none⟩ : Addr).add j = ⟨b, off + j, none⟩ := by unfold Addr.add; split <;> simp_all

theorem lies_load {t : TypeId} {ti : TI} (ht : mkTI P t = some ti) {v : Value} {vs : List Value} (hl : Lies w v vs) {r : List V} (hg : GL g h w r vs) (ho : ∀ x ∈ r, x.one = true) {j : Nat} {x : V}
    (hx : segV ti.kind.agg ti.size r j = some x) {b off : Nat} (hv : v = .pointer (some ⟨b, off, none⟩)) : ∃ u, (Instr.loadAt t (.pointer (some ⟨b, off + j, none⟩))).run P w = .ok u w ∧ GV g h w x u := by
  obtain ⟨b', off', c, t', fz, h1, h2, h3, h4⟩ := hl
  rw [hv] at h1
  cases h1
  have hcell : ∀ (i : Nat) y, vs[i]? = some y → w.cell? ⟨b, off + i, none⟩ = some y := fun i y hy => by
    rw [cell_of_row w b _ c t' fz h2]; exact h4 i y hy
  unfold segV at hx
  have hsure : (Instr.sureAddr (.pointer (some ⟨b, off + j, none⟩))).run P w = .ok ⟨b, off + j, none⟩ w := rfl
  unfold Instr.loadAt
  simp only [Sem.run_bind, hsure, Result.andThen_ok]
  unfold loadVar
  simp only [Sem.run_bind, run_agg ht, Result.andThen_ok]
  cases hk : ti.kind.agg with
  | true =>
    rw [hk] at hx
    simp only [cond_true] at hx
    split at hx
    · next hle =>
      cases hx
      have hgl := (hg.drop j).take ti.size
      simp only [if_true, Sem.run_bind, run_size ht, Result.andThen_ok]
      have hlen : ((vs.drop j).take ti.size).length = ti.size := by
        rw [List.length_take, List.length_drop, hg.len]; omega
      have hrun := run_loadCells_list (P := P) w ⟨b, off + j, none⟩ ((vs.drop j).take ti.size) (fun i y hy => by
        rw [add_mid, Nat.add_assoc]
        refine hcell (j + i) y ?_
        rw [List.getElem?_take] at hy
        split at hy
        · rw [List.getElem?_drop] at hy; exact hy
        · cases hy)
      rw [hlen] at hrun
      refine ⟨.agg ((vs.drop j).take ti.size).toArray, by rw [hrun]; rfl, ?_⟩
      exact (GV.g _ _ hgl.len (fun y hy => ho y (List.mem_of_mem_drop (List.mem_of_mem_take hy))) hgl.at_).norm
    · cases hx
  | false =>
    rw [hk] at hx
    simp only [cond_false] at hx
    obtain ⟨y, h5, h6⟩ := hg.get hx
    refine ⟨y, ?_, h6⟩
    simp only [Bool.false_eq_true, if_false]
    show (Sem.load .plain _ .pure).run P w = _
    simp only [Sem.run, hcell j y h5]

theorem lies_loadD {t : TypeId} {ti : TI} (ht : mkTI P t = some ti) {v : Value} {vs : List Value} (hl : Lies w v vs) {r : List D} (hvl : vs.length = r.length) (hg : ∀ (i : Nat) x v, r[i]? = some x → vs[i]? = some v → RD g.F w x v) {j : Nat} {x : V}
    (hx : segD ti.kind.agg ti.size r j = some x) {b off : Nat} (hv : v = .pointer (some ⟨b, off, none⟩)) : ∃ u, (Instr.loadAt t (.pointer (some ⟨b, off + j, none⟩))).run P w = .ok u w ∧ GV g h w x u := by
  obtain ⟨b', off', c, t', fz, h1, h2, h3, h4⟩ := hl
  rw [hv] at h1
  cases h1
  have hcell : ∀ (i : Nat) y, vs[i]? = some y → w.cell? ⟨b, off + i, none⟩ = some y := fun i y hy => by
    rw [cell_of_row w b _ c t' fz h2]; exact h4 i y hy
  unfold segD at hx
  have hsure : (Instr.sureAddr (.pointer (some ⟨b, off + j, none⟩))).run P w = .ok ⟨b, off + j, none⟩ w := rfl
  unfold Instr.loadAt
  simp only [Sem.run_bind, hsure, Result.andThen_ok]
  unfold loadVar
  simp only [Sem.run_bind, run_agg ht, Result.andThen_ok]
  cases hk : ti.kind.agg with
  | true =>
    rw [hk] at hx
    simp only [cond_true] at hx
    split at hx
    · next hle =>
      cases hx
      simp only [if_true, Sem.run_bind, run_size ht, Result.andThen_ok]
      have hlen : ((vs.drop j).take ti.size).length = ti.size := by
        rw [List.length_take, List.length_drop, hvl]; omega
      have hrun := run_loadCells_list (P := P) w ⟨b, off + j, none⟩ ((vs.drop j).take ti.size) (fun i y hy => by
        rw [add_mid, Nat.add_assoc]
        refine hcell (j + i) y ?_
        rw [List.getElem?_take] at hy
        split at hy
        · rw [List.getElem?_drop] at hy; exact hy
        · cases hy)
      rw [hlen] at hrun
      refine ⟨.agg ((vs.drop j).take ti.size).toArray, by rw [hrun]; rfl, ?_⟩
      refine .a _ _ (by rw [hlen, List.length_take, List.length_drop]; omega) (fun v hv => ?_) fun i x v h1 h2 => ?_
      · have hm := List.mem_of_mem_drop (List.mem_of_mem_take hv)
        obtain ⟨q, hq⟩ := List.getElem?_of_mem hm
        have hql := (List.getElem?_eq_some_iff.1 hq).1
        exact (hg q r[q] v (List.getElem?_eq_getElem (by omega)) hq).one
      · rw [List.getElem?_take] at h1 h2
        split at h1
        · next hi =>
          rw [if_pos hi, List.getElem?_drop] at h2
          rw [List.getElem?_drop] at h1
          exact hg _ x v h1 h2
        · cases h1
    · cases hx
  | false =>
    rw [hk] at hx
    simp only [cond_false] at hx
    cases hd : r[j]? with
    | none => rw [hd] at hx; cases hx
    | some d =>
      rw [hd] at hx
      cases hx
      have hlt := (List.getElem?_eq_some_iff.1 hd).1
      have h5 : vs[j]? = some vs[j] := List.getElem?_eq_getElem (by omega)
      refine ⟨vs[j], ?_, .d _ _ (hg j d _ hd h5)⟩
      simp only [Bool.false_eq_true, if_false]
      show (Sem.load .plain _ .pure).run P w = _
      simp only [Sem.run, hcell j _ h5]

theorem RD.q_inv {F : Nat → Nat} {sz : Nat} {rows : List (List D)} {i j : Nat} {v : Value} (hx : RD F w (.q sz rows i j) v) : ∃ b off c t fz, v = .pointer (some ⟨b, off + i * sz + j, none⟩) ∧ w.heap[b]? = some (.cells c t fz) ∧ off + rows.length * sz ≤ F b ∧ F b ≤ c.size ∧
    (∀ r ∈ rows, r.length = sz) ∧ (∀ (i : Nat) r (j : Nat) d v, rows[i]? = some r → r[j]? = some d → c[off + i * sz + j]? = some v → RD F w d v) := by
  cases hx with
  | q sz rows i j b off c t fz hb hf hs hr h => exact ⟨b, off, c, t, fz, rfl, hb, hf, hs, hr, h⟩
theorem RD.l_inv {F : Nat → Nat} {sz : Nat} {rows : List (List D)} {v : Value} (hx : RD F w (.l sz rows) v) : (rows = [] ∧ v = .slice none 0 0) ∨ ∃ b off cap c t fz, v = .slice (some ⟨b, off, none⟩) rows.length cap ∧ w.heap[b]? = some (.cells c t fz) ∧ off + rows.length * sz ≤ F b ∧ F b ≤ c.size ∧
    off + cap * sz ≤ c.size ∧ rows.length ≤ cap ∧ (∀ r ∈ rows, r.length = sz) ∧ (∀ (i : Nat) r (j : Nat) d v, rows[i]? = some r → r[j]? = some d → c[off + i * sz + j]? = some v → RD F w d v) := by
  cases hx with
  | lz sz => exact .inl ⟨rfl, rfl⟩
  | l sz rows b off cap c t fz hb hf hs hc hn hr h => exact .inr ⟨b, off, cap, c, t, fz, rfl, hb, hf, hs, hc, hn, hr, h⟩
theorem GV.d_inv {x : D} {v : Value} (hv : GV g h w (.d x) v) : RD g.F w x v := by cases hv; assumption
theorem GV.p_inv {k i j : Nat} {v : Value} (hv : GV g h w (.p k i j) v) : g.U k = true ∧ ∃ b sz, g.σ k = some (b, sz) ∧ v = .pointer (some ⟨b, i * sz + j, none⟩) := by
  cases hv with
  | p k i j b sz hn hk => exact ⟨hn, b, sz, hk, rfl⟩
theorem GV.t_inv {k e sz : Nat} {rows : List (List D)} {v : Value} (hv : GV g h w (.t k e sz rows) v) : g.U k = true ∧ RD g.F w (.l sz rows) v ∧ (∀ n, h k = some (.tok n) → e ≤ n ∧ (e = n → App g w k sz v)) := by
  cases hv with
  | t k e sz rows v hn hx ht => exact ⟨hn, hx, ht⟩
theorem GV.v_inv {k lo n : Nat} {v : Value} (hv : GV g h w (.v k lo n) v) : g.U k = true ∧ ((lo = 0 ∧ n = 0 ∧ g.σ k = none ∧ v = .slice none 0 0) ∨ (n = 0 ∧ ∃ a, v = .slice (some a) 0 0) ∨
    ∃ b sz cap c t fz, g.σ k = some (b, sz) ∧ v = .slice (some ⟨b, lo * sz, none⟩) n cap ∧ w.heap[b]? = some (.cells c t fz) ∧ (lo + cap) * sz ≤ c.size ∧ n ≤ cap) := by
  cases hv with
  | vn k hn hk => exact ⟨hn, .inl ⟨rfl, rfl, hk, rfl⟩⟩
  | ve k lo a hn => exact ⟨hn, .inr (.inl ⟨rfl, a, rfl⟩)⟩
  | v k lo n b sz cap c t fz hn hk hb hc hl => exact ⟨hn, .inr (.inr ⟨b, sz, cap, c, t, fz, hk, rfl, hb, hc, hl⟩)⟩
theorem obj_row {k sz : Nat} {rows : List (List V)} {vec : Bool} (ho : ObjAt g h w k (.row sz rows vec)) {i : Nat} {r : List V} (hi : rows[i]? = some r) :
    ∃ b vs, g.σ k = some (b, sz) ∧ GL g h w r vs ∧ Lies w (.pointer (some ⟨b, i * sz, none⟩)) vs ∧ (∀ x ∈ r, x.one = true) ∧ r.length = sz := by
  cases ho with
  | nilvec sz hk => simp at hi
  | row sz rows vec b c t hk hb hF hr hc hv ho hx =>
    have h1 := (List.getElem?_eq_some_iff.1 hi).1
    have hlen := hr r (List.mem_of_getElem? hi)
    have h4 : (i + 1) * sz ≤ rows.length * sz := Nat.mul_le_mul_right _ h1
    rw [Nat.add_mul] at h4
    refine ⟨b, (c.toList.drop (i * sz)).take sz, hk, ⟨?_, ?_⟩, ⟨b, i * sz, c, t, (0, 0), rfl, hb, ?_, ?_⟩, ho r (List.mem_of_getElem? hi), hlen⟩
    · rw [List.length_take, List.length_drop, Array.length_toList]; omega
    · intro j x v hj hv'
      refine hx i r j x v hi hj ?_
      rw [List.getElem?_take] at hv'
      split at hv'
      · rw [List.getElem?_drop, Array.getElem?_toList] at hv'; exact hv'
      · cases hv'
    · rw [List.length_take, List.length_drop, Array.length_toList]; omega
    · intro j x hj
      rw [List.getElem?_take] at hj
      split at hj
      · rw [List.getElem?_drop, Array.getElem?_toList] at hj; exact hj
      · cases hj

theorem data_row {F : Nat → Nat} {sz : Nat} {rows : List (List D)} {b off : Nat} {c : Array Value} {t : TypeId} {fz : Nat × Nat} (hb : w.heap[b]? = some (.cells c t fz)) (hf : off + rows.length * sz ≤ F b) (hs : F b ≤ c.size)
    (hr : ∀ r ∈ rows, r.length = sz) (hx : ∀ (i : Nat) r (j : Nat) d v, rows[i]? = some r → r[j]? = some d → c[off + i * sz + j]? = some v → RD F w d v) {i : Nat} {r : List D} (hi : rows[i]? = some r) :
    ∃ vs, vs.length = r.length ∧ (∀ (j : Nat) d v, r[j]? = some d → vs[j]? = some v → RD F w d v) ∧ Lies w (.pointer (some ⟨b, off + i * sz, none⟩)) vs ∧ r.length = sz := by
  have h1 := (List.getElem?_eq_some_iff.1 hi).1
  have hlen := hr r (List.mem_of_getElem? hi)
  have h4 : (i + 1) * sz ≤ rows.length * sz := Nat.mul_le_mul_right _ h1
  rw [Nat.add_mul] at h4
  refine ⟨(c.toList.drop (off + i * sz)).take sz, ?_, ?_, ⟨b, off + i * sz, c, t, fz, rfl, hb, ?_, ?_⟩, hlen⟩
  · rw [List.length_take, List.length_drop, Array.length_toList]; omega
  · intro j d v hj hv'
    refine hx i r j d v hi hj ?_
    rw [List.getElem?_take] at hv'
    split at hv'
    · rw [List.getElem?_drop, Array.getElem?_toList] at hv'; exact hv'
    · cases hv'
  · rw [List.length_take, List.length_drop, Array.length_toList]; omega
  · intro j x hj
    rw [List.getElem?_take] at hj
    split at hj
    · rw [List.getElem?_drop, Array.getElem?_toList] at hj; exact hj
    · cases hj

theorem load_run (htab : TabOk P tab) (hrel : Rel g h w) {t : TypeId} {a x : V} (hl : loadV tab h t a = some x) {v : Value} (hv : GV g h w a v) : ∃ u, (Instr.loadAt t v).run P w = .ok u w ∧ GV g h w x u := by
  unfold loadV at hl
  cases hti : tab t with
  | none => rw [hti] at hl; cases hl
  | some ti =>
    rw [hti] at hl
    simp only [Option.bind_some] at hl
    split at hl
    · next k i j =>
      split at hl
      · next sz rows vec hk =>
        cases hr : rows[i]? with
        | none => rw [hr] at hl; cases hl
        | some r =>
          rw [hr] at hl
          simp only [Option.bind_some] at hl
          obtain ⟨b, vs, h1, h2, h3, h4, h5⟩ := obj_row (hrel.obj k _ hk) hr
          obtain ⟨hn, b', sz', hs, rfl⟩ := hv.p_inv
          rw [h1] at hs; cases hs
          exact lies_load (htab t ti hti) h3 h2 h4 hl rfl
      · cases hl
    · next sz rows i j =>
      cases hr : rows[i]? with
      | none => rw [hr] at hl; cases hl
      | some r =>
        rw [hr] at hl
        simp only [Option.bind_some] at hl
        obtain ⟨b, off, c, t', fz, rfl, hb, hf, hs, hrr, hcell⟩ := hv.d_inv.q_inv
        obtain ⟨vs, h1, h2, h3, h4⟩ := data_row hb hf hs hrr hcell hr
        exact lies_loadD (htab t ti hti) h3 h1 h2 hl rfl
    · cases hl
theorem fieldA_run (htab : TabOk P tab) {s : TypeId} {a x : V} {f : Nat} (hl : fieldA tab s a f = some x) {v : Value} (hv : GV g h w a v) : ∃ u, (Instr.fieldAt s v f).run P w = .ok u w ∧ GV g h w x u := by
  unfold fieldA at hl
  split at hl
  · next fs size bytes zero ht =>
    obtain ⟨d, hd, hk, hdu⟩ := run_und (htab s _ ht) w
    clear hdu
    cases hfs : fs[f]? with
    | none => rw [hfs] at hl; cases hl
    | some u =>
      rw [hfs] at hl
      simp only [Option.bind_some] at hl
      cases hti : tab u.1 with
      | none => rw [hti] at hl; cases hl
      | some ti =>
        rw [hti] at hl
        simp only [Option.bind_some] at hl
        cases d <;> simp [descK] at hk
        next fields =>
        subst hk
        rw [List.getElem?_map] at hfs
        cases hff : fields[f]? with
        | none => rw [← Array.getElem?_toList] at hff; rw [hff] at hfs; cases hfs
        | some fd =>
          rw [← Array.getElem?_toList] at hff
          rw [hff] at hfs
          simp only [Option.map_some, Option.some.injEq] at hfs
          subst hfs
          rw [Array.getElem?_toList] at hff
          have hne : ti.size ≠ 0 := by
            intro h0
            rw [h0] at hl
            simp at hl
          have hnb : Nat.beq ti.size 0 = false := by
            cases hb : Nat.beq ti.size 0 with
            | false => rfl
            | true => exact absurd (Nat.eq_of_beq_eq_true hb) hne
          rw [hnb] at hl
          simp only [cond_false] at hl
          have key : ∀ b off : Nat, (Instr.fieldAt s (.pointer (some ⟨b, off, none⟩)) f).run P w = .ok (.pointer (some ⟨b, off + fd.offset, none⟩)) w := by
            intro b off
            unfold Instr.fieldAt
            simp only [Sem.run_bind, hd, Result.andThen_ok, hff, Instr.sureAddr, Sem.run_pure, fieldPlace, run_size (htab _ _ hti), if_neg hne, add_mid]
          split at hl
          · next k i j =>
            cases hl
            obtain ⟨hn, b, sz, hs, rfl⟩ := hv.p_inv
            exact ⟨_, key b _, by rw [Nat.add_assoc]; exact .p k i _ b sz hn hs⟩
          · next sz rows i j =>
            cases hl
            obtain ⟨b, off, c, t', fz, rfl, hb, hf, hs, hrr, hcell⟩ := hv.d_inv.q_inv
            exact ⟨_, key b _, by rw [Nat.add_assoc]; exact .d _ _ (.q sz rows i _ b off c t' fz hb hf hs hrr hcell)⟩
          · cases hl
  · cases hl
end
end Go.Abs
namespace Go.Abs
open Go.RowKit
variable [Val]

def extractV (x : V) (i : Nat) : Option V :=
  match x with
  | .tu vs => vs[i]?
  | _ => none
def nilCheckV (x : V) : Option V :=
  match x with
  | .p k i j => some (.p k i j)
  | .d (.q sz rows i j) => some (.d (.q sz rows i j))
  | .f fn a b => match fn with | .method _ => none | _ => some (.f fn a b)
  | .d (.f fn a b) => match fn with | .method _ => none | _ => some (.d (.f fn a b))
  | _ => none
section
variable {P : Program} {g : Gh} {h : Heap} {w : World} {tab : Tab}
theorem extract_run {x y : V} {i : Nat} (he : extractV x i = some y) {v : Value} (hv : GV g h w x v) : ∃ u, (Instr.extract v i).run P w = .ok u w ∧ GV g h w y u := by
  unfold extractV at he
  split at he
  · next vs =>
    cases hv with
    | tu _ us hl hx =>
      have hg : GL g h w vs us := ⟨hl, hx⟩
      obtain ⟨u, h1, h2⟩ := hg.get he
      refine ⟨u, ?_, h2⟩
      unfold Instr.extract
      have : us.toArray[i]? = some u := by simpa using h1
      simp only [this]; rfl
  · cases he
theorem index_bound {i : Int} {n : Nat} (h1 : 0 ≤ i ∧ i < n) : i.toNat < n := by omega
theorem len_run (htab : TabOk P tab) {t : TypeId} {x y : V} (hl : lenV tab t x = some y) {v : Value} (hv : GV g h w x v) (ts : Array TypeId) (ty : TypeId) (hts : ts[0]? = some t) :
    ∃ u, (Builtin.len_ ts ty #[v]).run P w = .ok u w ∧ GV g h w y u := by
  have key : ∀ {ti : TI}, tab t = some ti → ∃ d, (underlying t).run P w = .ok d w ∧ descK d = ti.kind := fun hti => by
    obtain ⟨d, h1, h2, _⟩ := run_und (htab t _ hti) w
    exact ⟨d, h1, h2⟩
  have h0 : (#[v] : Array Value)[0]? = some v := rfl
  unfold Builtin.len_
  simp only [hts, h0]
  unfold lenV at hl
  split at hl
  all_goals first | cases hl; done | skip
  all_goals
    rename_i ht
    obtain ⟨d, hd, hk⟩ := key ht
    cases hl
    cases d <;> simp [descK] at hk
    simp only [Sem.run_bind, hd, Result.andThen_ok]
  · cases hv.d_inv
    rename_i s b hsr
    have e1 : s.length = b.size := by rw [← hsr.len]; rfl
    rw [e1]; exact ⟨_, rfl, .d _ _ (.i _ _)⟩
  · cases hv.d_inv; exact ⟨_, rfl, .d _ _ (.i _ _)⟩
  · rcases hv.d_inv.l_inv with ⟨rfl, rfl⟩ | ⟨b, off, cap, c, t', fz, rfl, _⟩ <;> exact ⟨_, rfl, .d _ _ (.i _ _)⟩
  · rcases hv.t_inv.2.1.l_inv with ⟨rfl, rfl⟩ | ⟨b, off, cap, c, t', fz, rfl, _⟩ <;> exact ⟨_, rfl, .d _ _ (.i _ _)⟩
  · rcases hv.v_inv.2 with ⟨_, rfl, _, rfl⟩ | ⟨rfl, a, rfl⟩ | ⟨b, sz, cap, c, t', fz, _, rfl, _⟩ <;> exact ⟨_, rfl, .d _ _ (.i _ _)⟩
  · obtain ⟨rfl, rfl⟩ := hk; exact ⟨_, rfl, .d _ _ (.i _ _)⟩
theorem max_run : ∀ {xs : List V} {vs : List Value} {x : D} {a : Value} {y : V}, maxF x xs = some y → RD g.F w x a → GL g h w xs vs → ∃ u, (vs.foldlM Builtin.max2 a).run P w = .ok u w ∧ GV g h w y u
  | [], vs, x, a, y, hm, ha, hg => by
    cases hm
    cases vs with
    | nil => exact ⟨_, rfl, .d _ _ ha⟩
    | cons => have := hg.len; simp at this
  | x :: xs, [], z0, a, y, hm, ha, hg => by have := hg.len; simp at this
  | .d y' :: xs, v :: vs, z0, a, y, hm, ha, hg => by
    have hx := hg.at_ 0 _ v rfl rfl
    have hg2 : GL g h w xs vs := by simpa using hg.drop 1
    have hm : (max2D z0 y').bind (fun q => maxF q xs) = some y := hm
    cases hz : max2D z0 y' with
    | none => rw [hz] at hm; cases hm
    | some q =>
      rw [hz] at hm
      obtain ⟨u, k1, k2⟩ := max2D_rd hz ha hx.d_inv (P := P)
      obtain ⟨r', h1, h2⟩ := max_run hm k2 hg2
      exact ⟨r', by simp only [List.foldlM_cons, Sem.run_bind, k1, Result.andThen_ok]; exact h1, h2⟩
theorem min_run : ∀ {xs : List V} {vs : List Value} {x : D} {a : Value} {y : V}, minF x xs = some y → RD g.F w x a → GL g h w xs vs → ∃ u, (vs.foldlM Builtin.min2 a).run P w = .ok u w ∧ GV g h w y u
  | [], vs, x, a, y, hm, ha, hg => by
    cases hm
    cases vs with
    | nil => exact ⟨_, rfl, .d _ _ ha⟩
    | cons => have := hg.len; simp at this
  | x :: xs, [], z0, a, y, hm, ha, hg => by have := hg.len; simp at this
  | .d y' :: xs, v :: vs, z0, a, y, hm, ha, hg => by
    have hx := hg.at_ 0 _ v rfl rfl
    have hg2 : GL g h w xs vs := by simpa using hg.drop 1
    have hm : (min2D z0 y').bind (fun q => minF q xs) = some y := hm
    cases hz : min2D z0 y' with
    | none => rw [hz] at hm; cases hm
    | some q =>
      rw [hz] at hm
      obtain ⟨u, k1, k2⟩ := min2D_rd hz ha hx.d_inv (P := P)
      obtain ⟨r', h1, h2⟩ := min_run hm k2 hg2
      exact ⟨r', by simp only [List.foldlM_cons, Sem.run_bind, k1, Result.andThen_ok]; exact h1, h2⟩
theorem maxB_run {xs : List V} {vs : List Value} {y : V} (hm : maxV xs = some y) (hg : GL g h w xs vs) (ts : Array TypeId) (ty : TypeId) : ∃ u, (Builtin.max_ ts ty vs.toArray).run P w = .ok u w ∧ GV g h w y u := by
  unfold maxV at hm
  split at hm
  · next x r =>
    cases vs with
    | nil => have := hg.len; simp at this
    | cons v vs =>
      have hx := hg.at_ 0 _ v rfl rfl
      exact max_run (P := P) hm hx.d_inv (by simpa using hg.drop 1)
  · cases hm
theorem minB_run {xs : List V} {vs : List Value} {y : V} (hm : minV xs = some y) (hg : GL g h w xs vs) (ts : Array TypeId) (ty : TypeId) : ∃ u, (Builtin.min_ ts ty vs.toArray).run P w = .ok u w ∧ GV g h w y u := by
  unfold minV at hm
  split at hm
  · next x r =>
    cases vs with
    | nil => have := hg.len; simp at this
    | cons v vs =>
      have hx := hg.at_ 0 _ v rfl rfl
      exact min_run (P := P) hm hx.d_inv (by simpa using hg.drop 1)
  · cases hm
theorem conv_run (htab : TabOk P tab) {src dst : TypeId} {x y : V} (hc : convV tab src dst x = some y) {v : Value} (hv : GV g h w x v) : ∃ u, (convert src dst v).run P w = .ok u w ∧ GV g h w y u := by
  unfold convV at hc
  split at hc
  · next k0 _ _ _ k' _ _ _ k1 n h1 h2 =>
    obtain ⟨d1, e1, k1, hu1⟩ := run_und (htab _ _ h1) w
    obtain ⟨d2, e2, k2, hu2⟩ := run_und (htab _ _ h2) w
    clear hu1 hu2
    cases d1 <;> simp [descK] at k1
    cases d2 <;> simp [descK] at k2
    unfold convert
    simp only [Sem.run_bind, e1, e2, Result.andThen_ok]
    cases hc; cases hv.d_inv; subst k2; exact ⟨_, rfl, .d _ _ (.i _ _)⟩
  · next k0 _ _ _ k' _ _ _ k1 e lo hi h1 h2 =>
    obtain ⟨d1, e1, k1, hu1⟩ := run_und (htab _ _ h1) w
    obtain ⟨d2, e2, k2, hu2⟩ := run_und (htab _ _ h2) w
    clear hu1 hu2
    cases d1 <;> simp [descK] at k1
    cases d2 <;> simp [descK] at k2
    unfold convert
    simp only [Sem.run_bind, e1, e2, Result.andThen_ok]
    cases hm : mkN k' e lo hi with
    | none => rw [hm] at hc; cases hc
    | some d =>
      rw [hm] at hc; cases hc
      cases hv.d_inv with | x _ _ _ _ a1 a2 =>
      subst k2
      obtain ⟨q1, q2⟩ := mkN_rd hm a1 a2
      refine ⟨_, rfl, .d _ _ ?_⟩
      rw [q1]; exact q2 _ _
  · next k0 _ _ _ _ _ _ d h1 h2 =>
    obtain ⟨d1, e1, k1, hu1⟩ := run_und (htab _ _ h1) w
    obtain ⟨d2, e2, k2, hu2⟩ := run_und (htab _ _ h2) w
    clear hu1 hu2
    cases d1 <;> simp [descK] at k1
    cases d2 <;> simp [descK] at k2
    unfold convert
    simp only [Sem.run_bind, e1, e2, Result.andThen_ok]
    cases hm : runeS d with
    | none => rw [hm] at hc; cases hc
    | some l =>
      rw [hm] at hc; cases hc
      obtain ⟨k, n, rfl, q1, q2, q3⟩ := runeS_rd hm hv.d_inv
      exact ⟨_, rfl, .d _ _ (.s _ _ q1)⟩
  · next _ _ _ _ _ _ s h1 h2 =>
    obtain ⟨d1, e1, k1, hu1⟩ := run_und (htab _ _ h1) w
    obtain ⟨d2, e2, k2, hu2⟩ := run_und (htab _ _ h2) w
    clear hu1 hu2
    cases d1 <;> simp [descK] at k1
    cases d2 <;> simp [descK] at k2
    unfold convert
    simp only [Sem.run_bind, e1, e2, Result.andThen_ok]
    cases hc; cases hv.d_inv; rename_i hsr; exact ⟨_, rfl, .d _ _ (.s _ _ hsr)⟩
  · cases hc
theorem obj_σ (hrel : Rel g h w) {k sz : Nat} {rows : List (List V)} {vec : Bool} (hk : h k = some (.row sz rows vec)) {b sz' : Nat} (hs : g.σ k = some (b, sz')) : sz' = sz := by
  cases hrel.obj k _ hk with
  | nilvec sz h1 => rw [hs] at h1; cases h1
  | row sz rows vec b c t h1 => rw [hs] at h1; cases h1; rfl
theorem indexA_run (htab : TabOk P tab) (hrel : Rel g h w) {t : TypeId} {x ix y : V} (hl : indexA tab h t x ix = some y) {v u : Value} (hv : GV g h w x v) (hu : GV g h w ix u) : ∃ r, (Instr.indexAt t v u).run P w = .ok r w ∧ GV g h w y r := by
  have slice : ∀ {e : TypeId} {te : TI} {i : Int} {k : IntKind} {b off n cap : Nat}, (underlying t).run P w = .ok (.slice e) w → tab e = some te → 0 ≤ i ∧ i < n →
      (Instr.indexAt t (.slice (some ⟨b, off, none⟩) n cap) (.int k i)).run P w = .ok (.pointer (some ⟨b, off + i.toNat * te.size, none⟩)) w := by
    intro e te i k b off n cap hd he hi
    unfold Instr.indexAt
    simp only [Sem.run_bind, asIntOf, Sem.run_pure, Result.andThen_ok, hd, if_pos hi, run_size (htab _ _ he), add_mid]
  unfold indexA at hl
  split at hl
  · next e size bytes zero k i ht =>
    obtain ⟨d, hd, hk, hdu⟩ := run_und (htab _ _ ht) w
    clear hdu
    cases d <;> simp [descK] at hk
    rename_i ee
    subst hk
    cases hu.d_inv
    cases hte : tab ee with
    | none => rw [hte] at hl; cases hl
    | some te =>
      rw [hte] at hl
      simp only [Option.bind_some] at hl
      split at hl
      · next sz rows =>
        split at hl
        · next hc =>
          obtain ⟨hc, rfl⟩ := hc
          cases hl
          rcases hv.d_inv.l_inv with ⟨rfl, rfl⟩ | ⟨b, off, cap, c, t', fz, rfl, hb, hf, hs, hcap, hn, hr, hx⟩
          · simp at hc; omega
          · exact ⟨_, slice hd hte hc, .d _ _ (by have := RD.q (F := g.F) te.size rows i.toNat 0 b off c t' fz hb hf hs hr hx; rwa [Nat.add_zero] at this)⟩
        · cases hl
      · next k' e' sz rows =>
        split at hl
        · next hc =>
          obtain ⟨hc, rfl⟩ := hc
          cases hl
          rcases hv.t_inv.2.1.l_inv with ⟨rfl, rfl⟩ | ⟨b, off, cap, c, t', fz, rfl, hb, hf, hs, hcap, hn, hr, hx⟩
          · simp at hc; omega
          · exact ⟨_, slice hd hte hc, .d _ _ (by have := RD.q (F := g.F) te.size rows i.toNat 0 b off c t' fz hb hf hs hr hx; rwa [Nat.add_zero] at this)⟩
        · cases hl
      · next k' lo n =>
        split at hl
        · next sz rows vec hk =>
          split at hl
          · next hc =>
            obtain ⟨hc, rfl⟩ := hc
            cases hl
            obtain ⟨hkn, hv⟩ := hv.v_inv
            rcases hv with ⟨_, rfl, _, rfl⟩ | ⟨rfl, a, rfl⟩ | ⟨b, sz', cap, c, t', fz, hs, rfl, hb, hcap, hn⟩
            · omega
            · omega
            · have := obj_σ hrel hk hs
              subst this
              exact ⟨_, slice hd hte hc, by have := GV.p (g := g) (h := h) (w := w) k' (lo + i.toNat) 0 b te.size hkn hs; rwa [Nat.add_mul, Nat.add_zero] at this⟩
          · cases hl
        · cases hl
      · cases hl
  · next n e size bytes zero k i ht =>
    obtain ⟨d, hd, hk, hdu⟩ := run_und (htab _ _ ht) w
    clear hdu
    cases d <;> simp [descK] at hk
    rename_i nn ee
    obtain ⟨e1, e2⟩ := hk
    subst e1 e2
    cases hu.d_inv
    cases hte : tab ee with
    | none => rw [hte] at hl; cases hl
    | some te =>
      rw [hte] at hl
      simp only [Option.bind_some] at hl
      split at hl
      · next hi =>
        have arr : ∀ {b off : Nat}, (Instr.indexAt t (.pointer (some ⟨b, off, none⟩)) (.int k i)).run P w = .ok (.pointer (some ⟨b, off + i.toNat * te.size, none⟩)) w := by
          intro b off
          unfold Instr.indexAt
          simp only [Sem.run_bind, asIntOf, Sem.run_pure, Result.andThen_ok, hd, Instr.sureAddr, if_pos hi, run_size (htab _ _ hte), add_mid]
        split at hl
        · next k' r j =>
          cases hl
          obtain ⟨hkn, b, sz, hs, rfl⟩ := hv.p_inv
          exact ⟨_, arr, by rw [Nat.add_assoc]; exact .p _ _ _ b sz hkn hs⟩
        · next sz rows r j =>
          cases hl
          obtain ⟨b, off, c, t', fz, rfl, hb, hf, hs, hrr, hcell⟩ := hv.d_inv.q_inv
          exact ⟨_, arr, by rw [Nat.add_assoc]; exact .d _ _ (.q sz rows r _ b off c t' fz hb hf hs hrr hcell)⟩
        · cases hl
      · cases hl
  · cases hl
theorem indexV_run (htab : TabOk P tab) {t : TypeId} {x ix y : V} (hl : indexV tab t x ix = some y) {v u : Value} (hv : GV g h w x v) (hu : GV g h w ix u) : ∃ r, (Instr.index t v u).run P w = .ok r w ∧ GV g h w y r := by
  unfold indexV at hl
  split at hl
  · next s k i =>
    split at hl
    · next size bytes zero ht =>
      obtain ⟨d, hd, hk, hdu⟩ := run_und (htab _ _ ht) w
      clear hdu
      cases d <;> simp [descK] at hk
      cases hu.d_inv
      cases hv.d_inv
      rename_i bs hsr
      split at hl
      · next hi =>
        cases hb : s[i.toNat]? with
        | none => rw [hb] at hl; cases hl
        | some b =>
          rw [hb] at hl
          cases hl
          have hlt := (List.getElem?_eq_some_iff.1 hb).1
          have hlt2 : i.toNat < bs.size := by have : bs.size = bs.data.toList.length := rfl
                                              rw [this, hsr.len]; exact hlt
          have hu2 : bs.data.toList[i.toNat]? = some bs[i.toNat] := by
            rw [List.getElem?_eq_getElem (by rw [hsr.len]; exact hlt)]; rfl
          have hb2 : bs[i.toNat]? = some bs[i.toNat] := by rw [getElem?_pos bs i.toNat hlt2]
          refine ⟨.int .u8 (bs[i.toNat]).toNat, ?_, .d _ _ (sbD_rd (hsr.at_ _ _ _ hb hu2))⟩
          unfold Instr.index
          simp only [Sem.run_bind, asIntOf, Sem.run_pure, Result.andThen_ok, hd, if_pos hi, hb2]
      · cases hl
    · cases hl
  · next cells k i =>
    split at hl
    · next n e size bytes zero ht =>
      obtain ⟨d, hd, hk, hdu⟩ := run_und (htab _ _ ht) w
      clear hdu
      cases d <;> simp [descK] at hk
      rename_i nn ee
      obtain ⟨e1, e2⟩ := hk
      subst e1 e2
      cases hu.d_inv
      obtain ⟨vs, rfl, hg, ho⟩ := hv.agg_inv
      cases hte : tab ee with
      | none => rw [hte] at hl; cases hl
      | some te =>
        rw [hte] at hl
        simp only [Option.bind_some] at hl
        split at hl
        · next hi =>
          obtain ⟨r, h1, h2⟩ := part_run (P := P) (htab _ _ hte) hg ho hl
          refine ⟨r, ?_, h2⟩
          unfold Instr.index
          simp only [Sem.run_bind, asIntOf, Sem.run_pure, Result.andThen_ok, hd, if_pos hi, run_size (htab _ _ hte)]
          exact h1
        · cases hl
    · cases hl
  · next cells k i =>
    split at hl
    · next n e size bytes zero ht =>
      obtain ⟨d, hd, hk, hdu⟩ := run_und (htab _ _ ht) w
      clear hdu
      cases d <;> simp [descK] at hk
      rename_i nn ee
      obtain ⟨e1, e2⟩ := hk
      subst e1 e2
      cases hu.d_inv
      obtain ⟨vs, rfl, hvl, ho, hg⟩ := hv.a_inv
      cases hte : tab ee with
      | none => rw [hte] at hl; cases hl
      | some te =>
        rw [hte] at hl
        simp only [Option.bind_some] at hl
        split at hl
        · next hi =>
          obtain ⟨r, h1, h2⟩ := partD_run (P := P) (h := h) (htab _ _ hte) hvl ho hg hl
          refine ⟨r, ?_, h2⟩
          unfold Instr.index
          simp only [Sem.run_bind, asIntOf, Sem.run_pure, Result.andThen_ok, hd, if_pos hi, run_size (htab _ _ hte)]
          exact h1
        · cases hl
    · cases hl
  · cases hl
end
end Go.Abs
namespace Go.Abs
open Go.RowKit
variable [Val]

def bnd (x : Option V) (dflt : Nat) : Option Int :=
  match x with
  | none => some dflt
  | some (.d (.i _ n)) => some n
  | some _ => none
def sliceV (tab : Tab) (h : Heap) (t : TypeId) (x : V) (lo hi : Option V) : Option V :=
  match tab t, x with
  | some ⟨.str, _, _, _⟩, .d (.s s) => (bnd lo 0).bind fun l => (bnd hi s.length).bind fun m => if 0 ≤ l ∧ l ≤ m ∧ m ≤ s.length then some (.d (.s ((s.take m.toNat).drop l.toNat))) else none
  | some ⟨.sl e, _, _, _⟩, .d (.l sz rows) => (tab e).bind fun te => (bnd lo 0).bind fun l => (bnd hi rows.length).bind fun m =>
      if 0 ≤ l ∧ l ≤ m ∧ m ≤ rows.length ∧ te.size = sz then some (.d (.l sz ((rows.take m.toNat).drop l.toNat))) else none
  | some ⟨.sl e, _, _, _⟩, .d .z => (tab e).bind fun te => (bnd lo 0).bind fun l => (bnd hi 0).bind fun m => if l = 0 ∧ m = 0 then some (.d .z) else none
  | some ⟨.sl e, _, _, _⟩, .t k en sz rows => (tab e).bind fun te => (bnd lo 0).bind fun l => (bnd hi rows.length).bind fun m =>
      if 0 ≤ l ∧ l ≤ m ∧ m ≤ rows.length ∧ te.size = sz then
        (if m = rows.length then some (.t k en sz (rows.drop l.toNat)) else some (.d (.l sz ((rows.take m.toNat).drop l.toNat)))) else none
  | some ⟨.sl e, _, _, _⟩, .v k lo' n => (tab e).bind fun te => match h k with
      | some (.row sz _ _) => (bnd lo 0).bind fun l => (bnd hi n).bind fun m => if 0 ≤ l ∧ l ≤ m ∧ m ≤ n ∧ te.size = sz then some (.v k (lo' + l.toNat) (m.toNat - l.toNat)) else none
      | _ => none
  | _, _ => none

theorem SR.cut {x : List Sb} {a : List UInt8} (h : SR x a) (l m : Nat) : SR ((x.take m).drop l) ((a.take m).drop l) :=
  ⟨by simp [h.len], fun i z u h1 h2 => by
    rw [List.getElem?_drop, List.getElem?_take] at h1 h2
    split at h1
    · next hi => rw [if_pos hi] at h2; exact h.at_ _ z u h1 h2
    · cases h1⟩
theorem SR.drop {x : List Sb} {a : List UInt8} (h : SR x a) (n : Nat) : SR (x.drop n) (a.drop n) :=
  ⟨by simp [h.len], fun i z u h1 h2 => h.at_ (n + i) z u (by simpa using h1) (by simpa using h2)⟩
inductive BV (g : Gh) (h : Heap) (w : World) : Option V → Option Value → Prop
  | none : BV g h w none none
  | some (x v) (hx : GV g h w x v) : BV g h w (some x) (some v)
section
variable {P : Program} {g : Gh} {h : Heap} {w : World} {tab : Tab}
theorem bounds_run {lo hi : Option V} {len cap : Nat} {l m : Int} (hl : bnd lo 0 = some l) (hm : bnd hi len = some m) (h1 : 0 ≤ l ∧ l ≤ m ∧ m ≤ len) (hc : len ≤ cap) (b : Bool)
    {vl vh : Option Value} (rl : BV g h w lo vl) (rh : BV g h w hi vh) :
    (Instr.sliceBounds b len cap vl vh none).run P w = .ok (l.toNat, m.toNat, cap) w := by
  cases rh with
  | none =>
    cases hm
    cases rl with
    | none => cases hl; simp [Instr.sliceBounds, pure]
    | some x v hx =>
      unfold bnd at hl
      split at hl
      · rename_i e; cases e
      · rename_i e; cases e; cases hl; cases hx.d_inv
        have : 0 ≤ l ∧ l ≤ (len : Int) := by omega
        simp [Instr.sliceBounds, Instr.sliceBound, asIntOf, this, pure]
      · cases hl
  | some x v hx =>
    unfold bnd at hm
    split at hm
    · rename_i e; cases e
    · rename_i e; cases e; cases hm; cases hx.d_inv
      have hmc : 0 ≤ m ∧ m ≤ (cap : Int) := by omega
      cases rl with
      | none => cases hl; simp [Instr.sliceBounds, Instr.sliceBound, asIntOf, hmc, pure]
      | some x v hx =>
        unfold bnd at hl
        split at hl
        · rename_i e; cases e
        · rename_i e; cases e; cases hl; cases hx.d_inv
          have : 0 ≤ l ∧ l ≤ (m.toNat : Int) := by omega
          have hmm : max m 0 = m := by omega
          simp [Instr.sliceBounds, Instr.sliceBound, asIntOf, this, hmc, hmm, h1.2.1, pure]
        · cases hl
    · cases hm
theorem und_sl (htab : TabOk P tab) {t e : TypeId} {a b : Nat} {c : List D} (ht : tab t = some ⟨.sl e, a, b, c⟩) : (underlying t).run P w = .ok (.slice e) w := by
  obtain ⟨d, hd, hk, _⟩ := run_und (htab _ _ ht) w
  cases d <;> simp [descK] at hk
  subst hk; exact hd
theorem rows_cut {α : Type} {rows : List α} {l m : Nat} (h1 : l ≤ m) (h2 : m ≤ rows.length) : ((rows.take m).drop l).length = m - l := by
  rw [List.length_drop, List.length_take]; omega
theorem rd_cut {F : Nat → Nat} {sz : Nat} {rows : List (List D)} {b off cap l m : Nat} {c : Array Value} {t : TypeId} {fz : Nat × Nat} (hb : w.heap[b]? = some (.cells c t fz)) (hf : off + rows.length * sz ≤ F b) (hs : F b ≤ c.size)
    (hcap : off + cap * sz ≤ c.size) (hn : rows.length ≤ cap) (hr : ∀ r ∈ rows, r.length = sz)
    (hx : ∀ (i : Nat) r (j : Nat) d v, rows[i]? = some r → r[j]? = some d → c[off + i * sz + j]? = some v → RD F w d v) (h1 : l ≤ m) (h2 : m ≤ rows.length) :
    RD F w (.l sz ((rows.take m).drop l)) (.slice (if cap = l then some ⟨b, off, none⟩ else some ⟨b, off + l * sz, none⟩) (m - l) (cap - l)) := by
  have hlen := rows_cut (rows := rows) h1 h2
  have hmul : l * sz ≤ rows.length * sz := Nat.mul_le_mul_right _ (by omega)
  have hmul2 : m * sz ≤ rows.length * sz := Nat.mul_le_mul_right _ h2
  have hmul3 : l * sz ≤ cap * sz := Nat.mul_le_mul_right _ (by omega)
  have hsub : (m - l) * sz = m * sz - l * sz := Nat.sub_mul ..
  have hsub2 : (cap - l) * sz = cap * sz - l * sz := Nat.sub_mul ..
  have hml : l * sz ≤ m * sz := Nat.mul_le_mul_right _ h1
  split
  · next e =>
    have hmm : m = l := by omega
    subst hmm
    have hnil : (rows.take m).drop m = [] := List.eq_nil_of_length_eq_zero (by omega)
    rw [hnil, e, Nat.sub_self]
    exact .l sz [] b off 0 c t fz hb (by simp; omega) hs (by simp; omega) (Nat.le_refl _) (by simp) (fun i r j d v hi => by simp at hi)
  · have := RD.l (F := F) (w := w) sz ((rows.take m).drop l) b (off + l * sz) (cap - l) c t fz hb (by rw [hlen]; omega) hs (by omega) (by omega)
      (fun r hr' => hr r (List.mem_of_mem_take (List.mem_of_mem_drop hr'))) (fun i r j d v hi hj hv => by
        refine hx (l + i) r j d v ?_ hj ?_
        · rw [List.getElem?_drop, List.getElem?_take] at hi
          split at hi
          · exact hi
          · cases hi
        · rw [Nat.add_mul, ← Nat.add_assoc]; exact hv)
    rwa [hlen] at this
theorem slice_run (htab : TabOk P tab) (hrel : Rel g h w) {t : TypeId} {x y : V} {lo hi : Option V} (hl : sliceV tab h t x lo hi = some y) {v : Value} (hv : GV g h w x v) {vl vh : Option Value}
    (rl : BV g h w lo vl) (rh : BV g h w hi vh) :
    ∃ u, (Instr.sliceAt t v vl vh none).run P w = .ok u w ∧ GV g h w y u := by
  have slice : ∀ {e : TypeId} {te : TI} {a : Option Addr} {len cap : Nat} {l m : Int}, (underlying t).run P w = .ok (.slice e) w → tab e = some te → bnd lo 0 = some l → bnd hi len = some m → (0 ≤ l ∧ l ≤ m ∧ m ≤ len) → len ≤ cap →
      (Instr.sliceAt t (.slice a len cap) vl vh none).run P w = .ok (.slice (if cap = l.toNat then a else a.map (·.add (l.toNat * te.size))) (m.toNat - l.toNat) (cap - l.toNat)) w := by
    intro e te a len cap l m hd he hbl hbm hb hc
    unfold Instr.sliceAt
    simp only [Sem.run_bind, hd, Result.andThen_ok]
    unfold Instr.slice
    simp only [Sem.run_bind, hd, Result.andThen_ok, bounds_run (P := P) hbl hbm hb hc true rl rh, run_size (htab _ _ he)]
    rfl
  unfold sliceV at hl
  split at hl
  · next size bytes zero s ht =>
    obtain ⟨d, hd, hk, hdu⟩ := run_und (htab _ _ ht) w
    clear hdu
    cases d <;> simp [descK] at hk
    cases hv.d_inv
    rename_i bs hsr
    have hsz : bs.size = s.length := by rw [← hsr.len]; rfl
    cases h1 : bnd lo 0 with
    | none => rw [h1] at hl; cases hl
    | some l =>
      cases h2 : bnd hi s.length with
      | none => rw [h1, h2] at hl; cases hl
      | some m =>
        rw [h1, h2] at hl
        simp only [Option.bind_some] at hl
        split at hl
        · next hb =>
          cases hl
          refine ⟨.string (bs.extract l.toNat m.toNat), ?_, .d _ _ (.s _ _ ?_)⟩
          · unfold Instr.sliceAt
            simp only [Sem.run_bind, hd, Result.andThen_ok]
            unfold Instr.slice
            have hbr := bounds_run (P := P) h1 h2 hb (Nat.le_refl _) false rl rh
            rw [← hsz] at hbr
            simp only [Sem.run_bind, hd, Result.andThen_ok, hbr, Option.isSome_none, Bool.false_eq_true, if_false]
            rfl
          · have e : (bs.extract l.toNat m.toNat).data.toList = (bs.data.toList.take m.toNat).drop l.toNat := by
              rw [ByteArray.data_extract, Array.toList_extract]
              simp [List.extract_eq_take_drop, List.drop_take]
            rw [e]; exact hsr.cut _ _
        · cases hl
  · next ee _ _ _ sz rows ht =>
    have hd := und_sl (w := w) htab ht
    obtain ⟨te, hte⟩ : ∃ te, tab ee = some te := by
      cases hte : tab ee with
      | none => rw [hte] at hl; cases hl
      | some te => exact ⟨te, rfl⟩
    rw [hte] at hl
    simp only [Option.bind_some] at hl
    cases h1 : bnd lo 0 with
    | none => rw [h1] at hl; cases hl
    | some l =>
      cases h2 : bnd hi rows.length with
      | none => rw [h1, h2] at hl; cases hl
      | some m =>
        rw [h1, h2] at hl
        simp only [Option.bind_some] at hl
        split at hl
        · next hb =>
          obtain ⟨b1, b2, b3, rfl⟩ := hb
          cases hl
          rcases hv.d_inv.l_inv with ⟨rfl, rfl⟩ | ⟨b, off, cap, c, t', fz, rfl, hbb, hf, hs, hcap, hn, hr, hx⟩
          · refine ⟨_, slice hd hte h1 h2 ⟨b1, b2, b3⟩ (by simp), ?_⟩
            simp at b3
            have e1 : l = 0 := by omega
            have e2 : m = 0 := by omega
            subst e1 e2
            exact .d _ _ (.lz _)
          · refine ⟨_, slice hd hte h1 h2 ⟨b1, b2, b3⟩ hn, .d _ _ ?_⟩
            have := rd_cut (cap := cap) hbb hf hs hcap hn hr hx (l := l.toNat) (m := m.toNat) (by omega) (by omega)
            simpa only [Option.map_some, add_mid] using this
        · cases hl
  · next ee _ _ _ ht =>
    have hd := und_sl (w := w) htab ht
    obtain ⟨te, hte⟩ : ∃ te, tab ee = some te := by
      cases hte : tab ee with
      | none => rw [hte] at hl; cases hl
      | some te => exact ⟨te, rfl⟩
    rw [hte] at hl
    simp only [Option.bind_some] at hl
    cases h1 : bnd lo 0 with
    | none => rw [h1] at hl; cases hl
    | some l =>
      cases h2 : bnd hi 0 with
      | none => rw [h1, h2] at hl; cases hl
      | some m =>
        rw [h1, h2] at hl
        simp only [Option.bind_some] at hl
        split at hl
        · next hb =>
          obtain ⟨rfl, rfl⟩ := hb
          cases hl
          cases hv.d_inv
          exact ⟨_, slice hd hte h1 h2 (by simp) (by simp), .d _ _ .z⟩
        · cases hl
  · next ee _ _ _ k en sz rows ht =>
    have hd := und_sl (w := w) htab ht
    obtain ⟨te, hte⟩ : ∃ te, tab ee = some te := by
      cases hte : tab ee with
      | none => rw [hte] at hl; cases hl
      | some te => exact ⟨te, rfl⟩
    rw [hte] at hl
    simp only [Option.bind_some] at hl
    cases h1 : bnd lo 0 with
    | none => rw [h1] at hl; cases hl
    | some l =>
      cases h2 : bnd hi rows.length with
      | none => rw [h1, h2] at hl; cases hl
      | some m =>
        rw [h1, h2] at hl
        simp only [Option.bind_some] at hl
        split at hl
        · next hb =>
          obtain ⟨b1, b2, b3, rfl⟩ := hb
          obtain ⟨hkn, hx0, htok⟩ := hv.t_inv
          rcases hx0.l_inv with ⟨rfl, rfl⟩ | ⟨b, off, cap, c, t', fz, rfl, hbb, hf, hs, hcap, hn, hr, hx⟩
          · simp at b3
            have e1 : l = 0 := by omega
            have e2 : m = 0 := by omega
            subst e1 e2
            refine ⟨_, slice hd hte h1 h2 ⟨b1, b2, by simp⟩ (by simp), ?_⟩
            simp at hl
            subst hl
            exact .t _ _ _ _ _ hkn (.lz _) fun n hn => ⟨(htok n hn).1, fun _ => .nil _ _⟩
          · refine ⟨_, slice hd hte h1 h2 ⟨b1, b2, b3⟩ hn, ?_⟩
            have hcut := rd_cut (cap := cap) hbb hf hs hcap hn hr hx (l := l.toNat) (m := m.toNat) (by omega) (by omega)
            split at hl
            · next e =>
              cases hl
              have htk : rows.take m.toNat = rows := List.take_of_length_le (by omega)
              rw [htk] at hcut
              refine .t _ _ _ _ _ hkn (by simpa only [Option.map_some, add_mid] using hcut) fun n hn' => ⟨(htok n hn').1, fun e2 => ?_⟩
              have hlen : m.toNat = rows.length := by omega
              cases (htok n hn').2 e2 with
              | full a n => rw [hlen]; exact .full _ _
              | here b off n cc g1 g2 g3 =>
                split
                · next ec => rw [ec]; have : m.toNat - l.toNat = l.toNat - l.toNat := by omega
                             rw [this]; exact .full _ _
                · simp only [Option.map_some, add_mid]
                  refine .here _ _ _ _ g1 ?_ g3
                  have hq : l.toNat * te.size ≤ rows.length * te.size := Nat.mul_le_mul_right _ (by omega)
                  rw [g2, hlen, Nat.sub_mul]; omega
            · cases hl
              exact .d _ _ (by simpa only [Option.map_some, add_mid] using hcut)
        · cases hl
  · next ee _ _ _ k lo' n ht =>
    have hd := und_sl (w := w) htab ht
    obtain ⟨te, hte⟩ : ∃ te, tab ee = some te := by
      cases hte : tab ee with
      | none => rw [hte] at hl; cases hl
      | some te => exact ⟨te, rfl⟩
    rw [hte] at hl
    simp only [Option.bind_some] at hl
    split at hl
    · next sz rows vec hk =>
      cases h1 : bnd lo 0 with
      | none => rw [h1] at hl; cases hl
      | some l =>
        cases h2 : bnd hi n with
        | none => rw [h1, h2] at hl; cases hl
        | some m =>
          rw [h1, h2] at hl
          simp only [Option.bind_some] at hl
          split at hl
          · next hb =>
            obtain ⟨b1, b2, b3, rfl⟩ := hb
            cases hl
            obtain ⟨hkn, hv⟩ := hv.v_inv
            rcases hv with ⟨rfl, rfl, hs, rfl⟩ | ⟨rfl, a, rfl⟩ | ⟨b, sz', cap, c, t', fz, hs, rfl, hbb, hcap, hn⟩
            · simp at b3
              have e1 : l = 0 := by omega
              have e2 : m = 0 := by omega
              subst e1 e2
              exact ⟨_, slice hd hte h1 h2 (by simp) (by simp), .vn _ hkn hs⟩
            · simp at b3
              have e1 : l = 0 := by omega
              have e2 : m = 0 := by omega
              subst e1 e2
              exact ⟨_, slice hd hte h1 h2 (by simp) (by simp), .ve _ _ _ hkn⟩
            · have hsz := obj_σ hrel hk hs
              subst hsz
              refine ⟨_, slice hd hte h1 h2 ⟨b1, b2, b3⟩ hn, ?_⟩
              split
              · next ec =>
                have e1 : m.toNat - l.toNat = 0 := by omega
                rw [ec, e1, Nat.sub_self]
                exact .ve _ _ _ hkn
              · simp only [Option.map_some, add_mid, ← Nat.add_mul]
                refine .v _ _ _ b te.size _ c t' fz hkn hs hbb ?_ (by omega)
                have : lo' + l.toNat + (cap - l.toNat) = lo' + cap := by omega
                rw [this]; exact hcap
          · cases hl
    · cases hl
  · cases hl
end
end Go.Abs
namespace Go.Abs
open Go.RowKit
variable [Val]

def splice {α : Type} (l : List α) (off : Nat) (xs : List α) : List α := l.take off ++ (xs ++ l.drop (off + xs.length))
theorem splice_length {α : Type} {l : List α} {off : Nat} {xs : List α} (h : off + xs.length ≤ l.length) : (splice l off xs).length = l.length := by
  simp [splice]; omega
theorem splice_get {α : Type} {l : List α} {off : Nat} {xs : List α} (h : off + xs.length ≤ l.length) (i : Nat) :
    (splice l off xs)[i]? = if off ≤ i ∧ i < off + xs.length then xs[i - off]? else l[i]? := by
  have ht : (l.take off).length = off := by rw [List.length_take]; omega
  unfold splice
  by_cases h1 : i < off
  · rw [if_neg (by omega), List.getElem?_append_left (by omega), List.getElem?_take_of_lt h1]
  · rw [List.getElem?_append_right (by omega), ht]
    by_cases h2 : i < off + xs.length
    · rw [if_pos ⟨by omega, h2⟩, List.getElem?_append_left (by omega)]
    · rw [if_neg (by omega), List.getElem?_append_right (by omega), List.getElem?_drop]
      congr 1; omega
theorem splice_mem {α : Type} {l : List α} {off : Nat} {xs : List α} {x : α} (h : x ∈ splice l off xs) : x ∈ l ∨ x ∈ xs := by
  unfold splice at h
  rcases List.mem_append.1 h with h | h
  · exact .inl (List.mem_of_mem_take h)
  · rcases List.mem_append.1 h with h | h
    · exact .inr h
    · exact .inl (List.mem_of_mem_drop h)
theorem GL.splice {g : Gh} {h : Heap} {w : World} {xs ys : List V} {vs us : List Value} (a : GL g h w xs vs) (b : GL g h w ys us) (off : Nat) : GL g h w (splice xs off ys) (Abs.splice vs off us) := by
  have := (a.take off).append (b.append (a.drop (off + ys.length)))
  unfold Abs.splice
  rw [b.len]
  exact this

def fillV (place : Nat → Option (Nat × Nat)) (cells : List V) : List (Nat × V) → Option (List V)
  | [] => some cells
  | (i, x) :: rest => match place i with
    | none => none
    | some (off, size) => if x.notTu = true ∧ x.cells.length = size ∧ off + size ≤ cells.length then fillV place (splice cells off x.cells) rest else none
theorem fill_run {g : Gh} {h : Heap} {w : World} (place : Nat → Option (Nat × Nat)) (ρ : Operand → Value) (ev : Operand → Option V) (he : ∀ o x, ev o = some x → GV g h w x (ρ o)) :
    ∀ (parts : List (Nat × Operand)) (xs : List (Nat × V)) (cells : List V) (arr : Array Value) (out : List V),
      evs ev (parts.map (·.2)) = some (xs.map (·.2)) → parts.map (·.1) = xs.map (·.1) → GL g h w cells arr.toList → (∀ x ∈ cells, x.one = true) → fillV place cells xs = some out →
      ∃ arr', Instr.fill place arr (parts.map fun p => (p.1, ρ p.2)) = some arr' ∧ GL g h w out arr'.toList ∧ (∀ x ∈ out, x.one = true) ∧ arr'.size = arr.size
  | [], xs, cells, arr, out, h1, h2, hg, ho, hf => by
    cases xs with
    | nil => cases hf; exact ⟨arr, rfl, hg, ho, rfl⟩
    | cons => cases h2
  | (i, o) :: parts, [], cells, arr, out, h1, h2, hg, ho, hf => by cases h2
  | (i, o) :: parts, (j, x) :: xs, cells, arr, out, h1, h2, hg, ho, hf => by
    simp only [List.map_cons, List.cons.injEq] at h2
    obtain ⟨rfl, h2⟩ := h2
    simp only [List.map_cons] at h1
    unfold evs at h1
    split at h1
    · next v vs e1 e2 =>
      simp only [Option.some.injEq, List.cons.injEq] at h1
      obtain ⟨rfl, rfl⟩ := h1
      unfold fillV at hf
      cases hp : place i with
      | none => rw [hp] at hf; cases hf
      | some os =>
        obtain ⟨off, size⟩ := os
        rw [hp] at hf
        simp only at hf
        split at hf
        · next hc =>
          obtain ⟨hc1, hc2, hc3⟩ := hc
          obtain ⟨hv, hone⟩ := (he o v e1).cells hc1
          have hvl : (ρ o).cells.size = size := by rw [← Array.length_toList, hv.len, hc2]
          have hal : arr.size = cells.length := by rw [← Array.length_toList, hg.len]
          have hfold := Great.foldl_set off (ρ o).cells.toList 0 arr
          have hnew : ((ρ o).cells.zipIdx.foldl (fun cs (x : Value × Nat) => cs.setIfInBounds (off + x.2) x.1) arr).toList = splice arr.toList off (ρ o).cells.toList := by
            rw [← Array.foldl_toList, Array.toList_zipIdx]
            apply List.ext_getElem?
            intro k
            rw [Array.getElem?_toList, hfold.2 k, splice_get (by simp; omega)]
            simp only [Nat.add_zero, Array.length_toList, Array.getElem?_toList]
            by_cases hk : off ≤ k ∧ k < off + (ρ o).cells.size
            · rw [if_pos ⟨hk.1, hk.2, by omega⟩, if_pos hk]
            · rw [if_neg (by omega), if_neg hk]
          obtain ⟨arr', a1, a2, a3, a4⟩ := fill_run place ρ ev he parts xs (splice cells off v.cells) ((ρ o).cells.zipIdx.foldl (fun cs (x : Value × Nat) => cs.setIfInBounds (off + x.2) x.1) arr) out e2 h2
            (by rw [hnew]; exact hg.splice hv off) (fun x hx => by
              rcases splice_mem hx with h | h
              · exact ho x h
              · exact hone x h) hf
          refine ⟨arr', ?_, a2, a3, ?_⟩
          · show Instr.fill place arr ((i, ρ o) :: _) = _
            unfold Instr.fill
            rw [hp]
            simp only
            rw [if_neg (by simp only [Bool.or_eq_true, decide_eq_true_eq]; omega)]
            exact a1
          · rw [a4, ← Array.length_toList, hnew, splice_length (by simp; omega), Array.length_toList]
        · cases hf
    · cases h1

def placesV (tab : Tab) : List (TypeId × Nat) → Option (List (Nat × Nat))
  | [] => some []
  | (t, off) :: r => match tab t, placesV tab r with
    | some ti, some l => some ((off, ti.size) :: l)
    | _, _ => none
def partsV (ev : Operand → Option V) : List (Nat × Operand) → Option (List (Nat × V))
  | [] => some []
  | (i, o) :: r => match ev o, partsV ev r with
    | some v, some l => some ((i, v) :: l)
    | _, _ => none
theorem partsV_evs {ev : Operand → Option V} : ∀ {l : List (Nat × Operand)} {xs : List (Nat × V)}, partsV ev l = some xs → evs ev (l.map (·.2)) = some (xs.map (·.2)) ∧ l.map (·.1) = xs.map (·.1)
  | [], xs, h => by cases h; exact ⟨rfl, rfl⟩
  | (i, o) :: r, xs, h => by
    unfold partsV at h
    split at h
    · next v l h1 h2 =>
      cases h
      obtain ⟨a, b⟩ := partsV_evs h2
      refine ⟨?_, by simp [b]⟩
      simp only [List.map_cons]
      unfold evs
      rw [h1, a]
    · cases h
def buildV (tab : Tab) (ev : Operand → Option V) (t : TypeId) (parts : List (Nat × Operand)) : Option V :=
  match tab t with
  | some ⟨.st fs, size, bytes, zero⟩ => (placesV tab fs).bind fun ps => (partsV ev parts).bind fun xs => (fillV (fun i => ps[i]?) (zero.map .d) xs).map normG
  | some ⟨.arr n e, size, bytes, zero⟩ => (tab e).bind fun te => (partsV ev parts).bind fun xs => (fillV (fun i => some (i * te.size, te.size)) (zero.map .d) xs).map normG
  | _ => none
section
variable {P : Program} {g : Gh} {h : Heap} {w : World} {tab : Tab}
theorem zero_gl {l : List Value} {ds : List D} (hz : mapD l = some ds) : GL g h w (ds.map .d) l := by
  obtain ⟨h1, h2⟩ := mapD_get hz
  exact GL.ofD h1.symm fun i d v hd hv => valD_rd (h2 i v d hv hd)
theorem one_d (ds : List D) : ∀ x ∈ ds.map V.d, x.one = true := fun x hx => by
  obtain ⟨d, _, rfl⟩ := List.mem_map.1 hx
  rfl
theorem places_run (htab : TabOk P tab) : ∀ {fs : List Field} {ps : List (Nat × Nat)}, placesV tab (fs.map fun f => (f.type, f.offset)) = some ps →
    (fs.mapM fun f => do pure (f.offset, ← sizeOf f.type) : Sem (List (Nat × Nat))).run P w = .ok ps w
  | [], ps, hp => by cases hp; rfl
  | f :: fs, ps, hp => by
    unfold placesV at hp
    simp only [List.map_cons] at hp
    split at hp
    · next ti l h1 h2 =>
      cases hp
      have ih := places_run htab h2
      simp only [List.mapM_cons, Sem.run_bind, run_size (htab _ _ h1), Result.andThen_ok, Sem.run_pure, ih]
    · cases hp
theorem build_run (htab : TabOk P tab) {t : TypeId} {parts : Array (Nat × Operand)} {x : V} {ev : Operand → Option V} {ρ : Operand → Value} (he : ∀ o x, ev o = some x → GV g h w x (ρ o))
    (hb : buildV tab ev t parts.toList = some x) : ∃ u, (Instr.build t (parts.map fun (i, x) => (i, ρ x))).run P w = .ok u w ∧ GV g h w x u := by
  unfold buildV at hb
  split at hb
  · next fs size bytes zero ht =>
    obtain ⟨z, hz1, hz2, hz3, hz4⟩ := run_zero (htab _ _ ht) w
    obtain ⟨d, hd, hk, hdu⟩ := run_und (htab _ _ ht) w
    clear hdu
    cases d <;> simp [descK] at hk
    rename_i fields
    subst hk
    cases h1 : placesV tab (fields.toList.map fun f => (f.type, f.offset)) with
    | none => rw [h1] at hb; cases hb
    | some ps =>
      cases h2 : partsV ev parts.toList with
      | none => rw [h1, h2] at hb; cases hb
      | some xs =>
        rw [h1, h2] at hb
        simp only [Option.bind_some] at hb
        cases h3 : fillV (fun i => ps[i]?) (zero.map .d) xs with
        | none => rw [h3] at hb; cases hb
        | some out =>
          rw [h3] at hb
          cases hb
          obtain ⟨p1, p2⟩ := partsV_evs h2
          obtain ⟨arr', a1, a2, a3, a4⟩ := fill_run (fun i => ps[i]?) ρ ev he parts.toList xs (zero.map .d) z.cells out p1 p2 (zero_gl hz2) (one_d _) h3
          refine ⟨.agg arr', ?_, ?_⟩
          · unfold Instr.build
            have hpl := places_run (w := w) htab h1
            rw [← Array.toList_mapM] at hpl
            have hpl' : (fields.mapM fun f => do pure (f.offset, ← sizeOf f.type) : Sem (Array (Nat × Nat))).run P w = .ok ps.toArray w := by
              generalize (fields.mapM fun f => do pure (f.offset, ← sizeOf f.type) : Sem (Array (Nat × Nat))) = s at hpl ⊢
              have : (Functor.map Array.toList s : Sem (List (Nat × Nat))) = s.bind fun a => pure a.toList := rfl
              rw [this] at hpl
              have hb2 : (s.bind fun a => pure a.toList : Sem (List (Nat × Nat))).run P w = (s.run P w).andThen fun a w' => .ok a.toList w' := Sem.run_bind' P s _ w
              rw [hb2] at hpl
              cases hs : s.run P w with
              | ok a w' => rw [hs] at hpl; simp only [Result.andThen_ok, Result.ok.injEq] at hpl; rw [← hpl.1, hpl.2]
              | halt a w' => rw [hs] at hpl; cases hpl
            simp only [Sem.run_bind, hz1, Result.andThen_ok, hd, hpl']
            have hfun : (fun x : Nat => ps.toArray[x]?) = fun i : Nat => ps[i]? := by funext i; simp
            rw [hfun]
            have harr : (parts.map fun (i, x) => (i, ρ x)).toList = parts.toList.map fun p => (p.1, ρ p.2) := by simp
            rw [harr, a1]
            rfl
          · exact (GV.g (g := g) (h := h) (w := w) _ _ (by rw [a2.len]) a3 a2.at_).norm
  · next n e size bytes zero ht =>
    obtain ⟨z, hz1, hz2, hz3, hz4⟩ := run_zero (htab _ _ ht) w
    obtain ⟨d, hd, hk, hdu⟩ := run_und (htab _ _ ht) w
    clear hdu
    cases d <;> simp [descK] at hk
    rename_i nn ee
    obtain ⟨e1, e2⟩ := hk
    subst e1 e2
    cases hte : tab ee with
    | none => rw [hte] at hb; cases hb
    | some te =>
      cases h2 : partsV ev parts.toList with
      | none => rw [hte, h2] at hb; cases hb
      | some xs =>
        rw [hte, h2] at hb
        simp only [Option.bind_some] at hb
        cases h3 : fillV (fun i => some (i * te.size, te.size)) (zero.map .d) xs with
        | none => rw [h3] at hb; cases hb
        | some out =>
          rw [h3] at hb
          cases hb
          obtain ⟨p1, p2⟩ := partsV_evs h2
          obtain ⟨arr', a1, a2, a3, a4⟩ := fill_run (fun i => some (i * te.size, te.size)) ρ ev he parts.toList xs (zero.map .d) z.cells out p1 p2 (zero_gl hz2) (one_d _) h3
          refine ⟨.agg arr', ?_, ?_⟩
          · unfold Instr.build
            simp only [Sem.run_bind, hz1, Result.andThen_ok, hd, run_size (htab _ _ hte)]
            have harr : (parts.map fun (i, x) => (i, ρ x)).toList = parts.toList.map fun p => (p.1, ρ p.2) := by simp
            rw [harr, a1]
            rfl
          · exact (GV.g (g := g) (h := h) (w := w) _ _ (by rw [a2.len]) a3 a2.at_).norm
  · cases hb
end
end Go.Abs
namespace Go.Abs
open Go.RowKit
variable [Val]

def chunk {α : Type} (sz : Nat) : Nat → List α → List (List α)
  | 0, _ => []
  | n + 1, l => l.take sz :: chunk sz n (l.drop sz)
theorem chunk_length {α : Type} (sz : Nat) : ∀ (n : Nat) (l : List α), (chunk sz n l).length = n
  | 0, l => rfl
  | n + 1, l => by simp [chunk, chunk_length sz n]
theorem chunk_get {α : Type} (sz : Nat) : ∀ (n : Nat) (l : List α) (i : Nat) (r : List α), (chunk sz n l)[i]? = some r → r = (l.drop (i * sz)).take sz
  | 0, l, i, r, h => by simp [chunk] at h
  | n + 1, l, 0, r, h => by simp [chunk] at h; simp [h]
  | n + 1, l, i + 1, r, h => by
    simp only [chunk, List.getElem?_cons_succ] at h
    rw [chunk_get sz n _ i r h, List.drop_drop]
    congr 2
    rw [Nat.add_mul]; omega
theorem chunk_cell {α : Type} {sz n : Nat} {l : List α} {i j : Nat} {r : List α} {x : α} (h : (chunk sz n l)[i]? = some r) (hj : r[j]? = some x) : l[i * sz + j]? = some x ∧ j < sz := by
  rw [chunk_get sz n l i r h, List.getElem?_take] at hj
  split at hj
  · next hlt => rw [List.getElem?_drop] at hj; exact ⟨hj, hlt⟩
  · cases hj
theorem chunk_len {α : Type} {sz n : Nat} {l : List α} (hl : l.length = n * sz) : ∀ r ∈ chunk sz n l, r.length = sz := by
  intro r hr
  obtain ⟨i, hi⟩ := List.getElem?_of_mem hr
  have hlt := (List.getElem?_eq_some_iff.1 hi).1
  rw [chunk_length] at hlt
  rw [chunk_get sz n l i r hi, List.length_take, List.length_drop, hl]
  have : (i + 1) * sz ≤ n * sz := Nat.mul_le_mul_right _ hlt
  rw [Nat.add_mul] at this
  omega
theorem chunk_mem {α : Type} {sz n : Nat} {l : List α} {r : List α} {x : α} (hr : r ∈ chunk sz n l) (hx : x ∈ r) : x ∈ l := by
  obtain ⟨i, hi⟩ := List.getElem?_of_mem hr
  obtain ⟨j, hj⟩ := List.getElem?_of_mem hx
  exact List.mem_of_getElem? (chunk_cell hi hj).1

section
variable {P : Program} {g : Gh} {h : Heap} {w : World} {tab : Tab}
theorem up_used {U : Nat → Bool} {q n m k : Nat} (h1 : n ≤ q) (h2 : q < m) (hk : up U q true k = true) : U k = true ∨ (n ≤ k ∧ k < m) := by
  rw [up_eq] at hk
  split at hk
  · subst_vars; exact .inr ⟨h1, h2⟩
  · exact .inl hk
theorem obj_new (hr : Rel g h w) {q : Nat} (hq : g.U q = false) (t : TypeId) (cells : List V) (arr : Array Value) (sz n m : Nat) (vec : Bool) (hg : GL g h w cells arr.toList) (ho : ∀ x ∈ cells, x.one = true)
    (hsz : cells.length = m * sz) (hn : n ≤ m) (hv : vec = false → n = m) :
    Rel { σ := up g.σ q (some (w.heap.size, sz)), τ := g.τ, F := up g.F w.heap.size 0, U := up g.U q true } (up h q (some (.row sz (chunk sz n cells) vec))) (w.alloc (.cells arr t)) ∧
    Ext g h w { σ := up g.σ q (some (w.heap.size, sz)), τ := g.τ, F := up g.F w.heap.size 0, U := up g.U q true } (up h q (some (.row sz (chunk sz n cells) vec))) (w.alloc (.cells arr t)) := by
  have he : Ext g h w { σ := up g.σ q (some (w.heap.size, sz)), τ := g.τ, F := up g.F w.heap.size 0, U := up g.U q true } (up h q (some (.row sz (chunk sz n cells) vec))) (w.alloc (.cells arr t)) :=
    ext_new hr q (.inl hq) (.cells arr t) (some (w.heap.size, sz)) g.τ 0 _ (.inr ⟨hq, sz, rfl⟩) (fun k b hb => .inl hb)
      (fun k hk n' hn' => by rw [up_ne _ _ _ (fresh_ne hq hk)] at hn'; exact ⟨n', hn', .inr ⟨rfl, rfl⟩⟩)
  have harr : arr.size = m * sz := by rw [← Array.length_toList, hg.len, hsz]
  have hmul : n * sz ≤ m * sz := Nat.mul_le_mul_right _ hn
  refine rel_new hr hq _ sz _ (fun _ => by simp) ?_
  refine .row sz _ vec w.heap.size arr t (up_same _ _ _) (heap_alloc_new w _) (up_same _ _ _) (fun r hr' => ?_) ?_ ?_ (fun r hr' x hx => ho x (chunk_mem hr' hx)) ?_
  · obtain ⟨i, hi⟩ := List.getElem?_of_mem hr'
    have hlt := (List.getElem?_eq_some_iff.1 hi).1
    rw [chunk_length] at hlt
    rw [chunk_get sz n _ i r hi, List.length_take, List.length_drop, hsz]
    have : (i + 1) * sz ≤ m * sz := Nat.mul_le_mul_right _ (by omega)
    rw [Nat.add_mul] at this
    omega
  · rw [chunk_length]; omega
  · intro e; rw [chunk_length, hv e]; exact harr
  · intro i r j x v hi hj hv'
    obtain ⟨c1, c2⟩ := chunk_cell hi hj
    exact (hg.at_ (i * sz + j) x v c1 (by rw [Array.getElem?_toList]; exact hv')).ext he

def allocV (tab : Tab) (n : Nat) (elem : TypeId) : Option Out :=
  (tab elem).map fun ti => ⟨.p n 0 0, [(n, some (.row ti.size [ti.zero.map .d] false))], n + 1⟩
theorem row_one (l : List V) : chunk l.length 1 l = [l] := by simp [chunk]
theorem alloc_run (htab : TabOk P tab) (hr : Rel g h w) {q : Nat} (hq : g.U q = false) {elem : TypeId} {o : Out} (ha : allocV tab q elem = some o) : VS P (Instr.alloc elem true (.tuple #[])) g h w q o := by
  unfold allocV at ha
  cases hti : tab elem with
  | none => rw [hti] at ha; cases ha
  | some ti =>
    rw [hti] at ha; cases ha
    obtain ⟨z, hz1, hz2, hz3, hz4⟩ := run_zero (htab _ _ hti) w
    have hgl : GL g h w (ti.zero.map .d) z.cells.toList := zero_gl hz2
    have hlen : (ti.zero.map V.d).length = ti.size := by rw [← hgl.len, Array.length_toList, hz4]
    have := obj_new hr hq elem (ti.zero.map .d) z.cells ti.size 1 1 false hgl (one_d _) (by omega) (Nat.le_refl _) (fun _ => rfl)
    have hch : chunk ti.size 1 (ti.zero.map V.d) = [ti.zero.map .d] := by rw [← hlen]; exact row_one _
    rw [hch] at this
    refine ⟨.pointer (some ⟨w.heap.size, 0, none⟩), _, _, ?_, ?_, this.1, this.2, fun k hk => up_used (Nat.le_refl _) (Nat.lt_succ_self _) hk⟩
    · unfold Instr.alloc
      simp only [Sem.run_bind, hz1, Result.andThen_ok, newVar, newRow]
      rfl
    · have := GV.p (h := up h q (some (.row ti.size [ti.zero.map .d] false))) (w := w.alloc (.cells z.cells elem)) (g := { σ := up g.σ q (some (w.heap.size, ti.size)), τ := g.τ, F := up g.F w.heap.size 0, U := up g.U q true }) q 0 0 w.heap.size ti.size (up_same _ _ _) (up_same _ _ _)
      simpa [upds] using this
def boxV (n : Nat) (x : V) : Option Out :=
  if x.notTu = true then some ⟨.p n 0 0, [(n, some (.row x.cells.length [x.cells] false))], n + 1⟩ else none
theorem box_run (hr : Rel g h w) {q : Nat} (hq : g.U q = false) {elem : TypeId} {x : V} {v : Value} (hv : GV g h w x v) {o : Out} (ha : boxV q x = some o) : VS P (Instr.box elem v) g h w q o := by
  unfold boxV at ha
  split at ha
  · next hnt =>
    cases ha
    obtain ⟨hgl, hone⟩ := hv.cells hnt
    have := obj_new hr hq elem x.cells v.cells x.cells.length 1 1 false hgl hone (by omega) (Nat.le_refl _) (fun _ => rfl)
    rw [row_one] at this
    refine ⟨.pointer (some ⟨w.heap.size, 0, none⟩), _, _, rfl, ?_, this.1, this.2, fun k hk => up_used (Nat.le_refl _) (Nat.lt_succ_self _) hk⟩
    have := GV.p (h := up h q (some (.row x.cells.length [x.cells] false))) (w := w.alloc (.cells v.cells elem)) (g := { σ := up g.σ q (some (w.heap.size, x.cells.length)), τ := g.τ, F := up g.F w.heap.size 0, U := up g.U q true }) q 0 0 w.heap.size x.cells.length (up_same _ _ _) (up_same _ _ _)
    simpa [upds] using this
  · cases ha
def storeV (tab : Tab) (h : Heap) (n : Nat) (t : TypeId) (a x : V) : Option Out :=
  match a with
  | .p k i j => match h k with
    | some (.row sz rows vec) => (rows[i]?).bind fun r => (tab t).bind fun ti =>
      if x.notTu = true ∧ x.cells.length = ti.size ∧ j + ti.size ≤ r.length then some ⟨.tu [], [(k, some (.row sz (rows.set i (splice r j x.cells)) vec))], n⟩ else none
    | _ => none
  | _ => none
theorem store_run (htab : TabOk P tab) (hr : Rel g h w) {nn : Nat} {t : TypeId} {a x : V} {o : Out} (hs : storeV tab h nn t a x = some o) {va vx : Value} (ha : GV g h w a va) (hx : GV g h w x vx) :
    ∃ w', (Instr.storeAt t va vx).run P w = .ok () w' ∧ Rel g (upds h o.us) w' ∧ Ext g h w g (upds h o.us) w' ∧ o.n = nn ∧ o.x = .tu [] := by
  unfold storeV at hs
  split at hs
  · next k i j =>
    split at hs
    · next sz rows vec hk =>
      cases hri : rows[i]? with
      | none => rw [hri] at hs; cases hs
      | some r =>
        cases hti : tab t with
        | none => rw [hri, hti] at hs; cases hs
        | some ti =>
          rw [hri, hti] at hs
          simp only [Option.bind_some] at hs
          split at hs
          · next hc =>
            obtain ⟨hc1, hc2, hc3⟩ := hc
            cases hs
            obtain ⟨hgl, hone⟩ := hx.cells hc1
            obtain ⟨hkn, b, sz', hσ, rfl⟩ := ha.p_inv
            have hobj := hr.obj k _ hk
            have hsz := obj_σ hr hk hσ
            subst hsz
            cases hobj with
            | nilvec _ h1 => simp at hri
            | row _ _ _ b' c ct hk' hb hF hrl hcs hcv hone' hcell =>
              rw [hσ] at hk'; cases hk'
              have hi := (List.getElem?_eq_some_iff.1 hri).1
              have hlen := hrl r (List.mem_of_getElem? hri)
              have hmul : (i + 1) * sz' ≤ rows.length * sz' := Nat.mul_le_mul_right _ hi
              rw [Nat.add_mul] at hmul
              have hvl : vx.cells.toList.length = ti.size := by rw [hgl.len, hc2]
              have hcl : c.toList.length = c.size := Array.length_toList
              have hst := run_storeCells_at (P := P) b (i * sz' + j) ct vx.cells.toList 0 c w hb (by omega) (fun v hv => by
                obtain ⟨q, hq⟩ := List.getElem?_of_mem hv
                have hqlt := (List.getElem?_eq_some_iff.1 hq).1
                have hxq := List.getElem?_eq_getElem (l := x.cells) (i := q) (by rw [← hgl.len]; exact hqlt)
                exact (hgl.at_ q _ v hxq hq).one (hone _ (List.mem_of_getElem? hxq)))
              have hsp : c.toList.take (i * sz' + j + 0) ++ vx.cells.toList ++ c.toList.drop (i * sz' + j + 0 + vx.cells.toList.length) = splice c.toList (i * sz' + j) vx.cells.toList := by
                simp [splice]
              rw [hsp] at hst
              have hlen' : (splice c.toList (i * sz' + j) vx.cells.toList).length = c.size := by rw [splice_length (by omega), hcl]
              have hat : At w (w.setRow b (splice c.toList (i * sz' + j) vx.cells.toList).toArray) b := ⟨rfl, rfl, rfl, setRow_size _ _ _, fun y hy => setRow_other w b y _ hy⟩
              have hb' := setRow_heap w b c (splice c.toList (i * sz' + j) vx.cells.toList).toArray ct (0, 0) hb
              have he := ext_own (h' := up h k (some (.row sz' (rows.set i (splice r j x.cells)) vec))) hr hσ (by rw [hk]; simp) (fun n => by rw [hk]; simp) hb hF hat hb' (by simpa using hlen') (fun q hq => up_ne _ _ _ hq) (fun n => by rw [up_same]; simp)
              refine ⟨_, ?_, ?_, he, rfl, rfl⟩
              · unfold Instr.storeAt
                have hsure : (Instr.sureAddr (.pointer (some ⟨b, i * sz' + j, none⟩))).run P w = .ok ⟨b, i * sz' + j, none⟩ w := rfl
                simp only [Sem.run_bind, hsure, Result.andThen_ok]
                unfold storeVar
                have hcs' : ¬ vx.cells.size ≠ ti.size := by rw [Array.length_toList] at hvl; omega
                simp only [Sem.run_bind, run_size (htab _ _ hti), Result.andThen_ok, if_neg hcs']
                exact hst
              · refine rel_own hr hσ hk (fun n => by simp) (fun n => by simp) hat he ?_
                refine .row sz' _ vec b _ ct hσ hb' hF ?_ ?_ ?_ ?_ ?_
                · intro r' hr'
                  rcases List.mem_or_eq_of_mem_set hr' with h1 | h1
                  · exact hrl r' h1
                  · rw [h1, splice_length (by omega)]; exact hlen
                · rw [List.length_set]; simp only [List.size_toArray]; omega
                · intro e; rw [List.length_set]; simp only [List.size_toArray]; rw [hlen']; exact hcv e
                · intro r' hr' y hy
                  rcases List.mem_or_eq_of_mem_set hr' with h1 | h1
                  · exact hone' r' h1 y hy
                  · subst h1
                    rcases splice_mem hy with h2 | h2
                    · exact hone' r (List.mem_of_getElem? hri) y h2
                    · exact hone y h2
                · intro i' r' j' y u hi' hj' hu
                  rw [List.getElem?_toArray, splice_get (by omega)] at hu
                  rw [List.getElem?_set] at hi'
                  by_cases hii : i = i'
                  · subst hii
                    rw [if_pos rfl, if_pos hi] at hi'
                    simp only [Option.some.injEq] at hi'
                    subst hi'
                    have hjlt := (List.getElem?_eq_some_iff.1 hj').1
                    rw [splice_length (by omega)] at hjlt
                    rw [splice_get (by omega)] at hj'
                    by_cases hjj : j ≤ j' ∧ j' < j + x.cells.length
                    · rw [if_pos hjj] at hj'
                      rw [if_pos (by omega)] at hu
                      have : i * sz' + j' - (i * sz' + j) = j' - j := by omega
                      rw [this] at hu
                      exact (hgl.at_ _ y u hj' hu).ext he
                    · rw [if_neg hjj] at hj'
                      rw [if_neg (by omega), Array.getElem?_toList] at hu
                      exact (hcell i r j' y u hri hj' hu).ext he
                  · rw [if_neg hii] at hi'
                    have hjlt := (List.getElem?_eq_some_iff.1 hj').1
                    have hl' := hrl r' (List.mem_of_getElem? hi')
                    have hne : ¬ (i * sz' + j ≤ i' * sz' + j' ∧ i' * sz' + j' < i * sz' + j + vx.cells.toList.length) := by
                      rcases Nat.lt_or_ge i i' with h1 | h1
                      · have : (i + 1) * sz' ≤ i' * sz' := Nat.mul_le_mul_right _ h1
                        rw [Nat.add_mul] at this; omega
                      · have : (i' + 1) * sz' ≤ i * sz' := Nat.mul_le_mul_right _ (by omega)
                        rw [Nat.add_mul] at this; omega
                    rw [if_neg hne, Array.getElem?_toList] at hu
                    exact (hcell i' r' j' y u hi' hj' hu).ext he
          · cases hs
    · cases hs
  · cases hs
end
end Go.Abs
namespace Go.Abs
open Go.RowKit
variable [Val]

def toD : V → Option D
  | .d x => some x
  | .t _ _ sz rows => some (.l sz rows)
  | _ => none
def toDs : List V → Option (List D)
  | [] => some []
  | x :: xs => match toD x, toDs xs with
    | some d, some ds => some (d :: ds)
    | _, _ => none
def toDss : List (List V) → Option (List (List D))
  | [] => some []
  | x :: xs => match toDs x, toDss xs with
    | some d, some ds => some (d :: ds)
    | _, _ => none
theorem toDs_get : ∀ {xs : List V} {ds : List D}, toDs xs = some ds → ds.length = xs.length ∧ ∀ (i : Nat) d, ds[i]? = some d → ∃ x, xs[i]? = some x ∧ toD x = some d
  | [], ds, h => by cases h; exact ⟨rfl, fun i d h => by simp at h⟩
  | x :: xs, ds, h => by
    unfold toDs at h
    split at h
    · next d ds' h1 h2 =>
      cases h
      obtain ⟨a, b⟩ := toDs_get h2
      refine ⟨by simp [a], fun i d' hd => ?_⟩
      cases i with
      | zero => simp at hd; subst hd; exact ⟨x, rfl, h1⟩
      | succ i => exact b i d' (by simpa using hd)
    · cases h
theorem toDss_get : ∀ {xs : List (List V)} {ds : List (List D)}, toDss xs = some ds → ds.length = xs.length ∧ ∀ (i : Nat) d, ds[i]? = some d → ∃ x, xs[i]? = some x ∧ toDs x = some d
  | [], ds, h => by cases h; exact ⟨rfl, fun i d h => by simp at h⟩
  | x :: xs, ds, h => by
    unfold toDss at h
    split at h
    · next d ds' h1 h2 =>
      cases h
      obtain ⟨a, b⟩ := toDss_get h2
      refine ⟨by simp [a], fun i d' hd => ?_⟩
      cases i with
      | zero => simp at hd; subst hd; exact ⟨x, rfl, h1⟩
      | succ i => exact b i d' (by simpa using hd)
    · cases h
theorem toD_rd {g : Gh} {h : Heap} {w : World} {x : V} {d : D} (hd : toD x = some d) {v : Value} (hv : GV g h w x v) : RD g.F w d v := by
  unfold toD at hd
  split at hd
  · cases hd; exact hv.d_inv
  · cases hd; exact hv.t_inv.2.1
  · cases hd

def rowsD (h : Heap) (size : Nat) (x : V) : Option (List (List D)) :=
  match x with
  | .d .z => some []
  | .d (.l sz rows) => if sz = size then some rows else none
  | .t _ _ sz rows => if sz = size then some rows else none
  | .v k lo n => match h k with
    | some (.row sz rows _) => if sz = size ∧ lo + n ≤ rows.length then toDss ((rows.drop lo).take n) else none
    | _ => none
  | _ => none
def rowsV (h : Heap) (size : Nat) (x : V) : Option (List (List V)) :=
  match x with
  | .d .z => some []
  | .d (.l sz rows) => if sz = size then some (rows.map (·.map .d)) else none
  | .t _ _ sz rows => if sz = size then some (rows.map (·.map .d)) else none
  | .v k lo n => match h k with
    | some (.row sz rows _) => if sz = size ∧ lo + n ≤ rows.length then some ((rows.drop lo).take n) else none
    | _ => none
  | _ => none

structure SrcV (P : Program) (g : Gh) (h : Heap) (w : World) (size : Nat) (tx : TypeId) (v : Value) (rows : List (List V)) (news : List Value) : Prop where
  src : Src P size tx v rows.length news w
  len : ∀ r ∈ rows, r.length = size
  one : ∀ r ∈ rows, ∀ x ∈ r, x.one = true
  at_ : ∀ (i : Nat) r (j : Nat) x u, rows[i]? = some r → r[j]? = some x → news[i * size + j]? = some u → GV g h w x u

theorem divmod (q s : Nat) : q / s * s + q % s = q := by rw [Nat.mul_comm]; exact Nat.div_add_mod q s
section
variable {P : Program} {g : Gh} {h : Heap} {w : World} {tab : Tab}
theorem seg_cells {b off n : Nat} {c : Array Value} {t : TypeId} {fz : Nat × Nat} (hb : w.heap[b]? = some (.cells c t fz)) (hn : off + n ≤ c.size) :
    ((c.toList.drop off).take n).length = n ∧ (∀ (j : Nat) u, ((c.toList.drop off).take n)[j]? = some u → w.cell? ((⟨b, off, none⟩ : Addr).add j) = some u) ∧ (∀ (j : Nat) u, ((c.toList.drop off).take n)[j]? = some u → c[off + j]? = some u) := by
  refine ⟨by simp; omega, fun j u hj => ?_, fun j u hj => ?_⟩
  · rw [add_mid, cell_of_row w b _ c t fz hb]
    rw [List.getElem?_take] at hj
    split at hj
    · rw [List.getElem?_drop, Array.getElem?_toList] at hj; exact hj
    · cases hj
  · rw [List.getElem?_take] at hj
    split at hj
    · rw [List.getElem?_drop, Array.getElem?_toList] at hj; exact hj
    · cases hj
theorem srcV_list {size : Nat} {tx e' : TypeId} (hk : P.underlying tx = some (.slice e')) {rows : List (List D)} {v : Value} (hx : RD g.F w (.l size rows) v) : ∃ news, SrcV P g h w size tx v (rows.map (·.map .d)) news := by
  rcases hx.l_inv with ⟨rfl, rfl⟩ | ⟨b, off, cap, c, t', fz, rfl, hb, hf, hs, hcap, hn, hr, hcell⟩
  · exact ⟨[], Src.ofNil w hk 0, by simp, by simp, fun i r j x u hi => by simp at hi⟩
  · obtain ⟨s1, s2, s3⟩ := seg_cells (w := w) hb (n := rows.length * size) (off := off) (by omega)
    have hget : ∀ (i : Nat) r (j : Nat) d u, rows[i]? = some r → r[j]? = some d → ((c.toList.drop off).take (rows.length * size))[i * size + j]? = some u → RD g.F w d u := fun i r j d u hi hj hu => by
      have := s3 _ u hu
      rw [← Nat.add_assoc] at this
      exact hcell i r j d u hi hj this
    refine ⟨(c.toList.drop off).take (rows.length * size), ?_, ?_, ?_, ?_⟩
    · rw [List.length_map]
      refine Src.ofSlice w hk _ _ _ _ s1 s2 fun u hu => ?_
      obtain ⟨q, hq⟩ := List.getElem?_of_mem hu
      have hqlt := (List.getElem?_eq_some_iff.1 hq).1
      rw [s1] at hqlt
      have hpos : 0 < size := by
        rcases Nat.eq_zero_or_pos size with h0 | h0
        · rw [h0, Nat.mul_zero] at hqlt; omega
        · exact h0
      have hdiv : q / size < rows.length := (Nat.div_lt_iff_lt_mul hpos).2 hqlt
      have hrow := List.getElem?_eq_getElem hdiv
      have hlen := hr _ (List.mem_of_getElem? hrow)
      have hmod : q % size < (rows[q / size]).length := by rw [hlen]; exact Nat.mod_lt _ hpos
      refine (hget (q / size) _ (q % size) _ u hrow (List.getElem?_eq_getElem hmod) ?_).one
      rw [divmod]; exact hq
    · intro r hr'
      obtain ⟨r0, h0, rfl⟩ := List.mem_map.1 hr'
      rw [List.length_map]; exact hr r0 h0
    · intro r hr' x hx
      obtain ⟨r0, h0, rfl⟩ := List.mem_map.1 hr'
      obtain ⟨d, _, rfl⟩ := List.mem_map.1 hx
      rfl
    · intro i r j x u hi hj hu
      rw [List.getElem?_map] at hi
      cases h1 : rows[i]? with
      | none => rw [h1] at hi; cases hi
      | some r0 =>
        rw [h1] at hi
        simp only [Option.map_some, Option.some.injEq] at hi
        subst hi
        rw [List.getElem?_map] at hj
        cases h2 : r0[j]? with
        | none => rw [h2] at hj; cases hj
        | some d =>
          rw [h2] at hj
          simp only [Option.map_some, Option.some.injEq] at hj
          subst hj
          exact .d _ _ (hget i r0 j d u h1 h2 hu)
theorem srcV_of (hrel : Rel g h w) {size : Nat} {tx e' : TypeId} (hk : P.underlying tx = some (.slice e')) {x : V} {rows : List (List V)} (hx : rowsV h size x = some rows) {v : Value} (hv : GV g h w x v) : ∃ news, SrcV P g h w size tx v rows news := by
  unfold rowsV at hx
  split at hx
  · cases hx
    cases hv.d_inv
    exact ⟨[], Src.ofNil w hk 0, by simp, by simp, fun i r j x u hi => by simp at hi⟩
  · split at hx
    · next e => subst e; cases hx; exact srcV_list hk hv.d_inv
    · cases hx
  · split at hx
    · next e => subst e; cases hx; exact srcV_list hk hv.t_inv.2.1
    · cases hx
  · next k lo n =>
    split at hx
    · next sz rows0 vec hkk =>
      split at hx
      · next hc =>
        obtain ⟨rfl, hlo⟩ := hc
        cases hx
        have hempty : n = 0 → ∃ news, SrcV P g h w sz tx v ((rows0.drop lo).take n) news := by
          rintro rfl
          refine ⟨[], ?_, by simp, by simp, fun i r j x u hi => by simp at hi⟩
          rcases hv.v_inv.2 with ⟨_, _, _, rfl⟩ | ⟨_, a, rfl⟩ | ⟨b, sz', cap, c, t', fz, hs, rfl, hb, hcap, hn⟩
          · exact Src.ofNil w hk 0
          · exact Src.ofSlice w hk _ _ _ _ (by simp) (fun j u hj => by simp at hj) (by simp)
          · exact Src.ofSlice w hk _ _ _ _ (by simp) (fun j u hj => by simp at hj) (by simp)
        rcases hv.v_inv.2 with ⟨_, h0, _, _⟩ | ⟨h0, _⟩ | ⟨b, sz', cap, c, t', fz, hs, rfl, hb, hcap, hn⟩
        · exact hempty h0
        · exact hempty h0
        · have hsz := obj_σ hrel hkk hs
          subst hsz
          have hobj := hrel.obj k _ hkk
          cases hobj with
          | nilvec _ h1 => rw [hs] at h1; cases h1
          | row _ _ _ b2 c2 t2 hk2 hb2 hF hrl hcs hcv ho2 hcell =>
            rw [hs] at hk2; cases hk2
            rw [hb] at hb2; cases hb2
            have hl : ((rows0.drop lo).take n).length = n := by simp; omega
            have hmul : (lo + n) * sz' ≤ rows0.length * sz' := Nat.mul_le_mul_right _ hlo
            rw [Nat.add_mul] at hmul
            obtain ⟨s1, s2, s3⟩ := seg_cells (w := w) hb (n := n * sz') (off := lo * sz') (by omega)
            have hrow : ∀ (i : Nat) r, ((rows0.drop lo).take n)[i]? = some r → rows0[lo + i]? = some r := fun i r hi => by
              rw [List.getElem?_take] at hi
              split at hi
              · rw [List.getElem?_drop] at hi; exact hi
              · cases hi
            have hget : ∀ (i : Nat) r (j : Nat) d u, ((rows0.drop lo).take n)[i]? = some r → r[j]? = some d → ((c.toList.drop (lo * sz')).take (n * sz'))[i * sz' + j]? = some u → GV g h w d u := fun i r j d u hi hj hu => by
              have h3 := s3 _ u hu
              rw [← Nat.add_assoc, ← Nat.add_mul] at h3
              exact hcell (lo + i) r j d u (hrow i r hi) hj h3
            refine ⟨(c.toList.drop (lo * sz')).take (n * sz'), ?_, ?_, ?_, hget⟩
            · rw [hl]
              refine Src.ofSlice w hk _ _ _ _ s1 s2 fun u hu => ?_
              obtain ⟨q, hq⟩ := List.getElem?_of_mem hu
              have hqlt := (List.getElem?_eq_some_iff.1 hq).1
              rw [s1] at hqlt
              have hpos : 0 < sz' := by
                rcases Nat.eq_zero_or_pos sz' with h0 | h0
                · rw [h0, Nat.mul_zero] at hqlt; omega
                · exact h0
              have hdiv : q / sz' < ((rows0.drop lo).take n).length := by rw [hl]; exact (Nat.div_lt_iff_lt_mul hpos).2 hqlt
              have hrw := List.getElem?_eq_getElem hdiv
              have hmem := List.mem_of_getElem? (hrow _ _ hrw)
              have hmod : q % sz' < (((rows0.drop lo).take n)[q / sz']).length := by rw [hrl _ hmem]; exact Nat.mod_lt _ hpos
              have hy := List.getElem?_eq_getElem hmod
              refine (hget (q / sz') _ (q % sz') _ u hrw hy ?_).one (ho2 _ hmem _ (List.mem_of_getElem? hy))
              rw [divmod]; exact hq
            · exact fun r hr' => hrl r (List.mem_of_mem_drop (List.mem_of_mem_take hr'))
            · exact fun r hr' => ho2 r (List.mem_of_mem_drop (List.mem_of_mem_take hr'))
      · cases hx
    · cases hx
  · cases hx
structure SrcD (P : Program) (g : Gh) (w : World) (size : Nat) (tx : TypeId) (v : Value) (rows : List (List D)) (news : List Value) : Prop where
  src : Src P size tx v rows.length news w
  len : ∀ r ∈ rows, r.length = size
  at_ : ∀ (i : Nat) r (j : Nat) x u, rows[i]? = some r → r[j]? = some x → news[i * size + j]? = some u → RD g.F w x u
theorem SrcV.toD {size : Nat} {tx : TypeId} {v : Value} {rows : List (List V)} {news : List Value} (s : SrcV P g h w size tx v rows news) {ds : List (List D)} (hd : toDss rows = some ds) : SrcD P g w size tx v ds news := by
  obtain ⟨h1, h2⟩ := toDss_get hd
  refine ⟨by rw [h1]; exact s.src, fun r hr => ?_, fun i r j d u hi hj hu => ?_⟩
  · obtain ⟨i, hi⟩ := List.getElem?_of_mem hr
    obtain ⟨x, hx1, hx2⟩ := h2 i r hi
    rw [(toDs_get hx2).1]
    exact s.len x (List.mem_of_getElem? hx1)
  · obtain ⟨x, hx1, hx2⟩ := h2 i r hi
    obtain ⟨y, hy1, hy2⟩ := (toDs_get hx2).2 j d hj
    exact toD_rd hy2 (s.at_ i x j y u hx1 hy1 hu)
theorem SrcV.ofMap {size : Nat} {tx : TypeId} {v : Value} {rows : List (List D)} {news : List Value} (s : SrcV P g h w size tx v (rows.map (·.map .d)) news) : SrcD P g w size tx v rows news := by
  refine ⟨by have := s.src; rwa [List.length_map] at this, fun r hr => ?_, fun i r j d u hi hj hu => ?_⟩
  · have := s.len (r.map .d) (List.mem_map.2 ⟨r, hr, rfl⟩)
    rwa [List.length_map] at this
  · exact (s.at_ i (r.map .d) j (.d d) u (by rw [List.getElem?_map, hi]; rfl) (by rw [List.getElem?_map, hj]; rfl) hu).d_inv
theorem srcD_of (hrel : Rel g h w) {size : Nat} {tx e' : TypeId} (hk : P.underlying tx = some (.slice e')) {x : V} {rows : List (List D)} (hx : rowsD h size x = some rows) {v : Value} (hv : GV g h w x v) : ∃ news, SrcD P g w size tx v rows news := by
  unfold rowsD at hx
  split at hx
  · cases hx
    obtain ⟨news, hs⟩ := srcV_of hrel hk (x := .d .z) (rows := []) rfl hv
    exact ⟨news, hs.toD rfl⟩
  · split at hx
    · next e =>
      subst e; cases hx
      obtain ⟨news, hs⟩ := srcV_list (h := h) hk hv.d_inv
      exact ⟨news, hs.ofMap⟩
    · cases hx
  · split at hx
    · next e =>
      subst e; cases hx
      obtain ⟨news, hs⟩ := srcV_list (h := h) hk hv.t_inv.2.1
      exact ⟨news, hs.ofMap⟩
    · cases hx
  · next k lo n =>
    split at hx
    · next sz rows0 vec hkk =>
      split at hx
      · next hc =>
        obtain ⟨news, hs⟩ := srcV_of hrel hk (x := .v k lo n) (rows := (rows0.drop lo).take n) (size := size) (by simp only [rowsV, hkk]; rw [if_pos hc]) hv
        exact ⟨news, hs.toD hx⟩
      · cases hx
    · cases hx
  · cases hx
end
end Go.Abs
namespace Go.Abs
open Go.RowKit
variable [Val]

section
variable {P : Program} {g : Gh} {h : Heap} {w : World} {tab : Tab}

theorem append_zero {t tx ty e : TypeId} {i : TypeInfo} (ht : P.underlying t = some (.slice e)) (hi : P.info? e = some i) {base : Option Addr} {sLen sCap : Nat} {x : Value} {news : List Value}
    (hs : Src P i.size tx x 0 news w) (hn : sLen ≤ sCap) : (Builtin.append_ #[t, tx] ty #[.slice base sLen sCap, x]).run P w = .ok (.slice base sLen sCap) w := by
  have hnil : news = [] := List.eq_nil_of_length_eq_zero (by rw [hs.newsLen, Nat.zero_mul])
  subst hnil
  have hc := hs.cells
  rcases hs.kind with ⟨e', hk⟩ | hk <;> cases base <;> simp [Builtin.append_, run_underlying ht, run_underlying hk, sizeOf, typeInfo, hi, hs.len, hn, hc, storeCells, pure]
theorem append_room {t tx ty e : TypeId} {i : TypeInfo} (ht : P.underlying t = some (.slice e)) (hi : P.info? e = some i) {b off sLen sCap n : Nat} {x : Value} {news : List Value} {cur : Array Value} {te : TypeId}
    (hs : Src P i.size tx x n news w) (hroom : sLen + n ≤ sCap) (hb : w.heap[b]? = some (.cells cur te (0, 0))) (hfit : off + sLen * i.size + news.length ≤ cur.size) :
    (Builtin.append_ #[t, tx] ty #[.slice (some ⟨b, off, none⟩) sLen sCap, x]).run P w = .ok (.slice (some ⟨b, off, none⟩) (sLen + n) sCap) (w.setRow b (splice cur.toList (off + sLen * i.size) news).toArray) := by
  have hst := run_storeCells_at P b (off + sLen * i.size) te news 0 cur w hb (by simpa using hfit) hs.one
  simp only [Nat.add_zero, List.append_assoc] at hst
  have hsp : splice cur.toList (off + sLen * i.size) news = cur.toList.take (off + sLen * i.size) ++ (news ++ cur.toList.drop (off + sLen * i.size + news.length)) := rfl
  rw [hsp]
  rcases hs.kind with ⟨e', hk⟩ | hk <;> simp [Builtin.append_, run_underlying ht, run_underlying hk, sizeOf, typeInfo, hi, hs.len, hroom, hs.cells, Addr.add_lit, hst]

theorem tok_new (hr : Rel g h w) (e : TypeId) (arr : Array Value) (sz cap k n' : Nat) (rows : List (List D)) (hk : g.U k = false ∨ ∃ n, h k = some (.tok n) ∧ n < n')
    (h1 : cap * sz ≤ arr.size) (h2 : rows.length ≤ cap) (h3 : ∀ r ∈ rows, r.length = sz)
    (h4 : ∀ (i : Nat) r (j : Nat) d v, rows[i]? = some r → r[j]? = some d → arr[i * sz + j]? = some v → RD g.F w d v) :
    Rel { σ := g.σ, τ := up g.τ k (some w.heap.size), F := up g.F w.heap.size (rows.length * sz), U := up g.U k true } (up h k (some (.tok n'))) (w.alloc (.cells arr e)) ∧
    Ext g h w { σ := g.σ, τ := up g.τ k (some w.heap.size), F := up g.F w.heap.size (rows.length * sz), U := up g.U k true } (up h k (some (.tok n'))) (w.alloc (.cells arr e)) ∧
    GV { σ := g.σ, τ := up g.τ k (some w.heap.size), F := up g.F w.heap.size (rows.length * sz), U := up g.U k true } (up h k (some (.tok n'))) (w.alloc (.cells arr e)) (.t k n' sz rows) (.slice (some ⟨w.heap.size, 0, none⟩) rows.length cap) := by
  obtain ⟨a1, a2⟩ := rel_tok hr (.cells arr e) (rows.length * sz) k n' hk
  have hmul : rows.length * sz ≤ cap * sz := Nat.mul_le_mul_right _ h2
  have hnew := heap_alloc_new w (.cells arr e)
  refine ⟨a1, a2, .t k n' sz rows _ (up_same _ _ _) ?_ fun n hn => ?_⟩
  · refine .l sz rows w.heap.size 0 cap arr e (0, 0) hnew ?_ ?_ (by omega) h2 h3 fun i r j d v hi hj hv => ?_
    · show 0 + rows.length * sz ≤ up g.F w.heap.size (rows.length * sz) w.heap.size
      rw [up_same]; omega
    · show up g.F w.heap.size (rows.length * sz) w.heap.size ≤ _
      rw [up_same]; omega
    · rw [Nat.zero_add] at hv
      exact (h4 i r j d v hi hj hv).stay a2.stays
  · rw [up_same] at hn
    simp only [Option.some.injEq, AObj.tok.injEq] at hn
    subst hn
    refine ⟨Nat.le_refl _, fun _ => .here _ _ _ _ (up_same _ _ _) ?_ ⟨arr, e, hnew⟩⟩
    show up g.F w.heap.size (rows.length * sz) w.heap.size = _
    rw [up_same, Nat.zero_add]
theorem tok_ghost (hr : Rel g h w) {q : Nat} (hq : g.U q = false) (n' : Nat) : Rel { g with U := up g.U q true } (up h q (some (.tok n'))) w ∧ Ext g h w { g with U := up g.U q true } (up h q (some (.tok n'))) w := by
  have he : Ext g h w { g with U := up g.U q true } (up h q (some (.tok n'))) w := {
    n := fun k hk => up_mono hk, size := Nat.le_refl _, os := rfl, tape := rfl, output := rfl, stays := Stays.refl _ _, out := fun _ _ _ => ⟨rfl, rfl⟩, own := fun _ h => .inl h, sig := fun _ _ => rfl
    tok := fun k hk n hn => by rw [up_ne _ _ _ (fresh_ne hq hk)] at hn; exact ⟨n, hn, .inr ⟨rfl, rfl, fun _ _ => ⟨rfl, id⟩⟩⟩ }
  refine ⟨hr.step he (fun k => g.U k = false) hr.lt hr.fresh ?_ ?_ ?_ ?_, he⟩
  · intro k hk
    have hk' : up g.U q true k = false := hk
    have hkq : k ≠ q := fun e => by rw [e, up_same] at hk'; cases hk'
    rw [up_ne _ _ _ hkq] at hk'
    exact ⟨by rw [up_ne _ _ _ hkq]; exact (hr.top k hk').1, (hr.top k hk').2⟩
  · have key : ∀ k b, blk { g with U := up g.U q true } (up h q (some (.tok n'))) k = some b → blk g h k = some b := by
      intro k b hb
      by_cases e : k = q
      · subst e
        unfold blk at hb
        rw [up_same] at hb
        have := (hr.top k hq).2.2
        simp only [this] at hb
        cases hb
      · unfold blk at hb ⊢; rwa [up_ne _ _ _ e] at hb
    intro k k' b a c
    exact hr.inj k k' b (key k b a) (key k' b c)
  · intro k hk
    have hk' : g.U k = true := by simpa using hk
    exact ⟨hk', up_ne _ _ _ (fresh_ne hq hk'), fun _ _ _ _ _ => ⟨rfl, rfl⟩⟩
  · intro k o hk ho
    by_cases e : k = q
    · subst e; rw [up_same] at ho; cases ho; exact .tok _
    · rw [up_ne _ _ _ e, (hr.top k hk).1] at ho; cases ho

def fits (n bytes : Nat) : Prop := n * (bytes + 1) ≤ 140737488355328
instance (n bytes : Nat) : Decidable (fits n bytes) := inferInstanceAs (Decidable (_ ≤ _))
theorem fits_le {n bytes : Nat} (hf : fits n bytes) : n * bytes ≤ 140737488355328 ∧ n ≤ 140737488355328 := by
  unfold fits at hf
  rw [Nat.mul_add, Nat.mul_one] at hf
  omega
theorem und_sl' (htab : TabOk P tab) {t e : TypeId} {a b : Nat} {c : List D} (ht : tab t = some ⟨.sl e, a, b, c⟩) : P.underlying t = some (.slice e) := by
  obtain ⟨d, hd, hk, hp⟩ := run_und (htab _ _ ht) default
  cases d <;> simp [descK] at hk
  subst hk; exact hp
theorem cat_get {α : Type} {sz : Nat} {rows rs : List (List α)} {olds news rest : List Value} (h1 : olds.length = rows.length * sz) (h2 : news.length = rs.length * sz) (hr : ∀ r ∈ rows, r.length = sz) (hs : ∀ r ∈ rs, r.length = sz)
    {i j : Nat} {r : List α} {d : α} {v : Value} (hi : (rows ++ rs)[i]? = some r) (hj : r[j]? = some d) (hv : (olds ++ news ++ rest)[i * sz + j]? = some v) :
    (rows[i]? = some r ∧ olds[i * sz + j]? = some v) ∨ ∃ i', rs[i']? = some r ∧ news[i' * sz + j]? = some v := by
  have hjl := (List.getElem?_eq_some_iff.1 hj).1
  by_cases hlt : i < rows.length
  · left
    rw [List.getElem?_append_left hlt] at hi
    have hlen := hr r (List.mem_of_getElem? hi)
    have hmul : (i + 1) * sz ≤ rows.length * sz := Nat.mul_le_mul_right _ hlt
    rw [Nat.add_mul] at hmul
    rw [List.append_assoc, List.getElem?_append_left (by omega)] at hv
    exact ⟨hi, hv⟩
  · right
    rw [List.getElem?_append_right (by omega)] at hi
    have hlen := hs r (List.mem_of_getElem? hi)
    have hil := (List.getElem?_eq_some_iff.1 hi).1
    have hmul : (i - rows.length + 1) * sz ≤ rs.length * sz := Nat.mul_le_mul_right _ hil
    have hmul2 : rows.length * sz ≤ i * sz := Nat.mul_le_mul_right _ (by omega)
    rw [Nat.add_mul, Nat.sub_mul] at hmul
    refine ⟨i - rows.length, hi, ?_⟩
    rw [List.append_assoc, List.getElem?_append_right (by omega), List.getElem?_append_left (by omega), h1] at hv
    rw [Nat.sub_mul]
    have : i * sz + j - rows.length * sz = i * sz - rows.length * sz + j := by omega
    rw [← this]; exact hv
theorem append_tok_run (htab : TabOk P tab) (hr : Rel g h w) {t tx e e' : TypeId} {te : TI} (ht : P.underlying t = some (.slice e)) (hte : tab e = some te)
    {rs : List (List D)} {vx : Value} {news : List Value} (hs : SrcD P g w te.size tx vx rs news) {rows : List (List D)} {k en : Nat} {va : Value} (ty : TypeId)
    (hva : RD g.F w (.l te.size rows) va) (happ : App g w k te.size va) (hk : (g.U k = false ∧ va = .slice none 0 0) ∨ h k = some (.tok en)) (hf : fits (rows.length + rs.length) te.bytes) (n' : Nat) (hn' : n' = en + rs.length ∨ g.U k = false) :
    ∃ v w' g', (Builtin.append_ #[t, tx] ty #[va, vx]).run P w = .ok v w' ∧ GV g' (up h k (some (.tok n'))) w' (.t k n' te.size (rows ++ rs)) v ∧ Rel g' (up h k (some (.tok n'))) w' ∧ Ext g h w g' (up h k (some (.tok n'))) w' ∧ ∀ q, g'.U q = true → g.U q = true ∨ q = k := by
  have hupd : ∀ q, up g.U k true q = true → g.U q = true ∨ q = k := fun q hq => by
    rw [up_eq] at hq
    split at hq
    · exact .inr ‹_›
    · exact .inl hq
  obtain ⟨i, d, z, hi, hd, hz, hkk, hsz, hby, hm, hzl, hag⟩ := mkTI_inv (htab _ _ hte)
  have hsrc := hs.src
  rw [← hsz] at hsrc
  obtain ⟨f1, f2⟩ := fits_le hf
  have hzs : z.cells.size = te.size := by
    have := (mapD_get hm).1
    rw [Array.length_toList] at this; omega
  rcases Nat.eq_zero_or_pos rs.length with h0 | hpos
  · have hrs : rs = [] := List.eq_nil_of_length_eq_zero h0
    subst hrs
    have hrun : (Builtin.append_ #[t, tx] ty #[va, vx]).run P w = .ok va w := by
      rcases hva.l_inv with ⟨rfl, rfl⟩ | ⟨b, off, cap, c, t', fz, rfl, hb, hF, hs2, hcap, hn, hrl, hcell⟩
      · exact append_zero ht hi hsrc (Nat.le_refl _)
      · exact append_zero ht hi hsrc hn
    rw [List.append_nil]
    rcases hk with ⟨hku, rfl⟩ | hkt
    · obtain ⟨a1, a2⟩ := tok_ghost hr hku n'
      refine ⟨_, w, _, hrun, .t _ _ _ _ _ (up_same _ _ _) (hva.stay a2.stays) fun n hn => ?_, a1, a2, hupd⟩
      rw [up_same] at hn; cases hn
      exact ⟨Nat.le_refl _, fun _ => .nil _ _⟩
    · have hne : n' = en := by
        rcases hn' with h1 | h1
        · simpa using h1
        · rw [hr.used hkt] at h1; cases h1
      subst hne
      have hsame : up h k (some (.tok n')) = h := by
        funext q
        by_cases e : q = k
        · subst e; rw [up_same, hkt]
        · rw [up_ne _ _ _ e]
      rw [hsame]
      refine ⟨_, w, g, hrun, .t _ _ _ _ _ (hr.used hkt) hva fun n hn => ?_, hr, Ext.refl _ _ _, fun q hq => .inl hq⟩
      rw [hkt] at hn; cases hn
      exact ⟨Nat.le_refl _, fun _ => happ⟩
  · have grow : ∀ (olds : List Value) (base : Option Addr) (sCap : Nat), va = .slice base rows.length sCap → sCap < rows.length + rs.length → olds.length = rows.length * te.size →
        (Builtin.firstCells i.size rows.length (.slice base rows.length sCap)).run P w.drew = .ok olds.toArray w.drew → (∀ r ∈ rows, r.length = te.size) →
        (∀ (q : Nat) r (j : Nat) d v, rows[q]? = some r → r[j]? = some d → olds[q * te.size + j]? = some v → RD g.F w d v) →
        (g.U k = false ∨ ∃ n, h k = some (.tok n) ∧ n < n') →
        ∃ v w' g', (Builtin.append_ #[t, tx] ty #[va, vx]).run P w = .ok v w' ∧ GV g' (up h k (some (.tok n'))) w' (.t k n' te.size (rows ++ rs)) v ∧ Rel g' (up h k (some (.tok n'))) w' ∧ Ext g h w g' (up h k (some (.tok n'))) w' ∧ ∀ q, g'.U q = true → g.U q = true ∨ q = k := by
      intro olds base sCap hva' hcap hol hold hrl hread hkn
      subst hva'
      have hrun := run_append_grow_src (P := P) w t tx ty e i z ht hi hz base rows.length sCap olds hold vx rs.length news hsrc hcap (by omega) (growslice_fits (by omega) (by rw [hby]; exact f1))
      have hrd : Rel g h w.drew := rel_same hr rfl rfl rfl rfl
      have hnl := hs.src.newsLen
      have hge := grownCap_ge w (rows.length + rs.length) sCap e
      have hasz : ((olds ++ news).toArray ++ Builtin.zeroCells z.cells (grownCap w (rows.length + rs.length) sCap e - (rows.length + rs.length))).size = grownCap w (rows.length + rs.length) sCap e * te.size := by
        rw [Array.size_append, size_zeroCells, hzs, Nat.sub_mul, Nat.add_mul]
        simp only [List.size_toArray, List.length_append, hol, hnl]
        have : (rows.length + rs.length) * te.size ≤ grownCap w (rows.length + rs.length) sCap e * te.size := Nat.mul_le_mul_right _ hge
        rw [Nat.add_mul] at this
        omega
      obtain ⟨a1, a2, a3⟩ := tok_new hrd e ((olds ++ news).toArray ++ Builtin.zeroCells z.cells (grownCap w (rows.length + rs.length) sCap e - (rows.length + rs.length))) te.size (grownCap w (rows.length + rs.length) sCap e) k n' (rows ++ rs) hkn
        (by rw [hasz]; exact Nat.le_refl _) (by rw [List.length_append]; exact hge) (fun r hr' => by
          rcases List.mem_append.1 hr' with h1 | h1
          · exact hrl r h1
          · exact hs.len r h1) (fun q r j d v hq hj hv => by
          rw [← Array.getElem?_toList, Array.toList_append] at hv
          have hst : Stays g.F w g.F w.drew := (ext_same (g := g) (h := h) (w := w) (w' := w.drew) rfl rfl rfl rfl).stays
          rcases cat_get hol hnl hrl hs.len hq hj hv with ⟨c1, c2⟩ | ⟨q', c1, c2⟩
          · exact (hread q r j d v c1 hj c2).stay hst
          · exact (hs.at_ q' r j d v c1 hj c2).stay hst)
      simp only [List.length_append] at a1 a2 a3
      exact ⟨_, _, _, hrun, a3, a1, (ext_same (g := g) (h := h) (w := w) (w' := w.drew) rfl rfl rfl rfl).trans a2, hupd⟩
    have hkn : g.U k = false ∨ ∃ n, h k = some (.tok n) ∧ n < n' := by
      rcases hk with ⟨h1, _⟩ | h2
      · exact .inl h1
      · rcases hn' with h3 | h3
        · exact .inr ⟨en, h2, by omega⟩
        · exact .inl h3
    rcases hva.l_inv with ⟨rfl, rfl⟩ | ⟨b, off, cap, c, t', fz, rfl, hb, hF, hs2, hcap, hn, hrl, hcell⟩
    · exact grow [] none 0 rfl (by simp; omega) (by simp) (run_firstCells_none w.drew _ _ _ _) (by simp) (fun q r j d v hq => by simp at hq) hkn
    · by_cases hroom : rows.length + rs.length ≤ cap
      · cases happ with
        | full a n => omega
        | here b off n cc g1 g2 g3 =>
          rcases hk with ⟨_, h1⟩ | hkt
          · cases h1
          · obtain ⟨c0, t0, hc0⟩ := g3
            rw [hb] at hc0; cases hc0
            have hmul : (rows.length + rs.length) * te.size ≤ cap * te.size := Nat.mul_le_mul_right _ hroom
            have hnl := hs.src.newsLen
            rw [Nat.add_mul] at hmul
            have hfit : off + rows.length * i.size + news.length ≤ c.size := by rw [hsz]; omega
            have hrun := append_room (ty := ty) ht hi hsrc hroom hb hfit
            have hlen' : (splice c.toList (off + rows.length * i.size) news).length = c.size := by rw [splice_length (by rw [Array.length_toList]; exact hfit), Array.length_toList]
            have hat : At w (w.setRow b (splice c.toList (off + rows.length * i.size) news).toArray) b := ⟨rfl, rfl, rfl, setRow_size _ _ _, fun y hy => setRow_other w b y _ hy⟩
            have hb' := setRow_heap w b c (splice c.toList (off + rows.length * i.size) news).toArray t' (0, 0) hb
            have hcc : ∀ q, (splice c.toList (off + rows.length * i.size) news).toArray[q]? = if off + rows.length * i.size ≤ q ∧ q < off + rows.length * i.size + news.length then news[q - (off + rows.length * i.size)]? else c[q]? := fun q => by
              rw [List.getElem?_toArray, splice_get (by rw [Array.length_toList]; exact hfit)]
              split
              · rfl
              · exact Array.getElem?_toList ..
            have hnn : n' = en + rs.length := by
              rcases hn' with h3 | h3
              · exact h3
              · rw [hr.used hkt] at h3; cases h3
            obtain ⟨a1, a2⟩ := rel_here (n' := n') (m := off + (rows.length + rs.length) * te.size) hr hkt g1 (by omega) hb hat hb' (by simpa using hlen') (by rw [Nat.add_mul]; omega) (by rw [Nat.add_mul]; omega)
              (fun q hq => by rw [hcc, if_neg (by rw [hsz]; omega)])
            refine ⟨_, _, _, hrun, ?_, a1, a2, fun q hq => .inl hq⟩
            refine .t _ _ _ _ _ (hr.used hkt) ?_ fun n hn2 => ?_
            · have := RD.l (F := up g.F b (off + (rows.length + rs.length) * te.size)) (w := w.setRow b (splice c.toList (off + rows.length * i.size) news).toArray) te.size (rows ++ rs) b off cap _ t' (0, 0) hb' (by rw [up_same, List.length_append]; exact Nat.le_refl _)
                (by rw [up_same]; simp only [List.size_toArray]; rw [hlen', Nat.add_mul]; omega) (by simp only [List.size_toArray]; rw [hlen']; exact hcap) (by rw [List.length_append]; exact hroom) (fun r hr' => by
                  rcases List.mem_append.1 hr' with h1 | h1
                  · exact hrl r h1
                  · exact hs.len r h1) (fun q r j d v hq hj hv => by
                  rw [hcc] at hv
                  have hst := a2.stays
                  have hjl := (List.getElem?_eq_some_iff.1 hj).1
                  by_cases hlt : q < rows.length
                  · rw [List.getElem?_append_left hlt] at hq
                    have hlen := hrl r (List.mem_of_getElem? hq)
                    have hm1 : (q + 1) * te.size ≤ rows.length * te.size := Nat.mul_le_mul_right _ hlt
                    rw [Nat.add_mul] at hm1
                    rw [if_neg (by rw [hsz]; omega)] at hv
                    exact (hcell q r j d v hq hj hv).stay hst
                  · rw [List.getElem?_append_right (by omega)] at hq
                    have hlen := hs.len r (List.mem_of_getElem? hq)
                    have hql := (List.getElem?_eq_some_iff.1 hq).1
                    have hm1 : (q - rows.length + 1) * te.size ≤ rs.length * te.size := Nat.mul_le_mul_right _ hql
                    have hm2 : rows.length * te.size ≤ q * te.size := Nat.mul_le_mul_right _ (by omega)
                    rw [Nat.add_mul, Nat.sub_mul] at hm1
                    rw [if_pos (by rw [hsz]; omega)] at hv
                    refine (hs.at_ (q - rows.length) r j d v hq hj ?_).stay hst
                    rw [Nat.sub_mul]
                    have : off + q * te.size + j - (off + rows.length * i.size) = q * te.size - rows.length * te.size + j := by rw [hsz]; omega
                    rw [← this]; exact hv)
              rw [List.length_append] at this
              exact this
            · rw [up_same] at hn2; cases hn2
              refine ⟨Nat.le_refl _, fun _ => .here _ _ _ _ g1 ?_ ⟨_, t', hb'⟩⟩
              show up g.F b _ b = _
              rw [up_same]
      · obtain ⟨s1, s2, s3⟩ := seg_cells (w := w) hb (n := rows.length * te.size) (off := off) (by omega)
        refine grow ((c.toList.drop off).take (rows.length * te.size)) _ cap rfl (by omega) s1 ?_ hrl (fun q r j d v hq hj hv => ?_) hkn
        · rw [hsz]
          exact run_firstCells_some w.drew te.size rows.length ⟨b, off, none⟩ rows.length cap _ s1 (by simpa using s2)
        · have := s3 _ v hv
          rw [← Nat.add_assoc] at this
          exact hcell q r j d v hq hj this
end
end Go.Abs
